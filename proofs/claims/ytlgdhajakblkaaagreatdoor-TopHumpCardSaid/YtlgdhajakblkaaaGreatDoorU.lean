
/- What the run by values gives, the model gives: regions. No condition. -/
import Derived.Test.YtlgdhajakblkaaaGreatDoorZ
set_option linter.unusedVariables false
set_option linter.unusedSimpArgs false
namespace Go.E
open Go Go.V
structure RA (n : Nat) (a : Act) (fr : Fr) : Prop where
  size : a.tmps.size = n
  at_ : ∀ i, a.tmps.getD i undef = fr i
theorem RA.eval {n : Nat} {a : Act} {fr : Fr} (h : RA n a fr) : a.eval = ev fr := by
  funext x
  cases x <;> simp only [Act.eval, ev]
  exact h.at_ _
theorem RA.put {n : Nat} {a : Act} {fr : Fr} (h : RA n a fr) {d : Option Tmp} (hd : ∀ t, d = some t → t < n) (v : Value) : RA n (a.put d v) (puto fr d v) := by
  cases d with
  | none => exact h
  | some t =>
    have ht := hd t rfl
    refine ⟨by simp [Act.put, h.size], fun i => ?_⟩
    simp only [Act.put, puto, V.put]
    by_cases hi : i = t
    · subst hi
      simp [h.size, ht]
    · rw [beq_ne hi]
      simp only [cond_false]
      rw [← h.at_ i]
      simp [Array.getElem?_setIfInBounds_ne (Ne.symm hi)]
theorem RA.defers {n : Nat} {a : Act} {fr : Fr} (h : RA n a fr) (ds : List Deferred) : RA n { a with defers := ds } fr := ⟨h.size, h.at_⟩
theorem puto_get (fr : Fr) (d : Option Tmp) (v : Value) (t : Nat) : puto fr d v t = if d = some t then v else fr t := by
  cases d with
  | none => simp [puto]
  | some d =>
    unfold puto V.put
    by_cases h : t = d
    · subst h; simp
    · simp only [beq_ne h]
      rw [if_neg (by simpa using fun e => h e.symm)]
      rfl
def RF' (p : Ren) (f : GF) (fr : Fr) : Prop := ∀ t g, f.get t = some g → RV p g (fr t)
theorem RF'.mono {p q : Ren} {f : GF} {fr : Fr} (h : RF' p f fr) (hl : Le p q) : RF' q f fr := fun t g hg => (h t g hg).mono hl
theorem RF'.put {p : Ren} {f f' : GF} {fr : Fr} (h : RF' p f fr) {n : Nat} {d : Option Tmp} {g : GV} {v : Value} (hp : putG n f d g = some f') (hv : RV p g v) : RF' p f' (puto fr d v) := fun t g' hg => by
  rw [(putG_spec hp).2] at hg
  rw [puto_get]
  by_cases e : d = some t
  · rw [if_pos e] at hg ⊢; cases hg; exact hv
  · rw [if_neg e] at hg ⊢; exact h t g' hg
theorem gev_ok {p : Ren} {f : GF} {fr : Fr} {x : Operand} {g : GV} (h : gev f x = some g) (ht : ∀ t, x = .tmp t → ∀ g, f.get t = some g → RV p g (fr t)) : RV p g (ev fr x) := by
  cases x with
  | tmp t => exact ht t rfl g h
  | const v => exact ofVal_rv h
  | global k => cases h
  | func k => cases h; exact ⟨[], [], rfl, trivial, trivial⟩
theorem OpsOK.of {p : Ren} {f : GF} {fr : Fr} {xs : List Operand} (h : ∀ t, .tmp t ∈ xs → ∀ g, f.get t = some g → RV p g (fr t)) : OpsOK p f fr xs := fun x hx g hg => gev_ok hg fun t e => h t (e ▸ hx)
theorem yielded_ra {n : Nat} {a : Act} {fr : Fr} (h : RA n a fr) (all : List Oper) (j : Nat) :
    yielded all.toArray a.tmps j = match (all[j]?).bind (·.dst) with
      | some d => (match fr d with | .bool b => some b | _ => none)
      | none => none := by
  unfold yielded
  simp only [List.getElem?_toArray]
  cases hd : (all[j]?).bind (·.dst) with
  | none => rfl
  | some d =>
    simp only [Option.bind_some]
    have := h.at_ d
    cases ht : a.tmps[d]? with
    | none =>
      have e : fr d = undef := by rw [← this]; simp [ht]
      simp only [e, undef]
    | some v =>
      have e : fr d = v := by rw [← this]; simp [ht]
      simp only [e]
      cases v <;> rfl
theorem RV.notBool {p : Ren} {g : GV} {v : Value} (h : RV p g v) (hg : ∀ b, g ≠ .bool b) : (match v with | .bool b => some b | _ => (none : Option Bool)) = none := by
  cases g <;> simp only [RV] at h <;> first
    | (exact absurd rfl (hg _))
    | (subst h; rfl)
    | (obtain ⟨r, base, n, h1, rfl⟩ := h; rfl)
    | (obtain ⟨r, base, n, cap, h1, rfl, h2⟩ := h; rfl)
    | (obtain ⟨a, c, rfl⟩ := h; rfl)
    | (obtain ⟨r, h1, rfl⟩ := h; rfl)
    | (obtain ⟨va, vc, rfl, h1, h2⟩ := h; rfl)
    | (obtain ⟨vs, rfl, h1⟩ := h; rfl)
    | (obtain ⟨g, n, c, h1, h2, rfl⟩ := h; rfl)
    | (obtain ⟨ad, vs, rfl, h⟩ := h; rfl)
    | (obtain ⟨a, n, c, rfl, h⟩ := h; rfl)
    | (obtain ⟨a, c, e, h⟩ := h; cases e; rfl)
def guardSlot (ops : List Oper) (o : Oper) : List Tmp := match o.guard with
  | some (j, _) => ((ops[j]?).bind (·.dst)).toList
  | none => []
theorem wantG_ok {n : Nat} {a : Act} {fr : Fr} (hr : RA n a fr) {ops : List Oper} {o : Oper} {f : GF} {b : Bool} {p : Ren} (h : wantG ops o f = some b) (hs : ∀ d ∈ guardSlot ops o, ∀ g, f.get d = some g → RV p g (fr d)) :
    Region.wanted o (yielded ops.toArray a.tmps) = b := by
  unfold wantG at h
  unfold Region.wanted
  unfold guardSlot at hs
  split at h
  · rename_i hg
    cases h
    rw [hg]
  · rename_i j want hg
    rw [hg] at hs
    rw [hg]
    simp only [yielded_ra hr]
    split at h
    · rename_i q hq
      split at h
      · rename_i d hd
        have hb : (ops[j]?).bind (·.dst) = some d := by rw [hq]; exact hd
        simp only [hb] at hs
        simp only [hb]
        split at h
        · rename_i c hc
          cases h
          have := hs d (by simp) _ hc
          have this : fr d = .bool c := this
          rw [this]
          simp
        · rename_i g hne hg'
          cases h
          have hv := hs d (by simp) _ hg'
          have := hv.notBool (fun b e => hne b (by rw [e] at hg'; exact e))
          rw [this]
          rfl
        · cases h
      · cases h
    · cases h
def Same (name : Nat) (S S' : St) : Prop := S'.nx = S.nx ∧ S'.df = S.df ∧ ∀ b, b ≠ name → S'.h.get b = S.h.get b ∧ S'.ow.get b = S.ow.get b
theorem Same.rfl' (name : Nat) (S : St) : Same name S S := ⟨rfl, rfl, fun _ _ => ⟨rfl, rfl⟩⟩
theorem Same.put {name : Nat} {S S' : St} {g : Option GB} (h : S.put name g = some S') : Same name S S' := let ⟨h1, h2, h3⟩ := put_spec h; ⟨h1, h2, fun b hb => ⟨by rw [h3, if_neg hb], by rw [put_ow h]⟩⟩
theorem Same.newB {name : Nat} {S S' : St} {l : List GV} (h : newB S name l = some S') : Same name S S' := .put (newB_spec h).2
theorem storeC_nx {S S' : St} {b off : Nat} {l : List GV} (h : storeC S b off l = some S') : S'.nx = S.nx := by
  obtain ⟨_, _, _, _, h⟩ := storeC_spec h
  exact (put_spec h).1
theorem gAppend_nx {P : Program} {name t t2 : Nat} {S S' : St} {s x g : GV} (ha : gAppend P name t t2 S s x = some (g, S')) : S'.nx = S.nx := by
  unfold gAppend at ha
  split at ha
  · split at ha
    · split at ha
      · cases ha
      · split at ha
        · cases ha; rfl
        · cases ha; rfl
        · cases ha
        · obtain ⟨S1, h1, h2⟩ := Option.map_eq_some_iff.1 ha
          cases h2
          exact (Same.newB h1).1
        · split at ha
          · split at ha
            · obtain ⟨S1, h1, h2⟩ := Option.map_eq_some_iff.1 ha
              cases h2
              exact (Same.newB h1).1
            · cases ha
          · cases ha
        · split at ha
          · split at ha
            · rename_i hk
              obtain ⟨S1, h1, h2⟩ := Option.map_eq_some_iff.1 ha
              cases h2
              rw [(Same.newB h1).1]
              exact (put_spec hk).1
            · cases ha
          · cases ha
        · cases ha
    · cases ha
  · cases ha
theorem gConv_same {P : Program} {name s d : Nat} {S S' : St} {x g : GV} (hg : gConv P name s d x S = some (g, S')) : Same name S S' := by
  unfold gConv at hg
  split at hg
  · cases hg; exact .rfl' _ _
  · cases hg; exact .rfl' _ _
  · split at hg
    · split at hg
      · obtain ⟨S1, h1, h2⟩ := Option.map_eq_some_iff.1 hg
        cases h2
        exact .newB h1
      · cases hg
    · cases hg
  · split at hg
    · cases hg; exact .rfl' _ _
    · cases hg
  · split at hg
    · split at hg
      · obtain ⟨S1, h1, h2⟩ := Option.map_eq_some_iff.1 hg
        cases h2
        exact .rfl' _ _
      · cases hg
    · cases hg
  · cases hg
theorem map_same {α : Type} {name : Nat} {S S' : St} {g : GV} {o : Option α} {c : α → GV} (h : (o.map fun v => (c v, S)) = some (g, S')) : Same name S S' := by
  obtain ⟨_, _, h2⟩ := Option.map_eq_some_iff.1 h
  cases h2
  exact .rfl' _ _
theorem mapN_same {name : Nat} {S S' : St} {g c : GV} {l : List GV} (h : ((newB S name l).map fun S => (c, S)) = some (g, S')) : Same name S S' := by
  obtain ⟨_, h1, h2⟩ := Option.map_eq_some_iff.1 h
  cases h2
  exact .newB h1
theorem gOp_keep {P : Program} {call : Cl} (hcall : CallOK P call) {name : Nat} {o : Oper} {f : GF} {S S' : St} {g : GV} (hg : gOp P call name o f S = some (g, S')) : S.nx ≤ S'.nx ∧ (floatK o.op = true → Same name S S') := by
  obtain ⟨dst, op, ty, pos, after, guard⟩ := o
  have of_same : Same name S S' → S.nx ≤ S'.nx ∧ (floatK op = true → Same name S S') := fun h => ⟨Nat.le_of_eq h.1.symm, fun _ => h⟩
  have of_nx : S'.nx = S.nx → floatK op = false → S.nx ≤ S'.nx ∧ (floatK op = true → Same name S S') := fun h h2 => ⟨Nat.le_of_eq h.symm, fun h3 => by rw [h2] at h3; cases h3⟩
  unfold gOp at hg
  cases op <;> simp only at hg
  case move => exact of_same (map_same hg)
  case assign => exact of_same (map_same hg)
  case pick => split at hg <;> first | exact of_same (map_same hg) | cases hg
  case alloc => split at hg <;> first | exact of_same (mapN_same hg) | cases hg
  case box => split at hg <;> first | exact of_same (mapN_same hg) | cases hg
  case build =>
    split at hg
    · split at hg <;> first | exact of_same (map_same hg) | cases hg
    · split at hg <;> first | exact of_same (map_same hg) | cases hg
    · cases hg
  case buildSlice =>
    split at hg
    · split at hg
      · split at hg
        · split at hg <;> first | exact of_same (mapN_same hg) | cases hg
        · cases hg
      · cases hg
    · cases hg
  case load => split at hg <;> first | exact of_same (map_same hg) | cases hg
  case store =>
    split at hg
    · split at hg
      · obtain ⟨S1, h1, h2⟩ := Option.map_eq_some_iff.1 hg
        cases h2
        exact of_nx (storeC_nx h1) rfl
      · cases hg
    · cases hg
  case nilCheck =>
    split at hg
    · split at hg
      · cases hg; exact of_same (.rfl' _ _)
      · cases hg
    · cases hg
  case binOp => split at hg <;> first | exact of_same (map_same hg) | cases hg
  case unOp => split at hg <;> first | exact of_same (map_same hg) | cases hg
  case convert => split at hg <;> first | exact of_same (gConv_same hg) | cases hg
  case makeFunc fn _ _ =>
    cases fn <;> simp only at hg <;> first | (cases hg; done) | skip
    split at hg
    · cases hg; exact of_same (.rfl' _ _)
    · cases hg
  case makeMap t r =>
    cases r with
    | none =>
      simp only at hg
      obtain ⟨S1, h1, h2⟩ := Option.map_eq_some_iff.1 hg
      cases h2
      exact of_same (.put h1)
    | some x => simp only at hg; cases hg
  case makeSlice =>
    split at hg
    · split at hg
      · split at hg <;> first | exact of_same (mapN_same hg) | cases hg
      · cases hg
    · cases hg
  case slice => split at hg <;> first | exact of_same (map_same hg) | cases hg
  case fieldAddr =>
    split at hg
    · split at hg
      · cases hg; exact of_same (.rfl' _ _)
      · cases hg
    · cases hg
  case field => split at hg <;> first | exact of_same (map_same hg) | cases hg
  case indexAddr => split at hg <;> first | exact of_same (map_same hg) | cases hg
  case index => split at hg <;> first | exact of_same (map_same hg) | cases hg
  case lookup => split at hg <;> first | exact of_same (map_same hg) | cases hg
  case mapUpdate =>
    split at hg
    · obtain ⟨S1, h1, h2⟩ := Option.map_eq_some_iff.1 hg
      cases h2
      refine of_nx ?_ rfl
      unfold gMapUpd at h1
      split at h1
      · split at h1
        · split at h1
          · exact (put_spec h1).1
          · exact (put_spec h1).1
          · cases h1
        · cases h1
      · cases h1
    · cases hg
  case extract => split at hg <;> first | exact of_same (map_same hg) | cases hg
  case defer c =>
    obtain ⟨callee, args, argTypes⟩ := c
    split at hg
    · split at hg
      · cases hg; exact of_nx rfl rfl
      · cases hg
    · cases hg
  case call c =>
    obtain ⟨callee, args, argTypes⟩ := c
    split at hg
    · simp only at hg
      split at hg
      · split at hg
        · exact ⟨(hcall _ _ _ _ _ hg).2.1, fun h => by cases h⟩
        · cases hg
      · unfold gBuiltin at hg
        split at hg
        · exact of_same (map_same hg)
        · exact of_nx (gAppend_nx hg) rfl
        · refine of_nx ?_ rfl
          unfold gClear at hg
          split at hg
          · split at hg
            · split at hg
              · obtain ⟨S1, h1, h2⟩ := Option.map_eq_some_iff.1 hg
                cases h2
                exact storeC_nx h1
              · cases hg
            · cases hg
          · cases hg; rfl
          · cases hg; rfl
          · cases hg; rfl
          · cases hg
        · exact of_same (map_same hg)
        · cases hg
      · cases hg
    · cases hg
  all_goals (cases hg)
structure OpOK (P : Program) (op : GO) : Prop where
  sound : ∀ {name : Nat} {o : Oper} {f : GF} {S S' : St} {g : GV}, op.run name o f S = some (g, S') → ∀ {p : Ren} {a : Act} {fr : Fr} {w : World}, a.eval = ev fr → OpsOK p f fr o.op.operands.toList → RH p S w → Free p name → name < S.nx → ∀ {N : Act → World → Prop} {Q : Exit → Act → World → Prop},
    (∀ q u w' ds, RV q g u → RH q S' w' → Ch (fun b => b = name ∨ S.nx ≤ b ∧ b < S'.nx) p w q w' → (DF a.defers S.df → DF ds S'.df) → N (({ a with defers := ds } : Act).put o.dst u) w') → o.wp P a w N Q
  keep : ∀ {name : Nat} {o : Oper} {f : GF} {S S' : St} {g : GV}, op.run name o f S = some (g, S') → S.nx ≤ S'.nx ∧ (op.fl o f = true → Same name S S')
theorem gOp_ok {P : Program} {call : Cl} (hcall : CallOK P call) : OpOK P ⟨gOp P call, fun o _ => floatK o.op⟩ := ⟨fun h => gOp_sound hcall h, fun h => gOp_keep hcall h⟩
theorem stepG_ok {P : Program} {op : GO} (hop : OpOK P op) {n base i : Nat} {ops : List Oper} {o : Oper} {f f' : GF} {S S' : St} (hs : stepG op n ops base i o f S = some (f', S')) {p : Ren} {a : Act} {fr : Fr} {w : World} (hr : RA n a fr)
    (ho : OpsOK p f fr o.op.operands.toList) (hgu : ∀ d ∈ guardSlot ops o, ∀ g, f.get d = some g → RV p g (fr d)) (h : RH p S w) (hn : Free p (base + i)) (hx : base + i < S.nx) (hd : DF a.defers S.df)
    {N : Act → World → Prop} {Q : Exit → Act → World → Prop}
    (hN : ∀ q g u a' fr' w', putG n f o.dst g = some f' → RV q g u → fr' = puto fr o.dst u → RA n a' fr' → RH q S' w' → Ch (fun b => b = base + i ∨ S.nx ≤ b ∧ b < S'.nx) p w q w' → DF a'.defers S'.df → N a' w') :
    if Region.wanted o (yielded ops.toArray a.tmps) then o.wp P a w N Q else N (a.put o.dst undef) w := by
  unfold stepG at hs
  split at hs
  · rename_i hw
    rw [wantG_ok hr hw hgu]
    simp only [if_true]
    split at hs
    · rename_i g S1 hg
      obtain ⟨f1, h1, h2⟩ := Option.map_eq_some_iff.1 hs
      cases h2
      refine hop.sound hg hr.eval ho h hn hx fun q u w' ds h3 h4 h5 h6 => ?_
      refine hN q g u _ _ w' h1 h3 rfl ((hr.defers ds).put (putG_spec h1).1 u) h4 h5 ?_
      have := h6 hd
      cases o.dst <;> exact this
    · cases hs
  · rename_i hw
    rw [wantG_ok hr hw hgu]
    simp only [Bool.false_eq_true, if_false]
    obtain ⟨f1, h1, h2⟩ := Option.map_eq_some_iff.1 hs
    cases h2
    refine hN p (.tup []) undef _ _ w h1 ⟨[], rfl, trivial⟩ rfl (hr.put (putG_spec h1).1 undef) h (Ch.refl _ _ _) ?_
    cases o.dst <;> exact hd
  · cases hs
theorem stepG_nx {P : Program} {op : GO} (hop : OpOK P op) {n base i : Nat} {ops : List Oper} {o : Oper} {f f' : GF} {S S' : St} (hs : stepG op n ops base i o f S = some (f', S')) : S.nx ≤ S'.nx := by
  unfold stepG at hs
  split at hs
  · split at hs
    · rename_i g S1 hg
      obtain ⟨f1, h1, h2⟩ := Option.map_eq_some_iff.1 hs
      cases h2
      exact (hop.keep hg).1
    · cases hs
  · obtain ⟨f1, h1, h2⟩ := Option.map_eq_some_iff.1 hs
    cases h2
    exact Nat.le_refl _
  · cases hs
theorem seqG_nx {P : Program} {op : GO} (hop : OpOK P op) {n base : Nat} {ops : List Oper} : ∀ (l : List Oper) (i : Nat) {f f' : GF} {S S' : St}, seqG op n ops base l i f S = some (f', S') → S.nx ≤ S'.nx
  | [], i, f, f', S, S', hs => by cases hs; exact Nat.le_refl _
  | o :: l, i, f, f', S, S', hs => by
    unfold seqG at hs
    split at hs
    · rename_i f1 S1 hst
      exact Nat.le_trans (stepG_nx hop hst) (seqG_nx hop l _ hs)
    · cases hs
theorem seqG_ok {P : Program} {op : GO} (hop : OpOK P op) {n base : Nat} {ops : List Oper} {QA : Exit → Act → World → Prop} : ∀ (l : List Oper) (i : Nat) {f f' : GF} {S S' : St}, seqG op n ops base l i f S = some (f', S') →
    ∀ {p : Ren} {a : Act} {fr : Fr} {w : World}, RA n a fr → RF' p f fr → RH p S w → (∀ j, i ≤ j → j < i + l.length → Free p (base + j)) → base + (i + l.length) ≤ S.nx → DF a.defers S.df →
    (∀ q a' fr' w', RA n a' fr' → RF' q f' fr' → RH q S' w' → Ch (fun b => base ≤ b ∧ b < S'.nx) p w q w' → DF a'.defers S'.df → QA .normal a' w') → wpList P ops.toArray QA l a w
  | [], i, f, f', S, S', hs, p, a, fr, w, hr, hf, h, _, _, hd, hQ => by
    cases hs
    exact hQ p a fr w hr hf h (Ch.refl _ _ _) hd
  | o :: l, i, f, f', S, S', hs, p, a, fr, w, hr, hf, h, hn, hx, hd, hQ => by
    unfold seqG at hs
    split at hs
    · rename_i f1 S1 hst
      have hmono := stepG_nx hop hst
      have hmono2 : S1.nx ≤ S'.nx := seqG_nx hop l _ hs
      simp only [List.length_cons] at hn hx
      have key := stepG_ok (Q := QA) (N := wpList P ops.toArray QA l) hop hst hr (.of fun t _ g hg => hf t g hg) (fun d _ g hg => hf d g hg) h (hn i (Nat.le_refl _) (by omega)) (by omega) hd
        (fun q g u a' fr' w' h1 h2 h3 h4 h5 h6 h7 => by
          subst h3
          refine seqG_ok hop l (i + 1) hs h4 ((hf.mono h6.le).put h1 h2) h5 (fun j hj1 hj2 => ?_) (by omega) h7 fun q' a'' fr'' w'' k1 k2 k3 k4 k5 => ?_
          · refine Classical.byContradiction fun hq => ?_
            rcases h6.new (base + j) hq with e | e | e
            · exact e (hn j (by omega) (by omega))
            · omega
            · omega
          · refine hQ q' a'' fr'' w'' k1 k2 k3 (Ch.trans (h6.mono fun b hb => ?_) k4) k5
            rcases hb with rfl | hb
            · exact ⟨by omega, by omega⟩
            · exact ⟨by omega, by omega⟩)
      unfold wpList
      split
      · rename_i hw; rw [if_pos hw] at key; exact .inl key
      · rename_i hw; rw [if_neg hw] at key; exact key
    · cases hs
end Go.E
