
/- What the run by values gives, the model gives: all operations. No condition. -/
import Derived.Test.YtlgdhajakblkaaaGreatDoorY
set_option linter.unusedVariables false
set_option linter.unusedSimpArgs false
namespace Go.E
open Go Go.V
def PlainEq (P : Program) (t : TypeId) (xo yo : Operand) (vx vy : Value) (w : World) : Prop :=
  (do eqGuard .eql t xo yo vx vy; binOp .eql t vx vy : Sem Value).run P w = (do pure (.bool (← Op.equal t vx vy)) : Sem Value).run P w ∧
  (do eqGuard .neq t xo yo vx vy; binOp .neq t vx vy : Sem Value).run P w = (do pure (.bool (!(← Op.equal t vx vy))) : Sem Value).run P w
theorem shape_ok {P : Program} {p : Ren} {k t : Nat} {x y : GV} {b : Bool} {vx vy : Value} {xo yo : Operand} (h : gEq P (k + 1) t x y = some b) (hx : RV p x vx) (hy : RV p y vy) (w : World)
    (hi : ∀ k n k' n', x = .int k n → y = .int k' n' → False) (hs : ∀ s s', x = .str s → y = .str s' → False) : PlainEq P t xo yo vx vy w := by
  unfold gEq at h
  split at h
  · have hx : vx = .bool _ := hx
    have hy : vy = .bool _ := hy
    subst hx hy
    exact ⟨rfl, rfl⟩
  · exact (hi _ _ _ _ rfl rfl).elim
  · exact (hs _ _ rfl rfl).elim
  · have hx : vx = .pointer none := hx
    have hy : vy = .pointer none := hy
    subst hx hy
    exact ⟨rfl, rfl⟩
  · have hx : vx = .pointer none := hx
    obtain ⟨r, base, n, h1, rfl⟩ := hy
    subst hx
    exact ⟨rfl, rfl⟩
  · have hy : vy = .pointer none := hy
    obtain ⟨r, base, n, h1, rfl⟩ := hx
    subst hy
    exact ⟨rfl, rfl⟩
  · have hx : vx = .slice none 0 0 := hx
    have hy : vy = .slice none 0 0 := hy
    subst hx hy
    exact ⟨rfl, rfl⟩
  · have hx : vx = .slice none 0 0 := hx
    obtain ⟨r, base, n', cap, h1, rfl, _⟩ := hy
    subst hx
    exact ⟨rfl, rfl⟩
  · have hy : vy = .slice none 0 0 := hy
    obtain ⟨r, base, n', cap, h1, rfl, _⟩ := hx
    subst hy
    exact ⟨rfl, rfl⟩
  · have hx : vx = .slice none 0 0 := hx
    obtain ⟨a, c, rfl⟩ := hy
    subst hx
    exact ⟨rfl, rfl⟩
  · have hy : vy = .slice none 0 0 := hy
    obtain ⟨a, c, rfl⟩ := hx
    subst hy
    exact ⟨rfl, rfl⟩
  · have hx : vx = .map none := hx
    have hy : vy = .map none := hy
    subst hx hy
    exact ⟨rfl, rfl⟩
  · have hx : vx = .map none := hx
    obtain ⟨r, h1, rfl⟩ := hy
    subst hx
    exact ⟨rfl, rfl⟩
  · have hy : vy = .map none := hy
    obtain ⟨r, h1, rfl⟩ := hx
    subst hy
    exact ⟨rfl, rfl⟩
  · rename_i fs xs ys hu
    split at h
    · cases h
    · rename_i hc
      obtain ⟨vxs, rfl, hx⟩ := hx
      obtain ⟨vys, rfl, hy⟩ := hy
      have hg : P.eqGuardType P.depth t = false := by
        cases hb : P.eqGuardType P.depth t with
        | false => rfl
        | true => exact absurd (.inr hb) hc
      refine ⟨?_, ?_⟩
      · rw [run_bind, run_eqGuard_agg w .eql t xo yo _ _ hg]; rfl
      · rw [run_bind, run_eqGuard_agg w .neq t xo yo _ _ hg]; rfl
  · cases h
theorem bin_ok {P : Program} {p : Ren} {op : BinOp} {t : Nat} {x y g : GV} {vx vy : Value} {xo yo : Operand} (h : gBin P op t x y = some g) (hx : RV p x vx) (hy : RV p y vy) (w : World) :
    ∃ v, (do eqGuard op t xo yo vx vy; binOp op t vx vy : Sem Value).run P w = .ok v w ∧ RV p g v := by
  unfold gBin at h
  split at h
  · rename_i k a k' b
    have hx : vx = .int k a := hx
    have hy : vy = .int k' b := hy
    subst hx hy
    split at h
    · rename_i v hv
      obtain ⟨u, h1, h2⟩ := vcBin_sound (vcBin_of_pureBin (P := P) (t := t) (xo := xo) (yo := yo) hv (fun u => u = v) rfl)
      subst h2
      exact ⟨u, h1 w, backV_ok h⟩
    · cases h
  · rename_i a b
    have hx : vx = Vs a := hx
    have hy : vy = Vs b := hy
    subst hx hy
    obtain ⟨v, h1, h2⟩ := strBin_ok (P := P) h w
    refine ⟨v, ?_, h2⟩
    rw [← h1]
    cases op <;> rfl
  · rename_i h1 h2
    have hi : ∀ k n k' n', x = .int k n → y = .int k' n' → False := fun k n k' n' e1 e2 => h1 k n k' n' e1 e2
    have hs : ∀ s s', x = .str s → y = .str s' → False := fun s s' e1 e2 => h2 s s' e1 e2
    split at h
    · obtain ⟨b, h3, rfl⟩ := Option.map_eq_some_iff.1 h
      refine ⟨.bool b, ?_, rfl⟩
      rw [(shape_ok h3 hx hy w hi hs).1, run_bind]
      unfold Op.equal
      rw [eq_ok 20 Op.maxDepth t x y b vx vy w (by decide) h3 hx hy]
      rfl
    · obtain ⟨b, h3, rfl⟩ := Option.map_eq_some_iff.1 h
      refine ⟨.bool (!b), ?_, rfl⟩
      rw [(shape_ok h3 hx hy w hi hs).2, run_bind]
      unfold Op.equal
      rw [eq_ok 20 Op.maxDepth t x y b vx vy w (by decide) h3 hx hy]
      rfl
    · cases h
theorem un_ok {P : Program} {p : Ren} {op : UnOp} {x g : GV} {vx : Value} (h : gUn op x = some g) (hx : RV p x vx) (w : World) : ∃ v, (Op.unary op vx).run P w = .ok v w ∧ RV p g v := by
  unfold gUn at h
  split at h
  · cases h
    have hx : vx = .bool _ := hx
    subst hx
    exact ⟨_, rfl, rfl⟩
  · cases h
    have hx : vx = .int _ _ := hx
    subst hx
    exact ⟨_, rfl, rfl⟩
  · cases h
theorem len_ok {P : Program} {p : Ren} {S : St} {w : World} (h : RH p S w) {t ty n : Nat} {x : GV} {vx : Value} (hl : lenG P t S x = some n) (hx : RV p x vx) : (Builtin.len_ #[t] ty #[vx]).run P w = .ok (.int .i64 n) w := by
  unfold lenG at hl
  split at hl
  · rename_i s hu
    cases hl
    have hx : vx = Vs s := hx
    subst hx
    exact run_len_string w t ty _ hu
  · rename_i e hu
    cases hl
    have hx : vx = .slice none 0 0 := hx
    subst hx
    simp only [Builtin.len_]
    show Sem.run P (underlying t >>= _) w = _
    rw [run_bind, run_underlying hu]
    rfl
  · rename_i e hu
    cases hl
    obtain ⟨a, c, rfl⟩ := hx
    simp only [Builtin.len_]
    show Sem.run P (underlying t >>= _) w = _
    rw [run_bind, run_underlying hu]
    rfl
  · rename_i e b off m c hu
    cases hl
    obtain ⟨r, base, k, cap, h1, rfl, h2⟩ := hx
    simp only [Builtin.len_]
    show Sem.run P (underlying t >>= _) w = _
    rw [run_bind, run_underlying hu]
    rfl
  · rename_i k0 e0 hu
    cases hl
    have hx : vx = .map none := hx
    subst hx
    simp only [Builtin.len_]
    show Sem.run P (underlying t >>= _) w = _
    rw [run_bind, run_underlying hu]
    rfl
  · rename_i k0 e0 b hu
    split at hl
    · rename_i es hg
      cases hl
      obtain ⟨r, h1, rfl⟩ := hx
      obtain ⟨ents, clock, h2, h3⟩ := h.at_ b r 0 0 _ h1 hg
      have hlen : ∀ {es : List (GV × GV)} {l : List MapEntry}, RM p es l → l.length = es.length := by
        intro es
        induction es with
        | nil => intro l hl; cases l with
          | nil => rfl
          | cons _ _ => exact hl.elim
        | cons e es ih => intro l hl; cases l with
          | nil => exact hl.elim
          | cons _ _ => simp [ih hl.2]
      have := hlen h3
      simp only [Builtin.len_]
      show Sem.run P (underlying t >>= _) w = _
      rw [run_bind, run_underlying hu]
      have hget : (getObj r).run P w = .ok (.map ents clock) w := by simp only [getObj, Sem.run, h2]
      show Sem.run P (getObj r >>= _) w = _
      rw [run_bind, hget]
      simp only [goInt, Sem.run_pure]
      rw [← this, Array.length_toList]
    · cases hl
  · cases hl
theorem max_fold {P : Program} {p : Ren} : ∀ {l : List GV} {vs : List Value} {x g : GV} {vx : Value} {w : World}, maxG x l = some g → RV p x vx → RVs p l vs → ∃ v, (vs.foldlM Builtin.max2 vx).run P w = .ok v w ∧ RV p g v
  | [], [], x, g, vx, w, h, hx, _ => by
    unfold maxG at h
    cases h
    exact ⟨vx, rfl, hx⟩
  | y :: l, u :: vs, x, g, vx, w, h, hx, ⟨h1, h2⟩ => by
    unfold maxG at h
    split at h
    · rename_i e; cases e
    · rename_i k a k' b l' e
      cases e
      have hx : vx = .int k a := hx
      have h1 : u = .int k' b := h1
      subst hx h1
      obtain ⟨v, h3, h4⟩ := max_fold (P := P) (vx := .int k (if b > a then b else a)) (w := w) h rfl h2
      refine ⟨v, ?_, h4⟩
      rw [List.foldlM_cons, run_bind]
      exact h3
    · cases h
  | [], _ :: _, _, _, _, _, _, _, h => h.elim
  | _ :: _, [], _, _, _, _, _, _, h => h.elim
theorem max_ok {P : Program} {p : Ren} {ts : Array TypeId} {ty : Nat} {x g : GV} {l : List GV} {vs : List Value} (h : maxG x l = some g) (hv : RVs p (x :: l) vs) (w : World) : ∃ v, (Builtin.max_ ts ty vs.toArray).run P w = .ok v w ∧ RV p g v := by
  cases vs with
  | nil => exact hv.elim
  | cons v vs => exact max_fold (P := P) h hv.1 hv.2
def OpsOK (p : Ren) (f : GF) (fr : Fr) (xs : List Operand) : Prop := ∀ x ∈ xs, ∀ g, gev f x = some g → RV p g (ev fr x)
theorem gevs_ok {p : Ren} {f : GF} {fr : Fr} : ∀ {l : List Operand} {gs : List GV}, gevs f l = some gs → OpsOK p f fr l → RVs p gs (l.map (ev fr))
  | [], gs, h, _ => by cases h; trivial
  | x :: l, gs, h, ho => by
    unfold gevs at h
    split at h
    · rename_i g hg
      split at h
      · rename_i r hr
        cases h
        exact ⟨ho x (by simp) g hg, gevs_ok hr fun y hy => ho y (by simp [hy])⟩
      · cases h
    · cases h
theorem gevp_ok {p : Ren} {f : GF} {fr : Fr} : ∀ {l : List (Nat × Operand)} {gs : List (Nat × GV)}, gevp f l = some gs → OpsOK p f fr (l.map (·.2)) → RVp p gs (l.map fun (i, x) => (i, ev fr x))
  | [], gs, h, _ => by cases h; trivial
  | (i, x) :: l, gs, h, ho => by
    unfold gevp at h
    split at h
    · rename_i g hg
      split at h
      · rename_i r hr
        cases h
        exact ⟨⟨rfl, ho x (by simp) g hg⟩, gevp_ok hr fun y hy => ho y (by simp only [List.map_cons, List.mem_cons]; exact .inr hy)⟩
      · cases h
    · cases h
theorem gopt_ok {p : Ren} {f : GF} {fr : Fr} {o : Option Operand} {r : Option GV} (h : gopt f o = some r) (ho : OpsOK p f fr o.toList) : RO p r (o.map (ev fr)) := by
  cases o with
  | none => cases h; trivial
  | some x =>
    obtain ⟨g, h1, rfl⟩ := Option.map_eq_some_iff.1 h
    exact ho x (by simp) g h1
def DF : List Deferred → List FuncId → Prop
  | [], [] => True
  | d :: ds, g :: gs => (∃ a c, d = ⟨.fn (.func g) c, a⟩) ∧ DF ds gs
  | [], _ :: _ => False
  | _ :: _, [] => False
def CallOK (P : Program) (call : Cl) : Prop := ∀ g args S v S', call g args S = some (v, S') → S'.df = S.df ∧ S.nx ≤ S'.nx ∧ ∀ p w vargs, RVs p args vargs → RH p S w →
  CallVC P g vargs w fun u w' => ∃ q, RV q v u ∧ RH q S' w' ∧ Ch (fun b => S.nx ≤ b ∧ b < S'.nx) p w q w'
theorem wp_of_value {P : Program} {o : Oper} {a : Act} {w w' : World} {v : Value} {N : Act → World → Prop} {Q : Exit → Act → World → Prop} (h : (execOp a.eval o).run P w = .ok (.value v) w') (hN : N (a.put o.dst v) w') : o.wp P a w N Q := by
  unfold Oper.wp
  rw [h]
  exact hN
theorem wp_of_skip {P : Program} {o : Oper} {a : Act} {w w' : World} {N : Act → World → Prop} {Q : Exit → Act → World → Prop} (h : (execOp a.eval o).run P w = .ok .skip w') (hN : N (a.put o.dst undef) w') : o.wp P a w N Q := by
  unfold Oper.wp
  rw [h]
  exact hN
theorem append_df {P : Program} {name t t2 : Nat} {S S' : St} {s x g : GV} (ha : gAppend P name t t2 S s x = some (g, S')) : S'.df = S.df := by
  have newdf : ∀ {S0 S1 : St} {nm : Nat} {vs : List GV}, newB S0 nm vs = some S1 → S1.df = S0.df := fun hh => (put_spec (newB_spec hh).2).2.1
  unfold gAppend at ha
  split at ha
  · split at ha
    · split at ha
      · cases ha
      · split at ha
        · cases ha; rfl
        · cases ha; rfl
        · cases ha
        · obtain ⟨S1, h1, h2⟩ := Option.map_eq_some_iff.1 ha
          cases h2
          exact newdf h1
        · split at ha
          · split at ha
            · obtain ⟨S1, h1, h2⟩ := Option.map_eq_some_iff.1 ha
              cases h2
              exact newdf h1
            · cases ha
          · cases ha
        · split at ha
          · split at ha
            · rename_i hk
              obtain ⟨S1, h1, h2⟩ := Option.map_eq_some_iff.1 ha
              cases h2
              rw [newdf h1]
              exact (put_spec hk).2.1
            · cases ha
          · cases ha
        · cases ha
    · cases ha
  · cases ha
theorem clear_df {P : Program} {t : Nat} {S S' : St} {x g : GV} (hc : gClear P t S x = some (g, S')) : S'.df = S.df := by
  unfold gClear at hc
  split at hc
  · split at hc
    · split at hc
      · obtain ⟨S1, h1, h2⟩ := Option.map_eq_some_iff.1 hc
        cases h2
        obtain ⟨l, l', _, _, h8⟩ := storeC_spec h1
        exact (put_spec h8).2.1
      · cases hc
    · cases hc
  · cases hc; rfl
  · cases hc; rfl
  · cases hc; rfl
  · cases hc
theorem gOp_sound {P : Program} {call : Cl} (hcall : CallOK P call) {name : Nat} {o : Oper} {f : GF} {S S' : St} {g : GV} (hg : gOp P call name o f S = some (g, S')) {p : Ren} {a : Act} {fr : Fr} {w : World} (ha : a.eval = ev fr)
    (ho : OpsOK p f fr o.op.operands.toList) (h : RH p S w) (hn : Free p name) (hx : name < S.nx) {N : Act → World → Prop} {Q : Exit → Act → World → Prop}
    (hN : ∀ q u w' ds, RV q g u → RH q S' w' → Ch (fun b => b = name ∨ S.nx ≤ b ∧ b < S'.nx) p w q w' → (DF a.defers S.df → DF ds S'.df) → N (({ a with defers := ds } : Act).put o.dst u) w') : o.wp P a w N Q := by
  obtain ⟨dst, op, ty, pos, after, guard⟩ := o
  have pure_ : ∀ {s : Sem Value} {v : Value}, (execOp (ev fr) ⟨dst, op, ty, pos, after, guard⟩) = (do pure (.value (← s)) : Sem Next) → S' = S → s.run P w = .ok v w → RV p g v → Oper.wp P ⟨dst, op, ty, pos, after, guard⟩ a w N Q := by
    intro s v he e h1 h2
    subst e
    refine wp_of_value (v := v) (w' := w) (by rw [ha, he]; exact run_value s v w w h1) ?_
    exact hN p v w a.defers h2 h (Ch.refl _ _ _) id
  have giv : ∀ {s : Sem Value} {S1 : St}, (execOp (ev fr) ⟨dst, op, ty, pos, after, guard⟩) = (do pure (.value (← s)) : Sem Next) → S' = S1 → S1.df = S.df → Giv P (· = name) p w s g S1 → Oper.wp P ⟨dst, op, ty, pos, after, guard⟩ a w N Q := by
    intro s S1 he e hdf ⟨q, v, w', h1, h2, h3, h4⟩
    subst e
    refine wp_of_value (v := v) (w' := w') (by rw [ha, he]; exact run_value s v w w' h1) ?_
    exact hN q v w' a.defers h2 h3 (h4.mono fun b hb => .inl hb) (by rw [hdf]; exact id)
  have eff : ∀ {s : Sem Unit} {w' : World} {S1 : St}, (execOp (ev fr) ⟨dst, op, ty, pos, after, guard⟩) = (do s; pure .skip : Sem Next) → S' = S1 → S1.df = S.df → g = .tup [] → s.run P w = .ok () w' → RH p S1 w' → Ch (fun _ => False) p w p w' → Oper.wp P ⟨dst, op, ty, pos, after, guard⟩ a w N Q := by
    intro s w' S1 he e hdf eg h1 h2 h3
    subst e eg
    refine wp_of_skip (w' := w') (by rw [ha, he, run_bind, h1]; rfl) ?_
    exact hN p undef w' a.defers ⟨[], rfl, trivial⟩ h2 (h3.mono fun b hb => hb.elim) (by rw [hdf]; exact id)
  have newdf : ∀ {S0 S1 : St} {nm : Nat} {vs : List GV}, newB S0 nm vs = some S1 → S1.df = S0.df := fun hh => (put_spec (newB_spec hh).2).2.1
  have mem1 : ∀ {x y : Operand}, x ∈ [y] ↔ x = y := by simp
  unfold gOp at hg
  cases op <;> simp only at hg <;> simp only [Op.operands] at ho
  case move x =>
    obtain ⟨v, h1, h2⟩ := Option.map_eq_some_iff.1 hg
    cases h2
    exact wp_of_value (v := ev fr x) (w' := w) (by rw [ha]; rfl) (hN p _ w a.defers (ho x (by simp) _ h1) h (Ch.refl _ _ _) id)
  case assign x =>
    obtain ⟨v, h1, h2⟩ := Option.map_eq_some_iff.1 hg
    cases h2
    exact wp_of_value (v := ev fr x) (w' := w) (by rw [ha]; rfl) (hN p _ w a.defers (ho x (by simp) _ h1) h (Ch.refl _ _ _) id)
  case pick c x y =>
    split at hg
    · rename_i hc
      obtain ⟨v, h1, h2⟩ := Option.map_eq_some_iff.1 hg
      cases h2
      have hc' : ev fr c = .bool true := ho c (by simp) _ hc
      exact wp_of_value (v := ev fr x) (w' := w) (by rw [ha]; simp only [execOp, hc']; rfl) (hN p _ w a.defers (ho x (by simp) _ h1) h (Ch.refl _ _ _) id)
    · rename_i hc
      obtain ⟨v, h1, h2⟩ := Option.map_eq_some_iff.1 hg
      cases h2
      have hc' : ev fr c = .bool false := ho c (by simp) _ hc
      exact wp_of_value (v := ev fr y) (w' := w) (by rw [ha]; simp only [execOp, hc']; rfl) (hN p _ w a.defers (ho y (by simp) _ h1) h (Ch.refl _ _ _) id)
    · cases hg
  case alloc t =>
    split at hg
    · rename_i z hz
      obtain ⟨S1, h1, h2⟩ := Option.map_eq_some_iff.1 hg
      cases h2
      exact giv rfl rfl (newdf h1) (alloc_ok h hz h1 hn hx)
    · cases hg
  case box t x =>
    split at hg
    · rename_i v hv
      obtain ⟨S1, h1, h2⟩ := Option.map_eq_some_iff.1 hg
      cases h2
      exact giv rfl rfl (newdf h1) (box_ok h (ho x (by simp) _ hv) h1 hn hx)
    · cases hg
  case build t parts =>
    split at hg
    · rename_i z ps fs hz hps hu
      split at hg
      · rename_i pl hpl
        obtain ⟨c, h1, h2⟩ := Option.map_eq_some_iff.1 hg
        cases h2
        obtain ⟨v, h3, h4⟩ := build_struct hz (gevp_ok hps (by simpa using ho)) hu hpl h1 w
        exact pure_ rfl rfl (by rw [map_toList2'] at h3; exact h3) h4
      · cases hg
    · rename_i z ps m e hz hps hu
      split at hg
      · rename_i n hn'
        obtain ⟨c, h1, h2⟩ := Option.map_eq_some_iff.1 hg
        cases h2
        obtain ⟨v, h3, h4⟩ := build_array hz (gevp_ok hps (by simpa using ho)) hu hn' h1 w
        exact pure_ rfl rfl (by rw [map_toList2'] at h3; exact h3) h4
      · cases hg
    · cases hg
  case buildSlice t len parts =>
    split at hg
    · rename_i e n ps hel hps
      split at hg
      · rename_i z hz
        split at hg
        · rename_i hc
          split at hg
          · rename_i c hf
            obtain ⟨S1, h1, h2⟩ := Option.map_eq_some_iff.1 hg
            cases h2
            have := buildSlice_ok h hel hz hc.1 hc.2 (gevp_ok hps (by simpa using ho)) hf h1 hn hx
            rw [map_toList2'] at this
            exact giv rfl rfl (newdf h1) this
          · cases hg
        · cases hg
      · cases hg
    · cases hg
  case load t x =>
    split at hg
    · rename_i b off hv
      obtain ⟨v, h1, h2⟩ := Option.map_eq_some_iff.1 hg
      cases h2
      obtain ⟨r, base, n, h3, h4⟩ := ho x (by simp) _ hv
      refine giv rfl rfl rfl ?_
      rw [h4]
      exact load_ok h h1 h3
    · cases hg
  case store t x y =>
    split at hg
    · rename_i b off v n hx' hy hz
      split at hg
      · rename_i hl
        obtain ⟨S1, h1, h2⟩ := Option.map_eq_some_iff.1 hg
        cases h2
        obtain ⟨r, base, k, h3, h4⟩ := ho x (by simp) _ hx'
        obtain ⟨w', h5, h6, h7⟩ := store_ok (P := P) h hz (Nat.eq_of_beq_eq_true hl) h1 h3 (ho y (by simp) _ hy)
        obtain ⟨l, l', _, _, h8⟩ := storeC_spec h1
        exact eff rfl rfl (put_spec h8).2.1 rfl (by rw [h4]; exact h5) h6 h7
      · cases hg
    · cases hg
  case nilCheck x =>
    split at hg
    · rename_i v hv
      split at hg
      · rename_i hnil
        cases hg
        have hr := ho x (by simp) _ hv
        refine wp_of_value (v := ev fr x) (w' := w) ?_ (hN p _ w a.defers hr h (Ch.refl _ _ _) id)
        rw [ha]
        cases g <;> first
          | (cases hnil; done)
          | (obtain ⟨r, base, n, h1, h2⟩ := hr; simp only [execOp, h2]; rfl)
          | (obtain ⟨va, vc, h1, h2, h3⟩ := hr; simp only [execOp, h1]; rfl)
      · cases hg
    · cases hg
  case binOp op t x y yt =>
    split at hg
    · rename_i vx vy hx' hy
      obtain ⟨v, h1, h2⟩ := Option.map_eq_some_iff.1 hg
      cases h2
      obtain ⟨u, h3, h4⟩ := bin_ok (xo := x) (yo := y) h1 (ho x (by simp) _ hx') (ho y (by simp) _ hy) w
      exact pure_ rfl rfl h3 h4
    · cases hg
  case unOp op t x =>
    split at hg
    · rename_i vx hx'
      obtain ⟨v, h1, h2⟩ := Option.map_eq_some_iff.1 hg
      cases h2
      obtain ⟨u, h3, h4⟩ := un_ok (P := P) h1 (ho x (by simp) _ hx') w
      exact pure_ rfl rfl h3 h4
    · cases hg
  case convert s d x =>
    split at hg
    · rename_i vx hx'
      have hdf : S'.df = S.df := by
        unfold gConv at hg
        split at hg
        · cases hg; rfl
        · cases hg; rfl
        · split at hg
          · split at hg
            · obtain ⟨S1, h1, h2⟩ := Option.map_eq_some_iff.1 hg
              cases h2
              exact newdf h1
            · cases hg
          · cases hg
        · split at hg
          · cases hg; rfl
          · cases hg
        · split at hg
          · split at hg
            · obtain ⟨S1, h1, h2⟩ := Option.map_eq_some_iff.1 hg
              cases h2
              rfl
            · cases hg
          · cases hg
        · cases hg
      exact giv rfl rfl hdf (conv_ok h hg (ho x (by simp) _ hx') hn hx)
    · cases hg
  case makeFunc fn first cap =>
    cases fn <;> simp only at hg <;> first | (cases hg; done) | skip
    split at hg
    · rename_i a' c' h1 h2
      cases hg
      refine wp_of_value (w' := w) (by rw [ha]; rfl) (hN p _ w a.defers ⟨first.toList.map (ev fr), cap.toList.map (ev fr), ?_, gevs_ok h1 fun y hy => ho y (by simp only [Array.toList_append, List.mem_append]; exact .inl hy), gevs_ok h2 fun y hy => ho y (by simp only [Array.toList_append, List.mem_append]; exact .inr hy)⟩ h (Ch.refl _ _ _) id)
      rw [map_toList', map_toList']
    · cases hg
  case makeMap t r =>
    cases r with
    | none =>
      simp only at hg
      obtain ⟨S1, h1, h2⟩ := Option.map_eq_some_iff.1 hg
      cases h2
      exact giv rfl rfl (put_spec h1).2.1 (makeMap_ok h h1 hn hx)
    | some x => simp only at hg; cases hg
  case makeSlice t l c =>
    split at hg
    · rename_i e n q1 l' q2 c' hel hl hc
      split at hg
      · rename_i z hz
        split at hg
        · rename_i hb
          obtain ⟨S1, h1, h2⟩ := Option.map_eq_some_iff.1 hg
          cases h2
          have hl' : ev fr l = .int q1 l' := ho l (by simp) _ hl
          have hc' : ev fr c = .int q2 c' := ho c (by simp) _ hc
          have := makeSlice_ok (P := P) (k := q1) (k' := q2) h hel hz hb h1 hn hx
          rw [← hl', ← hc'] at this
          exact giv rfl rfl (newdf h1) this
        · cases hg
      · cases hg
    · cases hg
  case slice t x lo hi mx =>
    split at hg
    · rename_i vx vlo vhi vmx hx' hlo hhi hmx
      obtain ⟨v, h1, h2⟩ := Option.map_eq_some_iff.1 hg
      cases h2
      have hm : ∀ y, y ∈ lo.toList ∨ y ∈ hi.toList ∨ y ∈ mx.toList → y ∈ (#[x] ++ lo.toArray ++ hi.toArray ++ mx.toArray).toList := fun y hy => by
        have e : ∀ o : Option Operand, o.toArray.toList = o.toList := fun o => by cases o <;> rfl
        simp only [Array.toList_append, List.mem_append, e]
        rcases hy with hy | hy | hy
        · exact .inl (.inl (.inr hy))
        · exact .inl (.inr hy)
        · exact .inr hy
      obtain ⟨u, h3, h4⟩ := slice_ok (P := P) h h1 (ho x (by simp) _ hx') (gopt_ok hlo fun y hy => ho y (hm y (.inl hy))) (gopt_ok hhi fun y hy => ho y (hm y (.inr (.inl hy)))) (gopt_ok hmx fun y hy => ho y (hm y (.inr (.inr hy))))
      exact pure_ rfl rfl h3 h4
    · cases hg
  case fieldAddr s x i =>
    split at hg
    · rename_i b off o t hv hfo
      split at hg
      · rename_i n hsz
        cases hg
        obtain ⟨r, base, k, h3, h4⟩ := ho x (by simp) _ hv
        refine pure_ rfl rfl (v := .pointer (some ⟨r, base + off + o, none⟩)) ?_ ⟨r, base, k, h3, by rw [Nat.add_assoc]⟩
        rw [h4]
        exact fieldAddr_ok hfo hsz r (base + off) w
      · cases hg
    · cases hg
  case field s x i =>
    split at hg
    · rename_i l o t hv hfo
      obtain ⟨v, h1, h2⟩ := Option.map_eq_some_iff.1 hg
      cases h2
      obtain ⟨vs, h3, h4⟩ := ho x (by simp) _ hv
      obtain ⟨u, h5, h6⟩ := field_ok hfo h1 h4 w
      exact pure_ rfl rfl (by rw [h3]; exact h5) h6
    · cases hg
  case indexAddr t x i =>
    split at hg
    · rename_i vx vi hx' hi
      obtain ⟨v, h1, h2⟩ := Option.map_eq_some_iff.1 hg
      cases h2
      obtain ⟨u, h3, h4⟩ := indexAddr_ok h1 (ho x (by simp) _ hx') (ho i (by simp) _ hi) w
      exact pure_ rfl rfl h3 h4
    · cases hg
  case index t x i =>
    split at hg
    · rename_i vx vi hx' hi
      obtain ⟨v, h1, h2⟩ := Option.map_eq_some_iff.1 hg
      cases h2
      obtain ⟨u, h3, h4⟩ := index_ok h1 (ho x (by simp) _ hx') (ho i (by simp) _ hi) w
      exact pure_ rfl rfl h3 h4
    · cases hg
  case lookup t x i ok =>
    split at hg
    · rename_i vx vi hx' hi
      obtain ⟨v, h1, h2⟩ := Option.map_eq_some_iff.1 hg
      cases h2
      obtain ⟨u, h3, h4⟩ := lookup_ok (P := P) h h1 (ho x (by simp) _ hx') (ho i (by simp) _ hi)
      exact pure_ rfl rfl h3 h4
    · cases hg
  case mapUpdate t m k v =>
    split at hg
    · rename_i vm vk vv hm hk hv
      obtain ⟨S1, h1, h2⟩ := Option.map_eq_some_iff.1 hg
      cases h2
      obtain ⟨w', h3, h4, h5⟩ := mapUpdate_ok (P := P) h h1 (ho m (by simp) _ hm) (ho k (by simp) _ hk) (ho v (by simp) _ hv)
      have hdf : S'.df = S.df := by
        unfold gMapUpd at h1
        split at h1
        · split at h1
          · split at h1
            · exact (put_spec h1).2.1
            · exact (put_spec h1).2.1
            · cases h1
          · cases h1
        · cases h1
      exact eff rfl rfl hdf rfl h3 h4 h5
    · cases hg
  case extract x i =>
    split at hg
    · rename_i l hv
      obtain ⟨v, h1, h2⟩ := Option.map_eq_some_iff.1 hg
      cases h2
      obtain ⟨vs, h3, h4⟩ := ho x (by simp) _ hv
      obtain ⟨u, h5, h6⟩ := h4.get h1
      refine pure_ rfl rfl (v := u) ?_ h6
      rw [h3]
      simp [Instr.extract, h5]
    · cases hg
  case defer c =>
    obtain ⟨callee, args, argTypes⟩ := c
    split at hg
    · rename_i x hc1 hc2
      simp only at hc1 hc2
      subst hc1
      split at hg
      · rename_i k a' c' hv
        cases hg
        obtain ⟨va, vc, h1, h2, h3⟩ := ho x (by simp [Call.operands]) _ hv
        have he : (execOp (ev fr) ⟨dst, .defer ⟨.value x, args, argTypes⟩, ty, pos, after, guard⟩).run P w = .ok (.defer ⟨.fn (.func k) vc.toArray, va.toArray ++ args.map (ev fr)⟩) w := by
          simp only [execOp, resolve, h1, Deferred.ofValue, pure_bind]
          rfl
        unfold Oper.wp
        rw [ha, he]
        exact hN p undef w (⟨.fn (.func k) vc.toArray, va.toArray ++ args.map (ev fr)⟩ :: a.defers) ⟨[], rfl, trivial⟩ (h.congr (fun _ _ => rfl) (Nat.le_refl _) fun _ _ => rfl) (Ch.refl _ _ _) fun hd => ⟨⟨_, _, rfl⟩, hd⟩
      · cases hg
    · cases hg
  case call c =>
    obtain ⟨callee, args, argTypes⟩ := c
    split at hg
    · rename_i gs hgs
      simp only at hgs hg
      split at hg
      · rename_i x
        split at hg
        · rename_i k a' c' hv
          obtain ⟨va, vc, h1, h2, h3⟩ := ho x (by simp [Call.operands]) _ hv
          have hargs := gevs_ok hgs fun y hy => ho y (by simp only [Call.operands, Array.toList_append, List.mem_append]; exact .inr hy)
          obtain ⟨c1, c2, c3⟩ := hcall _ _ _ _ _ hg
          obtain ⟨hrun, fn, hfn, n1, n2⟩ := c3 p w _ (h2.append (hargs.append h3)) h
          have he : (execOp (ev fr) ⟨dst, .call ⟨.value x, args, argTypes⟩, ty, pos, after, guard⟩).run P w = .ok (.enter k (va ++ (args.toList.map (ev fr) ++ vc)).toArray) w := by
            have e : (va ++ (args.toList.map (ev fr) ++ vc)).toArray = va.toArray ++ args.map (ev fr) ++ vc.toArray := by
              apply Array.ext'; simp
            rw [e]
            simp only [execOp, resolve, h1, Deferred.ofValue, pure_bind, invoke]
            exact callFunc_run _ _ hfn n1 n2
          unfold Oper.wp
          rw [ha, he]
          refine Calls.mono hrun fun e w' ⟨v, hev, q, hq⟩ => ?_
          subst hev
          exact hN q v w' a.defers hq.1 hq.2.1 (hq.2.2.mono fun b hb => .inr hb) (by rw [c1]; exact id)
        · cases hg
      · rename_i b
        have hargs := gevs_ok hgs fun y hy => ho y (by simp only [Call.operands, Array.toList_append, List.mem_append]; exact .inr hy)
        have bi : ∀ {s : Sem Value} {v : Value} {w' : World} {q : Ren}, (∀ cs : Array Bool, builtin b argTypes ty cs (args.map (ev fr)) = (do pure (.value (← s)) : Sem Next)) → s.run P w = .ok v w' → RV q g v → RH q S' w' → Ch (· = name) p w q w' → S'.df = S.df →
            Oper.wp P ⟨dst, .call ⟨.builtin b, args, argTypes⟩, ty, pos, after, guard⟩ a w N Q := by
          intro s v w' q hb h1 h2 h3 h4 h5
          refine wp_of_value (v := v) (w' := w') ?_ (hN q v w' a.defers h2 h3 (h4.mono fun b hb => .inl hb) (by rw [h5]; exact id))
          rw [ha]
          simp only [execOp, resolve, pure_bind, invoke]
          refine (congrArg (fun s => Sem.run P s w) (hb _)).trans ?_
          exact run_value s v w w' h1
        unfold gBuiltin at hg
        have harr : args.map (ev fr) = (args.toList.map (ev fr)).toArray := (map_toList' _ _).symm
        split at hg
        · rename_i t x hts
          obtain ⟨n, h1, h2⟩ := Option.map_eq_some_iff.1 hg
          cases h2
          have hat : argTypes = #[t] := by cases argTypes; simp_all
          subst hat
          generalize hl : args.toList.map (ev fr) = vs at hargs harr
          match vs, hargs, harr with
          | [v], hargs, harr =>
            exact bi (fun _ => rfl) (by rw [harr]; exact len_ok h h1 hargs.1) rfl h (Ch.refl _ _ _) rfl
        · rename_i t t2 x y hts
          have hat : argTypes = #[t, t2] := by cases argTypes; simp_all
          subst hat
          generalize hl : args.toList.map (ev fr) = vs at hargs harr
          match vs, hargs, harr with
          | [v, u], hargs, harr =>
            obtain ⟨q, v', w', h1, h2, h3, h4⟩ := append_ok (P := P) (ty := ty) h hg hargs.1 hargs.2.1 hn hx
            exact bi (fun _ => rfl) (by rw [harr]; exact h1) h2 h3 h4 (append_df hg)
        · rename_i t x hts
          have hat : argTypes = #[t] := by cases argTypes; simp_all
          subst hat
          generalize hl : args.toList.map (ev fr) = vs at hargs harr
          match vs, hargs, harr with
          | [v], hargs, harr =>
            obtain ⟨v', w', h1, h2, h3, h4⟩ := clear_ok (P := P) (ty := ty) h hg hargs.1
            exact bi (fun _ => rfl) (by rw [harr]; exact h1) h2 h3 (h4.mono fun b hb => hb.elim) (clear_df hg)
        · rename_i x l
          obtain ⟨v0, h1, h2⟩ := Option.map_eq_some_iff.1 hg
          cases h2
          obtain ⟨v', h3, h4⟩ := max_ok (P := P) (ts := argTypes) (ty := ty) h1 hargs w
          exact bi (fun _ => rfl) (by rw [harr]; exact h3) h4 h (Ch.refl _ _ _) rfl
        · cases hg
      · cases hg
    · cases hg
  all_goals (cases hg)
end Go.E
