
/- What the run by values gives, the model gives: regions in any order. No condition. -/
import Derived.Test.YtlgdhajakblkaaaGreatDoorU
set_option linter.unusedVariables false
set_option linter.unusedSimpArgs false
namespace Go.E
open Go Go.V
theorem gcb_eq : ∀ (c d : GC), gcb c d = true → c = d
  | .kn c, .kn d, h => by rw [Nat.eq_of_beq_eq_true h]
  | .op c, .op d, h => by rw [Nat.eq_of_beq_eq_true h]
  | .kn _, .op _, h => by cases h
  | .op _, .kn _, h => by cases h
mutual
theorem GV.beq_eq : ∀ (x y : GV), GV.beq x y = true → x = y
  | .bool a, y, h => by cases y <;> simp only [GV.beq] at h <;> first | (cases h; done) | (rw [eq_of_beq h])
  | .int k a, y, h => by
    cases y <;> simp only [GV.beq] at h <;> first | (cases h; done) | skip
    split at h
    · rename_i e
      rw [of_decide_eq_true e, of_decide_eq_true h]
    · cases h
  | .str s, y, h => by cases y <;> simp only [GV.beq] at h <;> first | (cases h; done) | (rw [of_decide_eq_true h])
  | .nilp, y, h => by cases y <;> simp only [GV.beq] at h <;> first | (cases h; done) | rfl
  | .ptr b i, y, h => by
    cases y <;> simp only [GV.beq] at h <;> first | (cases h; done) | skip
    simp only [Bool.and_eq_true] at h
    rw [Nat.eq_of_beq_eq_true h.1, Nat.eq_of_beq_eq_true h.2]
  | .nils, y, h => by cases y <;> simp only [GV.beq] at h <;> first | (cases h; done) | rfl
  | .sl b i l c, y, h => by
    cases y <;> simp only [GV.beq] at h <;> first | (cases h; done) | skip
    simp only [Bool.and_eq_true] at h
    rw [Nat.eq_of_beq_eq_true h.1.1.1, Nat.eq_of_beq_eq_true h.1.1.2, Nat.eq_of_beq_eq_true h.1.2, gcb_eq _ _ h.2]
  | .sle, y, h => by cases y <;> simp only [GV.beq] at h <;> first | (cases h; done) | rfl
  | .nilm, y, h => by cases y <;> simp only [GV.beq] at h <;> first | (cases h; done) | rfl
  | .map b, y, h => by cases y <;> simp only [GV.beq] at h <;> first | (cases h; done) | (rw [Nat.eq_of_beq_eq_true h])
  | .nilf, y, h => by cases y <;> simp only [GV.beq] at h <;> first | (cases h; done) | rfl
  | .func f a c, y, h => by
    cases y <;> simp only [GV.beq] at h <;> first | (cases h; done) | skip
    simp only [Bool.and_eq_true] at h
    rw [Nat.eq_of_beq_eq_true h.1.1, beqs_eq _ _ h.1.2, beqs_eq _ _ h.2]
  | .agg l, y, h => by cases y <;> simp only [GV.beq] at h <;> first | (cases h; done) | (rw [beqs_eq _ _ h])
  | .tup l, y, h => by cases y <;> simp only [GV.beq] at h <;> first | (cases h; done) | (rw [beqs_eq _ _ h])
theorem beqs_eq : ∀ (l m : List GV), beqs l m = true → l = m
  | [], [], _ => rfl
  | x :: l, y :: m, h => by
    simp only [beqs, Bool.and_eq_true] at h
    rw [GV.beq_eq x y h.1, beqs_eq l m h.2]
  | [], _ :: _, h => by cases h
  | _ :: _, [], h => by cases h
end
theorem beqB_eq : ∀ (a b : Option GB), beqB a b = true → a = b
  | none, none, _ => rfl
  | some (.cells a), some (.cells b), h => by rw [beqs_eq a b h]
  | some (.map []), some (.map []), _ => rfl
  | none, some _, h => by cases h
  | some (.cells _), none, h => by cases h
  | some (.cells _), some (.map _), h => by cases h
  | some (.map []), none, h => by cases h
  | some (.map (_ :: _)), none, h => by cases h
  | some (.map []), some (.cells _), h => by cases h
  | some (.map (_ :: _)), some (.cells _), h => by cases h
  | some (.map []), some (.map (_ :: _)), h => by cases h
  | some (.map (_ :: _)), some (.map _), h => by cases h
theorem hasN_iff {l : List Nat} {i : Nat} : hasN l i = true ↔ i ∈ l := by
  unfold hasN
  rw [List.any_eq_true]
  constructor
  · rintro ⟨x, hx, h⟩
    rw [Nat.eq_of_beq_eq_true h]; exact hx
  · intro h
    exact ⟨i, h, by simp⟩
theorem hasN_cons {l : List Nat} {i j : Nat} : hasN (j :: l) i = true ↔ i = j ∨ hasN l i = true := by rw [hasN_iff, hasN_iff, List.mem_cons]
def LooseOK (op : GO) (ops : Array Oper) (base : Nat) (f : GF) (S : St) (i : Nat) : Prop := ∃ o, ops[i]? = some o ∧ freeD ops i o = true ∧
  ((wantG ops.toList o f = some true ∧ op.fl o f = true ∧ ∃ v S', op.run (base + i) o f S = some (v, S') ∧ (S'.h.get (base + i) = S.h.get (base + i) ∧ S'.ow.get (base + i) = S.ow.get (base + i)) ∧ ∀ d, o.dst = some d → ∀ u, f.get d = some u → u = v) ∨
    (wantG ops.toList o f = some false ∧ ∀ d, o.dst = some d → ∀ u, f.get d = some u → u = .tup []))
inductive RegD (op : GO) (n : Nat) (ops : Array Oper) (base : Nat) (f' : GF) (S' : St) : List (Nat × Oper) → List Nat → List Nat → GF → St → Prop where
  | fin {done loose : List Nat} : (∀ i, hasN loose i = true → LooseOK op ops base f' S' i) → RegD op n ops base f' S' [] done loose f' S'
  | flt {rem : List (Nat × Oper)} {done loose : List Nat} {f f1 : GF} {S S1 : St} {i : Nat} {o : Oper} : (i, o) ∈ rem → (depsDone o done && isFl op ops i o f) = true → stepG op n ops.toList base i o f S = some (f1, S1) →
      RegD op n ops base f' S' (rem.filter fun p => !(Nat.beq p.1 i)) (i :: done) (i :: loose) f1 S1 → RegD op n ops base f' S' rem done loose f S
  | mov {rem : List (Nat × Oper)} {done loose : List Nat} {f f1 : GF} {S S1 : St} {i : Nat} {o : Oper} : (∀ i, hasN loose i = true → LooseOK op ops base f S i) → rem.filter (fun p => depsDone p.2 done) = [(i, o)] → stepG op n ops.toList base i o f S = some (f1, S1) →
      RegD op n ops base f' S' (rem.filter fun p => !(Nat.beq p.1 i)) (i :: done) (loose.filter fun j => !(depn ops 8 i j)) f1 S1 → RegD op n ops base f' S' rem done loose f S
theorem noneB_eq {α : Type} {x : Option α} (h : noneB x = true) : x = none := by cases x with | none => rfl | some _ => cases h
theorem checkL_ok {op : GO} {ops : Array Oper} {base : Nat} {f : GF} {S : St} {i : Nat} (h : checkL op ops base f S i = true) : LooseOK op ops base f S i := by
  unfold checkL at h
  split at h
  · cases h
  · rename_i o ho
    simp only [Bool.and_eq_true] at h
    refine ⟨o, ho, h.1, ?_⟩
    have h2 := h.2
    split at h2
    · rename_i hw
      simp only [Bool.and_eq_true] at h2
      obtain ⟨hfl, h3⟩ := h2
      split at h3
      · rename_i v S' hg
        simp only [Bool.and_eq_true] at h3
        refine .inl ⟨hw, hfl, v, S', hg, ⟨beqB_eq _ _ h3.1.1.1, by rw [noneB_eq h3.1.1.2, noneB_eq h3.1.2]⟩, fun d hd u hu => ?_⟩
        have h4 := h3.2
        rw [hd] at h4
        simp only [hu] at h4
        exact (GV.beq_eq _ _ h4).symm
      · cases h3
    · rename_i hw
      refine .inr ⟨hw, fun d hd u hu => ?_⟩
      rw [hd] at h2
      simp only [hu] at h2
      exact (GV.beq_eq _ _ h2).symm
    · cases h2
theorem filt_ne {l : List (Nat × Oper)} {i : Nat} (h : ∀ x ∈ l, x.1 ≠ i) : l.filter (fun p => !(Nat.beq p.1 i)) = l := List.filter_eq_self.2 fun x hx => by simp [beq_ne (h x hx)]
theorem satG_d {op : GO} {n base : Nat} {ops : Array Oper} {f' : GF} {S' : St} : ∀ (l pre : List (Nat × Oper)) {rem : List (Nat × Oper)} {done done' loose loose' : List Nat} {f f1 : GF} {S S1 : St},
    satG op n ops base l done loose f S = some (rem, done', loose', f1, S1) → ((pre ++ l).map (·.1)).Nodup → RegD op n ops base f' S' (pre ++ rem) done' loose' f1 S1 → RegD op n ops base f' S' (pre ++ l) done loose f S
  | [], pre, rem, done, done', loose, loose', f, f1, S, S1, h, _, hd => by cases h; exact hd
  | (i, o) :: l, pre, rem, done, done', loose, loose', f, f1, S, S1, h, hnd, hd => by
    unfold satG at h
    split at h
    · rename_i hc
      split at h
      · rename_i f2 S2 hst
        rw [List.map_append, List.map_cons] at hnd
        have hnd' := List.nodup_append.1 hnd
        have hi := List.nodup_cons.1 hnd'.2.1
        have e : (pre ++ (i, o) :: l).filter (fun p => !(Nat.beq p.1 i)) = pre ++ l := by
          rw [List.filter_append, List.filter_cons_of_neg (by simp), filt_ne (fun x hx e => ?_), filt_ne (fun x hx e => ?_)]
          · exact hi.1 (List.mem_map.2 ⟨x, hx, e⟩)
          · exact hnd'.2.2 x.1 (List.mem_map.2 ⟨x, hx, rfl⟩) i (by simp) e
        refine .flt (i := i) (o := o) (by simp) hc hst ?_
        rw [e]
        refine satG_d l pre h ?_ hd
        rw [List.map_append]
        exact hnd.sublist (List.Sublist.append (List.Sublist.refl _) (List.sublist_cons_self _ _))
      · cases h
    · split at h
      · rename_i rem1 r hr
        cases h
        have := satG_d l (pre ++ [(i, o)]) hr (by simpa using hnd) (by simpa using hd)
        simpa using this
      · cases h
theorem satG_nd {op : GO} {n base : Nat} {ops : Array Oper} : ∀ (l : List (Nat × Oper)) {rem : List (Nat × Oper)} {done done' loose loose' : List Nat} {f f1 : GF} {S S1 : St}, satG op n ops base l done loose f S = some (rem, done', loose', f1, S1) → rem.Sublist l
  | [], rem, done, done', loose, loose', f, f1, S, S1, h => by cases h; exact List.Sublist.refl _
  | (i, o) :: l, rem, done, done', loose, loose', f, f1, S, S1, h => by
    unfold satG at h
    split at h
    · split at h
      · exact (satG_nd l h).cons _
      · cases h
    · split at h
      · rename_i hr
        cases h
        exact (satG_nd l hr).cons_cons _
      · cases h
theorem regG_d {op : GO} {n base : Nat} {ops : Array Oper} {f' : GF} {S' : St} : ∀ (k : Nat) {rem : List (Nat × Oper)} {done loose : List Nat} {f : GF} {S : St}, regG op n ops base k rem done loose f S = some (f', S') → (rem.map (·.1)).Nodup → RegD op n ops base f' S' rem done loose f S
  | 0, rem, done, loose, f, S, h, _ => by cases h
  | k + 1, rem, done, loose, f, S, h, hnd => by
    unfold regG at h
    split at h
    · rename_i rem1 done1 loose1 f1 S1 hsat
      split at h
      · cases h
      · rename_i hall
        have hck : ∀ j, hasN loose1 j = true → LooseOK op ops base f1 S1 j := fun j hj => checkL_ok (List.all_eq_true.1 hall j (hasN_iff.1 hj))
        refine satG_d rem [] hsat hnd ?_
        simp only [List.nil_append]
        have hnd1 : (rem1.map (·.1)).Nodup := hnd.sublist ((satG_nd _ hsat).map _)
        split at h
        · split at h
          · cases h; exact .fin hck
          · cases h
        · rename_i m o hfe
          split at h
          · rename_i f2 S2 hst
            exact .mov hck hfe hst (regG_d k h (hnd1.sublist (List.filter_sublist.map _)))
          · cases h
        · cases h
    · cases h
structure RInv (ops : Array Oper) (n base : Nat) (p0 : Ren) (w0 : World) (done loose : List Nat) (f : GF) (S : St) (D : Array Bool) (p : Ren) (a : Act) (fr : Fr) (w : World) : Prop where
  ra : RA n a fr
  cl : Closed ops D
  sz : D.size = ops.size
  sub : ∀ i, D.getD i false = true → hasN done i = true
  sup : ∀ i, hasN done i = true → D.getD i false = true ∨ hasN loose i = true
  ls : ∀ i, hasN loose i = true → hasN done i = true
  slot : ∀ t, (∀ i o, hasN loose i = true → D.getD i false = false → ops[i]? = some o → o.dst ≠ some t) → ∀ g, f.get t = some g → RV p g (fr t)
  rh : RH p S w
  nm : ∀ i, i < ops.size → D.getD i false = false → Free p (base + i)
  df : DF a.defers S.df
  ch : Ch (fun b => base ≤ b ∧ b < S.nx) p0 w0 p w
  bn : base + ops.size ≤ S.nx
theorem getD_false {D : Array Bool} {i : Nat} (h : D.getD i true = false) : i < D.size ∧ D.getD i false = false := by
  rcases Nat.lt_or_ge i D.size with h' | h'
  · refine ⟨h', ?_⟩
    simp [h'] at h ⊢
    exact h
  · simp [Array.getElem?_eq_none h'] at h
theorem getD_true {D : Array Bool} {i : Nat} (h1 : i < D.size) (h : D.getD i false = false) : D.getD i true = false := by
  simp [h1] at h ⊢
  exact h
theorem RInv.reads {ops : Array Oper} {n base : Nat} {p0 : Ren} {w0 : World} {done loose : List Nat} {f : GF} {S : St} {D : Array Bool} {p : Ren} {a : Act} {fr : Fr} {w : World} (h : RInv ops n base p0 w0 done loose f S D p a fr w)
    (hck : ∀ j, hasN loose j = true → ∀ o, ops[j]? = some o → freeD ops j o = true) {i : Nat} {o : Oper} (ho : ops[i]? = some o) (hall : ∀ e ∈ o.after, Region.binds .any e = true → D.getD e.on false = true) {t : Nat} (ht : t ∈ o.looksAt ops) :
    ∀ g, f.get t = some g → RV p g (fr t) := by
  refine h.slot t fun j oj hj hd hoj hdst => ?_
  have hfr := hck j hj oj hoj
  unfold freeD at hfr
  rw [hdst] at hfr
  simp only at hfr
  have hlt : i < ops.size := (Array.getElem?_eq_some_iff.1 ho).1
  have := List.all_eq_true.1 hfr i (List.mem_range.2 hlt)
  rw [ho] at this
  simp only [Bool.or_eq_true, Bool.not_eq_true', Bool.and_eq_true] at this
  rcases this with e | e
  · have hm : (o.looksAt ops).any (Nat.beq t) = true := List.any_eq_true.2 ⟨t, ht, by simp⟩
    rw [hm] at e; cases e
  · have := depn_listed h.cl 8 i e.2 (fun o' ho' => by rw [ho] at ho'; cases ho'; exact hall)
    rw [hd] at this; cases this
theorem looks_op {ops : Array Oper} {o : Oper} {t : Nat} (h : .tmp t ∈ o.op.operands.toList) : t ∈ o.looksAt ops := by
  unfold Oper.looksAt
  rw [List.mem_append]
  exact .inl (List.mem_filterMap.2 ⟨.tmp t, h, rfl⟩)
theorem looks_guard {ops : Array Oper} {o : Oper} {d : Nat} (h : d ∈ guardSlot ops.toList o) : d ∈ o.looksAt ops := by
  unfold Oper.looksAt
  rw [List.mem_append]
  right
  unfold guardSlot at h
  cases hg : o.guard with
  | none => rw [hg] at h; cases h
  | some q =>
    obtain ⟨j, want⟩ := q
    rw [hg] at h
    simpa using h
theorem closed_step {ops : Array Oper} {D : Array Bool} {j : Nat} (h : Closed ops D) (hj : j ∈ Region.ready .any ops D) : Closed ops (D.setIfInBounds j true) := V.Closed.set h hj
theorem count_set {D : Array Bool} {i : Nat} (h1 : i < D.size) (h : D.getD i false = false) : (D.setIfInBounds i true).toList.count false + 1 = D.toList.count false := by
  rw [Array.toList_setIfInBounds, List.count_set (by simpa using h1)]
  have hg : D.toList[i]'(by simpa using h1) = false := by simpa [h1] using h
  rw [hg]
  have : 0 < D.toList.count false := List.count_pos_iff.2 (by rw [← hg]; exact List.getElem_mem _)
  rw [if_pos (by decide), if_neg (by decide)]
  omega
theorem count_zero {D : Array Bool} (h : D.toList.count false = 0) {i : Nat} (h1 : i < D.size) : D.getD i false = true := by
  have := List.count_eq_zero.1 h
  have hm : D.toList[i]'(by simpa using h1) ∈ D.toList := List.getElem_mem _
  simp only [Array.getElem_toList] at hm
  have : D[i] = true := by
    cases hb : D[i] with
    | true => rfl
    | false => rw [hb] at hm; exact absurd hm this
  simp [h1, this]
theorem all_done {ops : Array Oper} {D : Array Bool} (hb : backE ops = true) (hs : D.size = ops.size) (h0 : Region.ready .any ops D = []) : ∀ i, i < ops.size → D.getD i false = true := by
  intro i
  induction i using Nat.strongRecOn with
  | _ i ih =>
    intro hi
    cases hd : D.getD i false with
    | true => rfl
    | false =>
      have ho : ops[i]? = some ops[i] := Array.getElem?_eq_getElem hi
      have hm : i ∈ Region.ready .any ops D := mem_ready.2 ⟨getD_true (by omega) hd, ops[i], ho, fun e he hbi => by
        have h1 := List.all_eq_true.1 hb i (List.mem_range.2 hi)
        rw [ho] at h1
        have h2 := List.all_eq_true.1 h1 e (by simpa using he)
        rw [hbi] at h2
        have h3 : e.on < i := by simpa using h2
        exact ih e.on h3 (by omega)⟩
      rw [h0] at hm
      cases hm
structure RemOK (ops : Array Oper) (rem : List (Nat × Oper)) (done : List Nat) : Prop where
  at_ : ∀ x ∈ rem, ops[x.1]? = some x.2 ∧ hasN done x.1 = false
  nd : (rem.map (·.1)).Nodup
  all : ∀ i o, ops[i]? = some o → hasN done i = true ∨ (i, o) ∈ rem
theorem set_getD {D : Array Bool} {i j : Nat} (h : (D.setIfInBounds i true).getD j false = false) : D.getD j false = false := by
  by_cases e : i = j
  · subst e
    rcases Nat.lt_or_ge i D.size with h' | h'
    · simp [h'] at h
    · simp [Array.getElem?_eq_none h']
  · rwa [getD_set_ne false e] at h
theorem set_self {D : Array Bool} {i : Nat} (h : i < D.size) : (D.setIfInBounds i true).getD i false = true := by simp [h]
theorem set_or {D : Array Bool} {i j : Nat} (h : (D.setIfInBounds i true).getD j false = true) : j = i ∨ D.getD j false = true := by
  by_cases e : i = j
  · exact .inl e.symm
  · rw [getD_set_ne false e] at h; exact .inr h
theorem RInv.loose {P : Program} {op : GO} (hop : OpOK P op) {ops : Array Oper} {n base : Nat} {p0 : Ren} {w0 : World} {done loose : List Nat} {f : GF} {S : St} {D : Array Bool} {p : Ren} {a : Act} {fr : Fr} {w : World} (h : RInv ops n base p0 w0 done loose f S D p a fr w)
    (hck : ∀ j, hasN loose j = true → LooseOK op ops base f S j) (hdst : ∀ (i : Nat) (o : Oper), ops[i]? = some o → ∀ t, o.dst = some t → t < n) {i : Nat} {o : Oper} (ho : ops[i]? = some o) (hi : i ∈ Region.ready .any ops D) (hl : hasN loose i = true) {N : Act → World → Prop} {Q : Exit → Act → World → Prop}
    (hN : ∀ q a' fr' w', RInv ops n base p0 w0 done loose f S (D.setIfInBounds i true) q a' fr' w' → N a' w') : wpOp P ops Q i N a w := by
  obtain ⟨hun, o', ho', hall⟩ := mem_ready.1 hi
  rw [ho] at ho'
  cases ho'
  obtain ⟨hlt, hdf⟩ := getD_false hun
  have hfree : ∀ j, hasN loose j = true → ∀ o, ops[j]? = some o → freeD ops j o = true := fun j hj o hoj => by
    obtain ⟨o2, e1, e2, _⟩ := hck j hj
    rw [hoj] at e1; cases e1; exact e2
  have hsl : ∀ t, t ∈ o.looksAt ops → ∀ g, f.get t = some g → RV p g (fr t) := fun t ht => h.reads hfree ho hall ht
  obtain ⟨o2, ho2, hfr2, hcki⟩ := hck i hl
  rw [ho] at ho2
  cases ho2
  have next : ∀ q u a' w', a'.tmps = (a.put o.dst u).tmps → RH q S w' → Ch (fun b => b = base + i) p w q w' → DF a'.defers S.df → (∀ d, o.dst = some d → ∀ g, f.get d = some g → RV q g u) →
      RInv ops n base p0 w0 done loose f S (D.setIfInBounds i true) q a' (puto fr o.dst u) w' := by
    intro q u a' w' ht hrh hch hdf' hv
    have hra := h.ra.put (d := o.dst) (fun t e => hdst i o ho t e) u
    refine ⟨⟨by rw [ht]; exact hra.size, fun j => by rw [ht]; exact hra.at_ j⟩, closed_step h.cl hi, by rw [Array.size_setIfInBounds]; exact h.sz, fun j hj => ?_, fun j hj => ?_, h.ls, fun t htt g hg => ?_, hrh, fun j hj hd => ?_, hdf', h.ch.trans (hch.mono fun b hb => ?_), h.bn⟩
    · rcases set_or hj with rfl | hj
      · exact h.ls _ hl
      · exact h.sub j hj
    · rcases h.sup j hj with e | e
      · exact .inl (getD_set_true e)
      · exact .inr e
    · rw [puto_get]
      by_cases e : o.dst = some t
      · rw [if_pos e]; exact hv t e g hg
      · rw [if_neg e]
        refine (h.slot t (fun j oj hj hd hoj => ?_) g hg).mono hch.le
        by_cases ej : j = i
        · subst ej; rw [ho] at hoj; cases hoj; exact e
        · exact htt j oj hj (by rw [getD_set_ne false (Ne.symm ej)]; exact hd) hoj
    · have hd' := set_getD hd
      have hne : j ≠ i := fun e => by
        subst e
        rw [set_self (by rw [h.sz]; exact hj)] at hd; cases hd
      refine Classical.byContradiction fun hq => ?_
      rcases hch.new (base + j) hq with e | e
      · exact e (h.nm j hj hd')
      · omega
    · have := h.bn
      have := h.sz
      omega
  unfold wpOp
  rw [ho]
  simp only
  rcases hcki with ⟨hw, hfl, v, S1, hg, hblk, hval⟩ | ⟨hw, hval⟩
  · have hwt := wantG_ok (p := p) h.ra hw (fun d hd => hsl d (looks_guard hd))
    rw [Array.toArray_toList] at hwt
    rw [hwt]
    simp only [if_true]
    obtain ⟨k1, k2, k3⟩ := (hop.keep hg).2 hfl
    refine .inl (hop.sound hg h.ra.eval (.of fun t ht => hsl t (looks_op ht)) h.rh (h.nm i (by have := h.sz; omega) hdf) (by have := h.bn; have := h.sz; omega) fun q u w' ds h1 h2 h3 h4 => ?_)
    refine hN q _ _ w' (next q u _ w' ?_ (h2.congr (fun b _ => ?_) (Nat.le_of_eq k1) fun b _ => ?_) (h3.mono fun b hb => ?_) ?_ fun d hd g hg => ?_)
    · cases o.dst <;> rfl
    · by_cases e : b = base + i
      · subst e; exact hblk.1.symm
      · exact (k3 b e).1.symm
    · by_cases e : b = base + i
      · subst e; exact hblk.2.symm
      · exact (k3 b e).2.symm
    · rcases hb with e | e
      · exact e
      · omega
    · have := h4 h.df
      rw [k2] at this
      cases o.dst <;> exact this
    · rw [hval d hd g hg]; exact h1
  · have hwt := wantG_ok (p := p) h.ra hw (fun d hd => hsl d (looks_guard hd))
    rw [Array.toArray_toList] at hwt
    rw [hwt]
    simp only [Bool.false_eq_true, if_false]
    refine hN p _ _ w (next p undef _ w rfl h.rh (Ch.refl _ _ _) (by cases o.dst <;> exact h.df) fun d hd g hg => ?_)
    rw [hval d hd g hg]
    exact ⟨[], rfl, trivial⟩
theorem flt_inv {P : Program} {op : GO} (hop : OpOK P op) {ops : Array Oper} {n base : Nat} {p0 : Ren} {w0 : World} {rem : List (Nat × Oper)} {done loose : List Nat} {f f1 : GF} {S S1 : St} {i : Nat} {o : Oper} (hrem : RemOK ops rem done) (hm : (i, o) ∈ rem) (hc : (depsDone o done && isFl op ops i o f) = true)
    (hst : stepG op n ops.toList base i o f S = some (f1, S1)) {D : Array Bool} {p : Ren} {a : Act} {fr : Fr} {w : World} (h : RInv ops n base p0 w0 done loose f S D p a fr w) : RInv ops n base p0 w0 (i :: done) (i :: loose) f1 S1 D p a fr w := by
  simp only [Bool.and_eq_true] at hc
  obtain ⟨h1, h2⟩ := hrem.at_ _ hm
  simp only at h1 h2
  have hlt := (Array.getElem?_eq_some_iff.1 h1).1
  have hD : D.getD i false = false := by
    cases hd : D.getD i false with
    | false => rfl
    | true => have := h.sub i hd; rw [h2] at this; cases this
  have hfs : (∀ t, f1.get t = f.get t ∨ o.dst = some t) ∧ (∀ b, (S1.h.get b = S.h.get b ∧ S1.ow.get b = S.ow.get b) ∨ b = base + i) ∧ S1.nx = S.nx ∧ S1.df = S.df := by
    unfold stepG at hst
    have hpu : ∀ {g : GV}, putG n f o.dst g = some f1 → ∀ t, f1.get t = f.get t ∨ o.dst = some t := fun hp t => by
      rw [(putG_spec hp).2]
      by_cases e : o.dst = some t
      · exact .inr e
      · rw [if_neg e]; exact .inl rfl
    split at hst
    · rename_i hw
      have hfl : op.fl o f = true := by
        have := hc.2
        unfold isFl at this
        rw [Bool.and_eq_true, Bool.or_eq_true] at this
        rcases this.2 with e | e
        · exact e
        · rw [hw] at e; cases e
      split at hst
      · rename_i g S2 hg
        obtain ⟨f2, h1, h2⟩ := Option.map_eq_some_iff.1 hst
        cases h2
        obtain ⟨k1, k2, k3⟩ := (hop.keep hg).2 hfl
        exact ⟨hpu h1, fun b => by by_cases e : b = base + i; exact .inr e; exact .inl (k3 b e), k1, k2⟩
      · cases hst
    · obtain ⟨f2, h1, h2⟩ := Option.map_eq_some_iff.1 hst
      cases h2
      exact ⟨hpu h1, fun b => .inl ⟨rfl, rfl⟩, rfl, rfl⟩
    · cases hst
  obtain ⟨a1, a2, a3, a4⟩ := hfs
  have hfree := h.nm i hlt hD
  refine ⟨h.ra, h.cl, h.sz, fun j hj => hasN_cons.2 (.inr (h.sub j hj)), fun j hj => ?_, fun j hj => ?_, fun t ht g hg => ?_, h.rh.congr (fun b hb => ?_) (Nat.le_of_eq a3.symm) (fun b hb => ?_), h.nm, by rw [a4]; exact h.df, by rw [a3]; exact h.ch, by rw [a3]; exact h.bn⟩
  · rcases hasN_cons.1 hj with e | e
    · exact .inr (hasN_cons.2 (.inl e))
    · exact (h.sup j e).imp id fun e => hasN_cons.2 (.inr e)
  · rcases hasN_cons.1 hj with e | e
    · exact hasN_cons.2 (.inl e)
    · exact hasN_cons.2 (.inr (h.ls j e))
  · rcases a1 t with e | e
    · rw [e] at hg
      exact h.slot t (fun j oj hj hd hoj => ht j oj (hasN_cons.2 (.inr hj)) hd hoj) g hg
    · exact absurd e (ht i o (hasN_cons.2 (.inl rfl)) hD h1)
  · rcases a2 b with e | e
    · exact e.1
    · subst e; exact absurd hfree.1 hb
  · rcases a2 b with e | e
    · exact e.2
    · subst e; exact absurd hfree.2 hb
theorem rem_next {ops : Array Oper} {rem : List (Nat × Oper)} {done : List Nat} {i : Nat} (h : RemOK ops rem done) : RemOK ops (rem.filter fun p => !(Nat.beq p.1 i)) (i :: done) := by
  refine ⟨fun x hx => ?_, ?_, fun j oj hj => ?_⟩
  · obtain ⟨x1, x2⟩ := List.mem_filter.1 hx
    obtain ⟨y1, y2⟩ := h.at_ x x1
    refine ⟨y1, ?_⟩
    cases hbb : hasN (i :: done) x.1 with
    | false => rfl
    | true =>
      rcases hasN_cons.1 hbb with e | e
      · rw [e] at x2; simp at x2
      · rw [y2] at e; cases e
  · exact List.Nodup.sublist (List.Sublist.map _ List.filter_sublist) h.nd
  · rcases h.all j oj hj with e | e
    · exact .inl (hasN_cons.2 (.inr e))
    · by_cases ej : j = i
      · exact .inl (hasN_cons.2 (.inl ej))
      · exact .inr (List.mem_filter.2 ⟨e, by simp [beq_ne ej]⟩)
theorem stage_ok {P : Program} {op : GO} (hop : OpOK P op) {n base : Nat} {ops : Array Oper} (hb : backE ops = true) (hdst : ∀ (i : Nat) (o : Oper), ops[i]? = some o → ∀ t, o.dst = some t → t < n) {p0 : Ren} {w0 : World} {QA : Exit → Act → World → Prop} {rem : List (Nat × Oper)} {done loose : List Nat} {f : GF} {S : St}
    (hrem : RemOK ops rem done) (hck : ∀ j, hasN loose j = true → LooseOK op ops base f S j)
    (hend : rem = [] → ∀ D p a fr w, RInv ops n base p0 w0 done loose f S D p a fr w → (∀ i, i < ops.size → D.getD i false = true) → QA .normal a w)
    (hmov : ∀ (i : Nat) (o : Oper), (i, o) ∈ rem.filter (fun p => depsDone p.2 done) → ops[i]? = some o → hasN done i = false → ∀ (fuel : Nat) D p a fr w, RInv ops n base p0 w0 done loose f S D p a fr w → i ∈ Region.ready .any ops D → (∀ e ∈ o.after, Region.binds .any e = true → D.getD e.on false = true) → D.getD i false = false → i < D.size →
      D.toList.count false ≤ fuel + 1 → wpOp P ops QA i (wpAny P .any ops QA fuel (D.setIfInBounds i true)) a w) :
    ∀ (fuel : Nat) (D : Array Bool) (p : Ren) (a : Act) (fr : Fr) (w : World), RInv ops n base p0 w0 done loose f S D p a fr w → D.toList.count false ≤ fuel → wpAny P .any ops QA fuel D a w := by
  have final : ∀ D p a fr w, RInv ops n base p0 w0 done loose f S D p a fr w → (∀ i, i < ops.size → D.getD i false = true) → QA .normal a w := fun D p a fr w hi hD => by
    refine hend ?_ D p a fr w hi hD
    cases hrm : rem with
    | nil => rfl
    | cons x l =>
      obtain ⟨h1, h2⟩ := hrem.at_ x (by rw [hrm]; simp)
      have := hi.sub x.1 (hD _ (Array.getElem?_eq_some_iff.1 h1).1)
      rw [h2] at this; cases this
  intro fuel
  induction fuel with
  | zero =>
    intro D p a fr w hinv hcnt
    have hD : ∀ i, i < ops.size → D.getD i false = true := fun i hi => count_zero (Nat.le_zero.1 hcnt) (by rw [hinv.sz]; exact hi)
    refine ⟨?_, final D p a fr w hinv hD⟩
    cases hrd : Region.ready .any ops D with
    | nil => rfl
    | cons i l =>
      have hm : i ∈ Region.ready .any ops D := by rw [hrd]; simp
      obtain ⟨hun, _⟩ := mem_ready.1 hm
      obtain ⟨h1, h2⟩ := getD_false hun
      rw [hD i (by rw [← hinv.sz]; exact h1)] at h2
      cases h2
  | succ fuel ih =>
    intro D p a fr w hinv hcnt
    refine ⟨fun h0 => final D p a fr w hinv (all_done hb hinv.sz h0), fun i hi => ?_⟩
    obtain ⟨hun, o, ho, hdeps⟩ := mem_ready.1 hi
    obtain ⟨hlt, hdf⟩ := getD_false hun
    have hcs := count_set hlt hdf
    cases hd1 : hasN done i with
    | true =>
      rcases hinv.sup i hd1 with e | e
      · rw [hdf] at e; cases e
      · exact hinv.loose hop hck hdst ho hi e fun q a' fr' w' hq => ih _ q a' fr' w' hq (by omega)
    | false =>
      rcases hrem.all i o ho with e | e
      · rw [hd1] at e; cases e
      · have hdd : depsDone o done = true := List.all_eq_true.2 fun x hx => by
          cases hbi : Region.binds .any x with
          | false => rfl
          | true => rw [hinv.sub x.on (hdeps x (by simpa using hx) hbi)]; rfl
        exact hmov i o (List.mem_filter.2 ⟨e, hdd⟩) ho hd1 fuel D p a fr w hinv hi hdeps hdf hlt (by omega)
theorem regD_ok {P : Program} {op : GO} (hop : OpOK P op) {n base : Nat} {ops : Array Oper} (hb : backE ops = true) (hdo : dstOk n ops.toList = true) {p0 : Ren} {w0 : World} {QA : Exit → Act → World → Prop} {f' : GF} {S' : St}
    (hQ : ∀ q a' fr' w', RA n a' fr' → RF' q f' fr' → RH q S' w' → Ch (fun b => base ≤ b ∧ b < S'.nx) p0 w0 q w' → DF a'.defers S'.df → QA .normal a' w') {rem : List (Nat × Oper)} {done loose : List Nat} {f : GF} {S : St} (hr : RegD op n ops base f' S' rem done loose f S) :
    RemOK ops rem done → ∀ (fuel : Nat) (D : Array Bool) (p : Ren) (a : Act) (fr : Fr) (w : World), RInv ops n base p0 w0 done loose f S D p a fr w → D.toList.count false ≤ fuel → wpAny P .any ops QA fuel D a w := by
  have hdst : ∀ (i : Nat) (o : Oper), ops[i]? = some o → ∀ t, o.dst = some t → t < n := fun i o ho t ht => dstOk_spec hdo (List.mem_of_getElem? (by rw [Array.getElem?_toList]; exact ho)) ht
  induction hr with
  | fin hck =>
    intro hrem
    refine stage_ok hop hb hdst hrem hck (fun _ D p a fr w hi hD => hQ p a fr w hi.ra (fun t g hg => hi.slot t (fun j o hj hd ho => ?_) g hg) hi.rh hi.ch hi.df) fun i o hm => by cases hm
    rw [hD j (Array.getElem?_eq_some_iff.1 ho).1] at hd
    cases hd
  | flt hm hc hst _ ih =>
    intro hrem fuel D p a fr w hinv hcnt
    exact ih (rem_next hrem) fuel D p a fr w (flt_inv hop hrem hm hc hst hinv) hcnt
  | @mov rem done loose f f1 S S1 m om hck hfe hst _ ih =>
    intro hrem
    have ih := ih (rem_next hrem)
    refine stage_ok hop hb hdst hrem hck (fun h0 => by rw [h0] at hfe; cases hfe) fun i o hm ho hd1 fuel D p a fr w hinv1 hi hdeps hdf hlt hcnt => ?_
    rw [hfe] at hm
    simp only [List.mem_singleton, Prod.mk.injEq] at hm
    obtain ⟨rfl, rfl⟩ := hm
    have hfree : ∀ j, hasN loose j = true → ∀ o, ops[j]? = some o → freeD ops j o = true := fun j hj o hoj => by
      obtain ⟨o2, e1, e2, _⟩ := hck j hj
      rw [hoj] at e1; cases e1; exact e2
    have hsl : ∀ t, t ∈ o.looksAt ops → ∀ g, f.get t = some g → RV p g (fr t) := fun t ht => hinv1.reads hfree ho hdeps ht
    have hszs := hinv1.sz
    have hbn := hinv1.bn
    have hmono := stepG_nx hop hst
    have hcs := count_set hlt hdf
    have hnl : hasN loose i = false := by
      cases hb : hasN loose i with
      | false => rfl
      | true => rw [hinv1.ls i hb] at hd1; cases hd1
    have dep : ∀ j, depn ops 8 i j = true → D.getD j false = true := fun j hj => depn_listed hinv1.cl 8 i hj (fun o' ho' => by rw [ho] at ho'; cases ho'; exact hdeps)
    have key := stepG_ok (Q := QA) (N := wpAny P .any ops QA fuel (D.setIfInBounds i true)) hop hst hinv1.ra (.of fun t ht => hsl t (looks_op ht)) (fun d hd => hsl d (looks_guard hd)) hinv1.rh (hinv1.nm i (by omega) hdf) (by omega) hinv1.df
      (fun q g u a' fr' w' k1 k2 k3 k4 k5 k6 k7 => by
        subst k3
        refine ih fuel _ q a' _ w' ⟨k4, closed_step hinv1.cl hi, by rw [Array.size_setIfInBounds]; exact hszs, fun j hj => ?_, fun j hj => ?_, fun j hj => ?_, fun t ht g' hg' => ?_, k5, fun j hj hd => ?_, k7, (hinv1.ch.mono fun b hb => ⟨hb.1, by omega⟩).trans (k6.mono fun b hb => ?_), by omega⟩ (by omega)
        · rcases set_or hj with e | e
          · exact hasN_cons.2 (.inl e)
          · exact hasN_cons.2 (.inr (hinv1.sub j e))
        · rcases hasN_cons.1 hj with e | e
          · subst e; exact .inl (set_self (by omega))
          · rcases hinv1.sup j e with e | e
            · exact .inl (getD_set_true e)
            · cases hdj : depn ops 8 i j with
              | true => exact .inl (getD_set_true (dep j hdj))
              | false => exact .inr (hasN_iff.2 (List.mem_filter.2 ⟨hasN_iff.1 e, by rw [hdj]; rfl⟩))
        · exact hasN_cons.2 (.inr (hinv1.ls j (hasN_iff.2 (List.mem_filter.1 (hasN_iff.1 hj)).1)))
        · rw [(putG_spec k1).2] at hg'
          rw [puto_get]
          by_cases e : o.dst = some t
          · rw [if_pos e] at hg' ⊢; cases hg'; exact k2
          · rw [if_neg e] at hg' ⊢
            refine (hinv1.slot t (fun j oj hj hd hoj => ?_) g' hg').mono k6.le
            have hji : j ≠ i := fun e => by subst e; rw [hnl] at hj; cases hj
            have hdj : depn ops 8 i j = false := by
              cases hdj : depn ops 8 i j with
              | false => rfl
              | true => rw [dep j hdj] at hd; cases hd
            exact ht j oj (hasN_iff.2 (List.mem_filter.2 ⟨hasN_iff.1 hj, by rw [hdj]; rfl⟩)) (by rw [getD_set_ne false (Ne.symm hji)]; exact hd) hoj
        · have hd' := set_getD hd
          have hne : j ≠ i := fun e => by
            subst e
            rw [set_self (by omega)] at hd; cases hd
          refine Classical.byContradiction fun hq => ?_
          rcases k6.new (base + j) hq with e | e
          · exact e (hinv1.nm j hj hd')
          · omega
        · omega)
    unfold wpOp
    rw [ho]
    simp only
    rw [Array.toArray_toList] at key
    split
    · rename_i hw; rw [if_pos hw] at key; exact .inl key
    · rename_i hw; rw [if_neg hw] at key; exact key
end Go.E
