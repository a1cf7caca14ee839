
/- What the run by values gives, the model gives: operations. No condition. -/
import Derived.Test.YtlgdhajakblkaaaGreatDoorI
import Derived.Laws.Strings2
import Derived.Laws.Slices
import Derived.Laws.BytesString
import Derived.Laws.IdiomStrings
import Derived.Lib.ConvBytes
set_option linter.unusedVariables false
set_option linter.unusedSimpArgs false
namespace Go.E
open Go Go.V
def Giv (P : Program) (N : Nat → Prop) (p : Ren) (w : World) (s : Sem Value) (g : GV) (S' : St) : Prop := ∃ q v w', s.run P w = .ok v w' ∧ RV q g v ∧ RH q S' w' ∧ Ch N p w q w'
theorem Giv.pure {P : Program} {N : Nat → Prop} {p : Ren} {S : St} {w : World} {s : Sem Value} {g : GV} {v : Value} (h : RH p S w) (hr : s.run P w = .ok v w) (hv : RV p g v) : Giv P N p w s g S := ⟨p, v, w, hr, hv, h, Ch.refl _ _ _⟩
theorem run_szOf {P : Program} {t n : Nat} (h : szOf P t = some n) (w : World) : (sizeOf t).run P w = .ok n w := by
  unfold szOf at h
  obtain ⟨i, h1, h2⟩ := Option.map_eq_some_iff.1 h
  simp [sizeOf, typeInfo, h1, h2]
theorem run_aggB {P : Program} {t : Nat} {b : Bool} (h : aggB P t = some b) (w : World) : (isAgg t).run P w = .ok b w := by
  unfold aggB at h
  unfold isAgg
  cases hu : P.underlying t with
  | none => rw [hu] at h; cases h
  | some d =>
    rw [hu] at h
    rw [run_bind, run_underlying hu]
    cases d <;> (cases h; rfl)
theorem elB_spec {P : Program} {t e n : Nat} (h : elB P t = some (e, n)) : P.underlying t = some (.slice e) ∧ ∃ i, P.info? e = some i ∧ i.size = n ∧ i.bytes ≤ 4096 := by
  unfold elB at h
  split at h
  · rename_i e' he
    split at h
    · rename_i i hi
      split at h
      · rename_i hb
        cases h
        exact ⟨he, i, hi, rfl, Nat.le_of_ble_eq_true hb⟩
      · cases h
    · cases h
  · cases h
theorem zeroB_spec {P : Program} {p : Ren} {t : Nat} {z : List GV} (h : zeroB P t = some z) : ∃ i zv, P.info? t = some i ∧ i.zero = some zv ∧ RVs p z zv.cells.toList ∧ ∀ w, (zeroValue t).run P w = .ok zv w := by
  unfold zeroB at h
  split at h
  · rename_i i hi
    split at h
    · rename_i zv hz
      exact ⟨i, zv, hi, hz, ofAts_rv h, fun w => by simp [zeroValue, typeInfo, hi, hz]⟩
    · cases h
  · cases h
theorem part_ok {P : Program} {p : Ren} {t off : Nat} {l : List GV} {vs : List Value} {g : GV} (h : part P t l off = some g) (hv : RVs p l vs) (w : World) : ∃ v, (Go.part t vs.toArray off).run P w = .ok v w ∧ RV p g v := by
  unfold part at h
  split at h
  · rename_i ha
    split at h
    · rename_i n hn
      obtain ⟨m, h1, rfl⟩ := Option.map_eq_some_iff.1 h
      obtain ⟨rfl, h2⟩ := cut_spec h1
      refine ⟨.agg (vs.toArray.extract off (off + n)), ?_, (vs.drop off).take n, ?_, (hv.drop off).take n⟩
      · unfold Go.part
        rw [run_bind, run_aggB ha]
        simp only [if_true, Sem.run_bind, run_szOf hn, Result.andThen_ok, Sem.run_pure]
      · simp [List.extract_eq_take_drop]
    · cases h
  · rename_i ha
    obtain ⟨v, h1, h2⟩ := hv.get h
    refine ⟨v, ?_, h2⟩
    unfold Go.part
    rw [run_bind, run_aggB ha]
    simp [h1]
  · cases h
theorem load_run {P : Program} {p : Ren} {S : St} {w : World} (h : RH p S w) {t b off r base n : Nat} {g : GV} (hl : loadG P t S b off = some g) (hp : p b = some (r, base, n)) :
    ∃ v, (Instr.loadAt t (.pointer (some ⟨r, base + off, none⟩))).run P w = .ok v w ∧ RV p g v := by
  unfold loadG at hl
  split at hl
  · rename_i l hg
    unfold part at hl
    split at hl
    · rename_i ha
      split at hl
      · rename_i k hk
        obtain ⟨m, h1, rfl⟩ := Option.map_eq_some_iff.1 hl
        obtain ⟨vs, h2, h3, h4⟩ := h.cells hp hg h1
        subst h3
        exact ⟨_, reads_agg (Mo := []) (fun w => ⟨run_aggB ha w, run_szOf hk w⟩) h4 (fun _ h => h) w (Ev.refl _ _), vs, rfl, h2⟩
      · cases hl
    · rename_i ha
      obtain ⟨v, h2, h4⟩ := h.cell hp hg hl
      refine ⟨v, ?_, h2⟩
      simp only [Instr.loadAt, Instr.sureAddr]
      show (loadVar t ⟨r, base + off, none⟩).run P w = _
      unfold loadVar
      rw [run_bind, run_aggB ha]
      have := h4.at_ 0 v rfl
      simp only [Nat.add_zero] at this
      simp [Go.load, Sem.run, this]
    · cases hl
  · cases hl
theorem load_ok {P : Program} {N : Nat → Prop} {p : Ren} {S : St} {w : World} (h : RH p S w) {t b off r base n : Nat} {g : GV} (hl : loadG P t S b off = some g) (hp : p b = some (r, base, n)) :
    Giv P N p w (Instr.loadAt t (.pointer (some ⟨r, base + off, none⟩))) g S := by
  obtain ⟨v, h1, h2⟩ := load_run h hl hp
  exact Giv.pure h h1 h2
theorem store_ok {P : Program} {p : Ren} {S S' : St} {w : World} (h : RH p S w) {t b off r base n k : Nat} {x : GV} {v : Value} (hz : szOf P t = some k) (hk : x.ats.length = k) (hs : storeC S b off x.ats = some S') (hp : p b = some (r, base, n)) (hv : RV p x v) :
    ∃ w', (Instr.storeAt t (.pointer (some ⟨r, base + off, none⟩)) v).run P w = .ok () w' ∧ RH p S' w' ∧ Ch (fun _ => False) p w p w' := by
  obtain ⟨w', h1, h2, h3⟩ := h.store (P := P) hp hs hv.ats
  refine ⟨w', ?_, h2, h3⟩
  simp only [Instr.storeAt, Instr.sureAddr]
  show (storeVar t ⟨r, base + off, none⟩ v).run P w = _
  unfold storeVar
  rw [run_bind, run_szOf hz]
  simp only
  rw [if_neg (by have := hv.ats.length; rw [Array.length_toList] at this; omega)]
  exact h1
theorem foldl_set (vs : List Value) : ∀ (k off : Nat) (cs : List Value), off + k + vs.length ≤ cs.length →
    ((vs.zipIdx k).foldl (fun (cs : Array Value) (x : Value × Nat) => cs.setIfInBounds (off + x.2) x.1) cs.toArray) = (cs.take (off + k) ++ (vs ++ cs.drop (off + k + vs.length))).toArray := by
  induction vs with
  | nil => intro k off cs _; simp
  | cons v vs ih =>
    intro k off cs h
    simp only [List.length_cons] at h
    simp only [List.zipIdx_cons, List.foldl_cons, List.setIfInBounds_toArray]
    rw [ih (k + 1) off (cs.set (off + k) v) (by simp; omega)]
    congr 1
    have := list_seg_step cs (off + k) v vs (by omega)
    simp only [List.length_cons, List.append_assoc] at this ⊢
    simpa [Nat.add_assoc] using this
def RVp (p : Ren) : List (Nat × GV) → List (Nat × Value) → Prop
  | [], [] => True
  | (i, g) :: l, (j, v) :: vs => (i = j ∧ RV p g v) ∧ RVp p l vs
  | [], _ :: _ => False
  | _ :: _, [] => False
theorem fill_ok {p : Ren} {place : Nat → Option (Nat × Nat)} : ∀ {l : List (Nat × GV)} {ps : List (Nat × Value)} {cells c : List GV} {vs : List Value}, RVp p l ps → RVs p cells vs → fillG place cells l = some c →
    ∃ us, Instr.fill place vs.toArray ps = some us.toArray ∧ RVs p c us
  | [], [], cells, c, vs, _, hv, h => by cases h; exact ⟨vs, rfl, hv⟩
  | (i, g) :: l, (j, v) :: ps, cells, c, vs, ⟨⟨e, h1⟩, h2⟩, hv, h => by
    subst e
    unfold fillG at h
    unfold Instr.fill
    split at h
    · cases h
    · rename_i off size hpl
      split at h
      · rename_i hsz
        have hsz := Nat.eq_of_beq_eq_true hsz
        split at h
        · rename_i c' hc
          obtain ⟨o1, o2, rfl⟩ := over_spec hc
          have ha := h1.ats
          have hal := ha.length
          rw [Array.length_toList] at hal
          have hvl := hv.length
          have hv' : RVs p (cells.take off ++ (g.ats ++ cells.drop (off + g.ats.length))) (vs.take off ++ (v.cells.toList ++ vs.drop (off + g.ats.length))) := (hv.take off).append (ha.append (hv.drop _))
          obtain ⟨us, h3, h4⟩ := fill_ok h2 hv' h
          refine ⟨us, ?_, h4⟩
          rw [hpl]
          simp only
          rw [if_neg (by simp; omega)]
          rw [← h3]
          congr 1
          have hf := foldl_set v.cells.toList 0 off vs (by rw [Array.length_toList]; omega)
          simp only [Nat.add_zero, Array.length_toList] at hf
          rw [← hal, ← hf, ← Array.foldl_toList, Array.toList_zipIdx]
        · cases h
      · cases h
  | [], _ :: _, _, _, _, h, _, _ => h.elim
  | _ :: _, [], _, _, _, h, _, _ => h.elim
theorem run_map {α β : Type} {P : Program} (f : α → β) (s : Sem α) (w : World) : (f <$> s).run P w = match s.run P w with | .ok a w' => .ok (f a) w' | .halt h w' => .halt h w' := by
  rw [map_eq_pure_bind, run_bind]
  cases s.run P w <;> rfl
theorem fplaces_ok {P : Program} : ∀ {fs : List Field} {pl : List (Nat × Nat)}, fplaces P fs = some pl → ∀ w, (fs.mapM (fun f => do pure (f.offset, ← sizeOf f.type) : Field → Sem (Nat × Nat))).run P w = .ok pl w
  | [], pl, h, w => by cases h; rfl
  | f :: fs, pl, h, w => by
    unfold fplaces at h
    split at h
    · rename_i n hn
      split at h
      · rename_i r hr
        cases h
        rw [List.mapM_cons, run_bind, run_bind, run_szOf hn]
        simp only [Sem.run_pure]
        rw [run_bind, fplaces_ok hr]
        rfl
      · cases h
    · cases h
theorem build_struct {P : Program} {p : Ren} {t : Nat} {z c : List GV} {ps : List (Nat × GV)} {vps : List (Nat × Value)} {fs : Array Field} {pl : List (Nat × Nat)} (hz : zeroB P t = some z) (hp : RVp p ps vps) (hu : P.underlying t = some (.struct fs))
    (hpl : fplaces P fs.toList = some pl) (hf : fillG (fun i => pl[i]?) z ps = some c) (w : World) : ∃ v, (Instr.build t vps.toArray).run P w = .ok v w ∧ RV p (.agg c) v := by
  obtain ⟨i, zv, h1, h2, h3, h4⟩ := zeroB_spec (p := p) hz
  obtain ⟨us, h5, h6⟩ := fill_ok hp h3 hf
  refine ⟨.agg us.toArray, ?_, us, rfl, h6⟩
  unfold Instr.build
  rw [run_bind, h4]
  simp only
  rw [run_bind, run_underlying hu]
  simp only
  have hm : (fs.mapM (fun f => do pure (f.offset, ← sizeOf f.type) : Field → Sem (Nat × Nat))).run P w = .ok pl.toArray w := by
    obtain ⟨l⟩ := fs
    rw [List.mapM_toArray, run_map, fplaces_ok hpl]
  rw [run_bind, hm]
  simp only
  have e : (fun (x : Nat) => pl.toArray[x]?) = fun i => pl[i]? := by funext i; simp
  rw [e]
  simp only [Array.toArray_toList] at h5
  rw [h5]
  rfl
theorem build_array {P : Program} {p : Ren} {t e m n : Nat} {z c : List GV} {ps : List (Nat × GV)} {vps : List (Nat × Value)} (hz : zeroB P t = some z) (hp : RVp p ps vps) (hu : P.underlying t = some (.array m e))
    (hn : szOf P e = some n) (hf : fillG (fun i => some (i * n, n)) z ps = some c) (w : World) : ∃ v, (Instr.build t vps.toArray).run P w = .ok v w ∧ RV p (.agg c) v := by
  obtain ⟨i, zv, h1, h2, h3, h4⟩ := zeroB_spec (p := p) hz
  obtain ⟨us, h5, h6⟩ := fill_ok hp h3 hf
  refine ⟨.agg us.toArray, ?_, us, rfl, h6⟩
  unfold Instr.build
  rw [run_bind, h4]
  simp only
  rw [run_bind, run_underlying hu]
  simp only
  rw [run_bind, run_szOf hn]
  simp only [Array.toArray_toList] at h5 ⊢
  rw [h5]
  rfl
theorem range_rep (zs : List Value) : ∀ (len n : Nat), zs.length = n → (List.range (len * n)).map (fun i => zs.toArray[i % zs.toArray.size]!) = (List.replicate len zs).flatten
  | 0, n, _ => by simp
  | len + 1, n, h => by
    have ih := range_rep zs len n h
    rw [Nat.add_mul, Nat.one_mul, Nat.add_comm, List.range_add, List.map_append, List.map_map, List.replicate_succ, List.flatten_cons]
    congr 1
    · apply List.ext_getElem (by simp [h])
      intro i h1 h2
      simp only [List.size_toArray, List.getElem_map, List.getElem_range]
      rw [Nat.mod_eq_of_lt (by omega)]
      simp [h2]
    · rw [← ih]
      apply List.map_congr_left
      intro i hi
      simp only [Function.comp, List.size_toArray]
      subst h
      rw [Nat.add_mod_left]
theorem rep_ok {p : Ren} {z : List GV} {zs : List Value} (h : RVs p z zs) {n len : Nat} (hn : z.length = n) : RVs p (rep len z) ((Array.range (len * n)).map (fun i => zs.toArray[i % zs.toArray.size]!)).toList := by
  obtain ⟨us, h1, h2⟩ := h.rep len
  have := range_rep zs len n (by rw [h.length, hn])
  rw [Array.toList_map, Array.toList_range, this, ← h2]
  exact h1
theorem rep_zero {z : List GV} {n len : Nat} (hn : z.length = n) (h0 : len * n = 0) : rep len z = [] := by
  induction len with
  | zero => rfl
  | succ k ih =>
    have : n = 0 := by
      rcases Nat.mul_eq_zero.1 h0 with h | h
      · omega
      · exact h
    subst this
    unfold rep
    rw [ih (by simp), List.length_eq_zero_iff.1 hn]
    rfl
theorem buildSlice_run {P : Program} {p : Ren} {w : World} {t e n len : Nat} {z c : List GV} {ps : List (Nat × GV)} {vps : List (Nat × Value)} (hu : P.underlying t = some (.slice e)) (hzz : szOf P e = some n) (hz : zeroB P e = some z) (hl : len * n ≤ 65536) (hzl : z.length = n)
    (hp : RVp p ps vps) (hf : fillG (fun i => some (i * n, n)) (rep len z) ps = some c) :
    ∃ us, RVs p c us ∧ (Instr.buildSlice t len vps.toArray).run P w = .ok (.slice (some ⟨w.heap.size, 0, none⟩) len len) (w.alloc (.cells us.toArray e (0, 0))) := by
  obtain ⟨i', zv, h1, h2, h3, h4⟩ := zeroB_spec (p := p) hz
  have hrun : ∀ zero : Array Value, RVs p (rep len z) ((Array.range (len * n)).map (zero[· % zero.size]!)).toList → ((len * n = 0 ∧ zero = #[]) ∨ (len * n ≠ 0 ∧ zero = zv.cells)) →
      ∃ us, RVs p c us ∧ (Instr.buildSlice t len vps.toArray).run P w = .ok (.slice (some ⟨w.heap.size, 0, none⟩) len len) (w.alloc (.cells us.toArray e (0, 0))) := by
    intro zero hr hz0
    obtain ⟨us, h5, h6⟩ := fill_ok hp hr hf
    refine ⟨us, h6, ?_⟩
    rw [Array.toArray_toList] at h5
    unfold Instr.buildSlice
    rw [run_bind, run_underlying hu]
    simp only
    rw [run_bind, run_szOf hzz]
    simp only
    rw [if_neg (by omega)]
    rcases hz0 with ⟨h0, rfl⟩ | ⟨h0, rfl⟩
    · rw [if_pos h0]
      simp only [pure_bind]
      rw [h5]
      simp only [newRow, run_bind]
      rfl
    · rw [if_neg h0, run_bind, h4]
      simp only [pure_bind]
      rw [h5]
      simp only [newRow, run_bind]
      rfl
  by_cases h0 : len * n = 0
  · refine hrun #[] ?_ (.inl ⟨h0, rfl⟩)
    rw [rep_zero hzl h0, h0]
    simp [RVs]
  · refine hrun zv.cells ?_ (.inr ⟨h0, rfl⟩)
    have := rep_ok h3 hzl (len := len)
    rwa [Array.toArray_toList] at this
theorem buildSlice_ok {P : Program} {p : Ren} {S S' : St} {w : World} (h : RH p S w) {t e n len name : Nat} {z c : List GV} {ps : List (Nat × GV)} {vps : List (Nat × Value)} (hel : elB P t = some (e, n)) (hz : zeroB P e = some z) (hl : len * n ≤ 65536) (hzl : z.length = n)
    (hp : RVp p ps vps) (hf : fillG (fun i => some (i * n, n)) (rep len z) ps = some c) (hS : newB S name c = some S') (hn : Free p name) (hx : name < S.nx) :
    Giv P (· = name) p w (Instr.buildSlice t len vps.toArray) (.sl name 0 len (.kn len)) S' := by
  obtain ⟨hu, i, hi, hsz, hby⟩ := elB_spec hel
  obtain ⟨us, h6, h7⟩ := buildSlice_run (P := P) (w := w) hu (show szOf P e = some n by simp [szOf, hi, hsz]) hz hl hzl hp hf
  obtain ⟨q1, q2⟩ := h.row (ty := e) (fz := (0, 0)) [] hS hn hx h6 (.inl rfl)
  rw [List.append_nil] at q1 q2
  exact ⟨_, .slice (some ⟨w.heap.size, 0, none⟩) len len, _, h7, ⟨w.heap.size, 0, _, len, Ren.set_same _ _ _, rfl, rfl, Nat.le_refl _⟩, q1, q2⟩
theorem makeSlice_ok {P : Program} {p : Ren} {S S' : St} {w : World} (h : RH p S w) {t e n name : Nat} {z : List GV} {k k' : IntKind} {l c : Int} (hel : elB P t = some (e, n)) (hz : zeroB P e = some z) (hl : 0 ≤ l ∧ l ≤ c ∧ c ≤ 65536 ∧ z.length = n)
    (hS : newB S name (rep c.toNat z) = some S') (hn : Free p name) (hx : name < S.nx) :
    Giv P (· = name) p w (Instr.makeSlice t (.int k l) (.int k' c)) (.sl name 0 l.toNat (.kn c.toNat)) S' := by
  obtain ⟨hu, i, hi, hsz, hby⟩ := elB_spec hel
  obtain ⟨i', zv, h1, h2, h3, h4⟩ := zeroB_spec (p := p) hz
  obtain ⟨l0, l1, l2, hzl⟩ := hl
  have hzz : szOf P e = some n := by simp [szOf, hi, hsz]
  have wr : ∀ x : Int, 0 ≤ x → x ≤ 65536 → IntKind.i64.wrap x = x := fun x h0 h1 => by
    have hlt : x < (2 ^ IntKind.i64.bits : Int) := by show x < 18446744073709551616; omega
    have : x % (2 ^ IntKind.i64.bits : Int) = x := Int.emod_eq_of_lt h0 hlt
    simp only [IntKind.wrap, this]
    rw [if_neg]
    show ¬ ((true && decide (x ≥ 9223372036854775808)) = true)
    simp only [Bool.true_and, decide_eq_true_eq]
    omega
  obtain ⟨m, rfl⟩ := Int.eq_ofNat_of_zero_le (show 0 ≤ c by omega)
  obtain ⟨j, rfl⟩ := Int.eq_ofNat_of_zero_le l0
  have hm : m ≤ 65536 := by omega
  have hbm : i.bytes * m ≤ 4096 * 65536 := Nat.mul_le_mul hby hm
  have hmb : m * i.bytes ≤ 268435456 := by rw [Nat.mul_comm]; omega
  have hrow : ∀ zero : Array Value, RVs p (rep m z) ((Array.range (m * n)).map (zero[· % zero.size]!)).toList → ((m * n = 0 ∧ zero = #[]) ∨ (m * n ≠ 0 ∧ zero = zv.cells)) →
      Giv P (· = name) p w (Instr.makeSlice t (.int k j) (.int k' m)) (.sl name 0 j (.kn m)) S' := by
    intro zero hr hz0
    have hS' : newB S name (rep m z) = some S' := by simpa using hS
    obtain ⟨q1, q2⟩ := h.row (ty := e) (fz := (0, 0)) [] hS' hn hx hr (.inl rfl)
    refine ⟨_, .slice (some ⟨w.heap.size, 0, none⟩) j m, _, ?_, ⟨w.heap.size, 0, _, m, Ren.set_same _ _ _, rfl, rfl, by omega⟩, q1, q2⟩
    unfold Instr.makeSlice
    rw [run_bind, run_underlying hu]
    simp only
    have hti : (typeInfo e).run P w = .ok i w := by simp [typeInfo, hi]
    simp only [asInt, asIntOf, pure_bind]
    rw [run_bind, hti]
    simp only
    have e1 : ((i.bytes : Int) * (m : Int) > 2 ^ 48) = False := by
      simp only [eq_iff_iff, iff_false, Int.not_lt]
      have : ((i.bytes * m : Nat) : Int) ≤ 2 ^ 48 := by omega
      simpa using this
    rw [wr m (by omega) (by omega), wr j (by omega) (by omega)]
    have g1 : ¬ ((m : Int) < 0) := by omega
    have g2 : ¬ ((j : Int) < 0) := by omega
    have g3 : ¬ ((j : Int) > (m : Int)) := by omega
    simp only [e1, g1, g2, g3, decide_false, Bool.or_false, Bool.false_eq_true, if_false]
    have hask : (askRoom (m * i.bytes)).run P w = .ok () w := by
      unfold askRoom roomBytes
      rw [if_neg (by omega)]
      rfl
    simp only [Int.toNat_natCast]
    rw [run_bind, hask]
    simp only
    rw [run_bind, run_szOf hzz]
    simp only
    rcases hz0 with ⟨h0, rfl⟩ | ⟨h0, rfl⟩
    · rw [if_pos h0]
      simp only [pure_bind, newRow, run_bind, List.append_nil]
      rfl
    · rw [if_neg h0, run_bind, h4]
      simp only [pure_bind, newRow, run_bind, List.append_nil]
      rfl
  by_cases h0 : m * n = 0
  · refine hrow #[] ?_ (.inl ⟨h0, rfl⟩)
    rw [rep_zero hzl h0, h0]
    simp [RVs]
  · refine hrow zv.cells ?_ (.inr ⟨h0, rfl⟩)
    have := rep_ok h3 hzl (len := m)
    rwa [Array.toArray_toList] at this
theorem alloc_ok {P : Program} {p : Ren} {S S' : St} {w : World} (h : RH p S w) {t name : Nat} {z : List GV} (hz : zeroB P t = some z) (hS : newB S name z = some S') (hn : Free p name) (hx : name < S.nx) :
    Giv P (· = name) p w (Instr.alloc t true (.tuple #[])) (.ptr name 0) S' := by
  obtain ⟨i, zv, h1, h2, h3, h4⟩ := zeroB_spec (p := p) hz
  obtain ⟨q1, q2⟩ := h.row (ty := t) (fz := (0, 0)) [] hS hn hx h3 (.inl rfl)
  refine ⟨_, .pointer (some ⟨w.heap.size, 0, none⟩), _, ?_, ⟨w.heap.size, 0, _, Ren.set_same _ _ _, rfl⟩, q1, q2⟩
  simp only [Instr.alloc]
  rw [run_bind, h4]
  simp only [newVar, newRow, run_bind, List.append_nil, Array.toArray_toList]
  rfl
theorem box_ok {P : Program} {p : Ren} {S S' : St} {w : World} (h : RH p S w) {t name : Nat} {g : GV} {v : Value} (hv : RV p g v) (hS : newB S name g.ats = some S') (hn : Free p name) (hx : name < S.nx) :
    Giv P (· = name) p w (Instr.box t v) (.ptr name 0) S' := by
  obtain ⟨q1, q2⟩ := h.row (ty := t) (fz := (0, 0)) [] hS hn hx hv.ats (.inl rfl)
  refine ⟨_, .pointer (some ⟨w.heap.size, 0, none⟩), _, ?_, ⟨w.heap.size, 0, _, Ren.set_same _ _ _, rfl⟩, q1, q2⟩
  simp only [Instr.box, newVar, newRow, run_bind, List.append_nil, Array.toArray_toList]
  rfl
theorem makeMap_ok {P : Program} {p : Ren} {S S' : St} {w : World} (h : RH p S w) {t name : Nat} (hS : S.put name (some (.map [])) = some S') (hn : Free p name) (hx : name < S.nx) :
    Giv P (· = name) p w (Instr.makeMap t none) (.map name) S' := by
  obtain ⟨q1, q2⟩ := h.new (base := 0) (n := 0) (o := .map #[] 0) hS hn hx fun q hq => ⟨#[], 0, heap_push_new _ _, trivial⟩
  exact ⟨_, .map (some w.heap.size), _, rfl, ⟨w.heap.size, Ren.set_same _ _ _, rfl⟩, q1, q2⟩
end Go.E
