/- More laws of memory: an append to a cut whose capacity ends with it. Conditions: those of each theorem. -/
import Derived.Test.YtdjadgodphfihaaH
import Derived.ArgAppend
set_option linter.unusedSimpArgs false
set_option linter.unusedVariables false
namespace Go.V
open Go

theorem reads_trunc3 {P : Program} {Mo : List Nat} {α : Type} {t el n : Nat} {w : World} (ht : IsSlice P t el n) (a : Option Addr) (c : Nat) (xs : List α) (i : Int) (h0 : 1 ≤ i) (h1 : i ≤ xs.length) (h2 : xs.length ≤ c) :
    Reads P Mo (Instr.sliceAt t (.slice a xs.length c) none (some (.int .i64 i)) (some (.int .i64 i))) w (.slice a (xs.take i.toNat).length i.toNat) := by
  have this := reads_slice (P := P) (Mo := Mo) (w := w) ht a xs.length c none (some i) (some i) (by simp) (by simp [bound]) (by simp only [bound]; omega) (by simp [bound]) (by simp only [bound]; omega)
  have e1 : (xs.take i.toNat).length = i.toNat := by rw [List.length_take]; omega
  have e2 : ∀ b : Addr, b.add 0 = b := fun b => by simp [Addr.add]
  have b0 : (bound none 0).toNat = 0 := rfl
  have b1 : (bound (some i) c).toNat = i.toNat := rfl
  have b2 : (bound (some i) xs.length).toNat = i.toNat := rfl
  have hv : (Value.slice (if (bound (some i) c).toNat = (bound none 0).toNat then a else a.map (·.add ((bound none 0).toNat * n))) ((bound (some i) xs.length).toNat - (bound none 0).toNat) ((bound (some i) c).toNat - (bound none 0).toNat)) = .slice a (xs.take i.toNat).length i.toNat := by
    rw [b0, b1, b2, e1, if_neg (by omega)]
    cases a <;> simp [e2]
  rw [hv] at this
  exact this

theorem own_appendC {P : Program} {α : Type} {e : Enc α} {t T bytes : Nat} {z : Value} (ht : IsElem P t T e.n bytes z) (ty : TypeId) {w : World} {M M2 : List Nat} {a b : Option Addr} {c d : Nat} {xs ys : List α} (i : Int)
    (h : OwnS e T w M a c xs) (hsub : ∀ x ∈ blk a, x ∈ M) (hy : SlR e w M2 b d ys) (hR : ∀ cs y, e.R w M2 cs y → e.R w M cs y)
    (hl : 1 ≤ i ∧ i ≤ xs.length ∧ 0 < ys.length ∧ (xs.take i.toNat).length + ys.length ≤ 4294967296) :
    ∃ a' c' w', (Builtin.append_ #[t, t] ty [.slice a (xs.take i.toNat).length i.toNat, .slice b ys.length d].toArray).run P w = .ok (.slice a' (xs.take i.toNat ++ ys).length c') w' ∧ Ev (blk a) w w' ∧
      (∀ x ∈ blk a', (x ∈ blk a ∨ w.heap.size ≤ x) ∧ x < w'.heap.size) ∧ (∀ x ∈ blk a', x ∈ blk a ∨ x = w.heap.size) ∧ (∀ M', (∀ x ∈ M', x ∈ M ∨ w.heap.size ≤ x) → OwnS e T w' M' a' c' (xs.take i.toNat ++ ys)) := by
  obtain ⟨h0, h1, hyl, hl⟩ := hl
  obtain ⟨I, hi, hz, hn, hby⟩ := ht.info
  have hpos : 0 < e.n := Nat.le_of_ble_eq_true ht.pos
  have hsm : bytes ≤ 4096 := Nat.le_of_ble_eq_true ht.small
  have hlt : (xs.take i.toNat).length = i.toNat := by rw [List.length_take]; omega
  have hm : ys ≠ [] := List.length_pos_iff.1 hyl
  cases b with
  | none => exact absurd (hy.nil rfl) hm
  | some ad =>
    obtain ⟨news, hnl, hnc, hn1, hnr⟩ := hy.cells hpos hyl
    rcases h with ⟨_, _, rfl⟩ | ⟨g, cur, rfl, hg, q1, q2, q3, q4⟩
    · simp only [List.length_nil] at h1; omega
    · have hbytes : (i.toNat + ys.length) * bytes ≤ 140737488355328 := by
        rw [hlt] at hl
        have := Nat.mul_le_mul hl hsm
        omega
      have hfit : i.toNat * e.n ≤ cur.size := by rw [q3]; exact Nat.mul_le_mul_right _ (by omega)
      have hol : (cur.toList.take (i.toNat * e.n)).length = i.toNat * e.n := by simp; omega
      have holds : ∀ j u, (cur.toList.take (i.toNat * e.n))[j]? = some u → w.cell? ((⟨g, 0, none⟩ : Addr).add j) = some u := by
        intro j u hj
        rw [Addr.add_lit, Nat.zero_add, box_cell hg]
        rw [List.getElem?_take] at hj
        split at hj
        · simpa using hj
        · cases hj
      have h63 : i.toNat + ys.length ≤ maxLen := by unfold maxLen; omega
      obtain ⟨v', w', hr, hown', hgr⟩ := run_append_arg_grows (P := P) w t ty T I z e.n bytes ht.und hi hz hn hby ht.zs hpos ⟨g, 0, none⟩ i.toNat i.toNat (cur.toList.take (i.toNat * e.n)) hol holds ad ys.length d news hnl hnc (by omega) h63 hbytes
      have hr2 := run_append_grow (P := P) w t ty T I z ht.und hi hz ⟨g, 0, none⟩ i.toNat i.toNat (cur.toList.take (i.toNat * e.n)) (by rw [hn]; exact hol) holds ad ys.length d news (by rw [hn]; exact hnl) hnc (by omega) (by omega) (growslice_fits (by omega) (by rw [hby]; exact hbytes))
      have hv : v' = .slice (some ⟨w.heap.size, 0, none⟩) (i.toNat + ys.length) (grownCap w (i.toNat + ys.length) i.toNat T) := by
        rw [hr] at hr2
        injection hr2
      subst hv
      have hev : Ev [] w w' := ⟨hgr.os, hgr.tape, hgr.output, hgr.size, fun k hk _ => hgr.block k hk (by simp)⟩
      rcases hown'.2 with ⟨e0, _⟩ | ⟨g', cap', cur', heq, _, hg', r1, r2, r3, r4⟩
      · cases e0
      · cases heq
        refine ⟨some ⟨w.heap.size, 0, none⟩, _, w', by rw [List.length_append, hlt]; exact hr, hev.sub (by simp), fun x hx => ?_, fun x hx => ?_, fun M' hM' => ?_⟩
        · simp only [blk, List.mem_singleton] at hx
          subst hx
          exact ⟨.inr (Nat.le_refl _), lt_of_heap hg'⟩
        · simp only [blk, List.mem_singleton] at hx
          exact .inr hx
        · have hst : Stp M w M' w' := ⟨hev.sub (by simp), hM'⟩
          refine .inr ⟨w.heap.size, cur', rfl, hg', by rw [List.length_append, hlt]; exact r1, r2, r3, fun j x hx => ?_⟩
          have fin : ∀ (j : Nat) (v : Value), (cur.toList.take (i.toNat * e.n) ++ news)[j]? = some v → cur'[j]? = some v := by
            intro j v hv
            rw [← r4, List.getElem?_take] at hv
            split at hv
            · simpa using hv
            · cases hv
          by_cases hix : j < i.toNat
          · rw [List.getElem?_append_left (by omega), List.getElem?_take, if_pos hix] at hx
            obtain ⟨cs, h5, h6⟩ := q4 j x hx
            refine ⟨cs, e.step h5 hst, fun k v hv => fin _ _ ?_⟩
            have h7 := h6 k v hv
            have hk : k < e.n := by rw [← e.len h5]; exact (List.getElem?_eq_some_iff.1 hv).1
            have hj : j * e.n + k < i.toNat * e.n := by
              have : (j + 1) * e.n ≤ i.toNat * e.n := Nat.mul_le_mul_right _ hix
              rw [Nat.add_mul] at this; omega
            rw [List.getElem?_append_left (by rw [hol]; exact hj), List.getElem?_take, if_pos hj]
            simpa using h7
          · rw [List.getElem?_append_right (by omega), hlt] at hx
            obtain ⟨cs, h5, h6⟩ := hnr _ x hx
            refine ⟨cs, e.step (hR _ _ h5) hst, fun k v hv => fin _ _ ?_⟩
            have h7 := h6 k v hv
            have hle2 : i.toNat * e.n ≤ j * e.n := Nat.mul_le_mul_right _ (by omega)
            rw [List.getElem?_append_right (by omega), hol]
            rw [show j * e.n + k - i.toNat * e.n = (j - i.toNat) * e.n + k by rw [Nat.sub_mul]; omega]
            exact h7
end Go.V
