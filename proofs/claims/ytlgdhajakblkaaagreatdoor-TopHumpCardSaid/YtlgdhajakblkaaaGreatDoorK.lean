
/- What the run by values gives, the model gives: further operations. No condition. -/
import Derived.Test.YtlgdhajakblkaaaGreatDoorJ
import Derived.Laws.StructEq
set_option linter.unusedVariables false
set_option linter.unusedSimpArgs false
namespace Go.E
open Go Go.V
theorem fieldOff_spec {P : Program} {s f o t : Nat} (h : fieldOff P s f = some (o, t)) : ∃ fs fd, P.underlying s = some (.struct fs) ∧ fs[f]? = some fd ∧ fd.offset = o ∧ fd.type = t := by
  unfold fieldOff at h
  split at h
  · rename_i fs hfs
    split at h
    · rename_i fd hfd
      cases h
      exact ⟨fs, fd, hfs, by simpa using hfd, rfl, rfl⟩
    · cases h
  · cases h
theorem fieldAddr_ok {P : Program} {s f o t n : Nat} (h : fieldOff P s f = some (o, t)) (hn : szOf P t = some (n + 1)) (r off : Nat) (w : World) :
    (Instr.fieldAt s (.pointer (some ⟨r, off, none⟩)) f).run P w = .ok (.pointer (some ⟨r, off + o, none⟩)) w := by
  obtain ⟨fs, fd, h1, h2, h3, h4⟩ := fieldOff_spec h
  unfold Instr.fieldAt
  rw [run_bind, run_underlying h1]
  simp only [h2]
  rw [run_bind]
  simp only [Instr.sureAddr, Sem.run_pure]
  rw [run_bind]
  unfold fieldPlace
  rw [run_bind, h4, run_szOf hn]
  simp only [Nat.add_eq_zero_iff, Nat.one_ne_zero, and_false, if_false, Sem.run_pure, h3]
  rw [addr_add rfl]
theorem field_ok {P : Program} {p : Ren} {s f o t : Nat} {l : List GV} {vs : List Value} {g : GV} (h : fieldOff P s f = some (o, t)) (hp : part P t l o = some g) (hv : RVs p l vs) (w : World) :
    ∃ v, (Instr.field s (.agg vs.toArray) f).run P w = .ok v w ∧ RV p g v := by
  obtain ⟨fs, fd, h1, h2, h3, h4⟩ := fieldOff_spec h
  subst h3 h4
  obtain ⟨v, h5, h6⟩ := part_ok hp hv w
  refine ⟨v, ?_, h6⟩
  unfold Instr.field
  rw [run_bind, run_underlying h1]
  simp only [h2]
  rw [run_bind]
  simp only [asAgg, Sem.run_pure]
  exact h5
theorem idxG_spec {i : GV} {len k : Nat} (h : idxG i len = some k) : ∃ q n, i = .int q n ∧ 0 ≤ n ∧ n < len ∧ n.toNat = k := by
  unfold idxG at h
  split at h
  · rename_i q n
    split at h
    · rename_i hc; cases h; exact ⟨q, n, rfl, hc.1, hc.2, rfl⟩
    · cases h
  · cases h
theorem indexAddr_ok {P : Program} {p : Ren} {t : Nat} {x i g : GV} {vx vi : Value} (h : gIndexAddr P t x i = some g) (hx : RV p x vx) (hi : RV p i vi) (w : World) : ∃ v, (Instr.indexAt t vx vi).run P w = .ok v w ∧ RV p g v := by
  unfold gIndexAddr at h
  split at h
  · rename_i e b off len c hu
    split at h
    · rename_i k es hk hes
      cases h
      obtain ⟨q, n, rfl, h0, h1, rfl⟩ := idxG_spec hk
      obtain ⟨r, base, m, cap, h2, rfl, h3⟩ := hx
      have hi : vi = .int q n := hi
      subst hi
      refine ⟨.pointer (some ⟨r, base + (off + n.toNat * es), none⟩), ?_, r, base, m, h2, rfl⟩
      simp only [Instr.indexAt, asIntOf, Sem.run_bind, Sem.run_pure, Result.andThen_ok, run_underlying hu, h0, h1, and_self, if_true, run_szOf hes, addr_add, Nat.add_assoc]
    · cases h
  · cases h
theorem index_ok {P : Program} {p : Ren} {t : Nat} {x i g : GV} {vx vi : Value} (h : gIndex P t x i = some g) (hx : RV p x vx) (hi : RV p i vi) (w : World) : ∃ v, (Instr.index t vx vi).run P w = .ok v w ∧ RV p g v := by
  unfold gIndex at h
  split at h
  · rename_i n e l hu
    split at h
    · rename_i k es hk hes
      obtain ⟨q, m, rfl, h0, h1, rfl⟩ := idxG_spec hk
      obtain ⟨vs, rfl, hv⟩ := hx
      have hi : vi = .int q m := hi
      subst hi
      obtain ⟨v, h2, h3⟩ := part_ok h hv w
      refine ⟨v, ?_, h3⟩
      unfold Instr.index
      simp only [asIntOf, pure_bind]
      rw [run_bind, run_underlying hu]
      simp only [h0, h1, and_self, if_true]
      rw [run_bind, run_szOf hes]
      exact h2
    · cases h
  · rename_i s hu
    split at h
    · rename_i k hk
      split at h
      · rename_i b hb
        cases h
        obtain ⟨q, m, rfl, h0, h1, rfl⟩ := idxG_spec hk
        have hx : vx = Vs s := hx
        subst hx
        have hi : vi = .int q m := hi
        subst hi
        refine ⟨.int .u8 b.toNat, ?_, rfl⟩
        rw [run_index_string w t _ q m hu, dif_pos ⟨h0, h1⟩]
        have h3 : s[m.toNat]'(by omega) = b := by rw [List.getElem?_eq_getElem (by omega)] at hb; exact Option.some.inj hb
        have h4 : (⟨⟨s⟩⟩ : ByteArray)[m.toNat]'(by show m.toNat < s.length; omega) = b := h3
        rw [h4]
      · cases h
    · cases h
  · cases h
theorem bnd_some {P : Program} {p : Ren} {x : GV} {d m k : Nat} {v : Value} (h : bndG (some x) d m = some k) (hv : RV p x v) (c : BoundsCode) (w : World) : k ≤ m ∧ (Instr.sliceBound v m c).run P w = .ok k w := by
  unfold bndG at h
  split at h
  · rename_i e; cases e
  · rename_i q n e
    cases e
    split at h
    · rename_i hc
      cases h
      have hv : v = .int q n := hv
      subst hv
      refine ⟨by omega, ?_⟩
      simp only [Instr.sliceBound, asIntOf, Sem.run_bind, Sem.run_pure, Result.andThen_ok, hc, and_self, if_true]
    · cases h
  · cases h
theorem bnd_none {d m k : Nat} (h : bndG none d m = some k) : k = d ∧ d ≤ m := by
  by_cases hd : d ≤ m
  · simp only [bndG, if_pos hd, Option.some.injEq] at h; exact ⟨h.symm, hd⟩
  · simp only [bndG, if_neg hd] at h; cases h
theorem bnd_mono {x : GV} {d m m' k : Nat} (h : bndG (some x) d m = some k) (hm : m ≤ m') : bndG (some x) d m' = some k ∧ k ≤ m := by
  unfold bndG at h ⊢
  cases x <;> simp only at h ⊢ <;> first | (cases h; done) | skip
  rename_i q n
  by_cases hx : 0 ≤ n ∧ n ≤ m
  · rw [if_pos hx] at h
    cases h
    exact ⟨by rw [if_pos ⟨hx.1, by omega⟩], by omega⟩
  · rw [if_neg hx] at h; cases h
def RO (p : Ren) : Option GV → Option Value → Prop
  | none, none => True
  | some g, some v => RV p g v
  | none, some _ => False
  | some _, none => False
theorem bounds2 {P : Program} {p : Ren} {isS : Bool} {len cap h l kc : Nat} {lo hi : Option GV} {vlo vhi : Option Value} (h1 : bndG hi len kc = some h) (h2 : bndG lo 0 h = some l) (hl : RO p lo vlo) (hh : RO p hi vhi) (hc : kc ≤ cap) (w : World) :
    (Instr.sliceBounds isS len cap vlo vhi none).run P w = .ok (l, h, cap) w ∧ l ≤ h ∧ h ≤ kc := by
  cases hi with
  | none =>
    cases vhi with
    | some _ => exact hh.elim
    | none =>
      obtain ⟨e, e2⟩ := bnd_none h1
      subst e
      cases lo with
      | none =>
        cases vlo with
        | some _ => exact hl.elim
        | none =>
          obtain ⟨e, e3⟩ := bnd_none h2
          subst e
          exact ⟨rfl, e3, e2⟩
      | some x =>
        cases vlo with
        | none => exact hl.elim
        | some v =>
          obtain ⟨k1, k2⟩ := bnd_some (P := P) h2 hl .sliceB w
          refine ⟨?_, k1, e2⟩
          unfold Instr.sliceBounds
          simp only [pure_bind, Option.isSome_none, Bool.false_eq_true, if_false]
          rw [run_bind, k2]
          rfl
  | some y =>
    cases vhi with
    | none => exact hh.elim
    | some u =>
      obtain ⟨e1, e2⟩ := bnd_mono h1 hc
      have k0 := fun c => (bnd_some (P := P) e1 hh c w).2
      cases lo with
      | none =>
        cases vlo with
        | some _ => exact hl.elim
        | none =>
          obtain ⟨e, e3⟩ := bnd_none h2
          subst e
          refine ⟨?_, e3, e2⟩
          unfold Instr.sliceBounds
          simp only [pure_bind]
          rw [run_bind, k0]
          rfl
      | some x =>
        cases vlo with
        | none => exact hl.elim
        | some v =>
          obtain ⟨k1, k2⟩ := bnd_some (P := P) h2 hl .sliceB w
          refine ⟨?_, k1, e2⟩
          unfold Instr.sliceBounds
          simp only [pure_bind, Option.isSome_none, Bool.false_eq_true, if_false]
          rw [run_bind, k0]
          simp only
          rw [run_bind, k2]
          rfl
theorem bounds3 {P : Program} {p : Ren} {isS : Bool} {len cap h l m kc : Nat} {hi mx : GV} {vlo : Option Value} {vhi vmx : Value} {lo : Option GV} (h0 : bndG (some mx) 0 kc = some m) (h1 : bndG (some hi) 0 m = some h) (h2 : bndG lo 0 h = some l) (hl : RO p lo vlo) (hh : RV p hi vhi)
    (hm : RV p mx vmx) (hc : kc ≤ cap) (w : World) : (Instr.sliceBounds isS len cap vlo (some vhi) (some vmx)).run P w = .ok (l, h, m) w ∧ l ≤ h ∧ h ≤ m ∧ m ≤ kc := by
  obtain ⟨e1, e2⟩ := bnd_mono h0 hc
  have k0 := fun c => (bnd_some (P := P) e1 hm c w).2
  obtain ⟨k1, k2⟩ := bnd_some (P := P) h1 hh .slice3B w
  cases lo with
  | none =>
    cases vlo with
    | some _ => exact hl.elim
    | none =>
      obtain ⟨e, e3⟩ := bnd_none h2
      subst e
      refine ⟨?_, e3, k1, e2⟩
      unfold Instr.sliceBounds
      simp only
      rw [run_bind, k0]
      simp only
      rw [run_bind, k2]
      rfl
  | some x =>
    cases vlo with
    | none => exact hl.elim
    | some v =>
      obtain ⟨k3, k4⟩ := bnd_some (P := P) h2 hl .slice3C w
      refine ⟨?_, k3, k1, e2⟩
      unfold Instr.sliceBounds
      simp only [Option.isSome_some, if_true]
      rw [run_bind, k0]
      simp only
      rw [run_bind, k2]
      simp only
      rw [run_bind, k4]
      rfl
theorem slice_nil {P : Program} {t e : Nat} {mx hi lo : Option GV} {p : Ren} {vlo vhi vmx : Option Value} {x1 x2 x3 : Nat} (hu : P.underlying t = some (.slice e)) (h1 : bndG mx 0 0 = some x1) (h2 : bndG hi 0 0 = some x2) (h3 : bndG lo 0 0 = some x3)
    (hmh : mx = none ∨ hi ≠ none) (hl : RO p lo vlo) (hh : RO p hi vhi) (hm : RO p mx vmx) (he : ∃ n, szOf P e = some n) (w : World) : (Instr.sliceAt t (.slice none 0 0) vlo vhi vmx).run P w = .ok (.slice none 0 0) w := by
  obtain ⟨n, he⟩ := he
  have z : ∀ {o : Option GV} {k : Nat}, bndG o 0 0 = some k → k = 0 := by
    intro o k h
    unfold bndG at h
    split at h
    · rw [if_pos (Nat.le_refl _)] at h; cases h; rfl
    · split at h
      · cases h; omega
      · cases h
    · cases h
  have e1 := z h1
  have e2 := z h2
  have e3 := z h3
  subst e1 e2 e3
  have hb : (Instr.sliceBounds true 0 0 vlo vhi vmx).run P w = .ok (0, 0, 0) w := by
    cases mx with
    | none =>
      cases vmx with
      | none => exact (bounds2 (kc := 0) h2 h3 hl hh (Nat.le_refl _) w).1
      | some _ => exact hm.elim
    | some m =>
      cases vmx with
      | none => exact hm.elim
      | some vm =>
        cases hi with
        | none => rcases hmh with h | h; cases h; exact absurd rfl h
        | some hx =>
          cases vhi with
          | none => exact hh.elim
          | some vh => exact (bounds3 (kc := 0) h1 h2 h3 hl hh hm (Nat.le_refl _) w).1
  simp only [Instr.sliceAt, Instr.slice, Sem.run_bind, run_underlying hu, Result.andThen_ok, hb, run_szOf he, Sem.run_pure]
  rfl
theorem slice_run {P : Program} {t e es len cap l h m r off : Nat} {vlo vhi vmx : Option Value} (hu : P.underlying t = some (.slice e)) (he : szOf P e = some es) (w : World) (hb : (Instr.sliceBounds true len cap vlo vhi vmx).run P w = .ok (l, h, m) w) :
    (Instr.sliceAt t (.slice (some ⟨r, off, none⟩) len cap) vlo vhi vmx).run P w = .ok (.slice (some ⟨r, if m = l then off else off + l * es, none⟩) (h - l) (m - l)) w := by
  simp only [Instr.sliceAt, Instr.slice, Sem.run_bind, run_underlying hu, Result.andThen_ok, hb, run_szOf he, Sem.run_pure]
  split
  · rfl
  · simp only [Option.map, addr_add]
theorem RH.known {p : Ren} {S : St} {w : World} (h : RH p S w) {b r base n : Nat} {l : List GV} (hp : p b = some (r, base, n)) (hg : S.h.get b = some (.cells l)) : l.length ≤ n := by
  obtain ⟨cs, ty, fz, h1, h2, h3, vs, h4, h5⟩ := h.at_ b r base n _ hp hg
  have := h5.length_le
  have := h4.length
  simp only [List.length_drop, Array.length_toList] at *
  omega
theorem slice_ok {P : Program} {p : Ren} {S : St} {w : World} (h : RH p S w) {t : Nat} {x g : GV} {lo hi mx : Option GV} {vx : Value} {vlo vhi vmx : Option Value} (hs : gSlice P t S x lo hi mx = some g) (hx : RV p x vx) (hl : RO p lo vlo) (hh : RO p hi vhi) (hm : RO p mx vmx) :
    ∃ v, (Instr.sliceAt t vx vlo vhi vmx).run P w = .ok v w ∧ RV p g v := by
  unfold gSlice at hs
  split at hs
  · -- strings
    rename_i s hu
    have hx : vx = Vs s := hx
    subst hx
    split at hs
    · cases hs
    · split at hs
      · rename_i hb h1
        split at hs
        · rename_i l h2
          cases hs
          cases vmx with
          | some _ => exact hm.elim
          | none =>
            refine ⟨Vs ((s.drop l).take (hb - l)), ?_, rfl⟩
            have hsz : (⟨⟨s⟩⟩ : ByteArray).size = s.length := rfl
            obtain ⟨h3, _⟩ := bounds2 (P := P) (isS := false) h1 h2 hl hh (Nat.le_refl _) w
            have he : ∀ a b, (⟨⟨s⟩⟩ : ByteArray).extract a b = ⟨⟨(s.drop a).take (b - a)⟩⟩ := fun a b => ByteArray.extract_mk s a b
            simp only [Instr.sliceAt, Instr.slice, Sem.run_bind, run_underlying hu, Result.andThen_ok, Option.isSome_none, Bool.false_eq_true, if_false, Sem.run_pure, hsz, h3, he]
        · cases hs
      · cases hs
  · -- nil
    rename_i e hu
    split at hs
    · rename_i x1 x2 x3 h1 h2 h3
      split at hs
      · cases hs
      · rename_i hne
        split at hs
        · rename_i n hn
          cases hs
          have hx : vx = .slice none 0 0 := hx
          subst hx
          refine ⟨.slice none 0 0, slice_nil hu h1 h2 h3 ?_ hl hh hm ⟨n, hn⟩ w, rfl⟩
          cases mx with
          | none => exact .inl rfl
          | some m =>
            cases hi with
            | none => exact absurd rfl (hne m rfl)
            | some _ => exact .inr (by simp)
        · cases hs
    · cases hs
  · -- a capacity that is known
    rename_i e b off len c hu
    obtain ⟨r, base, n, cap, h1, rfl, rfl, h3⟩ := hx
    split at hs
    · cases hs
    · rename_i es hes
      split at hs
      · cases vmx with
        | some _ => exact hm.elim
        | none =>
          split at hs
          · cases hs
          · rename_i hb h4
            split at hs
            · cases hs
            · rename_i l h5
              cases hs
              obtain ⟨h6, h7, h8⟩ := bounds2 (P := P) (isS := true) h4 h5 hl hh (Nat.le_refl _) w
              refine ⟨_, slice_run hu hes w h6, r, base, n, cap - l, h1, ?_, rfl, by omega⟩
              congr 2
              split <;> simp [Nat.add_assoc]
      · cases hs
  · -- a capacity that is not known
    rename_i e b off len es hu
    obtain ⟨r, base, n, cap, h1, rfl, h3, h3'⟩ := hx
    split at hs
    · rename_i es' cs hes hg
      split at hs
      · rename_i hee hpos
        have hee := Nat.eq_of_beq_eq_true hee
        have hpos := Nat.le_of_ble_eq_true hpos
        subst hee
        have hk := h.known h1 hg
        have hkc : (cs.length - off) / es ≤ cap := by
          apply Nat.div_le_of_le_mul
          rw [Nat.mul_comm]; omega
        split at hs
        · rename_i mm
          split at hs
          · cases hs
          · rename_i hh'
            split at hs
            · cases hs
            · rename_i m h4
              split at hs
              · cases hs
              · rename_i hb h5
                split at hs
                · cases hs
                · rename_i l h6
                  cases hs
                  cases vmx with
                  | none => exact hm.elim
                  | some vm =>
                    cases vhi with
                    | none => exact hh.elim
                    | some vh =>
                      obtain ⟨h7, h8, h9, h10⟩ := bounds3 (P := P) (isS := true) (len := len) (cap := cap) h4 h5 h6 hl hh hm hkc w
                      refine ⟨_, slice_run hu hes w h7, r, base, n, m - l, h1, ?_, rfl, by omega⟩
                      congr 2
                      split <;> simp [Nat.add_assoc]
        · cases vmx with
          | some _ => exact hm.elim
          | none =>
            split at hs
            · cases hs
            · rename_i hb h4
              split at hs
              · cases hs
              · rename_i l h5
                obtain ⟨h6, h7, h8⟩ := bounds2 (P := P) (isS := true) h4 h5 hl hh hkc w
                split at hs
                · rename_i hc
                  cases hs
                  refine ⟨_, slice_run hu hes w h6, r, base, n, cap - l, h1, ?_, ?_, by omega⟩
                  · congr 2
                    split
                    · rename_i e0
                      rcases hc with rfl | hc
                      · simp
                      · omega
                    · simp [Nat.add_assoc]
                  · have : (cap - l) * es + l * es = cap * es := by rw [← Nat.add_mul]; congr 1; omega
                    omega
                · split at hs
                  · rename_i e0
                    cases hs
                    refine ⟨_, slice_run hu hes w h6, _, _, by rw [e0, Nat.sub_self]⟩
                  · cases hs
      · cases hs
    · cases hs
  · cases hs
end Go.E
