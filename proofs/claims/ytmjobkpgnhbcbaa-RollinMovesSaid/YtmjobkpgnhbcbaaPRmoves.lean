/- Plain law of RollinMoves: the moves and the loads from the real bits. No condition. -/
import Derived.Test.YtmjobkpgnhbcbaaPRloads
import Derived.Test.YtmjobkpgnhbcbaaGRollinMoves
set_option linter.unusedVariables false
set_option linter.unusedSectionVars false
set_option maxRecDepth 100000
namespace Go.Proofs.Ytmjobkpgnhbcbaa
open Go Go.V Go.Proofs

section
variable {items : List Item} {wt S : Int} {codes : List Int} (hg : Good items wt S codes)
include hg

theorem MV39_ok (k1 e : Int) (i : Nat) (hi : i < items.length) (x : Item) (hx : items[i]? = some x) :
    loop (law14_RollinMoves_L39 ((items, wt), k1) (i : Int) (castL (bitsL ((yard items S codes).c i) ((yard items S codes).rd i) S.toNat), e)) (lst (ld (yard items S codes) (lens items) i) S.toNat, 0) =
      some (lst (ld (yard items S codes) (lens items) (i + 1)) S.toNat) := by
  have hln := lens_at hg hx
  have hlr := lens_range hg
  have hlr' := ld_range (yard items S codes) (lens items) hlr i
  have hYS : (yard items S codes).S = S.toNat := rfl
  have hl := hg.job.len
  generalize yard items S codes = Y at *
  have hbl := bitsL_len (Y.c i) (Y.rd i) S.toNat
  obtain ⟨hS0, hS1⟩ := hg.st
  have hmem : ∀ y, y ∈ bitsL (Y.c i) (Y.rd i) S.toNat ↔ y < S.toNat ∧ Y.rd i ≤ y ∧ (Y.c i).testBit y = true := by
    intro y
    simp only [bitsL, List.mem_filter, List.mem_range, Bool.and_eq_true, decide_eq_true_eq]
  have hnd : (bitsL (Y.c i) (Y.rd i) S.toNat).Nodup := List.Nodup.sublist List.filter_sublist List.nodup_range
  generalize bitsL (Y.c i) (Y.rd i) S.toNat = bs at *
  obtain ⟨d, h1, h2⟩ := loop_inv (step := law14_RollinMoves_L39 ((items, wt), k1) (i : Int) (castL bs, e)) (fun s => ∃ j : Nat, j ≤ bs.length ∧ s = (lst (fun p => ld Y (lens items) i p + if p ∈ bs.take j then lens items i else 0) S.toNat, (j : Int)))
    (fun s => bs.length - s.2.toNat) (fun d => d = lst (ld Y (lens items) (i + 1)) S.toNat) (by
    rintro _ ⟨j, hj, rfl⟩
    unfold law14_RollinMoves_L39
    simp only
    by_cases hjl : j < bs.length
    · have hb : bs[j]? = some bs[j] := List.getElem?_eq_getElem hjl
      have hbm := (hmem bs[j]).1 (List.getElem_mem hjl)
      have hta : bs.take (j + 1) = bs.take j ++ [bs[j]] := List.take_succ_eq_append_getElem hjl
      have hni : bs[j] ∉ bs.take j := by
        intro h
        obtain ⟨q, hq, he⟩ := List.getElem_of_mem h
        rw [List.length_take] at hq
        rw [List.getElem_take] at he
        exact (List.pairwise_iff_getElem.1 hnd) q j (by omega) hjl (by omega) he
      rw [if_pos (dpos (by rw [castL_len]; omega)), idx_nat, castL_get, hb]
      simp only [Option.map_some, Option.bind_some]
      rw [idx_nat, lst_get _ hbm.1]
      simp only [Option.bind_some]
      rw [idx_nat, hx]
      simp only [Option.bind_some]
      refine .inl ⟨_, rfl, ⟨j + 1, by omega, ?_⟩, ?_⟩
      · rw [wr_id (n := (j : Int) + 1) (by omega) (by omega), Int.toNat_natCast]
        congr 1
        have h3 := hlr' bs[j]
        have h4 := hlr i
        refine lst_set _ _ _ hbm.1 ?_ (fun p hp => ?_)
        · rw [if_neg hni, if_pos (by rw [hta]; exact List.mem_append_right _ (List.mem_singleton.2 rfl)), ← hln, wr_id (by omega) (by omega)]
          omega
        · congr 1
          rw [hta]
          simp only [List.mem_append, List.mem_singleton, hp, or_false]
      · simp only
        rw [wr_id (n := (j : Int) + 1) (by omega) (by omega)]
        omega
    · rw [if_neg (dneg (by rw [castL_len]; omega))]
      refine .inr ⟨_, rfl, lst_congr fun p hp => ?_⟩
      rw [List.take_of_length_le (by omega)]
      simp only [ld, con]
      rw [if_pos (c := p < Y.S) (by omega)]
      by_cases h : p ∈ bs
      · rw [if_pos h, if_pos ((hmem p).1 h).2]
      · rw [if_neg h, if_neg (fun h2 => h ((hmem p).2 ⟨hp, h2⟩))]) (lst (ld Y (lens items) i) S.toNat, 0) ⟨0, by omega, by
        congr 1
        refine lst_congr fun p _ => ?_
        simp⟩ (by simp; omega)
  rw [h1, h2]

theorem MV30_ok (k1 k2 : Int) : loop (law14_RollinMoves_L30 ((items, wt), k1) ((S, codes), k2)) (0, lst (fun _ => 0) S.toNat, 0) =
    some ((((yard items S codes).moves (S.toNat + 1) : Nat) : Int), lst (ld (yard items S codes) (lens items) items.length) S.toNat) := by
  obtain ⟨hS0, hS1⟩ := hg.st
  have hl := hg.job.len
  have hms := moves_sum hg S.toNat (Nat.le_refl _)
  have hp := pow_le S.toNat (by omega)
  let g : Nat → Nat := fun x => 1 + (bitsL ((yard items S codes).c x) ((yard items S codes).rd x) S.toNat).length
  have hgm : (yard items S codes).moves (S.toNat + 1) = sumN g items.length := by
    rw [hms]
    refine sumN_congr fun x hx => ?_
    rw [if_pos (rounds_le hg x hx)]
  have hgl : ∀ i, sumN g i ≤ 13 * i := by
    intro i
    induction i with
    | zero => simp [sumN]
    | succ i ih =>
      have := bitsL_len ((yard items S codes).c i) ((yard items S codes).rd i) S.toNat
      simp only [sumN, g]
      simp only [g] at ih
      omega
  rw [hgm]
  obtain ⟨d, h1, h2⟩ := loop_inv (step := law14_RollinMoves_L30 ((items, wt), k1) ((S, codes), k2)) (fun s => ∃ i : Nat, i ≤ items.length ∧ s = (((sumN g i : Nat) : Int), lst (ld (yard items S codes) (lens items) i) S.toNat, (i : Int)))
    (fun s => items.length - s.2.2.toNat) (fun d => d = (((sumN g items.length : Nat) : Int), lst (ld (yard items S codes) (lens items) items.length) S.toNat)) (by
    rintro _ ⟨i, hi, rfl⟩
    unfold law14_RollinMoves_L30
    simp only
    by_cases hil : i < items.length
    · obtain ⟨x, c, hx, hc, hgd, ec, hcl, er, et, htr, hn⟩ := item_at hg hil
      have h39 := MV39_ok hg k1 0 i hil x hx
      have hr12 : (yard items S codes).rd i ≤ 12 := by have := hgd.2.2.1; omega
      have hup := bits_up ((yard items S codes).c i) ((yard items S codes).rd i) S.toNat hcl (12 - S.toNat)
      rw [show S.toNat + (12 - S.toNat) = 12 by omega] at hup
      rw [if_pos (dpos (by rw [hg.cl]; omega)), idx_nat, hc]
      simp only [Option.bind_some]
      rw [idx_nat, hx]
      simp only [Option.bind_some]
      rw [ec, er, Real_ok _ _ wt.toNat hr12 (by omega) hn]
      simp only [Option.bind_some]
      rw [hup, h39]
      simp only [Option.bind_some]
      have hbl := bitsL_len ((yard items S codes).c i) ((yard items S codes).rd i) S.toNat
      have h3 := hgl i
      refine .inl ⟨_, rfl, ⟨i + 1, by omega, ?_⟩, ?_⟩
      · rw [castL_len, wr_id (n := 1 + ((bitsL ((yard items S codes).c i) ((yard items S codes).rd i) S.toNat).length : Int)) (by omega) (by omega), wr_id (by omega) (by omega), wr_id (n := (i : Int) + 1) (by omega) (by omega)]
        congr 1
      · simp only
        rw [wr_id (n := (i : Int) + 1) (by omega) (by omega)]
        omega
    · rw [if_neg (dneg (by rw [hg.cl]; omega))]
      exact .inr ⟨_, rfl, by rw [show i = items.length by omega]⟩) (0, lst (fun _ => 0) S.toNat, 0) ⟨0, by omega, by congr 1⟩ (by simp; omega)
  rw [h1, h2]

theorem moves_main (k1 k2 : Int) : (lst (ld (yard items S codes) (lens items) items.length) (S.toNat + trains items)).take S.toNat = lst (ld (yard items S codes) (lens items) items.length) S.toNat := by
  simp only [lst]
  rw [← List.map_take, List.take_range]
  congr 2
  omega
end

theorem RollinMoves_ok (l : List Int) : law14_RollinMoves l = some true := by
  obtain ⟨its, wt, k1, e1, q1, q2, q3, hj, h4⟩ := job_ok l 0 14 (by omega) (by omega)
  obtain ⟨S, codes, k2, e2, q4, q5, hg⟩ := plan_ok l k1 its wt (by omega) hj h4
  obtain ⟨hS0, hS1⟩ := hg.st
  unfold law14_RollinMoves gen_New
  simp only [Option.bind_some]
  rw [e1]
  simp only [Option.bind_some]
  rw [e2]
  simp only [Option.bind_some]
  rw [Run_ok hg]
  simp only [Option.bind_some]
  rw [Loads_ok hg]
  simp only [Option.bind_some]
  rw [if_pos (by omega), lst_zero, MV30_ok hg]
  simp only [Option.bind_some, beq_self_eq_true, if_true]
  have hlen : (lst (ld (yard its S codes) (lens its) its.length) (S.toNat + trains its)).length = S.toNat + trains its := lst_len _ _
  rw [if_pos (dpos (by rw [hlen]; omega)), if_pos (by rw [hlen]; omega)]
  have ed : ((lst (ld (yard its S codes) (lens its) its.length) (S.toNat + trains its)).drop (Int.toNat (0 : Int))).take (Int.toNat S - Int.toNat (0 : Int)) = lst (ld (yard its S codes) (lens its) its.length) S.toNat := by
    show ((lst _ _).drop 0).take (S.toNat - 0) = _
    rw [List.drop_zero, Nat.sub_zero]
    exact moves_main hg 0 0
  rw [ed, ints_ok _ _ (by rw [lst_len]; omega)]
  simp only [Option.bind_some, decide_true, if_true]
  rw [sane14_ok]
  rfl

end Go.Proofs.Ytmjobkpgnhbcbaa
