
/- The states and shifts that the laws make; the examples of the chapter. Conditions: those of each theorem. -/
import Derived.Test.YtgeceohdppecgaaPIapply
import Derived.Test.YtgeceohdppecgaaGlaw42made
import Derived.Test.YtgeceohdppecgaaGlaw42shift
import Derived.Test.YtgeceohdppecgaaGlaw42sane
set_option linter.unusedVariables false
set_option linter.unusedSimpArgs false
namespace Go.Proofs.Ytgeceohdppecgaa
open Go Go.V Go.Proofs

theorem sane_ok : law42_sane = some true := by decide +kernel

theorem vw_more {L : List Int} {x y : Int} (h : 0 ≤ y ∧ y < L.length) : vw (L ++ [x]) y.toNat = vw L y.toNat := by rw [vw_app, if_pos (by omega)]
theorem sm_more {L : List Int} {x : Int} : ∀ {r : List Int}, Rg L.length r → sm (L ++ [x]) r = sm L r
  | [], _ => rfl
  | y :: r, hr => by rw [sm_cons, sm_cons, vw_more (hr y List.mem_cons_self), sm_more fun z hz => hr z (List.mem_cons_of_mem _ hz)]
theorem vld_more {T : Trk} {L : List Int} {s : Sta} (h : Vld T L s) {x : Int} (hx : 1 ≤ x ∧ x ≤ 400) (hl : L.length < 192) : Vld T (L ++ [x]) s := by
  obtain ⟨h1, h2, h3, h4, h5, h6, h7⟩ := id h
  have e : (L ++ [x]).length = L.length + 1 := by simp
  refine ⟨h1, h2, by omega, fun n hn => ?_, fun y hy => by have := h5 y hy; omega, h6, fun k row tr hk hr ht => ?_⟩
  · rcases List.mem_append.1 hn with hn | hn
    · exact h4 n hn
    · rw [List.mem_singleton.1 hn]; exact hx
  · obtain ⟨a, b, c⟩ := h7 k row tr hk hr ht
    exact ⟨a, b, by rw [sm_more (vld_rows h row (List.mem_of_getElem? hr)).1]; exact c⟩

def TrkOk (T : Trk) : Prop := ∀ tr ∈ T, 0 ≤ tr.2 ∧ tr.2 ≤ 100000
theorem vld_nil {T : Trk} (h : TrkOk T) (hT : T.length ≤ 24) : Vld T [] (List.replicate T.length []) := by
  refine vld_mk (by simp) hT (by simp) (fun n hn => by cases hn) (fun row hr => ?_) (fun j k r q x hj hk hx hy => ?_) (fun k row tr hk hr ht => ?_)
  · rw [List.eq_of_mem_replicate hr]; exact ⟨(fun x hx => by cases hx), List.nodup_nil⟩
  · have := List.eq_of_mem_replicate (List.mem_of_getElem? hj)
    subst this; cases hx
  · have := List.eq_of_mem_replicate (List.mem_of_getElem? hr)
    subst this
    have := h tr (List.mem_of_getElem? ht)
    exact ⟨this.1, this.2, this.1⟩

theorem made_ok (l : List Int) (k : Int) (hk : 0 ≤ k) (hk2 : k ≤ 1000000000) : ∃ T L s k', law42_made l k = some (T, L, s, k') ∧ Vld T L s ∧ (1 ≤ T.length ∧ T.length ≤ 5) ∧ L.length ≤ 11 ∧ k ≤ k' ∧ k' ≤ k + 30 := by
  unfold law42_made
  obtain ⟨v, h1, v0, v1⟩ := next_ok l k 5 hk (by omega) (by omega) (by omega)
  rw [h1]
  simp only [Option.bind_some]
  rw [wr_id (by omega) (by omega)]
  obtain ⟨d, hd, T, k1, rfl, hT, hTl, hk1⟩ := loop_inv (step := law42_made_L6 l)
    (fun p => ∃ (T : Trk) (e i : Int), p = (e, T, List.replicate T.length [], i) ∧ 0 ≤ i ∧ TrkOk T ∧ (T.length : Int) + i = 1 + v ∧ e = k + 1 + T.length)
    (fun p => p.2.2.2.toNat) (fun d => ∃ (T : Trk) (e : Int), d = (e, T, List.replicate T.length []) ∧ TrkOk T ∧ (T.length : Int) = 1 + v ∧ e = k + 1 + T.length) (by
    rintro _ ⟨T, e, i, rfl, hi, hT, hTl, rfl⟩
    unfold law42_made_L6
    dsimp only
    by_cases c : i > 0
    · obtain ⟨x, hx, hm⟩ := pick_ok l (k + 1 + T.length) [0, 200, 500, 1500, 100000] (by omega) (by omega) (by decide) (by decide)
      have hb : 0 ≤ x ∧ x ≤ 100000 := by
        simp only [List.mem_cons, List.not_mem_nil, or_false] at hm
        omega
      rw [if_pos (dpos c), hx]
      simp only [Option.bind_some]
      rw [if_pos (by simp only [List.length_singleton]; omega), if_pos (by rw [List.length_replicate]; omega), wr_id (by omega) (by omega)]
      refine .inl ⟨_, rfl, ⟨T ++ [([], x)], k + 1 + (T.length : Int) + 1, i - 1, ?_, by omega, ?_, by simp; omega, ?_⟩, by dsimp only; omega⟩
      · rw [List.length_append, List.length_singleton, List.replicate_succ']
      · intro tr ht
        rcases List.mem_append.1 ht with ht | ht
        · exact hT tr ht
        · rw [List.mem_singleton.1 ht]; exact hb
      · rw [List.length_append, List.length_singleton]; omega
    · rw [if_neg (dneg c)]
      exact .inr ⟨_, rfl, T, _, rfl, hT, by omega, rfl⟩) (k + 1, [], [], 1 + v) ⟨[], k + 1, 1 + v, rfl, by omega, (fun _ h => by cases h), by simp, by simp⟩ (by dsimp only; omega)
  rw [hd]
  dsimp only [Option.bind_some]
  subst hk1
  obtain ⟨n, h2, n0, n1⟩ := next_ok l (k + 1 + T.length) 12 (by omega) (by omega) (by omega) (by omega)
  rw [h2]
  simp only [Option.bind_some]
  obtain ⟨d, hd, s, L, e, rfl, hV, hL, he1, he2⟩ := loop_inv (step := law42_made_L26 l T)
    (fun p => ∃ (s : Sta) (L : List Int) (e i : Int), p = (e, s, L, i) ∧ 0 ≤ i ∧ Vld T L s ∧ (L.length : Int) + i = n ∧ e = k + 1 + T.length + 1 + 2 * L.length)
    (fun p => p.2.2.2.toNat) (fun d => ∃ (s : Sta) (L : List Int) (e : Int), d = (e, s, L) ∧ Vld T L s ∧ (L.length : Int) ≤ 11 ∧ k ≤ e ∧ e ≤ k + 30) (by
    rintro _ ⟨s, L, e, i, rfl, hi, hV, hLl, rfl⟩
    unfold law42_made_L26
    dsimp only
    by_cases c : i > 0
    · obtain ⟨w, hw, w0, w1⟩ := next_ok l (k + 1 + T.length + 1 + 2 * L.length) (T.length + 1) (by omega) (by omega) (by omega) (by omega)
      obtain ⟨x, hx, hm⟩ := pick_ok l (k + 1 + T.length + 1 + 2 * L.length + 1) [1, 80, 142, 400] (by omega) (by omega) (by decide) (by decide)
      have hb : 1 ≤ x ∧ x ≤ 400 := by
        simp only [List.mem_cons, List.not_mem_nil, or_false] at hm
        omega
      have hV2 := vld_more hV hb (by omega)
      have hll : (L ++ [x]).length = L.length + 1 := by simp
      rw [if_pos (dpos c), wr_id (by omega) (by omega), hw]
      simp only [Option.bind_some]
      rw [hx]
      simp only [Option.bind_some]
      rw [if_pos (by simp only [List.length_singleton]; omega)]
      by_cases c2 : w < T.length
      · have hsl := hV.1
        have hwl : w.toNat < s.length := by omega
        have hrow := (vld_rows hV _ (List.getElem_mem hwl)).2.2
        rw [if_pos (dpos c2), iget' w0 (by omega)]
        simp only [Option.bind_some]
        rw [if_pos (by simp only [List.length_singleton]; omega)]
        obtain ⟨b, hb, hbV⟩ := rvalid_ok T (L ++ [x]) (s.set w.toNat (s[w.toNat] ++ [(L.length : Int)])) (fun row hr => by
          rcases List.mem_or_eq_of_mem_set hr with hr | rfl
          · have := (vld_rows hV row hr).2.2; omega
          · simp only [List.length_append, List.length_singleton]; omega)
        have hg : idx (s.set w.toNat (s[w.toNat] ++ [(L.length : Int)])) w = some (s[w.toNat] ++ [(L.length : Int)]) := by
          rw [idx_nn _ w0, List.getElem?_set_self hwl]
        rw [hb]
        simp only [Option.bind_some]
        cases b with
        | true =>
          rw [if_neg (by simp), wr_id (by omega) (by omega)]
          exact .inl ⟨_, rfl, ⟨_, _, _, _, rfl, by omega, hbV.1 rfl, by omega, by omega⟩, by dsimp only; omega⟩
        | false =>
          rw [if_pos (show (!false) = true from rfl), hg]
          simp only [Option.bind_some]
          have hlen : ((s[w.toNat] ++ [(L.length : Int)]).length : Int) = (s[w.toNat].length : Int) + 1 := by simp
          rw [hlen, wr_id (by omega) (by omega), if_pos ⟨by omega, by omega⟩, wr_id (by omega) (by omega)]
          refine .inl ⟨_, rfl, ⟨s, L ++ [x], k + 1 + (T.length : Int) + 1 + 2 * (L ++ [x]).length, i - 1, ?_, by omega, hV2, by omega, rfl⟩, by dsimp only; omega⟩
          have e1 : Int.toNat ((s[w.toNat].length : Int) + 1 - 1) = s[w.toNat].length := by omega
          rw [e1, List.take_left, List.set_set, List.set_getElem_self]
          congr 1; omega
      · rw [if_neg (dneg c2), wr_id (by omega) (by omega)]
        exact .inl ⟨_, rfl, ⟨_, _, _, _, rfl, by omega, hV2, by omega, by omega⟩, by dsimp only; omega⟩
    · rw [if_neg (dneg c)]
      exact .inr ⟨_, rfl, _, _, _, rfl, hV, by omega, by omega, by omega⟩) (k + 1 + T.length + 1, List.replicate T.length [], [], n)
    ⟨_, [], _, n, rfl, n0, vld_nil hT (by omega), by simp, by simp⟩ (by dsimp only; omega)
  rw [hd]
  exact ⟨T, L, s, e, rfl, hV, by omega, by omega, he1, he2⟩

theorem shiftlaw_ok (l : List Int) (k : Int) (L : List Int) (s : Sta) (hk : 0 ≤ k) (hk2 : k ≤ 1000000000) (hL : L.length ≤ 192) (hs : s.length ≤ 24) (hr : Sml s) :
    ∃ w f t fr, law42_shift l k L s = some ((w, f, t, fr), k + 5) := by
  unfold law42_shift
  rw [wr_id (by omega) (by omega), wr_id (by omega) (by omega)]
  obtain ⟨w, h1, a1, b1⟩ := next_ok l k (L.length + 1) hk (by omega) (by omega) (by omega)
  obtain ⟨f, h2, a2, b2⟩ := next_ok l (k + 1) (s.length + 1) (by omega) (by omega) (by omega) (by omega)
  obtain ⟨t, h3, a3, b3⟩ := next_ok l (k + 1 + 1) (s.length + 1) (by omega) (by omega) (by omega) (by omega)
  obtain ⟨g, h4, a4, b4⟩ := next_ok l (k + 1 + 1 + 1) 3 (by omega) (by omega) (by omega) (by omega)
  obtain ⟨c, h5, a5, b5⟩ := next_ok l (k + 1 + 1 + 1 + 1) 5 (by omega) (by omega) (by omega) (by omega)
  rw [h1]; simp only [Option.bind_some]
  rw [h2]; simp only [Option.bind_some]
  rw [h3]; simp only [Option.bind_some]
  rw [h4]; simp only [Option.bind_some]
  rw [h5]; simp only [Option.bind_some]
  have ek : k + 1 + 1 + 1 + 1 + 1 = k + 5 := by omega
  rw [ek]
  split
  · rw [(whp_ok hr w).2.1]; exact ⟨_, _, _, _, rfl⟩
  · exact ⟨_, _, _, _, rfl⟩
end Go.Proofs.Ytgeceohdppecgaa
