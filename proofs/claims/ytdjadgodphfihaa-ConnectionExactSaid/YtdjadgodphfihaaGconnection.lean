/- Walks, printed by program: each function returns what the partial function of the same name returns. Conditions: those of each theorem. -/
import Derived.Test.YtdjadgodphfihaaGT
set_option linter.unusedVariables false
set_option linter.unusedSimpArgs false
set_option maxRecDepth 4000
namespace Go.Proofs.Ytdjadgodphfihaa
open Go Go.V Go.Proofs
def connection_in (p0 : Int) (p1 : Int) (p2 : Int) : Option Bool :=
(if (decide (p0 ≥ p1)) = true then
some (decide (p0 ≤ p2))
else
some false)

theorem connection_in_w (p0 : Int) (p1 : Int) (p2 : Int) (r : Bool) (w : World) (h : connection_in p0 p1 p2 = some r) : CallVC Try.prog 25 [Vi p0, Vi p1, Vi p2] w fun v w' => v = .bool r ∧ Ev [] w w' := by
 refine calls_vc hmx Try.func25 (by kernel_rfl) rfl (rs := [.tmp 6]) rfl (by kernel_rfl) (args := [Vi p0, Vi p1, Vi p2]) rfl ?_
 have hev : Ev [] w w := Ev.refl _ _
 have hms : MS w [[]] := ⟨List.pairwise_singleton _ _, fun l hl b hb => by simp only [List.mem_singleton] at hl; subst hl; cases hb⟩
 have hfr : FR w.heap.size [] := FR.nil _
 refine c_sp ?_
 refine x_pure 1 [(6, .bool false)] _ _ _ (by kernel_rfl) ?_
 refine x_ek ?_
 refine c_sp ?_
 refine x_pure 4 [(7, Vi p0), (8, Vi p1), (9, .bool (decide (p0 ≥ p1))), (10, .bool (decide (p0 ≥ p1)))] _ _ _ (by kernel_rfl) ?_
 refine x_split 10 (decide (p0 ≥ p1)) rfl (fun hb => ?_) (fun hb => ?_)
 · replace h := ite_t hb h
   refine x_pure 5 [(11, Vi p0), (12, Vi p2), (13, .bool (decide (p0 ≤ p2))), (14, .bool (decide (p0 ≤ p2))), (6, .bool (decide (p0 ≤ p2)))] _ _ _ (by kernel_rfl) ?_
   refine x_ek ?_
   refine c_ret ?_
   refine r_ret (r_vals [.bool (decide (p0 ≤ p2))] ⟨rfl, trivial⟩ ?_)
   have hx := some_inj h
   subst hx
   exact ⟨rfl, hev⟩
 replace h := ite_f hb h
 refine x_pure 5 [(11, undef), (12, undef), (13, undef), (14, .bool false), (6, .bool false)] _ _ _ (by kernel_rfl) ?_
 refine x_ek ?_
 refine c_ret ?_
 refine r_ret (r_vals [.bool false] ⟨rfl, trivial⟩ ?_)
 have hx := some_inj h
 subst hx
 exact ⟨rfl, hev⟩
def connection_Valid_L5 (p0_2 : List Int) (s : Int) : Option (Step Int (Unit ⊕ Unit)) :=
match s with
| t8__s8_l5 =>
(if (decide (t8__s8_l5 < ((p0_2).length : Int))) = true then
((idx p0_2 t8__s8_l5).bind fun x7 =>
((connection_in x7 0 10080).bind fun x9 =>
(if (!x9) = true then
some (.done (.inl ()))
else
some (.next (IntKind.i64.wrap (t8__s8_l5 + 1))))))
else
some (.done (.inr ())))

def connection_Valid (p0_0 : Int) (p0_1 : Int) (p0_2 : List Int) (p0_3 : Int) (p0_4 : Int) : Option Bool :=
((loop (connection_Valid_L5 p0_2) 0).bind fun d => match d with
| (.inl _) => some false
| (.inr _) => ((connection_in p0_0 0 p0_1).bind fun x11 =>
(if x11 = true then
(if (decide (p0_1 ≤ 10080)) = true then
(if (decide (((p0_2).length : Int) ≤ 96)) = true then
((connection_in p0_3 0 1000000).bind fun x13 =>
(if x13 = true then
((connection_in p0_4 0 1000000).bind fun x15 =>
some x15)
else
some false))
else
some false)
else
some false)
else
some false)))

theorem connection_Valid_w (p0_0 : Int) (p0_1 : Int) (a_p0_2 : Option Addr) (c_p0_2 : Nat) (p0_2 : List Int) (p0_3 : Int) (p0_4 : Int) (r : Bool) (w : World) (M : List Nat) (hms : MS w [M]) (hs_p0_2 : SlR (eInt .i64) w (fl [M]) a_p0_2 c_p0_2 p0_2) (h : connection_Valid p0_0 p0_1 p0_2 p0_3 p0_4 = some r) : CallVC Try.prog 22 [.agg #[Vi p0_0, Vi p0_1, .slice a_p0_2 (p0_2).length c_p0_2, Vi p0_3, Vi p0_4]] w fun v w' => v = .bool r ∧ Ev [] w w' := by
 refine calls_vc hmx Try.func22 (by kernel_rfl) rfl (rs := [.tmp 2]) rfl (by kernel_rfl) (args := [.agg #[Vi p0_0, Vi p0_1, .slice a_p0_2 (p0_2).length c_p0_2, Vi p0_3, Vi p0_4]]) rfl ?_
 have hev : Ev [] w w := Ev.refl _ _
 have hfr : FR w.heap.size [] := FR.nil _
 refine c_sp ?_
 refine x_box (xv := .agg #[Vi p0_0, Vi p0_1, .slice a_p0_2 (p0_2).length c_p0_2, Vi p0_3, Vi p0_4]) rfl rfl rfl (fun b2 w2 hq2 hb2 he2 hz2 => ?_)
 replace hb2 : w2.heap[b2]? = some (.cells #[Vi p0_0, Vi p0_1, .slice a_p0_2 (p0_2).length c_p0_2, Vi p0_3, Vi p0_4] 24 (0, 0)) := hb2
 refine inl1 ?_
 have hst := Stp.box (ls := [M]) he2 hq2
 replace hs_p0_2 := hs_p0_2.step hst
 replace hms := hms.box he2 hq2 hb2
 replace hfr := hfr.box hev.size hq2
 replace hev := hev.ext he2
 refine x_pure 1 [(2, .bool false)] _ _ _ (by kernel_rfl) ?_
 refine x_ek ?_
 refine c_seq ?_
 refine c_sp ?_
 refine x_fieldAddr (xv := Vp b2 0) (Vp b2 2) rfl rfl rfl (reads_field tfld24_2 _ _) ?_
 refine x_load (xv := Vp b2 2) (.slice a_p0_2 (p0_2).length c_p0_2) rfl rfl rfl (reads_box tcell22 hb2 nn 2 _ rfl) ?_
 refine x_len (vs := [.slice a_p0_2 (p0_2).length c_p0_2]) (Vi ((p0_2).length : Int)) rfl rfl rfl (reads_len tsl22 _ _ _ _ _) ?_
 refine x_pure 1 [(8, Vi 0)] _ _ _ (by kernel_rfl) ?_
 refine x_ek ?_
 refine c_block ?_
 obtain ⟨d5, hd5, h5⟩ := bind_some h
 obtain ⟨m5, hd5⟩ := loop_some hd5
 refine c_loop (loop_rule hmx (σ := Nat × Int) (fun s => match s with | (_, t8__s8_l5) => [(1, Vp b2 0), (6, .slice a_p0_2 (p0_2).length c_p0_2), (7, Vi ((p0_2).length : Int)), (8, Vi t8__s8_l5)]) (fun s w' => match s with | (m, t8__s8_l5) => loopN (connection_Valid_L5 p0_2) m t8__s8_l5 = some d5 ∧ Ev [] w w' ∧ MS w' [[b2], M] ∧ FR w.heap.size [[b2]] ∧ SlR (eInt .i64) w' (fl [[b2], M]) a_p0_2 c_p0_2 p0_2 ∧ w'.heap[b2]? = some (.cells #[Vi p0_0, Vi p0_1, .slice a_p0_2 (p0_2).length c_p0_2, Vi p0_3, Vi p0_4] 24 (0, 0))) (fun s => s.1) (m5, 0) ⟨rfl, rfl, rfl, rfl, trivial⟩ ⟨hd5, hev, hms, hfr, hs_p0_2, hb2⟩ ?_)
 rintro ⟨m5, t8__s8_l5⟩ J wl5 ⟨hn5, hev, hms, hfr, hs_p0_2, hb2⟩
 rcases m5 with _ | m5
 · exact (loopN_zero hn5).elim
 obtain ⟨t5, h, hn5⟩ := bind_some hn5
 refine c_sp ?_
 refine x_pure 1 [(9, .bool (decide (t8__s8_l5 < ((p0_2).length : Int))))] _ _ _ (by kernel_rfl) ?_
 refine x_ek ?_
 refine c_norm [(1, Vp b2 0), (6, .slice a_p0_2 (p0_2).length c_p0_2), (7, Vi ((p0_2).length : Int)), (8, Vi t8__s8_l5), (9, .bool (decide (t8__s8_l5 < ((p0_2).length : Int))))] ⟨rfl, rfl, rfl, rfl, rfl, trivial⟩ (fun J => ?_)
 refine c_seq ?_
 refine c_cond (decide (t8__s8_l5 < ((p0_2).length : Int))) rfl (fun hb => ?_) (fun hb => ?_)
 · replace h := ite_t hb h
   refine c_skip ?_
   refine k_then ?_
   refine c_seq ?_
   refine c_block ?_
   refine c_sp ?_
   obtain ⟨x7, hx7, h⟩ := bind_some h
   obtain ⟨ad7, cs7, hr7, hc7, hR⟩ := reads_index (Mo := []) tsl22 hs_p0_2 hx7
   obtain rfl := hR
   refine x_indexAddr (xv := .slice a_p0_2 (p0_2).length c_p0_2) (yv := Vi t8__s8_l5) (.pointer (some ad7)) rfl rfl rfl rfl hr7 ?_
   refine x_load (xv := .pointer (some ad7)) (Vi x7) rfl rfl rfl (reads_cell0 tcell3 hc7 (fun _ h => by cases h)) ?_
   refine x_pure 1 [(4, Vi x7)] _ _ _ (by kernel_rfl) ?_
   refine x_ek ?_
   refine c_sp ?_
   refine x_pure 1 [(12, Vi x7)] _ _ _ (by kernel_rfl) ?_
   obtain ⟨x9, hx, h⟩ := bind_some h
   have hcall := connection_in_w x7 0 10080 _ wl5 hx
   refine x_call 25 #[] #[] [Vi x7, Vi 0, Vi 10080] _ rfl rfl rfl rfl hcall ?_
   rintro v w10 ⟨rfl, he10⟩
   clear hcall hx
   refine inl1 ?_
   have hst := Stp.ext (ls := [[b2], M]) he10
   replace hb2 := he10.box hb2 nn
   replace hs_p0_2 := hs_p0_2.step hst
   replace hms := hms.ev he10
   replace hev := hev.ext he10
   refine x_pure 1 [(14, .bool (!x9))] _ _ _ (by kernel_rfl) ?_
   refine x_ek ?_
   refine c_cond (!x9) rfl (fun hb => ?_) (fun hb => ?_)
   · replace h := ite_t hb h
     refine c_sp ?_
     refine x_pure 1 [(2, .bool false)] _ _ _ (by kernel_rfl) ?_
     refine x_ek ?_
     refine c_ret ?_
     refine k_block_ret ?_
     refine k_then_ret ?_
     have hx := some_inj h
     subst hx
     have hy := some_inj hn5
     subst hy
     replace h := h5
     refine k_then_ret ?_
     refine k_block_ret ?_
     refine k_then_ret ?_
     refine r_ret (r_vals [.bool false] ⟨rfl, trivial⟩ ?_)
     have hx := some_inj h
     subst hx
     have hmr : MS w10 [M] := hms.pick [some 1] _ rfl
     have hsu : ∀ x ∈ fl [M], x ∈ fl [[b2], M] := pick_sub [some 1] _ rfl
     exact ⟨rfl, hev⟩
   replace h := ite_f hb h
   refine c_skip ?_
   refine k_block ?_
   refine k_then ?_
   refine c_plain ?_
   refine x_pure 2 [(15, Vi (IntKind.i64.wrap (t8__s8_l5 + 1))), (8, Vi (IntKind.i64.wrap (t8__s8_l5 + 1)))] _ _ _ (by kernel_rfl) ?_
   refine x_end rfl ?_
   have hx := some_inj h
   subst hx
   exact k_then ⟨(m5, IntKind.i64.wrap (t8__s8_l5 + 1)), ⟨rfl, rfl, rfl, rfl, trivial⟩, ⟨hn5, hev, hms, hfr, hs_p0_2, hb2⟩, Nat.lt_succ_self _⟩
 replace h := ite_f hb h
 refine c_exit ?_
 refine k_then_exit ?_
 have hx := some_inj h
 subst hx
 have hy := some_inj hn5
 subst hy
 replace h := h5
 refine k_then_exit ?_
 refine k_block_in ?_
 refine k_then ?_
 refine c_norm [(1, Vp b2 0)] ⟨rfl, trivial⟩ (fun J => ?_)
 refine c_sp ?_
 refine x_fieldAddr (xv := Vp b2 0) (Vp b2 0) rfl rfl rfl (reads_field tfld24_0 _ _) ?_
 refine x_load (xv := Vp b2 0) (Vi p0_0) rfl rfl rfl (reads_box tcell3 hb2 nn 0 _ rfl) ?_
 refine x_fieldAddr (xv := Vp b2 0) (Vp b2 1) rfl rfl rfl (reads_field tfld24_1 _ _) ?_
 refine x_load (xv := Vp b2 1) (Vi p0_1) rfl rfl rfl (reads_box tcell3 hb2 nn 1 _ rfl) ?_
 obtain ⟨x11, hx, h⟩ := bind_some h
 have hcall := connection_in_w p0_0 0 p0_1 _ wl5 hx
 refine x_call 25 #[] #[] [Vi p0_0, Vi 0, Vi p0_1] _ rfl rfl rfl rfl hcall ?_
 rintro v w12 ⟨rfl, he12⟩
 clear hcall hx
 refine inl1 ?_
 have hst := Stp.ext (ls := [[b2], M]) he12
 replace hb2 := he12.box hb2 nn
 replace hs_p0_2 := hs_p0_2.step hst
 replace hms := hms.ev he12
 replace hev := hev.ext he12
 refine x_pure 1 [(21, .bool x11)] _ _ _ (by kernel_rfl) ?_
 refine x_split 21 x11 rfl (fun hb => ?_) (fun hb => ?_)
 · replace h := ite_t hb h
   refine x_fieldAddr (xv := Vp b2 0) (Vp b2 1) rfl rfl rfl (reads_field tfld24_1 _ _) ?_
   refine x_load (xv := Vp b2 1) (Vi p0_1) rfl rfl rfl (reads_box tcell3 hb2 nn 1 _ rfl) ?_
   refine x_pure 3 [(24, .bool (decide (p0_1 ≤ 10080))), (25, .bool (decide (p0_1 ≤ 10080))), (26, .bool (decide (p0_1 ≤ 10080)))] _ _ _ (by kernel_rfl) ?_
   refine x_split 26 (decide (p0_1 ≤ 10080)) rfl (fun hb => ?_) (fun hb => ?_)
   · replace h := ite_t hb h
     refine x_fieldAddr (xv := Vp b2 0) (Vp b2 2) rfl rfl rfl (reads_field tfld24_2 _ _) ?_
     refine x_load (xv := Vp b2 2) (.slice a_p0_2 (p0_2).length c_p0_2) rfl rfl rfl (reads_box tcell22 hb2 nn 2 _ rfl) ?_
     refine x_len (vs := [.slice a_p0_2 (p0_2).length c_p0_2]) (Vi ((p0_2).length : Int)) rfl rfl rfl (reads_len tsl22 _ _ _ _ _) ?_
     refine x_pure 3 [(30, .bool (decide (((p0_2).length : Int) ≤ 96))), (31, .bool (decide (((p0_2).length : Int) ≤ 96))), (32, .bool (decide (((p0_2).length : Int) ≤ 96)))] _ _ _ (by kernel_rfl) ?_
     refine x_split 32 (decide (((p0_2).length : Int) ≤ 96)) rfl (fun hb => ?_) (fun hb => ?_)
     · replace h := ite_t hb h
       refine x_fieldAddr (xv := Vp b2 0) (Vp b2 3) rfl rfl rfl (reads_field tfld24_3 _ _) ?_
       refine x_load (xv := Vp b2 3) (Vi p0_3) rfl rfl rfl (reads_box tcell3 hb2 nn 3 _ rfl) ?_
       obtain ⟨x13, hx, h⟩ := bind_some h
       have hcall := connection_in_w p0_3 0 1000000 _ w12 hx
       refine x_call 25 #[] #[] [Vi p0_3, Vi 0, Vi 1000000] _ rfl rfl rfl rfl hcall ?_
       rintro v w14 ⟨rfl, he14⟩
       clear hcall hx
       refine inl1 ?_
       have hst := Stp.ext (ls := [[b2], M]) he14
       replace hb2 := he14.box hb2 nn
       replace hs_p0_2 := hs_p0_2.step hst
       replace hms := hms.ev he14
       replace hev := hev.ext he14
       refine x_pure 2 [(36, .bool x13), (37, .bool x13)] _ _ _ (by kernel_rfl) ?_
       refine x_split 37 x13 rfl (fun hb => ?_) (fun hb => ?_)
       · replace h := ite_t hb h
         refine x_fieldAddr (xv := Vp b2 0) (Vp b2 4) rfl rfl rfl (reads_field tfld24_4 _ _) ?_
         refine x_load (xv := Vp b2 4) (Vi p0_4) rfl rfl rfl (reads_box tcell3 hb2 nn 4 _ rfl) ?_
         obtain ⟨x15, hx, h⟩ := bind_some h
         have hcall := connection_in_w p0_4 0 1000000 _ w14 hx
         refine x_call 25 #[] #[] [Vi p0_4, Vi 0, Vi 1000000] _ rfl rfl rfl rfl hcall ?_
         rintro v w16 ⟨rfl, he16⟩
         clear hcall hx
         refine inl1 ?_
         have hst := Stp.ext (ls := [[b2], M]) he16
         replace hb2 := he16.box hb2 nn
         replace hs_p0_2 := hs_p0_2.step hst
         replace hms := hms.ev he16
         replace hev := hev.ext he16
         refine x_pure 2 [(41, .bool x15), (2, .bool x15)] _ _ _ (by kernel_rfl) ?_
         refine x_ek ?_
         refine c_norm [(2, .bool x15)] ⟨rfl, trivial⟩ (fun J => ?_)
         refine c_ret ?_
         refine r_ret (r_vals [.bool x15] ⟨rfl, trivial⟩ ?_)
         have hx := some_inj h
         subst hx
         have hmr : MS w16 [M] := hms.pick [some 1] _ rfl
         have hsu : ∀ x ∈ fl [M], x ∈ fl [[b2], M] := pick_sub [some 1] _ rfl
         exact ⟨rfl, hev⟩
       replace h := ite_f hb h
       refine x_pure 5 [(38, undef), (39, undef), (40, undef), (41, .bool false), (2, .bool false)] _ _ _ (by kernel_rfl) ?_
       refine x_ek ?_
       refine c_norm [(2, .bool false)] ⟨rfl, trivial⟩ (fun J => ?_)
       refine c_ret ?_
       refine r_ret (r_vals [.bool false] ⟨rfl, trivial⟩ ?_)
       have hx := some_inj h
       subst hx
       have hmr : MS w14 [M] := hms.pick [some 1] _ rfl
       have hsu : ∀ x ∈ fl [M], x ∈ fl [[b2], M] := pick_sub [some 1] _ rfl
       exact ⟨rfl, hev⟩
     replace h := ite_f hb h
     refine x_pure 10 [(33, undef), (34, undef), (35, undef), (36, .bool false), (37, .bool false), (38, undef), (39, undef), (40, undef), (41, .bool false), (2, .bool false)] _ _ _ (by kernel_rfl) ?_
     refine x_ek ?_
     refine c_norm [(2, .bool false)] ⟨rfl, trivial⟩ (fun J => ?_)
     refine c_ret ?_
     refine r_ret (r_vals [.bool false] ⟨rfl, trivial⟩ ?_)
     have hx := some_inj h
     subst hx
     have hmr : MS w12 [M] := hms.pick [some 1] _ rfl
     have hsu : ∀ x ∈ fl [M], x ∈ fl [[b2], M] := pick_sub [some 1] _ rfl
     exact ⟨rfl, hev⟩
   replace h := ite_f hb h
   refine x_pure 16 [(27, undef), (28, undef), (29, undef), (30, undef), (31, .bool false), (32, .bool false), (33, undef), (34, undef), (35, undef), (36, .bool false), (37, .bool false), (38, undef), (39, undef), (40, undef), (41, .bool false), (2, .bool false)] _ _ _ (by kernel_rfl) ?_
   refine x_ek ?_
   refine c_norm [(2, .bool false)] ⟨rfl, trivial⟩ (fun J => ?_)
   refine c_ret ?_
   refine r_ret (r_vals [.bool false] ⟨rfl, trivial⟩ ?_)
   have hx := some_inj h
   subst hx
   have hmr : MS w12 [M] := hms.pick [some 1] _ rfl
   have hsu : ∀ x ∈ fl [M], x ∈ fl [[b2], M] := pick_sub [some 1] _ rfl
   exact ⟨rfl, hev⟩
 replace h := ite_f hb h
 refine x_pure 21 [(22, undef), (23, undef), (24, undef), (25, .bool false), (26, .bool false), (27, undef), (28, undef), (29, undef), (30, undef), (31, .bool false), (32, .bool false), (33, undef), (34, undef), (35, undef), (36, .bool false), (37, .bool false), (38, undef), (39, undef), (40, undef), (41, .bool false), (2, .bool false)] _ _ _ (by kernel_rfl) ?_
 refine x_ek ?_
 refine c_norm [(2, .bool false)] ⟨rfl, trivial⟩ (fun J => ?_)
 refine c_ret ?_
 refine r_ret (r_vals [.bool false] ⟨rfl, trivial⟩ ?_)
 have hx := some_inj h
 subst hx
 have hmr : MS w12 [M] := hms.pick [some 1] _ rfl
 have hsu : ∀ x ∈ fl [M], x ∈ fl [[b2], M] := pick_sub [some 1] _ rfl
 exact ⟨rfl, hev⟩
def connection_Left_L10 (p0_2 : List Int) (p1 : Int) (s : (List Int) × Int) : Option (Step ((List Int) × Int) (List Int)) :=
match s with
| (d12_l10, t22__s22_l10) =>
(if (decide (t22__s22_l10 < ((p0_2).length : Int))) = true then
((idx p0_2 t22__s22_l10).bind fun x16 =>
(if (decide (x16 > p1)) = true then
(if d12_l10.length + ([t22__s22_l10]).length ≤ 4294967296 then
some (.next ((d12_l10 ++ [t22__s22_l10]), IntKind.i64.wrap (t22__s22_l10 + 1)))
else none)
else
some (.next (d12_l10, IntKind.i64.wrap (t22__s22_l10 + 1)))))
else
some (.done d12_l10))

def connection_Left (p0_0 : Int) (p0_1 : Int) (p0_2 : List Int) (p0_3 : Int) (p0_4 : Int) (p1 : Int) : Option ((List Int) × Int) :=
((connection_Valid p0_0 p0_1 p0_2 p0_3 p0_4).bind fun x5 =>
(if (!x5) = true then
some ([], 1)
else
((connection_in p1 p0_0 p0_1).bind fun x8 =>
(if (!x8) = true then
some ([], 2)
else
((loop (connection_Left_L10 p0_2 p1) (([] : List Int), 0)).bind fun d => match d with
| d12_x10 => some (d12_x10, 0))))))

theorem connection_Left_w (p0_0 : Int) (p0_1 : Int) (a_p0_2 : Option Addr) (c_p0_2 : Nat) (p0_2 : List Int) (p0_3 : Int) (p0_4 : Int) (p1 : Int) (r : (List Int) × Int) (w : World) (M : List Nat) (hms : MS w [M]) (hs_p0_2 : SlR (eInt .i64) w (fl [M]) a_p0_2 c_p0_2 p0_2) (h : connection_Left p0_0 p0_1 p0_2 p0_3 p0_4 p1 = some r) : CallVC Try.prog 17 [.agg #[Vi p0_0, Vi p0_1, .slice a_p0_2 (p0_2).length c_p0_2, Vi p0_3, Vi p0_4], Vi p1] w fun v w' => ∃ (a0' : Option Addr), ∃ (c0' : Nat), v = .tuple #[.slice a0' (r.1).length c0', Vi r.2] ∧ Ev [] w w' ∧ MS w' [blk a0', M] ∧ FR w.heap.size [blk a0'] ∧ OwnS (eInt .i64) 3 w' (fl [blk a0', M]) a0' c0' r.1 := by
 refine calls_vc hmx Try.func17 (by kernel_rfl) rfl (rs := [.tmp 4, .tmp 5]) rfl (by kernel_rfl) (args := [.agg #[Vi p0_0, Vi p0_1, .slice a_p0_2 (p0_2).length c_p0_2, Vi p0_3, Vi p0_4], Vi p1]) rfl ?_
 have hev : Ev [] w w := Ev.refl _ _
 have hfr : FR w.heap.size [] := FR.nil _
 refine c_sp ?_
 refine x_box (xv := .agg #[Vi p0_0, Vi p0_1, .slice a_p0_2 (p0_2).length c_p0_2, Vi p0_3, Vi p0_4]) rfl rfl rfl (fun b2 w2 hq2 hb2 he2 hz2 => ?_)
 replace hb2 : w2.heap[b2]? = some (.cells #[Vi p0_0, Vi p0_1, .slice a_p0_2 (p0_2).length c_p0_2, Vi p0_3, Vi p0_4] 24 (0, 0)) := hb2
 refine inl1 ?_
 have hst := Stp.box (ls := [M]) he2 hq2
 replace hs_p0_2 := hs_p0_2.step hst
 replace hms := hms.box he2 hq2 hb2
 replace hfr := hfr.box hev.size hq2
 replace hev := hev.ext he2
 refine x_pure 2 [(4, .slice none 0 0), (5, Vi 0)] _ _ _ (by kernel_rfl) ?_
 refine x_ek ?_
 refine c_seq ?_
 refine c_sp ?_
 refine x_load (xv := Vp b2 0) (.agg #[Vi p0_0, Vi p0_1, .slice a_p0_2 (p0_2).length c_p0_2, Vi p0_3, Vi p0_4]) rfl rfl rfl (reads_boxagg 0 [Vi p0_0, Vi p0_1, .slice a_p0_2 (p0_2).length c_p0_2, Vi p0_3, Vi p0_4] tagg24 hb2 nn rfl) ?_
 obtain ⟨x5, hx, h⟩ := bind_some h
 have hpk : MS w2 ([] ++ [[b2], M]) := hms.pick [some 0, some 1] _ rfl
 have hsb0 : ∀ x ∈ fl ([] ++ [[b2], M]), x ∈ fl [[b2], M] := pick_sub [some 0, some 1] _ rfl
 have hsb : ∀ x ∈ fl ([] ++ [(fl [[b2], M])]), x ∈ fl [[b2], M] := fun x hx => hsb0 x (fl_unfold x hx)
 have hcall := connection_Valid_w p0_0 p0_1 a_p0_2 c_p0_2 p0_2 p0_3 p0_4 _ w2 (fl [[b2], M]) (MS.fold (P := []) hpk) (hs_p0_2.sub hsb) hx
 refine x_call 22 #[] #[] [.agg #[Vi p0_0, Vi p0_1, .slice a_p0_2 (p0_2).length c_p0_2, Vi p0_3, Vi p0_4]] _ rfl rfl rfl rfl hcall ?_
 rintro v w6 ⟨rfl, he6⟩
 clear hcall hx
 refine inl1 ?_
 have hst := Stp.ext (ls := [[b2], M]) he6
 replace hs_p0_2 := hs_p0_2.step hst
 replace hb2 := he6.box hb2 nn
 replace hms := hms.ev he6
 replace hev := hev.ext he6
 clear hpk hsb hsb0
 refine x_pure 1 [(11, .bool (!x5))] _ _ _ (by kernel_rfl) ?_
 refine x_ek ?_
 refine c_cond (!x5) rfl (fun hb => ?_) (fun hb => ?_)
 · replace h := ite_t hb h
   refine c_sp ?_
   refine x_pure 2 [(4, .slice none 0 0), (5, Vi 1)] _ _ _ (by kernel_rfl) ?_
   refine x_ek ?_
   refine c_ret ?_
   refine k_then_ret ?_
   refine r_ret (r_vals [.slice none 0 0, Vi 1] ⟨rfl, rfl, trivial⟩ ?_)
   have hx := some_inj h
   subst hx
   have hmr : MS w6 [blk none, M] := hms.pick [none, some 1] _ rfl
   have hsu : ∀ x ∈ fl [blk none, M], x ∈ fl [[b2], M] := pick_sub [none, some 1] _ rfl
   have hfe : FR w.heap.size [blk none] := hfr.pick [none] _ rfl
   exact ⟨none, 0, rfl, hev, hmr, hfe, OwnS.nil _ _ _ _⟩
 replace h := ite_f hb h
 refine c_skip ?_
 refine k_then ?_
 refine c_seq ?_
 refine c_sp ?_
 refine x_pure 1 [(12, Vi p1)] _ _ _ (by kernel_rfl) ?_
 refine x_fieldAddr (xv := Vp b2 0) (Vp b2 0) rfl rfl rfl (reads_field tfld24_0 _ _) ?_
 refine x_load (xv := Vp b2 0) (Vi p0_0) rfl rfl rfl (reads_box tcell3 hb2 nn 0 _ rfl) ?_
 refine x_fieldAddr (xv := Vp b2 0) (Vp b2 1) rfl rfl rfl (reads_field tfld24_1 _ _) ?_
 refine x_load (xv := Vp b2 1) (Vi p0_1) rfl rfl rfl (reads_box tcell3 hb2 nn 1 _ rfl) ?_
 obtain ⟨x8, hx, h⟩ := bind_some h
 have hcall := connection_in_w p1 p0_0 p0_1 _ w6 hx
 refine x_call 25 #[] #[] [Vi p1, Vi p0_0, Vi p0_1] _ rfl rfl rfl rfl hcall ?_
 rintro v w9 ⟨rfl, he9⟩
 clear hcall hx
 refine inl1 ?_
 have hst := Stp.ext (ls := [[b2], M]) he9
 replace hs_p0_2 := hs_p0_2.step hst
 replace hb2 := he9.box hb2 nn
 replace hms := hms.ev he9
 replace hev := hev.ext he9
 refine x_pure 1 [(18, .bool (!x8))] _ _ _ (by kernel_rfl) ?_
 refine x_ek ?_
 refine c_norm [(1, Vi p1), (2, Vp b2 0), (18, .bool (!x8))] ⟨rfl, rfl, rfl, trivial⟩ (fun J => ?_)
 refine c_cond (!x8) rfl (fun hb => ?_) (fun hb => ?_)
 · replace h := ite_t hb h
   refine c_sp ?_
   refine x_pure 2 [(4, .slice none 0 0), (5, Vi 2)] _ _ _ (by kernel_rfl) ?_
   refine x_ek ?_
   refine c_ret ?_
   refine k_then_ret ?_
   refine r_ret (r_vals [.slice none 0 0, Vi 2] ⟨rfl, rfl, trivial⟩ ?_)
   have hx := some_inj h
   subst hx
   have hmr : MS w9 [blk none, M] := hms.pick [none, some 1] _ rfl
   have hsu : ∀ x ∈ fl [blk none, M], x ∈ fl [[b2], M] := pick_sub [none, some 1] _ rfl
   have hfe : FR w.heap.size [blk none] := hfr.pick [none] _ rfl
   exact ⟨none, 0, rfl, hev, hmr, hfe, OwnS.nil _ _ _ _⟩
 replace h := ite_f hb h
 refine c_skip ?_
 refine k_then ?_
 refine c_sp ?_
 refine x_pure 1 [(6, .slice none 0 0)] _ _ _ (by kernel_rfl) ?_
 refine x_ek ?_
 refine c_seq ?_
 refine c_sp ?_
 refine x_fieldAddr (xv := Vp b2 0) (Vp b2 2) rfl rfl rfl (reads_field tfld24_2 _ _) ?_
 refine x_load (xv := Vp b2 2) (.slice a_p0_2 (p0_2).length c_p0_2) rfl rfl rfl (reads_box tcell22 hb2 nn 2 _ rfl) ?_
 refine x_len (vs := [.slice a_p0_2 (p0_2).length c_p0_2]) (Vi ((p0_2).length : Int)) rfl rfl rfl (reads_len tsl22 _ _ _ _ _) ?_
 refine x_pure 1 [(22, Vi 0)] _ _ _ (by kernel_rfl) ?_
 refine x_ek ?_
 refine c_block ?_
 have hst := Stp.push (ls := [[b2], M]) (l := blk none) (Ev.refl [] w9) (fun _ h => by cases h) (fun _ h => by cases h)
 replace hs_p0_2 := hs_p0_2.step hst
 replace hb2 := (Ev.refl [] _).box hb2 nn
 replace hms := hms.push (l := blk none) (Ev.refl [] _) (fun _ h => by cases h)
 replace hfr := hfr.push (l := blk none) (fun _ h => by cases h)
 have ho11 := OwnS.nil (eInt .i64) 3 w9 (fl [blk none, [b2], M])
 have hpk : MS w9 [blk none, M] := hms.pick [some 0, some 2] _ rfl
 have hsu : ∀ x ∈ fl [blk none, M], x ∈ fl [blk none, [b2], M] := pick_sub [some 0, some 2] _ rfl
 replace ho11 := ho11.sub hsu
 replace hs_p0_2 := hs_p0_2.sub hsu
 replace hms := hpk
 replace hfr : FR w.heap.size [blk none] := hfr.pick [some 0] _ rfl
 clear hpk hsu
 obtain ⟨d10, hd10, h10⟩ := bind_some h
 obtain ⟨m10, hd10⟩ := loop_some hd10
 refine c_loop (loop_rule hmx (σ := Nat × (List Int) × Int × Option Addr × Nat) (fun s => match s with | (_, d12_l10, t22__s22_l10, a12_l10, c12_l10) => [(1, Vi p1), (6, .slice a12_l10 (d12_l10).length c12_l10), (20, .slice a_p0_2 (p0_2).length c_p0_2), (21, Vi ((p0_2).length : Int)), (22, Vi t22__s22_l10)]) (fun s w' => match s with | (m, d12_l10, t22__s22_l10, a12_l10, c12_l10) => loopN (connection_Left_L10 p0_2 p1) m (d12_l10, t22__s22_l10) = some d10 ∧ Ev [] w w' ∧ MS w' [blk a12_l10, M] ∧ FR w.heap.size [blk a12_l10] ∧ OwnS (eInt .i64) 3 w' (fl [blk a12_l10, M]) a12_l10 c12_l10 d12_l10 ∧ SlR (eInt .i64) w' (fl [blk a12_l10, M]) a_p0_2 c_p0_2 p0_2) (fun s => s.1) (m10, ([] : List Int), 0, none, 0) ⟨rfl, rfl, rfl, rfl, rfl, trivial⟩ ⟨hd10, hev, hms, hfr, ho11, hs_p0_2⟩ ?_)
 rintro ⟨m10, d12_l10, t22__s22_l10, a12_l10, c12_l10⟩ J wl10 ⟨hn10, hev, hms, hfr, hj12_l10, hs_p0_2⟩
 rcases m10 with _ | m10
 · exact (loopN_zero hn10).elim
 obtain ⟨t10, h, hn10⟩ := bind_some hn10
 refine c_sp ?_
 refine x_pure 1 [(23, .bool (decide (t22__s22_l10 < ((p0_2).length : Int))))] _ _ _ (by kernel_rfl) ?_
 refine x_ek ?_
 refine c_norm [(1, Vi p1), (6, .slice a12_l10 (d12_l10).length c12_l10), (20, .slice a_p0_2 (p0_2).length c_p0_2), (21, Vi ((p0_2).length : Int)), (22, Vi t22__s22_l10), (23, .bool (decide (t22__s22_l10 < ((p0_2).length : Int))))] ⟨rfl, rfl, rfl, rfl, rfl, rfl, trivial⟩ (fun J => ?_)
 refine c_seq ?_
 refine c_cond (decide (t22__s22_l10 < ((p0_2).length : Int))) rfl (fun hb => ?_) (fun hb => ?_)
 · replace h := ite_t hb h
   refine c_skip ?_
   refine k_then ?_
   refine c_seq ?_
   refine c_block ?_
   refine c_sp ?_
   refine x_pure 1 [(24, Vi t22__s22_l10)] _ _ _ (by kernel_rfl) ?_
   obtain ⟨x16, hx16, h⟩ := bind_some h
   obtain ⟨ad16, cs16, hr16, hc16, hR⟩ := reads_index (Mo := []) tsl22 hs_p0_2 hx16
   obtain rfl := hR
   refine x_indexAddr (xv := .slice a_p0_2 (p0_2).length c_p0_2) (yv := Vi t22__s22_l10) (.pointer (some ad16)) rfl rfl rfl rfl hr16 ?_
   refine x_load (xv := .pointer (some ad16)) (Vi x16) rfl rfl rfl (reads_cell0 tcell3 hc16 (fun _ h => by cases h)) ?_
   refine x_pure 2 [(7, Vi t22__s22_l10), (8, Vi x16)] _ _ _ (by kernel_rfl) ?_
   refine x_ek ?_
   refine c_sp ?_
   refine x_pure 3 [(27, Vi x16), (28, Vi p1), (29, .bool (decide (x16 > p1)))] _ _ _ (by kernel_rfl) ?_
   refine x_ek ?_
   refine c_cond (decide (x16 > p1)) rfl (fun hb => ?_) (fun hb => ?_)
   · replace h := ite_t hb h
     refine c_plain ?_
     refine x_pure 2 [(30, .slice a12_l10 (d12_l10).length c12_l10), (31, Vi t22__s22_l10)] _ _ _ (by kernel_rfl) ?_
     refine x_buildSlice (vs := [(0, Vi t22__s22_l10)]) #[Vi t22__s22_l10] 3 rfl rfl rfl (by kernel_rfl) (fun b18 w18 hq18 hb18 he18 hz18 => ?_)
     refine inl1 ?_
     have hms0 := hms
     have hst := Stp.ext (ls := [blk a12_l10, M]) he18
     replace hj12_l10 := hj12_l10.step hst he18 nn2
     replace hs_p0_2 := hs_p0_2.step hst
     replace hms := hms.ev he18
     replace hev := hev.ext he18
     have hs18 : SlR (eInt .i64) w18 (fl [blk a12_l10, M]) (Ad b18 0) 1 ([t22__s22_l10]) := ro_of_box hms0 hq18 hb18 rfl rfl (cells_at (cs := [Vi t22__s22_l10]) (CellsOf.cons (c := [Vi t22__s22_l10]) rfl CellsOf.nil))
     clear hb18 hms0
     have hg := guard_l h
     replace h := guard_r h
     obtain ⟨a20, c20, w20, hr20, he20, hn20, hm20, hw20⟩ := own_appendN tel22 22 hj12_l10 (mem_flat 0 rfl) hs18 hg
     refine x_builtin (vs := [.slice a12_l10 (d12_l10).length c12_l10, .slice (Ad b18 0) ([t22__s22_l10]).length 1]) _ w20 rfl rfl rfl rfl (run_value _ _ _ _ hr20) ?_
     refine inl1 ?_
     have hst : Stp (fl [blk a12_l10, M]) w18 (fl [blk a20, M]) w20 := Stp.upd 0 he20 rfl (fun b hb => (hn20 b hb).1)
     replace hs_p0_2 := hs_p0_2.step hst
     replace hs18 := hs18.step hst
     replace hms : MS w20 [blk a20, M] := hms.upd 0 he20 rfl hn20
     have hfr2 : FR w.heap.size [blk a20] := hfr.upd 0 rfl hev.size (fun b hb => (hn20 b hb).1)
     replace hev := hev.then he20 (fun b hb => .inr (hfr.at 0 rfl b hb))
     replace hfr := hfr2
     clear hfr2
     replace hj12_l10 := hw20 (fl [blk a20, M]) hst.new
     clear hw20
     refine x_pure 1 [(6, .slice a20 ((d12_l10 ++ [t22__s22_l10])).length c20)] _ _ _ (by kernel_rfl) ?_
     refine x_end rfl ?_
     refine k_block ?_
     refine k_then ?_
     refine c_norm [(1, Vi p1), (6, .slice a20 ((d12_l10 ++ [t22__s22_l10])).length c20), (20, .slice a_p0_2 (p0_2).length c_p0_2), (21, Vi ((p0_2).length : Int)), (22, Vi t22__s22_l10)] ⟨rfl, rfl, rfl, rfl, rfl, trivial⟩ (fun J => ?_)
     refine c_plain ?_
     refine x_pure 2 [(34, Vi (IntKind.i64.wrap (t22__s22_l10 + 1))), (22, Vi (IntKind.i64.wrap (t22__s22_l10 + 1)))] _ _ _ (by kernel_rfl) ?_
     refine x_end rfl ?_
     have hx := some_inj h
     subst hx
     exact k_then ⟨(m10, (d12_l10 ++ [t22__s22_l10]), IntKind.i64.wrap (t22__s22_l10 + 1), a20, c20), ⟨rfl, rfl, rfl, rfl, rfl, trivial⟩, ⟨hn10, hev, hms, hfr, hj12_l10, hs_p0_2⟩, Nat.lt_succ_self _⟩
   replace h := ite_f hb h
   refine c_skip ?_
   refine k_block ?_
   refine k_then ?_
   refine c_plain ?_
   refine x_pure 2 [(34, Vi (IntKind.i64.wrap (t22__s22_l10 + 1))), (22, Vi (IntKind.i64.wrap (t22__s22_l10 + 1)))] _ _ _ (by kernel_rfl) ?_
   refine x_end rfl ?_
   have hx := some_inj h
   subst hx
   exact k_then ⟨(m10, d12_l10, IntKind.i64.wrap (t22__s22_l10 + 1), a12_l10, c12_l10), ⟨rfl, rfl, rfl, rfl, rfl, trivial⟩, ⟨hn10, hev, hms, hfr, hj12_l10, hs_p0_2⟩, Nat.lt_succ_self _⟩
 replace h := ite_f hb h
 refine c_exit ?_
 refine k_then_exit ?_
 have hx := some_inj h
 subst hx
 have hy := some_inj hn10
 subst hy
 replace h := h10
 refine k_then_exit ?_
 refine k_block_in ?_
 refine k_then ?_
 refine c_norm [(6, .slice a12_l10 (d12_l10).length c12_l10)] ⟨rfl, trivial⟩ (fun J => ?_)
 refine c_sp ?_
 refine x_pure 3 [(35, .slice a12_l10 (d12_l10).length c12_l10), (4, .slice a12_l10 (d12_l10).length c12_l10), (5, Vi 0)] _ _ _ (by kernel_rfl) ?_
 refine x_ek ?_
 refine c_ret ?_
 refine r_ret (r_vals [.slice a12_l10 (d12_l10).length c12_l10, Vi 0] ⟨rfl, rfl, trivial⟩ ?_)
 have hx := some_inj h
 subst hx
 have hmr : MS wl10 [blk a12_l10, M] := hms.pick [some 0, some 1] _ rfl
 have hsu : ∀ x ∈ fl [blk a12_l10, M], x ∈ fl [blk a12_l10, M] := pick_sub [some 0, some 1] _ rfl
 have hfe : FR w.heap.size [blk a12_l10] := hfr.pick [some 0] _ rfl
 exact ⟨a12_l10, c12_l10, rfl, hev, hmr, hfe, hj12_l10.sub hsu⟩
def connection_Cost (p0_0 : Int) (p0_1 : Int) (p0_2 : List Int) (p0_3 : Int) (p0_4 : Int) (p1 : Int) : Option (Int × Int) :=
((connection_Left p0_0 p0_1 p0_2 p0_3 p0_4 p1).bind fun x4 =>
(if (x4.2 != 0) = true then
some (0, x4.2)
else
some (IntKind.i64.wrap ((IntKind.i64.wrap (p0_3 * (IntKind.i64.wrap (p1 - p0_0)))) + (IntKind.i64.wrap (p0_4 * ((x4.1).length : Int)))), 0)))

theorem connection_Cost_w (p0_0 : Int) (p0_1 : Int) (a_p0_2 : Option Addr) (c_p0_2 : Nat) (p0_2 : List Int) (p0_3 : Int) (p0_4 : Int) (p1 : Int) (r : Int × Int) (w : World) (M : List Nat) (hms : MS w [M]) (hs_p0_2 : SlR (eInt .i64) w (fl [M]) a_p0_2 c_p0_2 p0_2) (h : connection_Cost p0_0 p0_1 p0_2 p0_3 p0_4 p1 = some r) : CallVC Try.prog 14 [.agg #[Vi p0_0, Vi p0_1, .slice a_p0_2 (p0_2).length c_p0_2, Vi p0_3, Vi p0_4], Vi p1] w fun v w' => v = .tuple #[Vi r.1, Vi r.2] ∧ Ev [] w w' := by
 refine calls_vc hmx Try.func14 (by kernel_rfl) rfl (rs := [.tmp 4, .tmp 5]) rfl (by kernel_rfl) (args := [.agg #[Vi p0_0, Vi p0_1, .slice a_p0_2 (p0_2).length c_p0_2, Vi p0_3, Vi p0_4], Vi p1]) rfl ?_
 have hev : Ev [] w w := Ev.refl _ _
 have hfr : FR w.heap.size [] := FR.nil _
 refine c_sp ?_
 refine x_box (xv := .agg #[Vi p0_0, Vi p0_1, .slice a_p0_2 (p0_2).length c_p0_2, Vi p0_3, Vi p0_4]) rfl rfl rfl (fun b2 w2 hq2 hb2 he2 hz2 => ?_)
 replace hb2 : w2.heap[b2]? = some (.cells #[Vi p0_0, Vi p0_1, .slice a_p0_2 (p0_2).length c_p0_2, Vi p0_3, Vi p0_4] 24 (0, 0)) := hb2
 refine inl1 ?_
 have hst := Stp.box (ls := [M]) he2 hq2
 replace hs_p0_2 := hs_p0_2.step hst
 replace hms := hms.box he2 hq2 hb2
 replace hfr := hfr.box hev.size hq2
 replace hev := hev.ext he2
 refine x_pure 2 [(4, Vi 0), (5, Vi 0)] _ _ _ (by kernel_rfl) ?_
 refine x_ek ?_
 refine c_sp ?_
 refine x_load (xv := Vp b2 0) (.agg #[Vi p0_0, Vi p0_1, .slice a_p0_2 (p0_2).length c_p0_2, Vi p0_3, Vi p0_4]) rfl rfl rfl (reads_boxagg 0 [Vi p0_0, Vi p0_1, .slice a_p0_2 (p0_2).length c_p0_2, Vi p0_3, Vi p0_4] tagg24 hb2 nn rfl) ?_
 refine x_pure 1 [(10, Vi p1)] _ _ _ (by kernel_rfl) ?_
 obtain ⟨x4, hx, h⟩ := bind_some h
 have hpk : MS w2 ([] ++ [[b2], M]) := hms.pick [some 0, some 1] _ rfl
 have hsb0 : ∀ x ∈ fl ([] ++ [[b2], M]), x ∈ fl [[b2], M] := pick_sub [some 0, some 1] _ rfl
 have hsb : ∀ x ∈ fl ([] ++ [(fl [[b2], M])]), x ∈ fl [[b2], M] := fun x hx => hsb0 x (fl_unfold x hx)
 have hcall := connection_Left_w p0_0 p0_1 a_p0_2 c_p0_2 p0_2 p0_3 p0_4 p1 _ w2 (fl [[b2], M]) (MS.fold (P := []) hpk) (hs_p0_2.sub hsb) hx
 refine x_call 17 #[] #[] [.agg #[Vi p0_0, Vi p0_1, .slice a_p0_2 (p0_2).length c_p0_2, Vi p0_3, Vi p0_4], Vi p1] _ rfl rfl rfl rfl hcall ?_
 rintro v w5 ⟨a0_5, c0_5, rfl, he5, hmn5, hfn5, hf5_1⟩
 clear hcall hx
 refine inl1 ?_
 have hpk2 : MS w2 ([] ++ [[b2], M]) := hms.pick [some 0, some 1] _ rfl
 have hsb2 : ∀ x ∈ fl ([] ++ [[b2], M]), x ∈ fl [[b2], M] := pick_sub [some 0, some 1] _ rfl
 have hst0 := Stp.call (LS := [[b2], M]) (res := [blk a0_5]) (par := []) (R := [[b2], M]) he5 (fun b hb => hsb2 b (fl_left' (P := []) b hb)) hfn5 (NP.init _ _) (fun x hx => hsb2 x (fl_right' (P := []) x hx))
 have hsn : ∀ x ∈ fl [blk a0_5, [b2], M], x ∈ fl ([blk a0_5] ++ ([] ++ [[b2], M])) := pick_sub [some 0, some 1, some 2] _ rfl
 have hst := hst0.res hsn
 replace hs_p0_2 := hs_p0_2.step hst
 replace hb2 := he5.box hb2 ((MS.outs (P := []) hpk2 0 rfl) _ mem1)
 replace hms : MS w5 [blk a0_5, [b2], M] := (MS.call (P := []) (R := [[b2], M]) (res := [blk a0_5]) (par := []) hpk2 he5 hmn5 hfn5 (NP.init _ _)).pick [some 0, some 1, some 2] _ rfl
 have hfr2 : FR w.heap.size [blk a0_5, [b2]] := (FR.cons (fun b hb => Nat.le_trans hev.size (hfn5.at 0 rfl b hb)) (FR.cons (hfr.at 0 rfl) (FR.nil _)))
 replace hev := hev.ext he5
 replace hfr := hfr2
 clear hfr2
 replace hf5_1 := OwnS.plain (M' := fl [blk a0_5, [b2], M]) (plain_int _) hf5_1
 clear hpk hsb hsb0 hpk2 hsb2 hst0 hsn hst
 have hpk : MS w5 [[b2], M] := hms.pick [some 1, some 2] _ rfl
 have hsu : ∀ x ∈ fl [[b2], M], x ∈ fl [blk a0_5, [b2], M] := pick_sub [some 1, some 2] _ rfl
 replace hs_p0_2 := hs_p0_2.sub hsu
 replace hf5_1 := hf5_1.ro hsu (pick_out hms 0 rfl [some 1, some 2] [[b2], M] rfl rfl)
 replace hms := hpk
 replace hfr : FR w.heap.size [[b2]] := hfr.pick [some 1] _ rfl
 clear hpk hsu
 refine x_pure 5 [(8, .tuple #[.slice a0_5 (x4.1).length c0_5, Vi x4.2]), (12, .slice a0_5 (x4.1).length c0_5), (13, Vi x4.2), (6, .slice a0_5 (x4.1).length c0_5), (7, Vi x4.2)] _ _ _ (by kernel_rfl) ?_
 refine x_ek ?_
 refine c_seq ?_
 refine c_sp ?_
 refine x_pure 2 [(14, Vi x4.2), (15, .bool (x4.2 != 0))] _ _ _ (by kernel_rfl) ?_
 refine x_ek ?_
 refine c_cond (x4.2 != 0) rfl (fun hb => ?_) (fun hb => ?_)
 · replace h := ite_t hb h
   refine c_sp ?_
   refine x_pure 3 [(16, Vi x4.2), (4, Vi 0), (5, Vi x4.2)] _ _ _ (by kernel_rfl) ?_
   refine x_ek ?_
   refine c_norm [(4, Vi 0), (5, Vi x4.2)] ⟨rfl, rfl, trivial⟩ (fun J => ?_)
   refine c_ret ?_
   refine k_then_ret ?_
   refine r_ret (r_vals [Vi 0, Vi x4.2] ⟨rfl, rfl, trivial⟩ ?_)
   have hx := some_inj h
   subst hx
   have hmr : MS w5 [M] := hms.pick [some 1] _ rfl
   have hsu : ∀ x ∈ fl [M], x ∈ fl [[b2], M] := pick_sub [some 1] _ rfl
   exact ⟨rfl, hev⟩
 replace h := ite_f hb h
 refine c_skip ?_
 refine k_then ?_
 refine c_norm [(1, Vi p1), (2, Vp b2 0), (6, .slice a0_5 (x4.1).length c0_5)] ⟨rfl, rfl, rfl, trivial⟩ (fun J => ?_)
 refine c_sp ?_
 refine x_fieldAddr (xv := Vp b2 0) (Vp b2 3) rfl rfl rfl (reads_field tfld24_3 _ _) ?_
 refine x_load (xv := Vp b2 3) (Vi p0_3) rfl rfl rfl (reads_box tcell3 hb2 nn 3 _ rfl) ?_
 refine x_pure 1 [(19, Vi p1)] _ _ _ (by kernel_rfl) ?_
 refine x_fieldAddr (xv := Vp b2 0) (Vp b2 0) rfl rfl rfl (reads_field tfld24_0 _ _) ?_
 refine x_load (xv := Vp b2 0) (Vi p0_0) rfl rfl rfl (reads_box tcell3 hb2 nn 0 _ rfl) ?_
 refine x_pure 2 [(22, Vi (IntKind.i64.wrap (p1 - p0_0))), (23, Vi (IntKind.i64.wrap (p0_3 * (IntKind.i64.wrap (p1 - p0_0)))))] _ _ _ (by kernel_rfl) ?_
 refine x_fieldAddr (xv := Vp b2 0) (Vp b2 4) rfl rfl rfl (reads_field tfld24_4 _ _) ?_
 refine x_load (xv := Vp b2 4) (Vi p0_4) rfl rfl rfl (reads_box tcell3 hb2 nn 4 _ rfl) ?_
 refine x_pure 1 [(26, .slice a0_5 (x4.1).length c0_5)] _ _ _ (by kernel_rfl) ?_
 refine x_len (vs := [.slice a0_5 (x4.1).length c0_5]) (Vi ((x4.1).length : Int)) rfl rfl rfl (reads_len tsl22 _ _ _ _ _) ?_
 refine x_pure 4 [(28, Vi (IntKind.i64.wrap (p0_4 * ((x4.1).length : Int)))), (29, Vi (IntKind.i64.wrap ((IntKind.i64.wrap (p0_3 * (IntKind.i64.wrap (p1 - p0_0)))) + (IntKind.i64.wrap (p0_4 * ((x4.1).length : Int)))))), (4, Vi (IntKind.i64.wrap ((IntKind.i64.wrap (p0_3 * (IntKind.i64.wrap (p1 - p0_0)))) + (IntKind.i64.wrap (p0_4 * ((x4.1).length : Int)))))), (5, Vi 0)] _ _ _ (by kernel_rfl) ?_
 refine x_ek ?_
 refine c_norm [(4, Vi (IntKind.i64.wrap ((IntKind.i64.wrap (p0_3 * (IntKind.i64.wrap (p1 - p0_0)))) + (IntKind.i64.wrap (p0_4 * ((x4.1).length : Int)))))), (5, Vi 0)] ⟨rfl, rfl, trivial⟩ (fun J => ?_)
 refine c_ret ?_
 refine r_ret (r_vals [Vi (IntKind.i64.wrap ((IntKind.i64.wrap (p0_3 * (IntKind.i64.wrap (p1 - p0_0)))) + (IntKind.i64.wrap (p0_4 * ((x4.1).length : Int))))), Vi 0] ⟨rfl, rfl, trivial⟩ ?_)
 have hx := some_inj h
 subst hx
 have hmr : MS w5 [M] := hms.pick [some 1] _ rfl
 have hsu : ∀ x ∈ fl [M], x ∈ fl [[b2], M] := pick_sub [some 1] _ rfl
 exact ⟨rfl, hev⟩
def connection_Saves_L10 (p0_0 : Int) (p0_1 : Int) (p0_2 : List Int) (s : (List Int) × Int) : Option (Step ((List Int) × Int) (List Int)) :=
match s with
| (d8_l10, t16__s16_l10) =>
(if (decide (t16__s16_l10 < ((p0_2).length : Int))) = true then
((idx p0_2 t16__s16_l10).bind fun x12 =>
((connection_in x12 p0_0 p0_1).bind fun x14 =>
(if x14 = true then
(if d8_l10.length + ([x12]).length ≤ 4294967296 then
some (.next ((d8_l10 ++ [x12]), IntKind.i64.wrap (t16__s16_l10 + 1)))
else none)
else
some (.next (d8_l10, IntKind.i64.wrap (t16__s16_l10 + 1))))))
else
some (.done d8_l10))

def connection_Saves (p0_0 : Int) (p0_1 : Int) (p0_2 : List Int) (p0_3 : Int) (p0_4 : Int) : Option ((List Int) × Int) :=
((connection_Valid p0_0 p0_1 p0_2 p0_3 p0_4).bind fun x5 =>
(if (!x5) = true then
some ([], 1)
else
((loop (connection_Saves_L10 p0_0 p0_1 p0_2) (([p0_0] : List Int), 0)).bind fun d => match d with
| d8_x10 => (if d8_x10 ≠ [] ∧ d8_x10.length ≤ 4294967296 then
some ((Go.Lib.compact (sortI d8_x10)), 0)
else none))))

theorem connection_Saves_w (p0_0 : Int) (p0_1 : Int) (a_p0_2 : Option Addr) (c_p0_2 : Nat) (p0_2 : List Int) (p0_3 : Int) (p0_4 : Int) (r : (List Int) × Int) (w : World) (M : List Nat) (hms : MS w [M]) (hs_p0_2 : SlR (eInt .i64) w (fl [M]) a_p0_2 c_p0_2 p0_2) (h : connection_Saves p0_0 p0_1 p0_2 p0_3 p0_4 = some r) : CallVC Try.prog 15 [.agg #[Vi p0_0, Vi p0_1, .slice a_p0_2 (p0_2).length c_p0_2, Vi p0_3, Vi p0_4]] w fun v w' => ∃ (a0' : Option Addr), ∃ (c0' : Nat), v = .tuple #[.slice a0' (r.1).length c0', Vi r.2] ∧ Ev [] w w' ∧ MS w' [blk a0', M] ∧ FR w.heap.size [blk a0'] ∧ OwnS (eInt .i64) 3 w' (fl [blk a0', M]) a0' c0' r.1 := by
 refine calls_vc hmx Try.func15 (by kernel_rfl) rfl (rs := [.tmp 2, .tmp 3]) rfl (by kernel_rfl) (args := [.agg #[Vi p0_0, Vi p0_1, .slice a_p0_2 (p0_2).length c_p0_2, Vi p0_3, Vi p0_4]]) rfl ?_
 have hev : Ev [] w w := Ev.refl _ _
 have hfr : FR w.heap.size [] := FR.nil _
 refine c_sp ?_
 refine x_box (xv := .agg #[Vi p0_0, Vi p0_1, .slice a_p0_2 (p0_2).length c_p0_2, Vi p0_3, Vi p0_4]) rfl rfl rfl (fun b2 w2 hq2 hb2 he2 hz2 => ?_)
 replace hb2 : w2.heap[b2]? = some (.cells #[Vi p0_0, Vi p0_1, .slice a_p0_2 (p0_2).length c_p0_2, Vi p0_3, Vi p0_4] 24 (0, 0)) := hb2
 refine inl1 ?_
 have hst := Stp.box (ls := [M]) he2 hq2
 replace hs_p0_2 := hs_p0_2.step hst
 replace hms := hms.box he2 hq2 hb2
 replace hfr := hfr.box hev.size hq2
 replace hev := hev.ext he2
 refine x_pure 2 [(2, .slice none 0 0), (3, Vi 0)] _ _ _ (by kernel_rfl) ?_
 refine x_ek ?_
 refine c_seq ?_
 refine c_sp ?_
 refine x_load (xv := Vp b2 0) (.agg #[Vi p0_0, Vi p0_1, .slice a_p0_2 (p0_2).length c_p0_2, Vi p0_3, Vi p0_4]) rfl rfl rfl (reads_boxagg 0 [Vi p0_0, Vi p0_1, .slice a_p0_2 (p0_2).length c_p0_2, Vi p0_3, Vi p0_4] tagg24 hb2 nn rfl) ?_
 obtain ⟨x5, hx, h⟩ := bind_some h
 have hpk : MS w2 ([] ++ [[b2], M]) := hms.pick [some 0, some 1] _ rfl
 have hsb0 : ∀ x ∈ fl ([] ++ [[b2], M]), x ∈ fl [[b2], M] := pick_sub [some 0, some 1] _ rfl
 have hsb : ∀ x ∈ fl ([] ++ [(fl [[b2], M])]), x ∈ fl [[b2], M] := fun x hx => hsb0 x (fl_unfold x hx)
 have hcall := connection_Valid_w p0_0 p0_1 a_p0_2 c_p0_2 p0_2 p0_3 p0_4 _ w2 (fl [[b2], M]) (MS.fold (P := []) hpk) (hs_p0_2.sub hsb) hx
 refine x_call 22 #[] #[] [.agg #[Vi p0_0, Vi p0_1, .slice a_p0_2 (p0_2).length c_p0_2, Vi p0_3, Vi p0_4]] _ rfl rfl rfl rfl hcall ?_
 rintro v w6 ⟨rfl, he6⟩
 clear hcall hx
 refine inl1 ?_
 have hst := Stp.ext (ls := [[b2], M]) he6
 replace hs_p0_2 := hs_p0_2.step hst
 replace hb2 := he6.box hb2 nn
 replace hms := hms.ev he6
 replace hev := hev.ext he6
 clear hpk hsb hsb0
 refine x_pure 1 [(9, .bool (!x5))] _ _ _ (by kernel_rfl) ?_
 refine x_ek ?_
 refine c_cond (!x5) rfl (fun hb => ?_) (fun hb => ?_)
 · replace h := ite_t hb h
   refine c_sp ?_
   refine x_pure 2 [(2, .slice none 0 0), (3, Vi 1)] _ _ _ (by kernel_rfl) ?_
   refine x_ek ?_
   refine c_ret ?_
   refine k_then_ret ?_
   refine r_ret (r_vals [.slice none 0 0, Vi 1] ⟨rfl, rfl, trivial⟩ ?_)
   have hx := some_inj h
   subst hx
   have hmr : MS w6 [blk none, M] := hms.pick [none, some 1] _ rfl
   have hsu : ∀ x ∈ fl [blk none, M], x ∈ fl [[b2], M] := pick_sub [none, some 1] _ rfl
   have hfe : FR w.heap.size [blk none] := hfr.pick [none] _ rfl
   exact ⟨none, 0, rfl, hev, hmr, hfe, OwnS.nil _ _ _ _⟩
 replace h := ite_f hb h
 refine c_skip ?_
 refine k_then ?_
 refine c_sp ?_
 refine x_fieldAddr (xv := Vp b2 0) (Vp b2 0) rfl rfl rfl (reads_field tfld24_0 _ _) ?_
 refine x_load (xv := Vp b2 0) (Vi p0_0) rfl rfl rfl (reads_box tcell3 hb2 nn 0 _ rfl) ?_
 refine x_buildSlice (vs := [(0, Vi p0_0)]) #[Vi p0_0] 3 rfl rfl rfl (by kernel_rfl) (fun b7 w7 hq7 hb7 he7 hz7 => ?_)
 refine inl1 ?_
 obtain ⟨a7, ea7⟩ : ∃ a, a = some (⟨b7, 0, none⟩ : Addr) := ⟨_, rfl⟩
 have hw7 : ∀ M, OwnS (eInt .i64) 3 w7 M a7 1 ([p0_0] : List Int) := fun M => ea7 ▸ own_of_box hb7 (by decide) rfl rfl (cells_at (cs := [Vi p0_0]) (CellsOf.cons (c := [Vi p0_0]) rfl CellsOf.nil))
 have hn7 : ∀ b ∈ blk a7, w6.heap.size ≤ b ∧ b < w7.heap.size := by subst ea7; intro b hb; simp only [blk, List.mem_singleton] at hb; subst hb; exact ⟨Nat.le_of_eq hq7.symm, lt_of_heap hb7⟩
 clear hb7
 have hst := Stp.push (ls := [[b2], M]) (l := blk a7) he7 (fun _ h => by cases h) (fun b hb => (hn7 b hb).1)
 replace hs_p0_2 := hs_p0_2.step hst
 replace hb2 := he7.box hb2 nn
 replace hms := hms.push he7 hn7
 replace hfr := hfr.push (fun b hb => Nat.le_trans hev.size (hn7 b hb).1)
 replace hev := hev.ext he7
 have ho7 := hw7 (fl [blk a7, [b2], M])
 clear hw7
 rw [← ea7]
 refine x_pure 1 [(4, .slice a7 (([p0_0] : List Int)).length 1)] _ _ _ (by kernel_rfl) ?_
 refine x_ek ?_
 refine c_seq ?_
 refine c_sp ?_
 refine x_fieldAddr (xv := Vp b2 0) (Vp b2 2) rfl rfl rfl (reads_field tfld24_2 _ _) ?_
 refine x_load (xv := Vp b2 2) (.slice a_p0_2 (p0_2).length c_p0_2) rfl rfl rfl (reads_box tcell22 hb2 nn 2 _ rfl) ?_
 refine x_len (vs := [.slice a_p0_2 (p0_2).length c_p0_2]) (Vi ((p0_2).length : Int)) rfl rfl rfl (reads_len tsl22 _ _ _ _ _) ?_
 refine x_pure 1 [(16, Vi 0)] _ _ _ (by kernel_rfl) ?_
 refine x_ek ?_
 refine c_norm [(1, Vp b2 0), (4, .slice a7 (([p0_0] : List Int)).length 1), (14, .slice a_p0_2 (p0_2).length c_p0_2), (15, Vi ((p0_2).length : Int)), (16, Vi 0)] ⟨rfl, rfl, rfl, rfl, rfl, trivial⟩ (fun J => ?_)
 refine c_block ?_
 have hpk : MS w7 [[b2], blk a7, M] := hms.pick [some 1, some 0, some 2] _ rfl
 have hsu : ∀ x ∈ fl [[b2], blk a7, M], x ∈ fl [blk a7, [b2], M] := pick_sub [some 1, some 0, some 2] _ rfl
 replace hs_p0_2 := hs_p0_2.sub hsu
 replace ho7 := ho7.sub hsu
 replace hms := hpk
 replace hfr : FR w.heap.size [[b2], blk a7] := hfr.pick [some 1, some 0] _ rfl
 clear hpk hsu
 obtain ⟨d10, hd10, h10⟩ := bind_some h
 obtain ⟨m10, hd10⟩ := loop_some hd10
 refine c_loop (loop_rule hmx (σ := Nat × (List Int) × Int × Option Addr × Nat) (fun s => match s with | (_, d8_l10, t16__s16_l10, a8_l10, c8_l10) => [(1, Vp b2 0), (4, .slice a8_l10 (d8_l10).length c8_l10), (14, .slice a_p0_2 (p0_2).length c_p0_2), (15, Vi ((p0_2).length : Int)), (16, Vi t16__s16_l10)]) (fun s w' => match s with | (m, d8_l10, t16__s16_l10, a8_l10, c8_l10) => loopN (connection_Saves_L10 p0_0 p0_1 p0_2) m (d8_l10, t16__s16_l10) = some d10 ∧ Ev [] w w' ∧ MS w' [[b2], blk a8_l10, M] ∧ FR w.heap.size [[b2], blk a8_l10] ∧ SlR (eInt .i64) w' (fl [[b2], blk a8_l10, M]) a_p0_2 c_p0_2 p0_2 ∧ w'.heap[b2]? = some (.cells #[Vi p0_0, Vi p0_1, .slice a_p0_2 (p0_2).length c_p0_2, Vi p0_3, Vi p0_4] 24 (0, 0)) ∧ OwnS (eInt .i64) 3 w' (fl [[b2], blk a8_l10, M]) a8_l10 c8_l10 d8_l10) (fun s => s.1) (m10, ([p0_0] : List Int), 0, a7, 1) ⟨rfl, rfl, rfl, rfl, rfl, trivial⟩ ⟨hd10, hev, hms, hfr, hs_p0_2, hb2, ho7⟩ ?_)
 rintro ⟨m10, d8_l10, t16__s16_l10, a8_l10, c8_l10⟩ J wl10 ⟨hn10, hev, hms, hfr, hs_p0_2, hb2, ho7⟩
 rcases m10 with _ | m10
 · exact (loopN_zero hn10).elim
 obtain ⟨t10, h, hn10⟩ := bind_some hn10
 refine c_sp ?_
 refine x_pure 1 [(17, .bool (decide (t16__s16_l10 < ((p0_2).length : Int))))] _ _ _ (by kernel_rfl) ?_
 refine x_ek ?_
 refine c_norm [(1, Vp b2 0), (4, .slice a8_l10 (d8_l10).length c8_l10), (14, .slice a_p0_2 (p0_2).length c_p0_2), (15, Vi ((p0_2).length : Int)), (16, Vi t16__s16_l10), (17, .bool (decide (t16__s16_l10 < ((p0_2).length : Int))))] ⟨rfl, rfl, rfl, rfl, rfl, rfl, trivial⟩ (fun J => ?_)
 refine c_seq ?_
 refine c_cond (decide (t16__s16_l10 < ((p0_2).length : Int))) rfl (fun hb => ?_) (fun hb => ?_)
 · replace h := ite_t hb h
   refine c_skip ?_
   refine k_then ?_
   refine c_seq ?_
   refine c_block ?_
   refine c_sp ?_
   obtain ⟨x12, hx12, h⟩ := bind_some h
   obtain ⟨ad12, cs12, hr12, hc12, hR⟩ := reads_index (Mo := []) tsl22 hs_p0_2 hx12
   obtain rfl := hR
   refine x_indexAddr (xv := .slice a_p0_2 (p0_2).length c_p0_2) (yv := Vi t16__s16_l10) (.pointer (some ad12)) rfl rfl rfl rfl hr12 ?_
   refine x_load (xv := .pointer (some ad12)) (Vi x12) rfl rfl rfl (reads_cell0 tcell3 hc12 (fun _ h => by cases h)) ?_
   refine x_pure 1 [(6, Vi x12)] _ _ _ (by kernel_rfl) ?_
   refine x_ek ?_
   refine c_sp ?_
   refine x_pure 1 [(20, Vi x12)] _ _ _ (by kernel_rfl) ?_
   refine x_fieldAddr (xv := Vp b2 0) (Vp b2 0) rfl rfl rfl (reads_field tfld24_0 _ _) ?_
   refine x_load (xv := Vp b2 0) (Vi p0_0) rfl rfl rfl (reads_box tcell3 hb2 nn 0 _ rfl) ?_
   refine x_fieldAddr (xv := Vp b2 0) (Vp b2 1) rfl rfl rfl (reads_field tfld24_1 _ _) ?_
   refine x_load (xv := Vp b2 1) (Vi p0_1) rfl rfl rfl (reads_box tcell3 hb2 nn 1 _ rfl) ?_
   obtain ⟨x14, hx, h⟩ := bind_some h
   have hcall := connection_in_w x12 p0_0 p0_1 _ wl10 hx
   refine x_call 25 #[] #[] [Vi x12, Vi p0_0, Vi p0_1] _ rfl rfl rfl rfl hcall ?_
   rintro v w15 ⟨rfl, he15⟩
   clear hcall hx
   refine inl1 ?_
   have hst := Stp.ext (ls := [[b2], blk a8_l10, M]) he15
   replace hb2 := he15.box hb2 nn
   replace hs_p0_2 := hs_p0_2.step hst
   replace ho7 := ho7.step hst he15 nn2
   replace hms := hms.ev he15
   replace hev := hev.ext he15
   refine x_ek ?_
   refine c_cond x14 rfl (fun hb => ?_) (fun hb => ?_)
   · replace h := ite_t hb h
     refine c_plain ?_
     refine x_pure 2 [(26, .slice a8_l10 (d8_l10).length c8_l10), (27, Vi x12)] _ _ _ (by kernel_rfl) ?_
     refine x_buildSlice (vs := [(0, Vi x12)]) #[Vi x12] 3 rfl rfl rfl (by kernel_rfl) (fun b16 w16 hq16 hb16 he16 hz16 => ?_)
     refine inl1 ?_
     have hms0 := hms
     have hst := Stp.ext (ls := [[b2], blk a8_l10, M]) he16
     replace hb2 := he16.box hb2 nn
     replace hs_p0_2 := hs_p0_2.step hst
     replace ho7 := ho7.step hst he16 nn2
     replace hms := hms.ev he16
     replace hev := hev.ext he16
     have hs16 : SlR (eInt .i64) w16 (fl [[b2], blk a8_l10, M]) (Ad b16 0) 1 ([x12]) := ro_of_box hms0 hq16 hb16 rfl rfl (cells_at (cs := [Vi x12]) (CellsOf.cons (c := [Vi x12]) rfl CellsOf.nil))
     clear hb16 hms0
     have hg := guard_l h
     replace h := guard_r h
     obtain ⟨a18, c18, w18, hr18, he18, hn18, hm18, hw18⟩ := own_appendN tel22 22 ho7 (mem_flat 1 rfl) hs16 hg
     refine x_builtin (vs := [.slice a8_l10 (d8_l10).length c8_l10, .slice (Ad b16 0) ([x12]).length 1]) _ w18 rfl rfl rfl rfl (run_value _ _ _ _ hr18) ?_
     refine inl1 ?_
     have hst : Stp (fl [[b2], blk a8_l10, M]) w16 (fl [[b2], blk a18, M]) w18 := Stp.upd 1 he18 rfl (fun b hb => (hn18 b hb).1)
     replace hb2 := he18.box hb2 (hms.apart 0 1 rfl rfl rfl _ mem1)
     replace hs_p0_2 := hs_p0_2.step hst
     replace hs16 := hs16.step hst
     replace hms : MS w18 [[b2], blk a18, M] := hms.upd 1 he18 rfl hn18
     have hfr2 : FR w.heap.size [[b2], blk a18] := hfr.upd 1 rfl hev.size (fun b hb => (hn18 b hb).1)
     replace hev := hev.then he18 (fun b hb => .inr (hfr.at 1 rfl b hb))
     replace hfr := hfr2
     clear hfr2
     replace ho7 := hw18 (fl [[b2], blk a18, M]) hst.new
     clear hw18
     refine x_pure 1 [(4, .slice a18 ((d8_l10 ++ [x12])).length c18)] _ _ _ (by kernel_rfl) ?_
     refine x_end rfl ?_
     refine k_block ?_
     refine k_then ?_
     refine c_norm [(1, Vp b2 0), (4, .slice a18 ((d8_l10 ++ [x12])).length c18), (14, .slice a_p0_2 (p0_2).length c_p0_2), (15, Vi ((p0_2).length : Int)), (16, Vi t16__s16_l10)] ⟨rfl, rfl, rfl, rfl, rfl, trivial⟩ (fun J => ?_)
     refine c_plain ?_
     refine x_pure 2 [(30, Vi (IntKind.i64.wrap (t16__s16_l10 + 1))), (16, Vi (IntKind.i64.wrap (t16__s16_l10 + 1)))] _ _ _ (by kernel_rfl) ?_
     refine x_end rfl ?_
     have hx := some_inj h
     subst hx
     exact k_then ⟨(m10, (d8_l10 ++ [x12]), IntKind.i64.wrap (t16__s16_l10 + 1), a18, c18), ⟨rfl, rfl, rfl, rfl, rfl, trivial⟩, ⟨hn10, hev, hms, hfr, hs_p0_2, hb2, ho7⟩, Nat.lt_succ_self _⟩
   replace h := ite_f hb h
   refine c_skip ?_
   refine k_block ?_
   refine k_then ?_
   refine c_plain ?_
   refine x_pure 2 [(30, Vi (IntKind.i64.wrap (t16__s16_l10 + 1))), (16, Vi (IntKind.i64.wrap (t16__s16_l10 + 1)))] _ _ _ (by kernel_rfl) ?_
   refine x_end rfl ?_
   have hx := some_inj h
   subst hx
   exact k_then ⟨(m10, d8_l10, IntKind.i64.wrap (t16__s16_l10 + 1), a8_l10, c8_l10), ⟨rfl, rfl, rfl, rfl, rfl, trivial⟩, ⟨hn10, hev, hms, hfr, hs_p0_2, hb2, ho7⟩, Nat.lt_succ_self _⟩
 replace h := ite_f hb h
 refine c_exit ?_
 refine k_then_exit ?_
 have hx := some_inj h
 subst hx
 have hy := some_inj hn10
 subst hy
 replace h := h10
 refine k_then_exit ?_
 refine k_block_in ?_
 refine k_then ?_
 refine c_norm [(4, .slice a8_l10 (d8_l10).length c8_l10)] ⟨rfl, trivial⟩ (fun J => ?_)
 refine c_sp ?_
 refine x_pure 1 [(31, .slice a8_l10 (d8_l10).length c8_l10)] _ _ _ (by kernel_rfl) ?_
 have hg := guard_l h
 replace h := guard_r h
 have hcall := sortI_w (P := Try.prog) Lsort (f := 26) rfl ⟨_, Try.func26, by kernel_rfl, rfl⟩ (T := 3) ho7 hg
 refine x_call 26 #[] #[] [.slice a8_l10 (d8_l10).length c8_l10] _ rfl rfl rfl rfl hcall ?_
 rintro v w19 ⟨rfl, he19, hln19, hw19⟩
 clear hcall
 refine inl1 ?_
 have hst := Stp.ev' (ls := [[b2], blk a8_l10, M]) he19 (mem_flat 1 rfl)
 replace hb2 := he19.box hb2 (hms.apart 0 1 rfl rfl rfl _ mem1)
 replace hs_p0_2 := hs_p0_2.step hst
 replace hms := hms.ev he19
 replace hev := hev.then he19 (fun b hb => .inr (hfr.at 1 rfl b hb))
 replace ho7 := hw19 (fl [[b2], blk a8_l10, M])
 have hsl : (Value.slice a8_l10 (d8_l10).length c8_l10) = (Value.slice a8_l10 ((sortI d8_l10)).length c8_l10) := by first | (rw [hln19]; done) | simp only [hln19]
 try rw [hsl]
 clear hsl
 refine x_ek ?_
 refine c_sp ?_
 refine x_pure 1 [(33, .slice a8_l10 ((sortI d8_l10)).length c8_l10)] _ _ _ (by kernel_rfl) ?_
 have hcall := compactI_w (P := Try.prog) Lcompact (f := 27) rfl ⟨_, Try.func27, by kernel_rfl, rfl⟩ (T := 3) ho7
 refine x_call 27 #[] #[] [.slice a8_l10 ((sortI d8_l10)).length c8_l10] _ rfl rfl rfl rfl hcall ?_
 rintro v w20 ⟨rfl, he20, hw20⟩
 clear hcall
 refine inl1 ?_
 have hst := Stp.ev' (ls := [[b2], blk a8_l10, M]) he20 (mem_flat 1 rfl)
 replace hb2 := he20.box hb2 (hms.apart 0 1 rfl rfl rfl _ mem1)
 replace hs_p0_2 := hs_p0_2.step hst
 replace hms := hms.ev he20
 replace hev := hev.then he20 (fun b hb => .inr (hfr.at 1 rfl b hb))
 replace ho7 := hw20 (fl [[b2], blk a8_l10, M])
 refine x_pure 2 [(2, .slice a8_l10 ((Go.Lib.compact (sortI d8_l10))).length c8_l10), (3, Vi 0)] _ _ _ (by kernel_rfl) ?_
 refine x_ek ?_
 refine c_ret ?_
 refine r_ret (r_vals [.slice a8_l10 ((Go.Lib.compact (sortI d8_l10))).length c8_l10, Vi 0] ⟨rfl, rfl, trivial⟩ ?_)
 have hx := some_inj h
 subst hx
 have hmr : MS w20 [blk a8_l10, M] := hms.pick [some 1, some 2] _ rfl
 have hsu : ∀ x ∈ fl [blk a8_l10, M], x ∈ fl [[b2], blk a8_l10, M] := pick_sub [some 1, some 2] _ rfl
 have hfe : FR w.heap.size [blk a8_l10] := hfr.pick [some 1] _ rfl
 exact ⟨a8_l10, c8_l10, rfl, hev, hmr, hfe, ho7.sub hsu⟩
def connection_Best_L8 (p0_0 : Int) (p0_1 : Int) (p0_2 : List Int) (p0_3 : Int) (p0_4 : Int) (x4 : (List Int) × Int) (s : Int × Int × Int) : Option (Step (Int × Int × Int) (Int × Int)) :=
match s with
| (v_t_s2_l8, cost_s3_l8, t20__s20_l8) =>
(if (decide (t20__s20_l8 < ((x4.1).length : Int))) = true then
((idx x4.1 t20__s20_l8).bind fun x10 =>
((connection_Cost p0_0 p0_1 p0_2 p0_3 p0_4 x10).bind fun x12 =>
(if (t20__s20_l8 == 0) = true then
some (.next (x10, x12.1, IntKind.i64.wrap (t20__s20_l8 + 1)))
else
(if (decide (x12.1 < cost_s3_l8)) = true then
some (.next (x10, x12.1, IntKind.i64.wrap (t20__s20_l8 + 1)))
else
some (.next (v_t_s2_l8, cost_s3_l8, IntKind.i64.wrap (t20__s20_l8 + 1)))))))
else
some (.done (v_t_s2_l8, cost_s3_l8)))

def connection_Best (p0_0 : Int) (p0_1 : Int) (p0_2 : List Int) (p0_3 : Int) (p0_4 : Int) : Option (Int × Int × Int) :=
((connection_Saves p0_0 p0_1 p0_2 p0_3 p0_4).bind fun x4 =>
(if (x4.2 != 0) = true then
some (0, 0, x4.2)
else
((loop (connection_Best_L8 p0_0 p0_1 p0_2 p0_3 p0_4 x4) (0, 0, 0)).bind fun d => match d with
| (v_t_s2_x8, cost_s3_x8) => some (v_t_s2_x8, cost_s3_x8, 0))))

theorem connection_Best_w (p0_0 : Int) (p0_1 : Int) (a_p0_2 : Option Addr) (c_p0_2 : Nat) (p0_2 : List Int) (p0_3 : Int) (p0_4 : Int) (r : Int × Int × Int) (w : World) (M : List Nat) (hms : MS w [M]) (hs_p0_2 : SlR (eInt .i64) w (fl [M]) a_p0_2 c_p0_2 p0_2) (h : connection_Best p0_0 p0_1 p0_2 p0_3 p0_4 = some r) : CallVC Try.prog 13 [.agg #[Vi p0_0, Vi p0_1, .slice a_p0_2 (p0_2).length c_p0_2, Vi p0_3, Vi p0_4]] w fun v w' => v = .tuple #[Vi r.1, Vi r.2.1, Vi r.2.2] ∧ Ev [] w w' := by
 refine calls_vc hmx Try.func13 (by kernel_rfl) rfl (rs := [.tmp 2, .tmp 3, .tmp 4]) rfl (by kernel_rfl) (args := [.agg #[Vi p0_0, Vi p0_1, .slice a_p0_2 (p0_2).length c_p0_2, Vi p0_3, Vi p0_4]]) rfl ?_
 have hev : Ev [] w w := Ev.refl _ _
 have hfr : FR w.heap.size [] := FR.nil _
 refine c_sp ?_
 refine x_box (xv := .agg #[Vi p0_0, Vi p0_1, .slice a_p0_2 (p0_2).length c_p0_2, Vi p0_3, Vi p0_4]) rfl rfl rfl (fun b2 w2 hq2 hb2 he2 hz2 => ?_)
 replace hb2 : w2.heap[b2]? = some (.cells #[Vi p0_0, Vi p0_1, .slice a_p0_2 (p0_2).length c_p0_2, Vi p0_3, Vi p0_4] 24 (0, 0)) := hb2
 refine inl1 ?_
 have hst := Stp.box (ls := [M]) he2 hq2
 replace hs_p0_2 := hs_p0_2.step hst
 replace hms := hms.box he2 hq2 hb2
 replace hfr := hfr.box hev.size hq2
 replace hev := hev.ext he2
 refine x_pure 3 [(2, Vi 0), (3, Vi 0), (4, Vi 0)] _ _ _ (by kernel_rfl) ?_
 refine x_ek ?_
 refine c_sp ?_
 refine x_load (xv := Vp b2 0) (.agg #[Vi p0_0, Vi p0_1, .slice a_p0_2 (p0_2).length c_p0_2, Vi p0_3, Vi p0_4]) rfl rfl rfl (reads_boxagg 0 [Vi p0_0, Vi p0_1, .slice a_p0_2 (p0_2).length c_p0_2, Vi p0_3, Vi p0_4] tagg24 hb2 nn rfl) ?_
 obtain ⟨x4, hx, h⟩ := bind_some h
 have hpk : MS w2 ([] ++ [[b2], M]) := hms.pick [some 0, some 1] _ rfl
 have hsb0 : ∀ x ∈ fl ([] ++ [[b2], M]), x ∈ fl [[b2], M] := pick_sub [some 0, some 1] _ rfl
 have hsb : ∀ x ∈ fl ([] ++ [(fl [[b2], M])]), x ∈ fl [[b2], M] := fun x hx => hsb0 x (fl_unfold x hx)
 have hcall := connection_Saves_w p0_0 p0_1 a_p0_2 c_p0_2 p0_2 p0_3 p0_4 _ w2 (fl [[b2], M]) (MS.fold (P := []) hpk) (hs_p0_2.sub hsb) hx
 refine x_call 15 #[] #[] [.agg #[Vi p0_0, Vi p0_1, .slice a_p0_2 (p0_2).length c_p0_2, Vi p0_3, Vi p0_4]] _ rfl rfl rfl rfl hcall ?_
 rintro v w5 ⟨a0_5, c0_5, rfl, he5, hmn5, hfn5, hf5_1⟩
 clear hcall hx
 refine inl1 ?_
 have hpk2 : MS w2 ([] ++ [[b2], M]) := hms.pick [some 0, some 1] _ rfl
 have hsb2 : ∀ x ∈ fl ([] ++ [[b2], M]), x ∈ fl [[b2], M] := pick_sub [some 0, some 1] _ rfl
 have hst0 := Stp.call (LS := [[b2], M]) (res := [blk a0_5]) (par := []) (R := [[b2], M]) he5 (fun b hb => hsb2 b (fl_left' (P := []) b hb)) hfn5 (NP.init _ _) (fun x hx => hsb2 x (fl_right' (P := []) x hx))
 have hsn : ∀ x ∈ fl [blk a0_5, [b2], M], x ∈ fl ([blk a0_5] ++ ([] ++ [[b2], M])) := pick_sub [some 0, some 1, some 2] _ rfl
 have hst := hst0.res hsn
 replace hs_p0_2 := hs_p0_2.step hst
 replace hb2 := he5.box hb2 ((MS.outs (P := []) hpk2 0 rfl) _ mem1)
 replace hms : MS w5 [blk a0_5, [b2], M] := (MS.call (P := []) (R := [[b2], M]) (res := [blk a0_5]) (par := []) hpk2 he5 hmn5 hfn5 (NP.init _ _)).pick [some 0, some 1, some 2] _ rfl
 have hfr2 : FR w.heap.size [blk a0_5, [b2]] := (FR.cons (fun b hb => Nat.le_trans hev.size (hfn5.at 0 rfl b hb)) (FR.cons (hfr.at 0 rfl) (FR.nil _)))
 replace hev := hev.ext he5
 replace hfr := hfr2
 clear hfr2
 replace hf5_1 := OwnS.plain (M' := fl [blk a0_5, [b2], M]) (plain_int _) hf5_1
 clear hpk hsb hsb0 hpk2 hsb2 hst0 hsn hst
 have hpk : MS w5 [[b2], M] := hms.pick [some 1, some 2] _ rfl
 have hsu : ∀ x ∈ fl [[b2], M], x ∈ fl [blk a0_5, [b2], M] := pick_sub [some 1, some 2] _ rfl
 replace hs_p0_2 := hs_p0_2.sub hsu
 replace hf5_1 := hf5_1.ro hsu (pick_out hms 0 rfl [some 1, some 2] [[b2], M] rfl rfl)
 replace hms := hpk
 replace hfr : FR w.heap.size [[b2]] := hfr.pick [some 1] _ rfl
 clear hpk hsu
 refine x_pure 5 [(10, .tuple #[.slice a0_5 (x4.1).length c0_5, Vi x4.2]), (13, .slice a0_5 (x4.1).length c0_5), (14, Vi x4.2), (5, .slice a0_5 (x4.1).length c0_5), (4, Vi x4.2)] _ _ _ (by kernel_rfl) ?_
 refine x_ek ?_
 refine c_seq ?_
 refine c_sp ?_
 refine x_pure 2 [(15, Vi x4.2), (16, .bool (x4.2 != 0))] _ _ _ (by kernel_rfl) ?_
 refine x_ek ?_
 refine c_cond (x4.2 != 0) rfl (fun hb => ?_) (fun hb => ?_)
 · replace h := ite_t hb h
   refine c_sp ?_
   refine x_pure 4 [(17, Vi x4.2), (2, Vi 0), (3, Vi 0), (4, Vi x4.2)] _ _ _ (by kernel_rfl) ?_
   refine x_ek ?_
   refine c_norm [(2, Vi 0), (3, Vi 0), (4, Vi x4.2)] ⟨rfl, rfl, rfl, trivial⟩ (fun J => ?_)
   refine c_ret ?_
   refine k_then_ret ?_
   refine r_ret (r_vals [Vi 0, Vi 0, Vi x4.2] ⟨rfl, rfl, rfl, trivial⟩ ?_)
   have hx := some_inj h
   subst hx
   have hmr : MS w5 [M] := hms.pick [some 1] _ rfl
   have hsu : ∀ x ∈ fl [M], x ∈ fl [[b2], M] := pick_sub [some 1] _ rfl
   exact ⟨rfl, hev⟩
 replace h := ite_f hb h
 refine c_skip ?_
 refine k_then ?_
 refine c_norm [(1, Vp b2 0), (2, Vi 0), (3, Vi 0), (5, .slice a0_5 (x4.1).length c0_5)] ⟨rfl, rfl, rfl, rfl, trivial⟩ (fun J => ?_)
 refine c_seq ?_
 refine c_sp ?_
 refine x_pure 1 [(18, .slice a0_5 (x4.1).length c0_5)] _ _ _ (by kernel_rfl) ?_
 refine x_len (vs := [.slice a0_5 (x4.1).length c0_5]) (Vi ((x4.1).length : Int)) rfl rfl rfl (reads_len tsl22 _ _ _ _ _) ?_
 refine x_pure 1 [(20, Vi 0)] _ _ _ (by kernel_rfl) ?_
 refine x_ek ?_
 refine c_block ?_
 obtain ⟨d8, hd8, h8⟩ := bind_some h
 obtain ⟨m8, hd8⟩ := loop_some hd8
 refine c_loop (loop_rule hmx (σ := Nat × Int × Int × Int) (fun s => match s with | (_, v_t_s2_l8, cost_s3_l8, t20__s20_l8) => [(1, Vp b2 0), (2, Vi v_t_s2_l8), (3, Vi cost_s3_l8), (18, .slice a0_5 (x4.1).length c0_5), (19, Vi ((x4.1).length : Int)), (20, Vi t20__s20_l8)]) (fun s w' => match s with | (m, v_t_s2_l8, cost_s3_l8, t20__s20_l8) => loopN (connection_Best_L8 p0_0 p0_1 p0_2 p0_3 p0_4 x4) m (v_t_s2_l8, cost_s3_l8, t20__s20_l8) = some d8 ∧ Ev [] w w' ∧ MS w' [[b2], M] ∧ FR w.heap.size [[b2]] ∧ SlR (eInt .i64) w' (fl [[b2], M]) a_p0_2 c_p0_2 p0_2 ∧ w'.heap[b2]? = some (.cells #[Vi p0_0, Vi p0_1, .slice a_p0_2 (p0_2).length c_p0_2, Vi p0_3, Vi p0_4] 24 (0, 0)) ∧ SlR (eInt .i64) w' (fl [[b2], M]) a0_5 c0_5 x4.1) (fun s => s.1) (m8, 0, 0, 0) ⟨rfl, rfl, rfl, rfl, rfl, rfl, trivial⟩ ⟨hd8, hev, hms, hfr, hs_p0_2, hb2, hf5_1⟩ ?_)
 rintro ⟨m8, v_t_s2_l8, cost_s3_l8, t20__s20_l8⟩ J wl8 ⟨hn8, hev, hms, hfr, hs_p0_2, hb2, hf5_1⟩
 rcases m8 with _ | m8
 · exact (loopN_zero hn8).elim
 obtain ⟨t8, h, hn8⟩ := bind_some hn8
 refine c_sp ?_
 refine x_pure 1 [(21, .bool (decide (t20__s20_l8 < ((x4.1).length : Int))))] _ _ _ (by kernel_rfl) ?_
 refine x_ek ?_
 refine c_norm [(1, Vp b2 0), (2, Vi v_t_s2_l8), (3, Vi cost_s3_l8), (18, .slice a0_5 (x4.1).length c0_5), (19, Vi ((x4.1).length : Int)), (20, Vi t20__s20_l8), (21, .bool (decide (t20__s20_l8 < ((x4.1).length : Int))))] ⟨rfl, rfl, rfl, rfl, rfl, rfl, rfl, trivial⟩ (fun J => ?_)
 refine c_seq ?_
 refine c_cond (decide (t20__s20_l8 < ((x4.1).length : Int))) rfl (fun hb => ?_) (fun hb => ?_)
 · replace h := ite_t hb h
   refine c_skip ?_
   refine k_then ?_
   refine c_seq ?_
   refine c_block ?_
   refine c_sp ?_
   refine x_pure 1 [(22, Vi t20__s20_l8)] _ _ _ (by kernel_rfl) ?_
   obtain ⟨x10, hx10, h⟩ := bind_some h
   obtain ⟨ad10, cs10, hr10, hc10, hR⟩ := reads_index (Mo := []) tsl22 hf5_1 hx10
   obtain rfl := hR
   refine x_indexAddr (xv := .slice a0_5 (x4.1).length c0_5) (yv := Vi t20__s20_l8) (.pointer (some ad10)) rfl rfl rfl rfl hr10 ?_
   refine x_load (xv := .pointer (some ad10)) (Vi x10) rfl rfl rfl (reads_cell0 tcell3 hc10 (fun _ h => by cases h)) ?_
   refine x_pure 2 [(6, Vi t20__s20_l8), (7, Vi x10)] _ _ _ (by kernel_rfl) ?_
   refine x_ek ?_
   refine c_sp ?_
   refine x_load (xv := Vp b2 0) (.agg #[Vi p0_0, Vi p0_1, .slice a_p0_2 (p0_2).length c_p0_2, Vi p0_3, Vi p0_4]) rfl rfl rfl (reads_boxagg 0 [Vi p0_0, Vi p0_1, .slice a_p0_2 (p0_2).length c_p0_2, Vi p0_3, Vi p0_4] tagg24 hb2 nn rfl) ?_
   refine x_pure 1 [(27, Vi x10)] _ _ _ (by kernel_rfl) ?_
   obtain ⟨x12, hx, h⟩ := bind_some h
   have hpk : MS wl8 ([] ++ [[b2], M]) := hms.pick [some 0, some 1] _ rfl
   have hsb0 : ∀ x ∈ fl ([] ++ [[b2], M]), x ∈ fl [[b2], M] := pick_sub [some 0, some 1] _ rfl
   have hsb : ∀ x ∈ fl ([] ++ [(fl [[b2], M])]), x ∈ fl [[b2], M] := fun x hx => hsb0 x (fl_unfold x hx)
   have hcall := connection_Cost_w p0_0 p0_1 a_p0_2 c_p0_2 p0_2 p0_3 p0_4 x10 _ wl8 (fl [[b2], M]) (MS.fold (P := []) hpk) (hs_p0_2.sub hsb) hx
   refine x_call 14 #[] #[] [.agg #[Vi p0_0, Vi p0_1, .slice a_p0_2 (p0_2).length c_p0_2, Vi p0_3, Vi p0_4], Vi x10] _ rfl rfl rfl rfl hcall ?_
   rintro v w13 ⟨rfl, he13⟩
   clear hcall hx
   refine inl1 ?_
   have hst := Stp.ext (ls := [[b2], M]) he13
   replace hb2 := he13.box hb2 nn
   replace hs_p0_2 := hs_p0_2.step hst
   replace hf5_1 := hf5_1.step hst
   replace hms := hms.ev he13
   replace hev := hev.ext he13
   clear hpk hsb hsb0
   refine x_pure 5 [(25, .tuple #[Vi x12.1, Vi x12.2]), (29, Vi x12.1), (30, Vi x12.2), (8, Vi x12.1), (9, Vi x12.2)] _ _ _ (by kernel_rfl) ?_
   refine x_ek ?_
   refine c_norm [(1, Vp b2 0), (2, Vi v_t_s2_l8), (3, Vi cost_s3_l8), (6, Vi t20__s20_l8), (7, Vi x10), (8, Vi x12.1), (18, .slice a0_5 (x4.1).length c0_5), (19, Vi ((x4.1).length : Int)), (20, Vi t20__s20_l8)] ⟨rfl, rfl, rfl, rfl, rfl, rfl, rfl, rfl, rfl, trivial⟩ (fun J => ?_)
   refine c_sp ?_
   refine x_pure 3 [(31, Vi t20__s20_l8), (32, .bool (t20__s20_l8 == 0)), (33, .bool (t20__s20_l8 == 0))] _ _ _ (by kernel_rfl) ?_
   refine x_split 33 (t20__s20_l8 == 0) rfl (fun hb => ?_) (fun hb => ?_)
   · replace h := ite_t hb h
     refine x_pure 4 [(34, undef), (35, undef), (36, undef), (37, .bool true)] _ _ _ (by kernel_rfl) ?_
     refine x_ek ?_
     refine c_true rfl ?_
     refine c_plain ?_
     refine x_pure 4 [(38, Vi x10), (39, Vi x12.1), (2, Vi x10), (3, Vi x12.1)] _ _ _ (by kernel_rfl) ?_
     refine x_end rfl ?_
     refine k_block ?_
     refine k_then ?_
     refine c_plain ?_
     refine x_pure 2 [(40, Vi (IntKind.i64.wrap (t20__s20_l8 + 1))), (20, Vi (IntKind.i64.wrap (t20__s20_l8 + 1)))] _ _ _ (by kernel_rfl) ?_
     refine x_end rfl ?_
     have hx := some_inj h
     subst hx
     exact k_then ⟨(m8, x10, x12.1, IntKind.i64.wrap (t20__s20_l8 + 1)), ⟨rfl, rfl, rfl, rfl, rfl, rfl, trivial⟩, ⟨hn8, hev, hms, hfr, hs_p0_2, hb2, hf5_1⟩, Nat.lt_succ_self _⟩
   replace h := ite_f hb h
   refine x_pure 4 [(34, Vi x12.1), (35, Vi cost_s3_l8), (36, .bool (decide (x12.1 < cost_s3_l8))), (37, .bool (decide (x12.1 < cost_s3_l8)))] _ _ _ (by kernel_rfl) ?_
   refine x_ek ?_
   refine c_cond (decide (x12.1 < cost_s3_l8)) rfl (fun hb => ?_) (fun hb => ?_)
   · replace h := ite_t hb h
     refine c_plain ?_
     refine x_pure 4 [(38, Vi x10), (39, Vi x12.1), (2, Vi x10), (3, Vi x12.1)] _ _ _ (by kernel_rfl) ?_
     refine x_end rfl ?_
     refine k_block ?_
     refine k_then ?_
     refine c_plain ?_
     refine x_pure 2 [(40, Vi (IntKind.i64.wrap (t20__s20_l8 + 1))), (20, Vi (IntKind.i64.wrap (t20__s20_l8 + 1)))] _ _ _ (by kernel_rfl) ?_
     refine x_end rfl ?_
     have hx := some_inj h
     subst hx
     exact k_then ⟨(m8, x10, x12.1, IntKind.i64.wrap (t20__s20_l8 + 1)), ⟨rfl, rfl, rfl, rfl, rfl, rfl, trivial⟩, ⟨hn8, hev, hms, hfr, hs_p0_2, hb2, hf5_1⟩, Nat.lt_succ_self _⟩
   replace h := ite_f hb h
   refine c_skip ?_
   refine k_block ?_
   refine k_then ?_
   refine c_plain ?_
   refine x_pure 2 [(40, Vi (IntKind.i64.wrap (t20__s20_l8 + 1))), (20, Vi (IntKind.i64.wrap (t20__s20_l8 + 1)))] _ _ _ (by kernel_rfl) ?_
   refine x_end rfl ?_
   have hx := some_inj h
   subst hx
   exact k_then ⟨(m8, v_t_s2_l8, cost_s3_l8, IntKind.i64.wrap (t20__s20_l8 + 1)), ⟨rfl, rfl, rfl, rfl, rfl, rfl, trivial⟩, ⟨hn8, hev, hms, hfr, hs_p0_2, hb2, hf5_1⟩, Nat.lt_succ_self _⟩
 replace h := ite_f hb h
 refine c_exit ?_
 refine k_then_exit ?_
 have hx := some_inj h
 subst hx
 have hy := some_inj hn8
 subst hy
 replace h := h8
 refine k_then_exit ?_
 refine k_block_in ?_
 refine k_then ?_
 refine c_norm [(2, Vi v_t_s2_l8), (3, Vi cost_s3_l8)] ⟨rfl, rfl, trivial⟩ (fun J => ?_)
 refine c_sp ?_
 refine x_pure 5 [(41, Vi v_t_s2_l8), (42, Vi cost_s3_l8), (2, Vi v_t_s2_l8), (3, Vi cost_s3_l8), (4, Vi 0)] _ _ _ (by kernel_rfl) ?_
 refine x_ek ?_
 refine c_ret ?_
 refine r_ret (r_vals [Vi v_t_s2_l8, Vi cost_s3_l8, Vi 0] ⟨rfl, rfl, rfl, trivial⟩ ?_)
 have hx := some_inj h
 subst hx
 have hmr : MS wl8 [M] := hms.pick [some 1] _ rfl
 have hsu : ∀ x ∈ fl [M], x ∈ fl [[b2], M] := pick_sub [some 1] _ rfl
 exact ⟨rfl, hev⟩
end Go.Proofs.Ytdjadgodphfihaa
