/- Walks, printed by program: each function returns what the partial function of the same name returns. Conditions: those of each theorem. -/
import Derived.Test.YtdjadgodphfihaaGT
set_option linter.unusedVariables false
set_option linter.unusedSimpArgs false
set_option maxRecDepth 4000
namespace Go.Proofs.Ytdjadgodphfihaa
open Go Go.V Go.Proofs
def r41_Valid_L5 (p0_2 : List Int) (s : Bool × Int) : Option (Step (Bool × Int) Bool) :=
match s with
| (ok_s3_l5, i_s4_l5) =>
(if (decide (i_s4_l5 < ((p0_2).length : Int))) = true then
(if ok_s3_l5 = true then
((idx p0_2 i_s4_l5).bind fun x7 =>
(if (decide (x7 ≥ 0)) = true then
((idx p0_2 i_s4_l5).bind fun x9 =>
some (.next (decide (x9 ≤ 10080), IntKind.i64.wrap (i_s4_l5 + 1))))
else
some (.next (false, IntKind.i64.wrap (i_s4_l5 + 1)))))
else
some (.next (false, IntKind.i64.wrap (i_s4_l5 + 1))))
else
some (.done ok_s3_l5))

def r41_Valid_J4 (p0_2 : List Int) (ok_s3_j4 : Bool) : Option Bool :=
((loop (r41_Valid_L5 p0_2) (ok_s3_j4, 0)).bind fun d => match d with
| ok_s3_x5 => some ok_s3_x5)

def r41_Valid (p0_0 : Int) (p0_1 : Int) (p0_2 : List Int) (p0_3 : Int) (p0_4 : Int) : Option Bool :=
(if (decide (p0_0 ≥ 0)) = true then
(if (decide (p0_0 ≤ p0_1)) = true then
(if (decide (p0_1 ≤ 10080)) = true then
(if (decide (((p0_2).length : Int) ≤ 96)) = true then
(if (decide (p0_3 ≥ 0)) = true then
(if (decide (p0_3 ≤ 1000000)) = true then
(if (decide (p0_4 ≥ 0)) = true then
r41_Valid_J4 p0_2 (decide (p0_4 ≤ 1000000))
else
r41_Valid_J4 p0_2 false)
else
r41_Valid_J4 p0_2 false)
else
r41_Valid_J4 p0_2 false)
else
r41_Valid_J4 p0_2 false)
else
r41_Valid_J4 p0_2 false)
else
r41_Valid_J4 p0_2 false)
else
r41_Valid_J4 p0_2 false)

theorem r41_Valid_w (p0_0 : Int) (p0_1 : Int) (a_p0_2 : Option Addr) (c_p0_2 : Nat) (p0_2 : List Int) (p0_3 : Int) (p0_4 : Int) (r : Bool) (w : World) (M : List Nat) (hms : MS w [M]) (hs_p0_2 : SlR (eInt .i64) w (fl [M]) a_p0_2 c_p0_2 p0_2) (h : r41_Valid p0_0 p0_1 p0_2 p0_3 p0_4 = some r) : CallVC Try.prog 23 [.agg #[Vi p0_0, Vi p0_1, .slice a_p0_2 (p0_2).length c_p0_2, Vi p0_3, Vi p0_4]] w fun v w' => v = .bool r ∧ Ev [] w w' := by
 refine calls_vc hmx Try.func23 (by kernel_rfl) rfl (rs := [.tmp 2]) rfl (by kernel_rfl) (args := [.agg #[Vi p0_0, Vi p0_1, .slice a_p0_2 (p0_2).length c_p0_2, Vi p0_3, Vi p0_4]]) rfl ?_
 have hev : Ev [] w w := Ev.refl _ _
 have hfr : FR w.heap.size [] := FR.nil _
 refine c_sp ?_
 refine x_box (xv := .agg #[Vi p0_0, Vi p0_1, .slice a_p0_2 (p0_2).length c_p0_2, Vi p0_3, Vi p0_4]) rfl rfl rfl (fun b2 w2 hq2 hb2 he2 hz2 => ?_)
 replace hb2 : w2.heap[b2]? = some (.cells #[Vi p0_0, Vi p0_1, .slice a_p0_2 (p0_2).length c_p0_2, Vi p0_3, Vi p0_4] 24 (0, 0)) := hb2
 refine inl1 ?_
 have hst := Stp.box (ls := [M]) he2 hq2
 replace hs_p0_2 := hs_p0_2.step hst
 replace hms := hms.box he2 hq2 hb2
 replace hfr := hfr.box hev.size hq2
 replace hev := hev.ext he2
 refine x_pure 1 [(2, .bool false)] _ _ _ (by kernel_rfl) ?_
 refine x_ek ?_
 refine c_join (σ := Bool) (fun s => match s with | ok_s3_j4 => [(1, Vp b2 0), (3, .bool ok_s3_j4)]) (fun s w' => match s with | ok_s3_j4 => r41_Valid_J4 p0_2 ok_s3_j4 = some r ∧ Ev [] w w' ∧ MS w' [[b2], M] ∧ FR w.heap.size [[b2]] ∧ SlR (eInt .i64) w' (fl [[b2], M]) a_p0_2 c_p0_2 p0_2 ∧ w'.heap[b2]? = some (.cells #[Vi p0_0, Vi p0_1, .slice a_p0_2 (p0_2).length c_p0_2, Vi p0_3, Vi p0_4] 24 (0, 0))) ?_ ?_
 · refine c_plain ?_
   refine x_fieldAddr (xv := Vp b2 0) (Vp b2 0) rfl rfl rfl (reads_field tfld24_0 _ _) ?_
   refine x_load (xv := Vp b2 0) (Vi p0_0) rfl rfl rfl (reads_box tcell3 hb2 nn 0 _ rfl) ?_
   refine x_pure 2 [(7, .bool (decide (p0_0 ≥ 0))), (8, .bool (decide (p0_0 ≥ 0)))] _ _ _ (by kernel_rfl) ?_
   refine x_split 8 (decide (p0_0 ≥ 0)) rfl (fun hb => ?_) (fun hb => ?_)
   · replace h := ite_t hb h
     refine x_fieldAddr (xv := Vp b2 0) (Vp b2 0) rfl rfl rfl (reads_field tfld24_0 _ _) ?_
     refine x_load (xv := Vp b2 0) (Vi p0_0) rfl rfl rfl (reads_box tcell3 hb2 nn 0 _ rfl) ?_
     refine x_fieldAddr (xv := Vp b2 0) (Vp b2 1) rfl rfl rfl (reads_field tfld24_1 _ _) ?_
     refine x_load (xv := Vp b2 1) (Vi p0_1) rfl rfl rfl (reads_box tcell3 hb2 nn 1 _ rfl) ?_
     refine x_pure 3 [(13, .bool (decide (p0_0 ≤ p0_1))), (14, .bool (decide (p0_0 ≤ p0_1))), (15, .bool (decide (p0_0 ≤ p0_1)))] _ _ _ (by kernel_rfl) ?_
     refine x_split 15 (decide (p0_0 ≤ p0_1)) rfl (fun hb => ?_) (fun hb => ?_)
     · replace h := ite_t hb h
       refine x_fieldAddr (xv := Vp b2 0) (Vp b2 1) rfl rfl rfl (reads_field tfld24_1 _ _) ?_
       refine x_load (xv := Vp b2 1) (Vi p0_1) rfl rfl rfl (reads_box tcell3 hb2 nn 1 _ rfl) ?_
       refine x_pure 3 [(18, .bool (decide (p0_1 ≤ 10080))), (19, .bool (decide (p0_1 ≤ 10080))), (20, .bool (decide (p0_1 ≤ 10080)))] _ _ _ (by kernel_rfl) ?_
       refine x_split 20 (decide (p0_1 ≤ 10080)) rfl (fun hb => ?_) (fun hb => ?_)
       · replace h := ite_t hb h
         refine x_fieldAddr (xv := Vp b2 0) (Vp b2 2) rfl rfl rfl (reads_field tfld24_2 _ _) ?_
         refine x_load (xv := Vp b2 2) (.slice a_p0_2 (p0_2).length c_p0_2) rfl rfl rfl (reads_box tcell22 hb2 nn 2 _ rfl) ?_
         refine x_len (vs := [.slice a_p0_2 (p0_2).length c_p0_2]) (Vi ((p0_2).length : Int)) rfl rfl rfl (reads_len tsl22 _ _ _ _ _) ?_
         refine x_pure 3 [(24, .bool (decide (((p0_2).length : Int) ≤ 96))), (25, .bool (decide (((p0_2).length : Int) ≤ 96))), (26, .bool (decide (((p0_2).length : Int) ≤ 96)))] _ _ _ (by kernel_rfl) ?_
         refine x_split 26 (decide (((p0_2).length : Int) ≤ 96)) rfl (fun hb => ?_) (fun hb => ?_)
         · replace h := ite_t hb h
           refine x_fieldAddr (xv := Vp b2 0) (Vp b2 3) rfl rfl rfl (reads_field tfld24_3 _ _) ?_
           refine x_load (xv := Vp b2 3) (Vi p0_3) rfl rfl rfl (reads_box tcell3 hb2 nn 3 _ rfl) ?_
           refine x_pure 3 [(29, .bool (decide (p0_3 ≥ 0))), (30, .bool (decide (p0_3 ≥ 0))), (31, .bool (decide (p0_3 ≥ 0)))] _ _ _ (by kernel_rfl) ?_
           refine x_split 31 (decide (p0_3 ≥ 0)) rfl (fun hb => ?_) (fun hb => ?_)
           · replace h := ite_t hb h
             refine x_fieldAddr (xv := Vp b2 0) (Vp b2 3) rfl rfl rfl (reads_field tfld24_3 _ _) ?_
             refine x_load (xv := Vp b2 3) (Vi p0_3) rfl rfl rfl (reads_box tcell3 hb2 nn 3 _ rfl) ?_
             refine x_pure 3 [(34, .bool (decide (p0_3 ≤ 1000000))), (35, .bool (decide (p0_3 ≤ 1000000))), (36, .bool (decide (p0_3 ≤ 1000000)))] _ _ _ (by kernel_rfl) ?_
             refine x_split 36 (decide (p0_3 ≤ 1000000)) rfl (fun hb => ?_) (fun hb => ?_)
             · replace h := ite_t hb h
               refine x_fieldAddr (xv := Vp b2 0) (Vp b2 4) rfl rfl rfl (reads_field tfld24_4 _ _) ?_
               refine x_load (xv := Vp b2 4) (Vi p0_4) rfl rfl rfl (reads_box tcell3 hb2 nn 4 _ rfl) ?_
               refine x_pure 3 [(39, .bool (decide (p0_4 ≥ 0))), (40, .bool (decide (p0_4 ≥ 0))), (41, .bool (decide (p0_4 ≥ 0)))] _ _ _ (by kernel_rfl) ?_
               refine x_split 41 (decide (p0_4 ≥ 0)) rfl (fun hb => ?_) (fun hb => ?_)
               · replace h := ite_t hb h
                 refine x_fieldAddr (xv := Vp b2 0) (Vp b2 4) rfl rfl rfl (reads_field tfld24_4 _ _) ?_
                 refine x_load (xv := Vp b2 4) (Vi p0_4) rfl rfl rfl (reads_box tcell3 hb2 nn 4 _ rfl) ?_
                 refine x_pure 3 [(44, .bool (decide (p0_4 ≤ 1000000))), (45, .bool (decide (p0_4 ≤ 1000000))), (3, .bool (decide (p0_4 ≤ 1000000)))] _ _ _ (by kernel_rfl) ?_
                 refine x_end rfl ?_
                 exact k_then ⟨decide (p0_4 ≤ 1000000), ⟨rfl, rfl, trivial⟩, h, hev, hms, hfr, hs_p0_2, hb2⟩
               replace h := ite_f hb h
               refine x_pure 5 [(42, undef), (43, undef), (44, undef), (45, .bool false), (3, .bool false)] _ _ _ (by kernel_rfl) ?_
               refine x_end rfl ?_
               exact k_then ⟨false, ⟨rfl, rfl, trivial⟩, h, hev, hms, hfr, hs_p0_2, hb2⟩
             replace h := ite_f hb h
             refine x_pure 10 [(37, undef), (38, undef), (39, undef), (40, .bool false), (41, .bool false), (42, undef), (43, undef), (44, undef), (45, .bool false), (3, .bool false)] _ _ _ (by kernel_rfl) ?_
             refine x_end rfl ?_
             exact k_then ⟨false, ⟨rfl, rfl, trivial⟩, h, hev, hms, hfr, hs_p0_2, hb2⟩
           replace h := ite_f hb h
           refine x_pure 15 [(32, undef), (33, undef), (34, undef), (35, .bool false), (36, .bool false), (37, undef), (38, undef), (39, undef), (40, .bool false), (41, .bool false), (42, undef), (43, undef), (44, undef), (45, .bool false), (3, .bool false)] _ _ _ (by kernel_rfl) ?_
           refine x_end rfl ?_
           exact k_then ⟨false, ⟨rfl, rfl, trivial⟩, h, hev, hms, hfr, hs_p0_2, hb2⟩
         replace h := ite_f hb h
         refine x_pure 20 [(27, undef), (28, undef), (29, undef), (30, .bool false), (31, .bool false), (32, undef), (33, undef), (34, undef), (35, .bool false), (36, .bool false), (37, undef), (38, undef), (39, undef), (40, .bool false), (41, .bool false), (42, undef), (43, undef), (44, undef), (45, .bool false), (3, .bool false)] _ _ _ (by kernel_rfl) ?_
         refine x_end rfl ?_
         exact k_then ⟨false, ⟨rfl, rfl, trivial⟩, h, hev, hms, hfr, hs_p0_2, hb2⟩
       replace h := ite_f hb h
       refine x_pure 26 [(21, undef), (22, undef), (23, undef), (24, undef), (25, .bool false), (26, .bool false), (27, undef), (28, undef), (29, undef), (30, .bool false), (31, .bool false), (32, undef), (33, undef), (34, undef), (35, .bool false), (36, .bool false), (37, undef), (38, undef), (39, undef), (40, .bool false), (41, .bool false), (42, undef), (43, undef), (44, undef), (45, .bool false), (3, .bool false)] _ _ _ (by kernel_rfl) ?_
       refine x_end rfl ?_
       exact k_then ⟨false, ⟨rfl, rfl, trivial⟩, h, hev, hms, hfr, hs_p0_2, hb2⟩
     replace h := ite_f hb h
     refine x_pure 31 [(16, undef), (17, undef), (18, undef), (19, .bool false), (20, .bool false), (21, undef), (22, undef), (23, undef), (24, undef), (25, .bool false), (26, .bool false), (27, undef), (28, undef), (29, undef), (30, .bool false), (31, .bool false), (32, undef), (33, undef), (34, undef), (35, .bool false), (36, .bool false), (37, undef), (38, undef), (39, undef), (40, .bool false), (41, .bool false), (42, undef), (43, undef), (44, undef), (45, .bool false), (3, .bool false)] _ _ _ (by kernel_rfl) ?_
     refine x_end rfl ?_
     exact k_then ⟨false, ⟨rfl, rfl, trivial⟩, h, hev, hms, hfr, hs_p0_2, hb2⟩
   replace h := ite_f hb h
   refine x_pure 38 [(9, undef), (10, undef), (11, undef), (12, undef), (13, undef), (14, .bool false), (15, .bool false), (16, undef), (17, undef), (18, undef), (19, .bool false), (20, .bool false), (21, undef), (22, undef), (23, undef), (24, undef), (25, .bool false), (26, .bool false), (27, undef), (28, undef), (29, undef), (30, .bool false), (31, .bool false), (32, undef), (33, undef), (34, undef), (35, .bool false), (36, .bool false), (37, undef), (38, undef), (39, undef), (40, .bool false), (41, .bool false), (42, undef), (43, undef), (44, undef), (45, .bool false), (3, .bool false)] _ _ _ (by kernel_rfl) ?_
   refine x_end rfl ?_
   exact k_then ⟨false, ⟨rfl, rfl, trivial⟩, h, hev, hms, hfr, hs_p0_2, hb2⟩
 rintro ok_s3_j4 J wj4 ⟨h, hev, hms, hfr, hs_p0_2, hb2⟩
 refine c_seq ?_
 refine c_sp ?_
 refine x_pure 1 [(4, Vi 0)] _ _ _ (by kernel_rfl) ?_
 refine x_ek ?_
 refine c_norm [(1, Vp b2 0), (3, .bool ok_s3_j4), (4, Vi 0)] ⟨rfl, rfl, rfl, trivial⟩ (fun J => ?_)
 refine c_block ?_
 obtain ⟨d5, hd5, h5⟩ := bind_some h
 obtain ⟨m5, hd5⟩ := loop_some hd5
 refine c_loop (loop_rule hmx (σ := Nat × Bool × Int) (fun s => match s with | (_, ok_s3_l5, i_s4_l5) => [(1, Vp b2 0), (3, .bool ok_s3_l5), (4, Vi i_s4_l5)]) (fun s w' => match s with | (m, ok_s3_l5, i_s4_l5) => loopN (r41_Valid_L5 p0_2) m (ok_s3_l5, i_s4_l5) = some d5 ∧ Ev [] w w' ∧ MS w' [[b2], M] ∧ FR w.heap.size [[b2]] ∧ SlR (eInt .i64) w' (fl [[b2], M]) a_p0_2 c_p0_2 p0_2 ∧ w'.heap[b2]? = some (.cells #[Vi p0_0, Vi p0_1, .slice a_p0_2 (p0_2).length c_p0_2, Vi p0_3, Vi p0_4] 24 (0, 0))) (fun s => s.1) (m5, ok_s3_j4, 0) ⟨rfl, rfl, rfl, trivial⟩ ⟨hd5, hev, hms, hfr, hs_p0_2, hb2⟩ ?_)
 rintro ⟨m5, ok_s3_l5, i_s4_l5⟩ J wl5 ⟨hn5, hev, hms, hfr, hs_p0_2, hb2⟩
 rcases m5 with _ | m5
 · exact (loopN_zero hn5).elim
 obtain ⟨t5, h, hn5⟩ := bind_some hn5
 refine c_seq ?_
 refine c_sp ?_
 refine x_pure 1 [(46, Vi i_s4_l5)] _ _ _ (by kernel_rfl) ?_
 refine x_fieldAddr (xv := Vp b2 0) (Vp b2 2) rfl rfl rfl (reads_field tfld24_2 _ _) ?_
 refine x_load (xv := Vp b2 2) (.slice a_p0_2 (p0_2).length c_p0_2) rfl rfl rfl (reads_box tcell22 hb2 nn 2 _ rfl) ?_
 refine x_len (vs := [.slice a_p0_2 (p0_2).length c_p0_2]) (Vi ((p0_2).length : Int)) rfl rfl rfl (reads_len tsl22 _ _ _ _ _) ?_
 refine x_pure 1 [(50, .bool (decide (i_s4_l5 < ((p0_2).length : Int))))] _ _ _ (by kernel_rfl) ?_
 refine x_ek ?_
 refine c_norm [(1, Vp b2 0), (3, .bool ok_s3_l5), (4, Vi i_s4_l5), (50, .bool (decide (i_s4_l5 < ((p0_2).length : Int))))] ⟨rfl, rfl, rfl, rfl, trivial⟩ (fun J => ?_)
 refine c_cond (decide (i_s4_l5 < ((p0_2).length : Int))) rfl (fun hb => ?_) (fun hb => ?_)
 · replace h := ite_t hb h
   refine c_skip ?_
   refine k_then ?_
   refine c_seq ?_
   refine c_block ?_
   refine c_plain ?_
   refine x_pure 2 [(53, .bool ok_s3_l5), (54, .bool ok_s3_l5)] _ _ _ (by kernel_rfl) ?_
   refine x_split 54 ok_s3_l5 rfl (fun hb => ?_) (fun hb => ?_)
   · replace h := ite_t hb h
     refine x_fieldAddr (xv := Vp b2 0) (Vp b2 2) rfl rfl rfl (reads_field tfld24_2 _ _) ?_
     refine x_load (xv := Vp b2 2) (.slice a_p0_2 (p0_2).length c_p0_2) rfl rfl rfl (reads_box tcell22 hb2 nn 2 _ rfl) ?_
     refine x_pure 1 [(57, Vi i_s4_l5)] _ _ _ (by kernel_rfl) ?_
     obtain ⟨x7, hx7, h⟩ := bind_some h
     obtain ⟨ad7, cs7, hr7, hc7, hR⟩ := reads_index (Mo := []) tsl22 hs_p0_2 hx7
     obtain rfl := hR
     refine x_indexAddr (xv := .slice a_p0_2 (p0_2).length c_p0_2) (yv := Vi i_s4_l5) (.pointer (some ad7)) rfl rfl rfl rfl hr7 ?_
     refine x_load (xv := .pointer (some ad7)) (Vi x7) rfl rfl rfl (reads_cell0 tcell3 hc7 (fun _ h => by cases h)) ?_
     refine x_pure 3 [(60, .bool (decide (x7 ≥ 0))), (61, .bool (decide (x7 ≥ 0))), (62, .bool (decide (x7 ≥ 0)))] _ _ _ (by kernel_rfl) ?_
     refine x_split 62 (decide (x7 ≥ 0)) rfl (fun hb => ?_) (fun hb => ?_)
     · replace h := ite_t hb h
       refine x_fieldAddr (xv := Vp b2 0) (Vp b2 2) rfl rfl rfl (reads_field tfld24_2 _ _) ?_
       refine x_load (xv := Vp b2 2) (.slice a_p0_2 (p0_2).length c_p0_2) rfl rfl rfl (reads_box tcell22 hb2 nn 2 _ rfl) ?_
       refine x_pure 1 [(65, Vi i_s4_l5)] _ _ _ (by kernel_rfl) ?_
       obtain ⟨x9, hx9, h⟩ := bind_some h
       obtain ⟨ad9, cs9, hr9, hc9, hR⟩ := reads_index (Mo := []) tsl22 hs_p0_2 hx9
       obtain rfl := hR
       refine x_indexAddr (xv := .slice a_p0_2 (p0_2).length c_p0_2) (yv := Vi i_s4_l5) (.pointer (some ad9)) rfl rfl rfl rfl hr9 ?_
       refine x_load (xv := .pointer (some ad9)) (Vi x9) rfl rfl rfl (reads_cell0 tcell3 hc9 (fun _ h => by cases h)) ?_
       refine x_pure 3 [(68, .bool (decide (x9 ≤ 10080))), (69, .bool (decide (x9 ≤ 10080))), (3, .bool (decide (x9 ≤ 10080)))] _ _ _ (by kernel_rfl) ?_
       refine x_end rfl ?_
       refine k_block ?_
       refine k_then ?_
       refine c_norm [(1, Vp b2 0), (3, .bool (decide (x9 ≤ 10080))), (4, Vi i_s4_l5)] ⟨rfl, rfl, rfl, trivial⟩ (fun J => ?_)
       refine c_plain ?_
       refine x_pure 3 [(51, Vi i_s4_l5), (52, Vi (IntKind.i64.wrap (i_s4_l5 + 1))), (4, Vi (IntKind.i64.wrap (i_s4_l5 + 1)))] _ _ _ (by kernel_rfl) ?_
       refine x_end rfl ?_
       have hx := some_inj h
       subst hx
       exact k_then ⟨(m5, decide (x9 ≤ 10080), IntKind.i64.wrap (i_s4_l5 + 1)), ⟨rfl, rfl, rfl, trivial⟩, ⟨hn5, hev, hms, hfr, hs_p0_2, hb2⟩, Nat.lt_succ_self _⟩
     replace h := ite_f hb h
     refine x_pure 8 [(63, undef), (64, undef), (65, undef), (66, undef), (67, undef), (68, undef), (69, .bool false), (3, .bool false)] _ _ _ (by kernel_rfl) ?_
     refine x_end rfl ?_
     refine k_block ?_
     refine k_then ?_
     refine c_norm [(1, Vp b2 0), (3, .bool false), (4, Vi i_s4_l5)] ⟨rfl, rfl, rfl, trivial⟩ (fun J => ?_)
     refine c_plain ?_
     refine x_pure 3 [(51, Vi i_s4_l5), (52, Vi (IntKind.i64.wrap (i_s4_l5 + 1))), (4, Vi (IntKind.i64.wrap (i_s4_l5 + 1)))] _ _ _ (by kernel_rfl) ?_
     refine x_end rfl ?_
     have hx := some_inj h
     subst hx
     exact k_then ⟨(m5, false, IntKind.i64.wrap (i_s4_l5 + 1)), ⟨rfl, rfl, rfl, trivial⟩, ⟨hn5, hev, hms, hfr, hs_p0_2, hb2⟩, Nat.lt_succ_self _⟩
   replace h := ite_f hb h
   refine x_pure 16 [(55, undef), (56, undef), (57, undef), (58, undef), (59, undef), (60, undef), (61, .bool false), (62, .bool false), (63, undef), (64, undef), (65, undef), (66, undef), (67, undef), (68, undef), (69, .bool false), (3, .bool false)] _ _ _ (by kernel_rfl) ?_
   refine x_end rfl ?_
   refine k_block ?_
   refine k_then ?_
   refine c_norm [(1, Vp b2 0), (3, .bool false), (4, Vi i_s4_l5)] ⟨rfl, rfl, rfl, trivial⟩ (fun J => ?_)
   refine c_plain ?_
   refine x_pure 3 [(51, Vi i_s4_l5), (52, Vi (IntKind.i64.wrap (i_s4_l5 + 1))), (4, Vi (IntKind.i64.wrap (i_s4_l5 + 1)))] _ _ _ (by kernel_rfl) ?_
   refine x_end rfl ?_
   have hx := some_inj h
   subst hx
   exact k_then ⟨(m5, false, IntKind.i64.wrap (i_s4_l5 + 1)), ⟨rfl, rfl, rfl, trivial⟩, ⟨hn5, hev, hms, hfr, hs_p0_2, hb2⟩, Nat.lt_succ_self _⟩
 replace h := ite_f hb h
 refine c_exit ?_
 refine k_then_exit ?_
 have hx := some_inj h
 subst hx
 have hy := some_inj hn5
 subst hy
 replace h := h5
 refine k_then_exit ?_
 refine k_block_in ?_
 refine k_then ?_
 refine c_norm [(3, .bool ok_s3_l5)] ⟨rfl, trivial⟩ (fun J => ?_)
 refine c_sp ?_
 refine x_pure 2 [(70, .bool ok_s3_l5), (2, .bool ok_s3_l5)] _ _ _ (by kernel_rfl) ?_
 refine x_ek ?_
 refine c_ret ?_
 refine r_ret (r_vals [.bool ok_s3_l5] ⟨rfl, trivial⟩ ?_)
 have hx := some_inj h
 subst hx
 have hmr : MS wl5 [M] := hms.pick [some 1] _ rfl
 have hsu : ∀ x ∈ fl [M], x ∈ fl [[b2], M] := pick_sub [some 1] _ rfl
 exact ⟨rfl, hev⟩
def r41_check (p0_0 : Int) (p0_1 : Int) (p0_2 : List Int) (p0_3 : Int) (p0_4 : Int) (p1 : Int) : Option Int :=
((r41_Valid p0_0 p0_1 p0_2 p0_3 p0_4).bind fun x5 =>
(if (!x5) = true then
some 1
else
(if (decide (p1 < p0_0)) = true then
some 2
else
(if (decide (p1 > p0_1)) = true then
some 2
else
some 0))))

theorem r41_check_w (p0_0 : Int) (p0_1 : Int) (a_p0_2 : Option Addr) (c_p0_2 : Nat) (p0_2 : List Int) (p0_3 : Int) (p0_4 : Int) (p1 : Int) (r : Int) (w : World) (M : List Nat) (hms : MS w [M]) (hs_p0_2 : SlR (eInt .i64) w (fl [M]) a_p0_2 c_p0_2 p0_2) (h : r41_check p0_0 p0_1 p0_2 p0_3 p0_4 p1 = some r) : CallVC Try.prog 28 [.agg #[Vi p0_0, Vi p0_1, .slice a_p0_2 (p0_2).length c_p0_2, Vi p0_3, Vi p0_4], Vi p1] w fun v w' => v = Vi r ∧ Ev [] w w' := by
 refine calls_vc hmx Try.func28 (by kernel_rfl) rfl (rs := [.tmp 4]) rfl (by kernel_rfl) (args := [.agg #[Vi p0_0, Vi p0_1, .slice a_p0_2 (p0_2).length c_p0_2, Vi p0_3, Vi p0_4], Vi p1]) rfl ?_
 have hev : Ev [] w w := Ev.refl _ _
 have hfr : FR w.heap.size [] := FR.nil _
 refine c_sp ?_
 refine x_box (xv := .agg #[Vi p0_0, Vi p0_1, .slice a_p0_2 (p0_2).length c_p0_2, Vi p0_3, Vi p0_4]) rfl rfl rfl (fun b2 w2 hq2 hb2 he2 hz2 => ?_)
 replace hb2 : w2.heap[b2]? = some (.cells #[Vi p0_0, Vi p0_1, .slice a_p0_2 (p0_2).length c_p0_2, Vi p0_3, Vi p0_4] 24 (0, 0)) := hb2
 refine inl1 ?_
 have hst := Stp.box (ls := [M]) he2 hq2
 replace hs_p0_2 := hs_p0_2.step hst
 replace hms := hms.box he2 hq2 hb2
 replace hfr := hfr.box hev.size hq2
 replace hev := hev.ext he2
 refine x_pure 1 [(4, Vi 0)] _ _ _ (by kernel_rfl) ?_
 refine x_ek ?_
 refine c_seq ?_
 refine c_sp ?_
 refine x_load (xv := Vp b2 0) (.agg #[Vi p0_0, Vi p0_1, .slice a_p0_2 (p0_2).length c_p0_2, Vi p0_3, Vi p0_4]) rfl rfl rfl (reads_boxagg 0 [Vi p0_0, Vi p0_1, .slice a_p0_2 (p0_2).length c_p0_2, Vi p0_3, Vi p0_4] tagg24 hb2 nn rfl) ?_
 obtain ⟨x5, hx, h⟩ := bind_some h
 have hpk : MS w2 ([] ++ [[b2], M]) := hms.pick [some 0, some 1] _ rfl
 have hsb0 : ∀ x ∈ fl ([] ++ [[b2], M]), x ∈ fl [[b2], M] := pick_sub [some 0, some 1] _ rfl
 have hsb : ∀ x ∈ fl ([] ++ [(fl [[b2], M])]), x ∈ fl [[b2], M] := fun x hx => hsb0 x (fl_unfold x hx)
 have hcall := r41_Valid_w p0_0 p0_1 a_p0_2 c_p0_2 p0_2 p0_3 p0_4 _ w2 (fl [[b2], M]) (MS.fold (P := []) hpk) (hs_p0_2.sub hsb) hx
 refine x_call 23 #[] #[] [.agg #[Vi p0_0, Vi p0_1, .slice a_p0_2 (p0_2).length c_p0_2, Vi p0_3, Vi p0_4]] _ rfl rfl rfl rfl hcall ?_
 rintro v w6 ⟨rfl, he6⟩
 clear hcall hx
 refine inl1 ?_
 have hst := Stp.ext (ls := [[b2], M]) he6
 replace hs_p0_2 := hs_p0_2.step hst
 replace hb2 := he6.box hb2 nn
 replace hms := hms.ev he6
 replace hev := hev.ext he6
 clear hpk hsb hsb0
 refine x_pure 1 [(7, .bool (!x5))] _ _ _ (by kernel_rfl) ?_
 refine x_ek ?_
 refine c_cond (!x5) rfl (fun hb => ?_) (fun hb => ?_)
 · replace h := ite_t hb h
   refine c_sp ?_
   refine x_pure 1 [(4, Vi 1)] _ _ _ (by kernel_rfl) ?_
   refine x_ek ?_
   refine c_ret ?_
   refine k_then_ret ?_
   refine r_ret (r_vals [Vi 1] ⟨rfl, trivial⟩ ?_)
   have hx := some_inj h
   subst hx
   have hmr : MS w6 [M] := hms.pick [some 1] _ rfl
   have hsu : ∀ x ∈ fl [M], x ∈ fl [[b2], M] := pick_sub [some 1] _ rfl
   exact ⟨rfl, hev⟩
 replace h := ite_f hb h
 refine c_skip ?_
 refine k_then ?_
 refine c_seq ?_
 refine c_sp ?_
 refine x_pure 1 [(8, Vi p1)] _ _ _ (by kernel_rfl) ?_
 refine x_fieldAddr (xv := Vp b2 0) (Vp b2 0) rfl rfl rfl (reads_field tfld24_0 _ _) ?_
 refine x_load (xv := Vp b2 0) (Vi p0_0) rfl rfl rfl (reads_box tcell3 hb2 nn 0 _ rfl) ?_
 refine x_pure 2 [(11, .bool (decide (p1 < p0_0))), (12, .bool (decide (p1 < p0_0)))] _ _ _ (by kernel_rfl) ?_
 refine x_split 12 (decide (p1 < p0_0)) rfl (fun hb => ?_) (fun hb => ?_)
 · replace h := ite_t hb h
   refine x_pure 5 [(13, undef), (14, undef), (15, undef), (16, undef), (17, .bool true)] _ _ _ (by kernel_rfl) ?_
   refine x_ek ?_
   refine c_norm [(17, .bool true)] ⟨rfl, trivial⟩ (fun J => ?_)
   refine c_true rfl ?_
   refine c_sp ?_
   refine x_pure 1 [(4, Vi 2)] _ _ _ (by kernel_rfl) ?_
   refine x_ek ?_
   refine c_ret ?_
   refine k_then_ret ?_
   refine r_ret (r_vals [Vi 2] ⟨rfl, trivial⟩ ?_)
   have hx := some_inj h
   subst hx
   have hmr : MS w6 [M] := hms.pick [some 1] _ rfl
   have hsu : ∀ x ∈ fl [M], x ∈ fl [[b2], M] := pick_sub [some 1] _ rfl
   exact ⟨rfl, hev⟩
 replace h := ite_f hb h
 refine x_pure 1 [(13, Vi p1)] _ _ _ (by kernel_rfl) ?_
 refine x_fieldAddr (xv := Vp b2 0) (Vp b2 1) rfl rfl rfl (reads_field tfld24_1 _ _) ?_
 refine x_load (xv := Vp b2 1) (Vi p0_1) rfl rfl rfl (reads_box tcell3 hb2 nn 1 _ rfl) ?_
 refine x_pure 2 [(16, .bool (decide (p1 > p0_1))), (17, .bool (decide (p1 > p0_1)))] _ _ _ (by kernel_rfl) ?_
 refine x_ek ?_
 refine c_norm [(17, .bool (decide (p1 > p0_1)))] ⟨rfl, trivial⟩ (fun J => ?_)
 refine c_cond (decide (p1 > p0_1)) rfl (fun hb => ?_) (fun hb => ?_)
 · replace h := ite_t hb h
   refine c_sp ?_
   refine x_pure 1 [(4, Vi 2)] _ _ _ (by kernel_rfl) ?_
   refine x_ek ?_
   refine c_ret ?_
   refine k_then_ret ?_
   refine r_ret (r_vals [Vi 2] ⟨rfl, trivial⟩ ?_)
   have hx := some_inj h
   subst hx
   have hmr : MS w6 [M] := hms.pick [some 1] _ rfl
   have hsu : ∀ x ∈ fl [M], x ∈ fl [[b2], M] := pick_sub [some 1] _ rfl
   exact ⟨rfl, hev⟩
 replace h := ite_f hb h
 refine c_skip ?_
 refine k_then ?_
 refine c_sp ?_
 refine x_pure 1 [(4, Vi 0)] _ _ _ (by kernel_rfl) ?_
 refine x_ek ?_
 refine c_ret ?_
 refine r_ret (r_vals [Vi 0] ⟨rfl, trivial⟩ ?_)
 have hx := some_inj h
 subst hx
 have hmr : MS w6 [M] := hms.pick [some 1] _ rfl
 have hsu : ∀ x ∈ fl [M], x ∈ fl [[b2], M] := pick_sub [some 1] _ rfl
 exact ⟨rfl, hev⟩
def r41_Left_L7 (p0_2 : List Int) (p1 : Int) (s : (List Int) × Int) : Option (Step ((List Int) × Int) (List Int)) :=
match s with
| (d9_l7, i_s8_l7) =>
(if (decide (i_s8_l7 < ((p0_2).length : Int))) = true then
((idx p0_2 i_s8_l7).bind fun x13 =>
(if (decide (x13 > p1)) = true then
(if d9_l7.length + ([i_s8_l7]).length ≤ 4294967296 then
some (.next ((d9_l7 ++ [i_s8_l7]), IntKind.i64.wrap (i_s8_l7 + 1)))
else none)
else
some (.next (d9_l7, IntKind.i64.wrap (i_s8_l7 + 1)))))
else
some (.done d9_l7))

def r41_Left (p0_0 : Int) (p0_1 : Int) (p0_2 : List Int) (p0_3 : Int) (p0_4 : Int) (p1 : Int) : Option ((List Int) × Int) :=
((r41_check p0_0 p0_1 p0_2 p0_3 p0_4 p1).bind fun x5 =>
(if (x5 != 0) = true then
some ([], x5)
else
((loop (r41_Left_L7 p0_2 p1) (([] : List Int), 0)).bind fun d => match d with
| d9_x7 => some (d9_x7, 0))))

theorem r41_Left_w (p0_0 : Int) (p0_1 : Int) (a_p0_2 : Option Addr) (c_p0_2 : Nat) (p0_2 : List Int) (p0_3 : Int) (p0_4 : Int) (p1 : Int) (r : (List Int) × Int) (w : World) (M : List Nat) (hms : MS w [M]) (hs_p0_2 : SlR (eInt .i64) w (fl [M]) a_p0_2 c_p0_2 p0_2) (h : r41_Left p0_0 p0_1 p0_2 p0_3 p0_4 p1 = some r) : CallVC Try.prog 18 [.agg #[Vi p0_0, Vi p0_1, .slice a_p0_2 (p0_2).length c_p0_2, Vi p0_3, Vi p0_4], Vi p1] w fun v w' => ∃ (a0' : Option Addr), ∃ (c0' : Nat), v = .tuple #[.slice a0' (r.1).length c0', Vi r.2] ∧ Ev [] w w' ∧ MS w' [blk a0', M] ∧ FR w.heap.size [blk a0'] ∧ OwnS (eInt .i64) 3 w' (fl [blk a0', M]) a0' c0' r.1 := by
 refine calls_vc hmx Try.func18 (by kernel_rfl) rfl (rs := [.tmp 4, .tmp 5]) rfl (by kernel_rfl) (args := [.agg #[Vi p0_0, Vi p0_1, .slice a_p0_2 (p0_2).length c_p0_2, Vi p0_3, Vi p0_4], Vi p1]) rfl ?_
 have hev : Ev [] w w := Ev.refl _ _
 have hfr : FR w.heap.size [] := FR.nil _
 refine c_sp ?_
 refine x_box (xv := .agg #[Vi p0_0, Vi p0_1, .slice a_p0_2 (p0_2).length c_p0_2, Vi p0_3, Vi p0_4]) rfl rfl rfl (fun b2 w2 hq2 hb2 he2 hz2 => ?_)
 replace hb2 : w2.heap[b2]? = some (.cells #[Vi p0_0, Vi p0_1, .slice a_p0_2 (p0_2).length c_p0_2, Vi p0_3, Vi p0_4] 24 (0, 0)) := hb2
 refine inl1 ?_
 have hst := Stp.box (ls := [M]) he2 hq2
 replace hs_p0_2 := hs_p0_2.step hst
 replace hms := hms.box he2 hq2 hb2
 replace hfr := hfr.box hev.size hq2
 replace hev := hev.ext he2
 refine x_pure 2 [(4, .slice none 0 0), (5, Vi 0)] _ _ _ (by kernel_rfl) ?_
 refine x_ek ?_
 refine c_seq ?_
 refine c_sp ?_
 refine x_load (xv := Vp b2 0) (.agg #[Vi p0_0, Vi p0_1, .slice a_p0_2 (p0_2).length c_p0_2, Vi p0_3, Vi p0_4]) rfl rfl rfl (reads_boxagg 0 [Vi p0_0, Vi p0_1, .slice a_p0_2 (p0_2).length c_p0_2, Vi p0_3, Vi p0_4] tagg24 hb2 nn rfl) ?_
 refine x_pure 1 [(10, Vi p1)] _ _ _ (by kernel_rfl) ?_
 obtain ⟨x5, hx, h⟩ := bind_some h
 have hpk : MS w2 ([] ++ [[b2], M]) := hms.pick [some 0, some 1] _ rfl
 have hsb0 : ∀ x ∈ fl ([] ++ [[b2], M]), x ∈ fl [[b2], M] := pick_sub [some 0, some 1] _ rfl
 have hsb : ∀ x ∈ fl ([] ++ [(fl [[b2], M])]), x ∈ fl [[b2], M] := fun x hx => hsb0 x (fl_unfold x hx)
 have hcall := r41_check_w p0_0 p0_1 a_p0_2 c_p0_2 p0_2 p0_3 p0_4 p1 _ w2 (fl [[b2], M]) (MS.fold (P := []) hpk) (hs_p0_2.sub hsb) hx
 refine x_call 28 #[] #[] [.agg #[Vi p0_0, Vi p0_1, .slice a_p0_2 (p0_2).length c_p0_2, Vi p0_3, Vi p0_4], Vi p1] _ rfl rfl rfl rfl hcall ?_
 rintro v w6 ⟨rfl, he6⟩
 clear hcall hx
 refine inl1 ?_
 have hst := Stp.ext (ls := [[b2], M]) he6
 replace hs_p0_2 := hs_p0_2.step hst
 replace hb2 := he6.box hb2 nn
 replace hms := hms.ev he6
 replace hev := hev.ext he6
 clear hpk hsb hsb0
 refine x_pure 1 [(6, Vi x5)] _ _ _ (by kernel_rfl) ?_
 refine x_ek ?_
 refine c_sp ?_
 refine x_pure 2 [(12, Vi x5), (13, .bool (x5 != 0))] _ _ _ (by kernel_rfl) ?_
 refine x_ek ?_
 refine c_cond (x5 != 0) rfl (fun hb => ?_) (fun hb => ?_)
 · replace h := ite_t hb h
   refine c_sp ?_
   refine x_pure 3 [(14, Vi x5), (4, .slice none 0 0), (5, Vi x5)] _ _ _ (by kernel_rfl) ?_
   refine x_ek ?_
   refine c_ret ?_
   refine k_then_ret ?_
   refine r_ret (r_vals [.slice none 0 0, Vi x5] ⟨rfl, rfl, trivial⟩ ?_)
   have hx := some_inj h
   subst hx
   have hmr : MS w6 [blk none, M] := hms.pick [none, some 1] _ rfl
   have hsu : ∀ x ∈ fl [blk none, M], x ∈ fl [[b2], M] := pick_sub [none, some 1] _ rfl
   have hfe : FR w.heap.size [blk none] := hfr.pick [none] _ rfl
   exact ⟨none, 0, rfl, hev, hmr, hfe, OwnS.nil _ _ _ _⟩
 replace h := ite_f hb h
 refine c_skip ?_
 refine k_then ?_
 refine c_sp ?_
 refine x_pure 1 [(7, .slice none 0 0)] _ _ _ (by kernel_rfl) ?_
 refine x_ek ?_
 refine c_seq ?_
 refine c_sp ?_
 refine x_pure 1 [(8, Vi 0)] _ _ _ (by kernel_rfl) ?_
 refine x_ek ?_
 refine c_block ?_
 have hst := Stp.push (ls := [[b2], M]) (l := blk none) (Ev.refl [] w6) (fun _ h => by cases h) (fun _ h => by cases h)
 replace hs_p0_2 := hs_p0_2.step hst
 replace hb2 := (Ev.refl [] _).box hb2 nn
 replace hms := hms.push (l := blk none) (Ev.refl [] _) (fun _ h => by cases h)
 replace hfr := hfr.push (l := blk none) (fun _ h => by cases h)
 have ho8 := OwnS.nil (eInt .i64) 3 w6 (fl [blk none, [b2], M])
 have hpk : MS w6 [[b2], blk none, M] := hms.pick [some 1, some 0, some 2] _ rfl
 have hsu : ∀ x ∈ fl [[b2], blk none, M], x ∈ fl [blk none, [b2], M] := pick_sub [some 1, some 0, some 2] _ rfl
 replace hs_p0_2 := hs_p0_2.sub hsu
 replace ho8 := ho8.sub hsu
 replace hms := hpk
 replace hfr : FR w.heap.size [[b2], blk none] := hfr.pick [some 1, some 0] _ rfl
 clear hpk hsu
 obtain ⟨d7, hd7, h7⟩ := bind_some h
 obtain ⟨m7, hd7⟩ := loop_some hd7
 refine c_loop (loop_rule hmx (σ := Nat × (List Int) × Int × Option Addr × Nat) (fun s => match s with | (_, d9_l7, i_s8_l7, a9_l7, c9_l7) => [(1, Vi p1), (2, Vp b2 0), (7, .slice a9_l7 (d9_l7).length c9_l7), (8, Vi i_s8_l7)]) (fun s w' => match s with | (m, d9_l7, i_s8_l7, a9_l7, c9_l7) => loopN (r41_Left_L7 p0_2 p1) m (d9_l7, i_s8_l7) = some d7 ∧ Ev [] w w' ∧ MS w' [[b2], blk a9_l7, M] ∧ FR w.heap.size [[b2], blk a9_l7] ∧ SlR (eInt .i64) w' (fl [[b2], blk a9_l7, M]) a_p0_2 c_p0_2 p0_2 ∧ w'.heap[b2]? = some (.cells #[Vi p0_0, Vi p0_1, .slice a_p0_2 (p0_2).length c_p0_2, Vi p0_3, Vi p0_4] 24 (0, 0)) ∧ OwnS (eInt .i64) 3 w' (fl [[b2], blk a9_l7, M]) a9_l7 c9_l7 d9_l7) (fun s => s.1) (m7, ([] : List Int), 0, none, 0) ⟨rfl, rfl, rfl, rfl, trivial⟩ ⟨hd7, hev, hms, hfr, hs_p0_2, hb2, ho8⟩ ?_)
 rintro ⟨m7, d9_l7, i_s8_l7, a9_l7, c9_l7⟩ J wl7 ⟨hn7, hev, hms, hfr, hs_p0_2, hb2, hj9_l7⟩
 rcases m7 with _ | m7
 · exact (loopN_zero hn7).elim
 obtain ⟨t7, h, hn7⟩ := bind_some hn7
 refine c_seq ?_
 refine c_sp ?_
 refine x_pure 1 [(15, Vi i_s8_l7)] _ _ _ (by kernel_rfl) ?_
 refine x_fieldAddr (xv := Vp b2 0) (Vp b2 2) rfl rfl rfl (reads_field tfld24_2 _ _) ?_
 refine x_load (xv := Vp b2 2) (.slice a_p0_2 (p0_2).length c_p0_2) rfl rfl rfl (reads_box tcell22 hb2 nn 2 _ rfl) ?_
 refine x_len (vs := [.slice a_p0_2 (p0_2).length c_p0_2]) (Vi ((p0_2).length : Int)) rfl rfl rfl (reads_len tsl22 _ _ _ _ _) ?_
 refine x_pure 1 [(19, .bool (decide (i_s8_l7 < ((p0_2).length : Int))))] _ _ _ (by kernel_rfl) ?_
 refine x_ek ?_
 refine c_norm [(1, Vi p1), (2, Vp b2 0), (7, .slice a9_l7 (d9_l7).length c9_l7), (8, Vi i_s8_l7), (19, .bool (decide (i_s8_l7 < ((p0_2).length : Int))))] ⟨rfl, rfl, rfl, rfl, rfl, trivial⟩ (fun J => ?_)
 refine c_cond (decide (i_s8_l7 < ((p0_2).length : Int))) rfl (fun hb => ?_) (fun hb => ?_)
 · replace h := ite_t hb h
   refine c_skip ?_
   refine k_then ?_
   refine c_seq ?_
   refine c_block ?_
   refine c_sp ?_
   refine x_fieldAddr (xv := Vp b2 0) (Vp b2 2) rfl rfl rfl (reads_field tfld24_2 _ _) ?_
   refine x_load (xv := Vp b2 2) (.slice a_p0_2 (p0_2).length c_p0_2) rfl rfl rfl (reads_box tcell22 hb2 nn 2 _ rfl) ?_
   refine x_pure 1 [(24, Vi i_s8_l7)] _ _ _ (by kernel_rfl) ?_
   obtain ⟨x13, hx13, h⟩ := bind_some h
   obtain ⟨ad13, cs13, hr13, hc13, hR⟩ := reads_index (Mo := []) tsl22 hs_p0_2 hx13
   obtain rfl := hR
   refine x_indexAddr (xv := .slice a_p0_2 (p0_2).length c_p0_2) (yv := Vi i_s8_l7) (.pointer (some ad13)) rfl rfl rfl rfl hr13 ?_
   refine x_load (xv := .pointer (some ad13)) (Vi x13) rfl rfl rfl (reads_cell0 tcell3 hc13 (fun _ h => by cases h)) ?_
   refine x_pure 2 [(27, Vi p1), (28, .bool (decide (x13 > p1)))] _ _ _ (by kernel_rfl) ?_
   refine x_ek ?_
   refine c_cond (decide (x13 > p1)) rfl (fun hb => ?_) (fun hb => ?_)
   · replace h := ite_t hb h
     refine c_plain ?_
     refine x_pure 2 [(29, .slice a9_l7 (d9_l7).length c9_l7), (30, Vi i_s8_l7)] _ _ _ (by kernel_rfl) ?_
     refine x_buildSlice (vs := [(0, Vi i_s8_l7)]) #[Vi i_s8_l7] 3 rfl rfl rfl (by kernel_rfl) (fun b15 w15 hq15 hb15 he15 hz15 => ?_)
     refine inl1 ?_
     have hms0 := hms
     have hst := Stp.ext (ls := [[b2], blk a9_l7, M]) he15
     replace hb2 := he15.box hb2 nn
     replace hs_p0_2 := hs_p0_2.step hst
     replace hj9_l7 := hj9_l7.step hst he15 nn2
     replace hms := hms.ev he15
     replace hev := hev.ext he15
     have hs15 : SlR (eInt .i64) w15 (fl [[b2], blk a9_l7, M]) (Ad b15 0) 1 ([i_s8_l7]) := ro_of_box hms0 hq15 hb15 rfl rfl (cells_at (cs := [Vi i_s8_l7]) (CellsOf.cons (c := [Vi i_s8_l7]) rfl CellsOf.nil))
     clear hb15 hms0
     have hg := guard_l h
     replace h := guard_r h
     obtain ⟨a17, c17, w17, hr17, he17, hn17, hm17, hw17⟩ := own_appendN tel22 22 hj9_l7 (mem_flat 1 rfl) hs15 hg
     refine x_builtin (vs := [.slice a9_l7 (d9_l7).length c9_l7, .slice (Ad b15 0) ([i_s8_l7]).length 1]) _ w17 rfl rfl rfl rfl (run_value _ _ _ _ hr17) ?_
     refine inl1 ?_
     have hst : Stp (fl [[b2], blk a9_l7, M]) w15 (fl [[b2], blk a17, M]) w17 := Stp.upd 1 he17 rfl (fun b hb => (hn17 b hb).1)
     replace hb2 := he17.box hb2 (hms.apart 0 1 rfl rfl rfl _ mem1)
     replace hs_p0_2 := hs_p0_2.step hst
     replace hs15 := hs15.step hst
     replace hms : MS w17 [[b2], blk a17, M] := hms.upd 1 he17 rfl hn17
     have hfr2 : FR w.heap.size [[b2], blk a17] := hfr.upd 1 rfl hev.size (fun b hb => (hn17 b hb).1)
     replace hev := hev.then he17 (fun b hb => .inr (hfr.at 1 rfl b hb))
     replace hfr := hfr2
     clear hfr2
     replace hj9_l7 := hw17 (fl [[b2], blk a17, M]) hst.new
     clear hw17
     refine x_pure 1 [(7, .slice a17 ((d9_l7 ++ [i_s8_l7])).length c17)] _ _ _ (by kernel_rfl) ?_
     refine x_end rfl ?_
     refine k_block ?_
     refine k_then ?_
     refine c_norm [(1, Vi p1), (2, Vp b2 0), (7, .slice a17 ((d9_l7 ++ [i_s8_l7])).length c17), (8, Vi i_s8_l7)] ⟨rfl, rfl, rfl, rfl, trivial⟩ (fun J => ?_)
     refine c_plain ?_
     refine x_pure 3 [(20, Vi i_s8_l7), (21, Vi (IntKind.i64.wrap (i_s8_l7 + 1))), (8, Vi (IntKind.i64.wrap (i_s8_l7 + 1)))] _ _ _ (by kernel_rfl) ?_
     refine x_end rfl ?_
     have hx := some_inj h
     subst hx
     exact k_then ⟨(m7, (d9_l7 ++ [i_s8_l7]), IntKind.i64.wrap (i_s8_l7 + 1), a17, c17), ⟨rfl, rfl, rfl, rfl, trivial⟩, ⟨hn7, hev, hms, hfr, hs_p0_2, hb2, hj9_l7⟩, Nat.lt_succ_self _⟩
   replace h := ite_f hb h
   refine c_skip ?_
   refine k_block ?_
   refine k_then ?_
   refine c_plain ?_
   refine x_pure 3 [(20, Vi i_s8_l7), (21, Vi (IntKind.i64.wrap (i_s8_l7 + 1))), (8, Vi (IntKind.i64.wrap (i_s8_l7 + 1)))] _ _ _ (by kernel_rfl) ?_
   refine x_end rfl ?_
   have hx := some_inj h
   subst hx
   exact k_then ⟨(m7, d9_l7, IntKind.i64.wrap (i_s8_l7 + 1), a9_l7, c9_l7), ⟨rfl, rfl, rfl, rfl, trivial⟩, ⟨hn7, hev, hms, hfr, hs_p0_2, hb2, hj9_l7⟩, Nat.lt_succ_self _⟩
 replace h := ite_f hb h
 refine c_exit ?_
 refine k_then_exit ?_
 have hx := some_inj h
 subst hx
 have hy := some_inj hn7
 subst hy
 replace h := h7
 refine k_then_exit ?_
 refine k_block_in ?_
 refine k_then ?_
 refine c_norm [(7, .slice a9_l7 (d9_l7).length c9_l7)] ⟨rfl, trivial⟩ (fun J => ?_)
 refine c_sp ?_
 refine x_pure 3 [(33, .slice a9_l7 (d9_l7).length c9_l7), (4, .slice a9_l7 (d9_l7).length c9_l7), (5, Vi 0)] _ _ _ (by kernel_rfl) ?_
 refine x_ek ?_
 refine c_ret ?_
 refine r_ret (r_vals [.slice a9_l7 (d9_l7).length c9_l7, Vi 0] ⟨rfl, rfl, trivial⟩ ?_)
 have hx := some_inj h
 subst hx
 have hmr : MS wl7 [blk a9_l7, M] := hms.pick [some 1, some 2] _ rfl
 have hsu : ∀ x ∈ fl [blk a9_l7, M], x ∈ fl [[b2], blk a9_l7, M] := pick_sub [some 1, some 2] _ rfl
 have hfe : FR w.heap.size [blk a9_l7] := hfr.pick [some 1] _ rfl
 exact ⟨a9_l7, c9_l7, rfl, hev, hmr, hfe, hj9_l7.sub hsu⟩
def r41_Cost (p0_0 : Int) (p0_1 : Int) (p0_2 : List Int) (p0_3 : Int) (p0_4 : Int) (p1 : Int) : Option (Int × Int) :=
((r41_Left p0_0 p0_1 p0_2 p0_3 p0_4 p1).bind fun x4 =>
(if (x4.2 != 0) = true then
some (0, x4.2)
else
some (IntKind.i64.wrap ((IntKind.i64.wrap (p0_3 * (IntKind.i64.wrap (p1 - p0_0)))) + (IntKind.i64.wrap (p0_4 * ((x4.1).length : Int)))), 0)))

theorem r41_Cost_w (p0_0 : Int) (p0_1 : Int) (a_p0_2 : Option Addr) (c_p0_2 : Nat) (p0_2 : List Int) (p0_3 : Int) (p0_4 : Int) (p1 : Int) (r : Int × Int) (w : World) (M : List Nat) (hms : MS w [M]) (hs_p0_2 : SlR (eInt .i64) w (fl [M]) a_p0_2 c_p0_2 p0_2) (h : r41_Cost p0_0 p0_1 p0_2 p0_3 p0_4 p1 = some r) : CallVC Try.prog 19 [.agg #[Vi p0_0, Vi p0_1, .slice a_p0_2 (p0_2).length c_p0_2, Vi p0_3, Vi p0_4], Vi p1] w fun v w' => v = .tuple #[Vi r.1, Vi r.2] ∧ Ev [] w w' := by
 refine calls_vc hmx Try.func19 (by kernel_rfl) rfl (rs := [.tmp 4, .tmp 5]) rfl (by kernel_rfl) (args := [.agg #[Vi p0_0, Vi p0_1, .slice a_p0_2 (p0_2).length c_p0_2, Vi p0_3, Vi p0_4], Vi p1]) rfl ?_
 have hev : Ev [] w w := Ev.refl _ _
 have hfr : FR w.heap.size [] := FR.nil _
 refine c_sp ?_
 refine x_box (xv := .agg #[Vi p0_0, Vi p0_1, .slice a_p0_2 (p0_2).length c_p0_2, Vi p0_3, Vi p0_4]) rfl rfl rfl (fun b2 w2 hq2 hb2 he2 hz2 => ?_)
 replace hb2 : w2.heap[b2]? = some (.cells #[Vi p0_0, Vi p0_1, .slice a_p0_2 (p0_2).length c_p0_2, Vi p0_3, Vi p0_4] 24 (0, 0)) := hb2
 refine inl1 ?_
 have hst := Stp.box (ls := [M]) he2 hq2
 replace hs_p0_2 := hs_p0_2.step hst
 replace hms := hms.box he2 hq2 hb2
 replace hfr := hfr.box hev.size hq2
 replace hev := hev.ext he2
 refine x_pure 2 [(4, Vi 0), (5, Vi 0)] _ _ _ (by kernel_rfl) ?_
 refine x_ek ?_
 refine c_sp ?_
 refine x_load (xv := Vp b2 0) (.agg #[Vi p0_0, Vi p0_1, .slice a_p0_2 (p0_2).length c_p0_2, Vi p0_3, Vi p0_4]) rfl rfl rfl (reads_boxagg 0 [Vi p0_0, Vi p0_1, .slice a_p0_2 (p0_2).length c_p0_2, Vi p0_3, Vi p0_4] tagg24 hb2 nn rfl) ?_
 refine x_pure 1 [(10, Vi p1)] _ _ _ (by kernel_rfl) ?_
 obtain ⟨x4, hx, h⟩ := bind_some h
 have hpk : MS w2 ([] ++ [[b2], M]) := hms.pick [some 0, some 1] _ rfl
 have hsb0 : ∀ x ∈ fl ([] ++ [[b2], M]), x ∈ fl [[b2], M] := pick_sub [some 0, some 1] _ rfl
 have hsb : ∀ x ∈ fl ([] ++ [(fl [[b2], M])]), x ∈ fl [[b2], M] := fun x hx => hsb0 x (fl_unfold x hx)
 have hcall := r41_Left_w p0_0 p0_1 a_p0_2 c_p0_2 p0_2 p0_3 p0_4 p1 _ w2 (fl [[b2], M]) (MS.fold (P := []) hpk) (hs_p0_2.sub hsb) hx
 refine x_call 18 #[] #[] [.agg #[Vi p0_0, Vi p0_1, .slice a_p0_2 (p0_2).length c_p0_2, Vi p0_3, Vi p0_4], Vi p1] _ rfl rfl rfl rfl hcall ?_
 rintro v w5 ⟨a0_5, c0_5, rfl, he5, hmn5, hfn5, hf5_1⟩
 clear hcall hx
 refine inl1 ?_
 have hpk2 : MS w2 ([] ++ [[b2], M]) := hms.pick [some 0, some 1] _ rfl
 have hsb2 : ∀ x ∈ fl ([] ++ [[b2], M]), x ∈ fl [[b2], M] := pick_sub [some 0, some 1] _ rfl
 have hst0 := Stp.call (LS := [[b2], M]) (res := [blk a0_5]) (par := []) (R := [[b2], M]) he5 (fun b hb => hsb2 b (fl_left' (P := []) b hb)) hfn5 (NP.init _ _) (fun x hx => hsb2 x (fl_right' (P := []) x hx))
 have hsn : ∀ x ∈ fl [blk a0_5, [b2], M], x ∈ fl ([blk a0_5] ++ ([] ++ [[b2], M])) := pick_sub [some 0, some 1, some 2] _ rfl
 have hst := hst0.res hsn
 replace hs_p0_2 := hs_p0_2.step hst
 replace hb2 := he5.box hb2 ((MS.outs (P := []) hpk2 0 rfl) _ mem1)
 replace hms : MS w5 [blk a0_5, [b2], M] := (MS.call (P := []) (R := [[b2], M]) (res := [blk a0_5]) (par := []) hpk2 he5 hmn5 hfn5 (NP.init _ _)).pick [some 0, some 1, some 2] _ rfl
 have hfr2 : FR w.heap.size [blk a0_5, [b2]] := (FR.cons (fun b hb => Nat.le_trans hev.size (hfn5.at 0 rfl b hb)) (FR.cons (hfr.at 0 rfl) (FR.nil _)))
 replace hev := hev.ext he5
 replace hfr := hfr2
 clear hfr2
 replace hf5_1 := OwnS.plain (M' := fl [blk a0_5, [b2], M]) (plain_int _) hf5_1
 clear hpk hsb hsb0 hpk2 hsb2 hst0 hsn hst
 have hpk : MS w5 [[b2], M] := hms.pick [some 1, some 2] _ rfl
 have hsu : ∀ x ∈ fl [[b2], M], x ∈ fl [blk a0_5, [b2], M] := pick_sub [some 1, some 2] _ rfl
 replace hs_p0_2 := hs_p0_2.sub hsu
 replace hf5_1 := hf5_1.ro hsu (pick_out hms 0 rfl [some 1, some 2] [[b2], M] rfl rfl)
 replace hms := hpk
 replace hfr : FR w.heap.size [[b2]] := hfr.pick [some 1] _ rfl
 clear hpk hsu
 refine x_pure 5 [(8, .tuple #[.slice a0_5 (x4.1).length c0_5, Vi x4.2]), (12, .slice a0_5 (x4.1).length c0_5), (13, Vi x4.2), (6, .slice a0_5 (x4.1).length c0_5), (7, Vi x4.2)] _ _ _ (by kernel_rfl) ?_
 refine x_ek ?_
 refine c_seq ?_
 refine c_sp ?_
 refine x_pure 2 [(14, Vi x4.2), (15, .bool (x4.2 != 0))] _ _ _ (by kernel_rfl) ?_
 refine x_ek ?_
 refine c_cond (x4.2 != 0) rfl (fun hb => ?_) (fun hb => ?_)
 · replace h := ite_t hb h
   refine c_sp ?_
   refine x_pure 3 [(16, Vi x4.2), (4, Vi 0), (5, Vi x4.2)] _ _ _ (by kernel_rfl) ?_
   refine x_ek ?_
   refine c_norm [(4, Vi 0), (5, Vi x4.2)] ⟨rfl, rfl, trivial⟩ (fun J => ?_)
   refine c_ret ?_
   refine k_then_ret ?_
   refine r_ret (r_vals [Vi 0, Vi x4.2] ⟨rfl, rfl, trivial⟩ ?_)
   have hx := some_inj h
   subst hx
   have hmr : MS w5 [M] := hms.pick [some 1] _ rfl
   have hsu : ∀ x ∈ fl [M], x ∈ fl [[b2], M] := pick_sub [some 1] _ rfl
   exact ⟨rfl, hev⟩
 replace h := ite_f hb h
 refine c_skip ?_
 refine k_then ?_
 refine c_norm [(1, Vi p1), (2, Vp b2 0), (6, .slice a0_5 (x4.1).length c0_5)] ⟨rfl, rfl, rfl, trivial⟩ (fun J => ?_)
 refine c_sp ?_
 refine x_fieldAddr (xv := Vp b2 0) (Vp b2 3) rfl rfl rfl (reads_field tfld24_3 _ _) ?_
 refine x_load (xv := Vp b2 3) (Vi p0_3) rfl rfl rfl (reads_box tcell3 hb2 nn 3 _ rfl) ?_
 refine x_pure 1 [(19, Vi p1)] _ _ _ (by kernel_rfl) ?_
 refine x_fieldAddr (xv := Vp b2 0) (Vp b2 0) rfl rfl rfl (reads_field tfld24_0 _ _) ?_
 refine x_load (xv := Vp b2 0) (Vi p0_0) rfl rfl rfl (reads_box tcell3 hb2 nn 0 _ rfl) ?_
 refine x_pure 2 [(22, Vi (IntKind.i64.wrap (p1 - p0_0))), (23, Vi (IntKind.i64.wrap (p0_3 * (IntKind.i64.wrap (p1 - p0_0)))))] _ _ _ (by kernel_rfl) ?_
 refine x_fieldAddr (xv := Vp b2 0) (Vp b2 4) rfl rfl rfl (reads_field tfld24_4 _ _) ?_
 refine x_load (xv := Vp b2 4) (Vi p0_4) rfl rfl rfl (reads_box tcell3 hb2 nn 4 _ rfl) ?_
 refine x_pure 1 [(26, .slice a0_5 (x4.1).length c0_5)] _ _ _ (by kernel_rfl) ?_
 refine x_len (vs := [.slice a0_5 (x4.1).length c0_5]) (Vi ((x4.1).length : Int)) rfl rfl rfl (reads_len tsl22 _ _ _ _ _) ?_
 refine x_pure 4 [(28, Vi (IntKind.i64.wrap (p0_4 * ((x4.1).length : Int)))), (29, Vi (IntKind.i64.wrap ((IntKind.i64.wrap (p0_3 * (IntKind.i64.wrap (p1 - p0_0)))) + (IntKind.i64.wrap (p0_4 * ((x4.1).length : Int)))))), (4, Vi (IntKind.i64.wrap ((IntKind.i64.wrap (p0_3 * (IntKind.i64.wrap (p1 - p0_0)))) + (IntKind.i64.wrap (p0_4 * ((x4.1).length : Int)))))), (5, Vi 0)] _ _ _ (by kernel_rfl) ?_
 refine x_ek ?_
 refine c_norm [(4, Vi (IntKind.i64.wrap ((IntKind.i64.wrap (p0_3 * (IntKind.i64.wrap (p1 - p0_0)))) + (IntKind.i64.wrap (p0_4 * ((x4.1).length : Int)))))), (5, Vi 0)] ⟨rfl, rfl, trivial⟩ (fun J => ?_)
 refine c_ret ?_
 refine r_ret (r_vals [Vi (IntKind.i64.wrap ((IntKind.i64.wrap (p0_3 * (IntKind.i64.wrap (p1 - p0_0)))) + (IntKind.i64.wrap (p0_4 * ((x4.1).length : Int))))), Vi 0] ⟨rfl, rfl, trivial⟩ ?_)
 have hx := some_inj h
 subst hx
 have hmr : MS w5 [M] := hms.pick [some 1] _ rfl
 have hsu : ∀ x ∈ fl [M], x ∈ fl [[b2], M] := pick_sub [some 1] _ rfl
 exact ⟨rfl, hev⟩
def r41_Saves_J14 (d8_l9 : List Int) (i_s5_l9 : Int) (x11 : Int) (k_s7_j14 : Int) : Option (Step ((List Int) × Int) (List Int)) :=
((idx d8_l9 (IntKind.i64.wrap (k_s7_j14 - 1))).bind fun x18 =>
(if (x18 != x11) = true then
(if 1 ≤ k_s7_j14 ∧ k_s7_j14 ≤ (d8_l9.length : Int) then
(if 0 ≤ k_s7_j14 ∧ k_s7_j14 ≤ (d8_l9.length : Int) ∧ (d8_l9.length : Int) ≤ (d8_l9.length : Int) then
(if ([x11] : List Int).length + ((d8_l9.drop (Int.toNat k_s7_j14)).take (Int.toNat (d8_l9.length : Int) - Int.toNat k_s7_j14)).length ≤ 4294967296 then
(if 0 < (([x11] : List Int) ++ ((d8_l9.drop (Int.toNat k_s7_j14)).take (Int.toNat (d8_l9.length : Int) - Int.toNat k_s7_j14))).length ∧ (d8_l9.take (Int.toNat k_s7_j14)).length + (([x11] : List Int) ++ ((d8_l9.drop (Int.toNat k_s7_j14)).take (Int.toNat (d8_l9.length : Int) - Int.toNat k_s7_j14))).length ≤ 4294967296 then
some (.next (((d8_l9.take (Int.toNat k_s7_j14)) ++ (([x11] : List Int) ++ ((d8_l9.drop (Int.toNat k_s7_j14)).take (Int.toNat (d8_l9.length : Int) - Int.toNat k_s7_j14)))), IntKind.i64.wrap (i_s5_l9 + 1)))
else none)
else none)
else none)
else none)
else
some (.next (d8_l9, IntKind.i64.wrap (i_s5_l9 + 1)))))

def r41_Saves_L15 (d8_l9 : List Int) (x11 : Int) (s : Int) : Option (Step Int Int) :=
match s with
| k_s7_l15 =>
(if (decide (k_s7_l15 > 0)) = true then
((idx d8_l9 (IntKind.i64.wrap (k_s7_l15 - 1))).bind fun x16 =>
(if (decide (x16 > x11)) = true then
some (.next (IntKind.i64.wrap (k_s7_l15 - 1)))
else
some (.done k_s7_l15)))
else
some (.done k_s7_l15))

def r41_Saves_L9 (p0_0 : Int) (p0_1 : Int) (p0_2 : List Int) (s : (List Int) × Int) : Option (Step ((List Int) × Int) (List Int)) :=
match s with
| (d8_l9, i_s5_l9) =>
(if (decide (i_s5_l9 < ((p0_2).length : Int))) = true then
((idx p0_2 i_s5_l9).bind fun x11 =>
(if (decide (x11 < p0_0)) = true then
some (.next (d8_l9, IntKind.i64.wrap (i_s5_l9 + 1)))
else
(if (decide (x11 > p0_1)) = true then
some (.next (d8_l9, IntKind.i64.wrap (i_s5_l9 + 1)))
else
((loop (r41_Saves_L15 d8_l9 x11) ((d8_l9).length : Int)).bind fun d => match d with
| k_s7_x15 => r41_Saves_J14 d8_l9 i_s5_l9 x11 k_s7_x15))))
else
some (.done d8_l9))

def r41_Saves (p0_0 : Int) (p0_1 : Int) (p0_2 : List Int) (p0_3 : Int) (p0_4 : Int) : Option ((List Int) × Int) :=
((r41_Valid p0_0 p0_1 p0_2 p0_3 p0_4).bind fun x5 =>
(if (!x5) = true then
some ([], 1)
else
((loop (r41_Saves_L9 p0_0 p0_1 p0_2) (([p0_0] : List Int), 0)).bind fun d => match d with
| d8_x9 => some (d8_x9, 0))))

theorem r41_Saves_w (p0_0 : Int) (p0_1 : Int) (a_p0_2 : Option Addr) (c_p0_2 : Nat) (p0_2 : List Int) (p0_3 : Int) (p0_4 : Int) (r : (List Int) × Int) (w : World) (M : List Nat) (hms : MS w [M]) (hs_p0_2 : SlR (eInt .i64) w (fl [M]) a_p0_2 c_p0_2 p0_2) (h : r41_Saves p0_0 p0_1 p0_2 p0_3 p0_4 = some r) : CallVC Try.prog 21 [.agg #[Vi p0_0, Vi p0_1, .slice a_p0_2 (p0_2).length c_p0_2, Vi p0_3, Vi p0_4]] w fun v w' => ∃ (a0' : Option Addr), ∃ (c0' : Nat), v = .tuple #[.slice a0' (r.1).length c0', Vi r.2] ∧ Ev [] w w' ∧ MS w' [blk a0', M] ∧ FR w.heap.size [blk a0'] ∧ OwnS (eInt .i64) 3 w' (fl [blk a0', M]) a0' c0' r.1 := by
 refine calls_vc hmx Try.func21 (by kernel_rfl) rfl (rs := [.tmp 2, .tmp 3]) rfl (by kernel_rfl) (args := [.agg #[Vi p0_0, Vi p0_1, .slice a_p0_2 (p0_2).length c_p0_2, Vi p0_3, Vi p0_4]]) rfl ?_
 have hev : Ev [] w w := Ev.refl _ _
 have hfr : FR w.heap.size [] := FR.nil _
 refine c_sp ?_
 refine x_box (xv := .agg #[Vi p0_0, Vi p0_1, .slice a_p0_2 (p0_2).length c_p0_2, Vi p0_3, Vi p0_4]) rfl rfl rfl (fun b2 w2 hq2 hb2 he2 hz2 => ?_)
 replace hb2 : w2.heap[b2]? = some (.cells #[Vi p0_0, Vi p0_1, .slice a_p0_2 (p0_2).length c_p0_2, Vi p0_3, Vi p0_4] 24 (0, 0)) := hb2
 refine inl1 ?_
 have hst := Stp.box (ls := [M]) he2 hq2
 replace hs_p0_2 := hs_p0_2.step hst
 replace hms := hms.box he2 hq2 hb2
 replace hfr := hfr.box hev.size hq2
 replace hev := hev.ext he2
 refine x_pure 2 [(2, .slice none 0 0), (3, Vi 0)] _ _ _ (by kernel_rfl) ?_
 refine x_ek ?_
 refine c_seq ?_
 refine c_sp ?_
 refine x_load (xv := Vp b2 0) (.agg #[Vi p0_0, Vi p0_1, .slice a_p0_2 (p0_2).length c_p0_2, Vi p0_3, Vi p0_4]) rfl rfl rfl (reads_boxagg 0 [Vi p0_0, Vi p0_1, .slice a_p0_2 (p0_2).length c_p0_2, Vi p0_3, Vi p0_4] tagg24 hb2 nn rfl) ?_
 obtain ⟨x5, hx, h⟩ := bind_some h
 have hpk : MS w2 ([] ++ [[b2], M]) := hms.pick [some 0, some 1] _ rfl
 have hsb0 : ∀ x ∈ fl ([] ++ [[b2], M]), x ∈ fl [[b2], M] := pick_sub [some 0, some 1] _ rfl
 have hsb : ∀ x ∈ fl ([] ++ [(fl [[b2], M])]), x ∈ fl [[b2], M] := fun x hx => hsb0 x (fl_unfold x hx)
 have hcall := r41_Valid_w p0_0 p0_1 a_p0_2 c_p0_2 p0_2 p0_3 p0_4 _ w2 (fl [[b2], M]) (MS.fold (P := []) hpk) (hs_p0_2.sub hsb) hx
 refine x_call 23 #[] #[] [.agg #[Vi p0_0, Vi p0_1, .slice a_p0_2 (p0_2).length c_p0_2, Vi p0_3, Vi p0_4]] _ rfl rfl rfl rfl hcall ?_
 rintro v w6 ⟨rfl, he6⟩
 clear hcall hx
 refine inl1 ?_
 have hst := Stp.ext (ls := [[b2], M]) he6
 replace hs_p0_2 := hs_p0_2.step hst
 replace hb2 := he6.box hb2 nn
 replace hms := hms.ev he6
 replace hev := hev.ext he6
 clear hpk hsb hsb0
 refine x_pure 1 [(10, .bool (!x5))] _ _ _ (by kernel_rfl) ?_
 refine x_ek ?_
 refine c_cond (!x5) rfl (fun hb => ?_) (fun hb => ?_)
 · replace h := ite_t hb h
   refine c_sp ?_
   refine x_pure 2 [(2, .slice none 0 0), (3, Vi 1)] _ _ _ (by kernel_rfl) ?_
   refine x_ek ?_
   refine c_ret ?_
   refine k_then_ret ?_
   refine r_ret (r_vals [.slice none 0 0, Vi 1] ⟨rfl, rfl, trivial⟩ ?_)
   have hx := some_inj h
   subst hx
   have hmr : MS w6 [blk none, M] := hms.pick [none, some 1] _ rfl
   have hsu : ∀ x ∈ fl [blk none, M], x ∈ fl [[b2], M] := pick_sub [none, some 1] _ rfl
   have hfe : FR w.heap.size [blk none] := hfr.pick [none] _ rfl
   exact ⟨none, 0, rfl, hev, hmr, hfe, OwnS.nil _ _ _ _⟩
 replace h := ite_f hb h
 refine c_skip ?_
 refine k_then ?_
 refine c_sp ?_
 refine x_fieldAddr (xv := Vp b2 0) (Vp b2 0) rfl rfl rfl (reads_field tfld24_0 _ _) ?_
 refine x_load (xv := Vp b2 0) (Vi p0_0) rfl rfl rfl (reads_box tcell3 hb2 nn 0 _ rfl) ?_
 refine x_buildSlice (vs := [(0, Vi p0_0)]) #[Vi p0_0] 3 rfl rfl rfl (by kernel_rfl) (fun b7 w7 hq7 hb7 he7 hz7 => ?_)
 refine inl1 ?_
 obtain ⟨a7, ea7⟩ : ∃ a, a = some (⟨b7, 0, none⟩ : Addr) := ⟨_, rfl⟩
 have hw7 : ∀ M, OwnS (eInt .i64) 3 w7 M a7 1 ([p0_0] : List Int) := fun M => ea7 ▸ own_of_box hb7 (by decide) rfl rfl (cells_at (cs := [Vi p0_0]) (CellsOf.cons (c := [Vi p0_0]) rfl CellsOf.nil))
 have hn7 : ∀ b ∈ blk a7, w6.heap.size ≤ b ∧ b < w7.heap.size := by subst ea7; intro b hb; simp only [blk, List.mem_singleton] at hb; subst hb; exact ⟨Nat.le_of_eq hq7.symm, lt_of_heap hb7⟩
 clear hb7
 have hst := Stp.push (ls := [[b2], M]) (l := blk a7) he7 (fun _ h => by cases h) (fun b hb => (hn7 b hb).1)
 replace hs_p0_2 := hs_p0_2.step hst
 replace hb2 := he7.box hb2 nn
 replace hms := hms.push he7 hn7
 replace hfr := hfr.push (fun b hb => Nat.le_trans hev.size (hn7 b hb).1)
 replace hev := hev.ext he7
 have ho7 := hw7 (fl [blk a7, [b2], M])
 clear hw7
 rw [← ea7]
 refine x_pure 1 [(4, .slice a7 (([p0_0] : List Int)).length 1)] _ _ _ (by kernel_rfl) ?_
 refine x_ek ?_
 refine c_seq ?_
 refine c_sp ?_
 refine x_pure 1 [(5, Vi 0)] _ _ _ (by kernel_rfl) ?_
 refine x_ek ?_
 refine c_block ?_
 have hpk : MS w7 [[b2], blk a7, M] := hms.pick [some 1, some 0, some 2] _ rfl
 have hsu : ∀ x ∈ fl [[b2], blk a7, M], x ∈ fl [blk a7, [b2], M] := pick_sub [some 1, some 0, some 2] _ rfl
 replace hs_p0_2 := hs_p0_2.sub hsu
 replace ho7 := ho7.sub hsu
 replace hms := hpk
 replace hfr : FR w.heap.size [[b2], blk a7] := hfr.pick [some 1, some 0] _ rfl
 clear hpk hsu
 obtain ⟨d9, hd9, h9⟩ := bind_some h
 obtain ⟨m9, hd9⟩ := loop_some hd9
 refine c_loop (loop_rule hmx (σ := Nat × (List Int) × Int × Option Addr × Nat) (fun s => match s with | (_, d8_l9, i_s5_l9, a8_l9, c8_l9) => [(1, Vp b2 0), (4, .slice a8_l9 (d8_l9).length c8_l9), (5, Vi i_s5_l9)]) (fun s w' => match s with | (m, d8_l9, i_s5_l9, a8_l9, c8_l9) => loopN (r41_Saves_L9 p0_0 p0_1 p0_2) m (d8_l9, i_s5_l9) = some d9 ∧ Ev [] w w' ∧ MS w' [[b2], blk a8_l9, M] ∧ FR w.heap.size [[b2], blk a8_l9] ∧ SlR (eInt .i64) w' (fl [[b2], blk a8_l9, M]) a_p0_2 c_p0_2 p0_2 ∧ w'.heap[b2]? = some (.cells #[Vi p0_0, Vi p0_1, .slice a_p0_2 (p0_2).length c_p0_2, Vi p0_3, Vi p0_4] 24 (0, 0)) ∧ OwnS (eInt .i64) 3 w' (fl [[b2], blk a8_l9, M]) a8_l9 c8_l9 d8_l9) (fun s => s.1) (m9, ([p0_0] : List Int), 0, a7, 1) ⟨rfl, rfl, rfl, trivial⟩ ⟨hd9, hev, hms, hfr, hs_p0_2, hb2, ho7⟩ ?_)
 rintro ⟨m9, d8_l9, i_s5_l9, a8_l9, c8_l9⟩ J wl9 ⟨hn9, hev, hms, hfr, hs_p0_2, hb2, ho7⟩
 rcases m9 with _ | m9
 · exact (loopN_zero hn9).elim
 obtain ⟨t9, h, hn9⟩ := bind_some hn9
 refine c_seq ?_
 refine c_sp ?_
 refine x_pure 1 [(14, Vi i_s5_l9)] _ _ _ (by kernel_rfl) ?_
 refine x_fieldAddr (xv := Vp b2 0) (Vp b2 2) rfl rfl rfl (reads_field tfld24_2 _ _) ?_
 refine x_load (xv := Vp b2 2) (.slice a_p0_2 (p0_2).length c_p0_2) rfl rfl rfl (reads_box tcell22 hb2 nn 2 _ rfl) ?_
 refine x_len (vs := [.slice a_p0_2 (p0_2).length c_p0_2]) (Vi ((p0_2).length : Int)) rfl rfl rfl (reads_len tsl22 _ _ _ _ _) ?_
 refine x_pure 1 [(18, .bool (decide (i_s5_l9 < ((p0_2).length : Int))))] _ _ _ (by kernel_rfl) ?_
 refine x_ek ?_
 refine c_norm [(1, Vp b2 0), (4, .slice a8_l9 (d8_l9).length c8_l9), (5, Vi i_s5_l9), (18, .bool (decide (i_s5_l9 < ((p0_2).length : Int))))] ⟨rfl, rfl, rfl, rfl, trivial⟩ (fun J => ?_)
 refine c_cond (decide (i_s5_l9 < ((p0_2).length : Int))) rfl (fun hb => ?_) (fun hb => ?_)
 · replace h := ite_t hb h
   refine c_skip ?_
   refine k_then ?_
   refine c_seq ?_
   refine c_block ?_
   refine c_sp ?_
   refine x_fieldAddr (xv := Vp b2 0) (Vp b2 2) rfl rfl rfl (reads_field tfld24_2 _ _) ?_
   refine x_load (xv := Vp b2 2) (.slice a_p0_2 (p0_2).length c_p0_2) rfl rfl rfl (reads_box tcell22 hb2 nn 2 _ rfl) ?_
   refine x_pure 1 [(23, Vi i_s5_l9)] _ _ _ (by kernel_rfl) ?_
   obtain ⟨x11, hx11, h⟩ := bind_some h
   obtain ⟨ad11, cs11, hr11, hc11, hR⟩ := reads_index (Mo := []) tsl22 hs_p0_2 hx11
   obtain rfl := hR
   refine x_indexAddr (xv := .slice a_p0_2 (p0_2).length c_p0_2) (yv := Vi i_s5_l9) (.pointer (some ad11)) rfl rfl rfl rfl hr11 ?_
   refine x_load (xv := .pointer (some ad11)) (Vi x11) rfl rfl rfl (reads_cell0 tcell3 hc11 (fun _ h => by cases h)) ?_
   refine x_pure 1 [(6, Vi x11)] _ _ _ (by kernel_rfl) ?_
   refine x_ek ?_
   refine c_seq ?_
   refine c_sp ?_
   refine x_pure 1 [(26, Vi x11)] _ _ _ (by kernel_rfl) ?_
   refine x_fieldAddr (xv := Vp b2 0) (Vp b2 0) rfl rfl rfl (reads_field tfld24_0 _ _) ?_
   refine x_load (xv := Vp b2 0) (Vi p0_0) rfl rfl rfl (reads_box tcell3 hb2 nn 0 _ rfl) ?_
   refine x_pure 2 [(29, .bool (decide (x11 < p0_0))), (30, .bool (decide (x11 < p0_0)))] _ _ _ (by kernel_rfl) ?_
   refine x_split 30 (decide (x11 < p0_0)) rfl (fun hb => ?_) (fun hb => ?_)
   · replace h := ite_t hb h
     refine x_pure 5 [(31, undef), (32, undef), (33, undef), (34, undef), (35, .bool true)] _ _ _ (by kernel_rfl) ?_
     refine x_ek ?_
     refine c_norm [(1, Vp b2 0), (4, .slice a8_l9 (d8_l9).length c8_l9), (5, Vi i_s5_l9), (6, Vi x11), (35, .bool true)] ⟨rfl, rfl, rfl, rfl, rfl, trivial⟩ (fun J => ?_)
     refine c_true rfl ?_
     refine c_exit ?_
     refine k_then_exit ?_
     refine k_block_in ?_
     refine k_then ?_
     refine c_plain ?_
     refine x_pure 3 [(19, Vi i_s5_l9), (20, Vi (IntKind.i64.wrap (i_s5_l9 + 1))), (5, Vi (IntKind.i64.wrap (i_s5_l9 + 1)))] _ _ _ (by kernel_rfl) ?_
     refine x_end rfl ?_
     have hx := some_inj h
     subst hx
     exact k_then ⟨(m9, d8_l9, IntKind.i64.wrap (i_s5_l9 + 1), a8_l9, c8_l9), ⟨rfl, rfl, rfl, trivial⟩, ⟨hn9, hev, hms, hfr, hs_p0_2, hb2, ho7⟩, Nat.lt_succ_self _⟩
   replace h := ite_f hb h
   refine x_pure 1 [(31, Vi x11)] _ _ _ (by kernel_rfl) ?_
   refine x_fieldAddr (xv := Vp b2 0) (Vp b2 1) rfl rfl rfl (reads_field tfld24_1 _ _) ?_
   refine x_load (xv := Vp b2 1) (Vi p0_1) rfl rfl rfl (reads_box tcell3 hb2 nn 1 _ rfl) ?_
   refine x_pure 2 [(34, .bool (decide (x11 > p0_1))), (35, .bool (decide (x11 > p0_1)))] _ _ _ (by kernel_rfl) ?_
   refine x_ek ?_
   refine c_norm [(1, Vp b2 0), (4, .slice a8_l9 (d8_l9).length c8_l9), (5, Vi i_s5_l9), (6, Vi x11), (35, .bool (decide (x11 > p0_1)))] ⟨rfl, rfl, rfl, rfl, rfl, trivial⟩ (fun J => ?_)
   refine c_cond (decide (x11 > p0_1)) rfl (fun hb => ?_) (fun hb => ?_)
   · replace h := ite_t hb h
     refine c_exit ?_
     refine k_then_exit ?_
     refine k_block_in ?_
     refine k_then ?_
     refine c_plain ?_
     refine x_pure 3 [(19, Vi i_s5_l9), (20, Vi (IntKind.i64.wrap (i_s5_l9 + 1))), (5, Vi (IntKind.i64.wrap (i_s5_l9 + 1)))] _ _ _ (by kernel_rfl) ?_
     refine x_end rfl ?_
     have hx := some_inj h
     subst hx
     exact k_then ⟨(m9, d8_l9, IntKind.i64.wrap (i_s5_l9 + 1), a8_l9, c8_l9), ⟨rfl, rfl, rfl, trivial⟩, ⟨hn9, hev, hms, hfr, hs_p0_2, hb2, ho7⟩, Nat.lt_succ_self _⟩
   replace h := ite_f hb h
   refine c_skip ?_
   refine k_then ?_
   refine c_sp ?_
   refine x_pure 1 [(36, .slice a8_l9 (d8_l9).length c8_l9)] _ _ _ (by kernel_rfl) ?_
   refine x_len (vs := [.slice a8_l9 (d8_l9).length c8_l9]) (Vi ((d8_l9).length : Int)) rfl rfl rfl (reads_len tsl22 _ _ _ _ _) ?_
   refine x_pure 1 [(7, Vi ((d8_l9).length : Int))] _ _ _ (by kernel_rfl) ?_
   refine x_ek ?_
   refine c_join (σ := Int × Option Addr) (fun s => match s with | (k_s7_j14, a8_j14) => [(1, Vp b2 0), (4, .slice a8_j14 (d8_l9).length c8_l9), (5, Vi i_s5_l9), (6, Vi x11), (7, Vi k_s7_j14)]) (fun s w' => match s with | (k_s7_j14, a8_j14) => r41_Saves_J14 d8_l9 i_s5_l9 x11 k_s7_j14 = some t9 ∧ Ev [] w w' ∧ MS w' [[b2], blk a8_j14, M] ∧ FR w.heap.size [[b2], blk a8_j14] ∧ SlR (eInt .i64) w' (fl [[b2], blk a8_j14, M]) a_p0_2 c_p0_2 p0_2 ∧ w'.heap[b2]? = some (.cells #[Vi p0_0, Vi p0_1, .slice a_p0_2 (p0_2).length c_p0_2, Vi p0_3, Vi p0_4] 24 (0, 0)) ∧ OwnS (eInt .i64) 3 w' (fl [[b2], blk a8_j14, M]) a8_j14 c8_l9 d8_l9) ?_ ?_
   · refine c_block ?_
     obtain ⟨d15, hd15, h15⟩ := bind_some h
     obtain ⟨m15, hd15⟩ := loop_some hd15
     refine c_loop (loop_rule hmx (σ := Nat × Int × Option Addr) (fun s => match s with | (_, k_s7_l15, a8_l15) => [(1, Vp b2 0), (4, .slice a8_l15 (d8_l9).length c8_l9), (5, Vi i_s5_l9), (6, Vi x11), (7, Vi k_s7_l15)]) (fun s w' => match s with | (m, k_s7_l15, a8_l15) => loopN (r41_Saves_L15 d8_l9 x11) m k_s7_l15 = some d15 ∧ Ev [] w w' ∧ MS w' [[b2], blk a8_l15, M] ∧ FR w.heap.size [[b2], blk a8_l15] ∧ SlR (eInt .i64) w' (fl [[b2], blk a8_l15, M]) a_p0_2 c_p0_2 p0_2 ∧ w'.heap[b2]? = some (.cells #[Vi p0_0, Vi p0_1, .slice a_p0_2 (p0_2).length c_p0_2, Vi p0_3, Vi p0_4] 24 (0, 0)) ∧ OwnS (eInt .i64) 3 w' (fl [[b2], blk a8_l15, M]) a8_l15 c8_l9 d8_l9) (fun s => s.1) (m15, ((d8_l9).length : Int), a8_l9) ⟨rfl, rfl, rfl, rfl, rfl, trivial⟩ ⟨hd15, hev, hms, hfr, hs_p0_2, hb2, ho7⟩ ?_)
     rintro ⟨m15, k_s7_l15, a8_l15⟩ J wl15 ⟨hn15, hev, hms, hfr, hs_p0_2, hb2, ho7⟩
     rcases m15 with _ | m15
     · exact (loopN_zero hn15).elim
     obtain ⟨t15, h, hn15⟩ := bind_some hn15
     refine c_seq ?_
     refine c_sp ?_
     refine x_pure 3 [(38, Vi k_s7_l15), (39, .bool (decide (k_s7_l15 > 0))), (40, .bool (decide (k_s7_l15 > 0)))] _ _ _ (by kernel_rfl) ?_
     refine x_split 40 (decide (k_s7_l15 > 0)) rfl (fun hb => ?_) (fun hb => ?_)
     · replace h := ite_t hb h
       refine x_pure 3 [(41, .slice a8_l15 (d8_l9).length c8_l9), (42, Vi k_s7_l15), (43, Vi (IntKind.i64.wrap (k_s7_l15 - 1)))] _ _ _ (by kernel_rfl) ?_
       obtain ⟨x16, hx16, h⟩ := bind_some h
       obtain ⟨g16, cs16, ha, hr16, hc16, hR⟩ := own_index (Mo := []) tsl22 ho7 hx16
       subst ha
       obtain rfl := hR
       refine x_indexAddr (xv := .slice (Ad g16 0) (d8_l9).length c8_l9) (yv := Vi (IntKind.i64.wrap (k_s7_l15 - 1))) (.pointer (some ⟨g16, (Int.toNat (IntKind.i64.wrap (k_s7_l15 - 1))) * (eInt .i64).n, none⟩)) rfl rfl rfl rfl hr16 ?_
       refine x_load (xv := .pointer (some ⟨g16, (Int.toNat (IntKind.i64.wrap (k_s7_l15 - 1))) * (eInt .i64).n, none⟩)) (Vi x16) rfl rfl rfl (reads_cell0 tcell3 hc16 (fun _ h => by cases h)) ?_
       refine x_pure 3 [(46, Vi x11), (47, .bool (decide (x16 > x11))), (48, .bool (decide (x16 > x11)))] _ _ _ (by kernel_rfl) ?_
       refine x_ek ?_
       refine c_norm [(1, Vp b2 0), (4, .slice (Ad g16 0) (d8_l9).length c8_l9), (5, Vi i_s5_l9), (6, Vi x11), (7, Vi k_s7_l15), (48, .bool (decide (x16 > x11)))] ⟨rfl, rfl, rfl, rfl, rfl, rfl, trivial⟩ (fun J => ?_)
       refine c_cond (decide (x16 > x11)) rfl (fun hb => ?_) (fun hb => ?_)
       · replace h := ite_t hb h
         refine c_skip ?_
         refine k_then ?_
         refine c_block ?_
         refine c_plain ?_
         refine x_pure 3 [(49, Vi k_s7_l15), (50, Vi (IntKind.i64.wrap (k_s7_l15 - 1))), (7, Vi (IntKind.i64.wrap (k_s7_l15 - 1)))] _ _ _ (by kernel_rfl) ?_
         refine x_end rfl ?_
         refine k_block ?_
         have hx := some_inj h
         subst hx
         exact k_then ⟨(m15, IntKind.i64.wrap (k_s7_l15 - 1), (Ad g16 0)), ⟨rfl, rfl, rfl, rfl, rfl, trivial⟩, ⟨hn15, hev, hms, hfr, hs_p0_2, hb2, ho7⟩, Nat.lt_succ_self _⟩
       replace h := ite_f hb h
       refine c_exit ?_
       refine k_then_exit ?_
       have hx := some_inj h
       subst hx
       have hy := some_inj hn15
       subst hy
       replace h := h15
       refine k_then_exit ?_
       refine k_block_in ?_
       exact k_then ⟨(k_s7_l15, (Ad g16 0)), ⟨rfl, rfl, rfl, rfl, rfl, trivial⟩, h, hev, hms, hfr, hs_p0_2, hb2, ho7⟩
     replace h := ite_f hb h
     refine x_pure 8 [(41, undef), (42, undef), (43, undef), (44, undef), (45, undef), (46, undef), (47, undef), (48, .bool false)] _ _ _ (by kernel_rfl) ?_
     refine x_ek ?_
     refine c_norm [(1, Vp b2 0), (4, .slice a8_l15 (d8_l9).length c8_l9), (5, Vi i_s5_l9), (6, Vi x11), (7, Vi k_s7_l15), (48, .bool false)] ⟨rfl, rfl, rfl, rfl, rfl, rfl, trivial⟩ (fun J => ?_)
     refine c_false rfl ?_
     refine c_exit ?_
     refine k_then_exit ?_
     have hx := some_inj h
     subst hx
     have hy := some_inj hn15
     subst hy
     replace h := h15
     refine k_then_exit ?_
     refine k_block_in ?_
     exact k_then ⟨(k_s7_l15, a8_l15), ⟨rfl, rfl, rfl, rfl, rfl, trivial⟩, h, hev, hms, hfr, hs_p0_2, hb2, ho7⟩
   rintro ⟨k_s7_j14, a8_j14⟩ J wj14 ⟨h, hev, hms, hfr, hs_p0_2, hb2, ho7⟩
   refine c_sp ?_
   refine x_pure 3 [(51, .slice a8_j14 (d8_l9).length c8_l9), (52, Vi k_s7_j14), (53, Vi (IntKind.i64.wrap (k_s7_j14 - 1)))] _ _ _ (by kernel_rfl) ?_
   obtain ⟨x18, hx18, h⟩ := bind_some h
   obtain ⟨g18, cs18, ha, hr18, hc18, hR⟩ := own_index (Mo := []) tsl22 ho7 hx18
   subst ha
   obtain rfl := hR
   refine x_indexAddr (xv := .slice (Ad g18 0) (d8_l9).length c8_l9) (yv := Vi (IntKind.i64.wrap (k_s7_j14 - 1))) (.pointer (some ⟨g18, (Int.toNat (IntKind.i64.wrap (k_s7_j14 - 1))) * (eInt .i64).n, none⟩)) rfl rfl rfl rfl hr18 ?_
   refine x_load (xv := .pointer (some ⟨g18, (Int.toNat (IntKind.i64.wrap (k_s7_j14 - 1))) * (eInt .i64).n, none⟩)) (Vi x18) rfl rfl rfl (reads_cell0 tcell3 hc18 (fun _ h => by cases h)) ?_
   refine x_pure 2 [(56, Vi x11), (57, .bool (x18 != x11))] _ _ _ (by kernel_rfl) ?_
   refine x_ek ?_
   refine c_norm [(1, Vp b2 0), (4, .slice (Ad g18 0) (d8_l9).length c8_l9), (5, Vi i_s5_l9), (6, Vi x11), (7, Vi k_s7_j14), (57, .bool (x18 != x11))] ⟨rfl, rfl, rfl, rfl, rfl, rfl, trivial⟩ (fun J => ?_)
   refine c_cond (x18 != x11) rfl (fun hb => ?_) (fun hb => ?_)
   · replace h := ite_t hb h
     refine c_drawn (newmo (wj14).drew) [(0, false), (1, false), (2, false), (3, false), (4, true), (6, false), (7, false), (8, false), (5, false), (9, false), (10, true), (11, true)] _ (by kernel_rfl) rfl ?_
     have hst := Stp.ext (ls := [[b2], blk (Ad g18 0), M]) (Ev.drew wj14)
     replace hb2 := (Ev.drew wj14).box hb2 nn
     replace hs_p0_2 := hs_p0_2.step hst
     replace ho7 := ho7.step hst (Ev.drew wj14) nn2
     replace hms := hms.ev (Ev.drew wj14)
     replace hev := hev.ext (Ev.drew wj14)
     have hnz : ((wj14).drew).heap.size = ((wj14).drew).heap.size + 0 := rfl
     refine x_pure 3 [(58, .slice (Ad g18 0) (d8_l9).length c8_l9), (59, Vi k_s7_j14), (60, Vi k_s7_j14)] _ _ _ (by kernel_rfl) ?_
     have hg := guard_l h
     replace h := guard_r h
     have hg20 := hg
     have hr20 := reads_trunc3 (P := Try.prog) (Mo := (newmo (wj14).drew)) (w := (wj14).drew) tsl22 (Ad g18 0) c8_l9 d8_l9 k_s7_j14 hg.1 hg.2 ho7.le
     refine x_slice (xv := .slice (Ad g18 0) (d8_l9).length c8_l9) (lv := none) (hv := some (Vi k_s7_j14)) (mv := some (Vi k_s7_j14)) (.slice (Ad g18 0) ((d8_l9.take (Int.toNat k_s7_j14))).length (Int.toNat k_s7_j14)) rfl rfl rfl rfl rfl rfl hr20 ?_
     refine x_pure 3 [(62, Vi x11), (64, .slice (Ad g18 0) (d8_l9).length c8_l9), (65, Vi k_s7_j14)] _ _ _ (by kernel_rfl) ?_
     have hg := guard_l h
     replace h := guard_r h
     obtain ⟨a21, c21, hr21, hs21⟩ := SlR.sliced (P := Try.prog) (Mo := (newmo (wj14).drew)) tsl22 (OwnS.ro (M' := []) ho7 (fun _ hb => by cases hb) (fun _ _ hb => by cases hb)) (some k_s7_j14) none hg
     replace hs21 : SlR (eInt .i64) (wj14).drew [] a21 c21 ((d8_l9.drop (Int.toNat k_s7_j14)).take (Int.toNat (d8_l9.length : Int) - Int.toNat k_s7_j14)) := hs21
     refine x_slice (xv := .slice (Ad g18 0) (d8_l9).length c8_l9) (lv := some (Vi k_s7_j14)) (hv := none) (mv := none) (.slice a21 (((d8_l9.drop (Int.toNat k_s7_j14)).take (Int.toNat (d8_l9.length : Int) - Int.toNat k_s7_j14))).length c21) rfl rfl rfl rfl rfl rfl hr21 ?_
     refine x_buildSlice (vs := [(0, Vi x11)]) #[Vi x11] 3 rfl rfl rfl (by kernel_rfl) (fun b22 w22 hq22 hb22 he22 hz22 => ?_)
     refine ⟨.inr (he22.nil), ?_⟩
     have hnb22 : b22 = ((wj14).drew).heap.size + 0 := by omega
     replace hnz : w22.heap.size = ((wj14).drew).heap.size + 1 := by omega
     obtain ⟨a22, ea22⟩ : ∃ a, a = some (⟨b22, 0, none⟩ : Addr) := ⟨_, rfl⟩
     have hw22 : ∀ M, OwnS (eInt .i64) 3 w22 M a22 1 ([x11] : List Int) := fun M => ea22 ▸ own_of_box hb22 (by decide) rfl rfl (cells_at (cs := [Vi x11]) (CellsOf.cons (c := [Vi x11]) rfl CellsOf.nil))
     have hn22 : ∀ b ∈ blk a22, (wj14).drew.heap.size ≤ b ∧ b < w22.heap.size := by subst ea22; intro b hb; simp only [blk, List.mem_singleton] at hb; subst hb; exact ⟨Nat.le_of_eq hq22.symm, lt_of_heap hb22⟩
     clear hb22
     have hst := Stp.push (ls := [[b2], blk (Ad g18 0), M]) (l := blk a22) he22 (fun _ h => by cases h) (fun b hb => (hn22 b hb).1)
     replace hb2 := he22.box hb2 nn
     replace hs_p0_2 := hs_p0_2.step hst
     replace ho7 := ho7.step hst he22 nn2
     replace hms := hms.push he22 hn22
     replace hfr := hfr.push (fun b hb => Nat.le_trans hev.size (hn22 b hb).1)
     replace hev := hev.ext he22
     have hnp22 : ∀ x ∈ blk a22, x ∈ (newmo (wj14).drew) := by subst ea22; intro x hx; simp only [blk, List.mem_singleton] at hx; subst hx; exact newmo_mem hnb22 rfl
     have ho22 := hw22 (fl [blk a22, [b2], blk (Ad g18 0), M])
     clear hw22
     rw [← ea22]
     replace hs21 := hs21.step (Stp.mk (M := []) (M' := []) (by assumption : Ev [] _ _) (fun b hb => by cases hb))
     have hg := guard_l h
     replace h := guard_r h
     obtain ⟨a24, c24, w24, hr24, he24, hn24, hm24, hw24⟩ := own_appendG (M := blk a22) (M2 := []) tel22 22 (OwnS.plain (plain_int _) ho22) (fun _ h => h) hs21 (fun cs y hh => (plain_int _) _ _ _ _ _ _ hh) hg
     refine x_builtin (vs := [.slice a22 (([x11] : List Int)).length 1, .slice a21 (((d8_l9.drop (Int.toNat k_s7_j14)).take (Int.toNat (d8_l9.length : Int) - Int.toNat k_s7_j14))).length c21]) _ w24 rfl rfl rfl rfl (run_value _ _ _ _ hr24) ?_
     refine ⟨.inr (he24.sub hnp22), ?_⟩
     have hnp24 := newmo_app hm24 hnp22 hnz rfl
     have hst : Stp (fl [blk a22, [b2], blk (Ad g18 0), M]) w22 (fl [blk a24, [b2], blk (Ad g18 0), M]) w24 := Stp.upd 0 he24 rfl (fun b hb => (hn24 b hb).1)
     replace hb2 := he24.box hb2 (hms.apart 1 0 rfl rfl rfl _ mem1)
     replace hs_p0_2 := hs_p0_2.step hst
     replace ho7 := ho7.step hst he24 (hms.apart 2 0 rfl rfl rfl)
     replace hms : MS w24 [blk a24, [b2], blk (Ad g18 0), M] := hms.upd 0 he24 rfl hn24
     have hfr2 : FR w.heap.size [blk a24, [b2], blk (Ad g18 0)] := hfr.upd 0 rfl hev.size (fun b hb => (hn24 b hb).1)
     replace hev := hev.then he24 (fun b hb => .inr (hfr.at 0 rfl b hb))
     replace hfr := hfr2
     clear hfr2
     replace ho22 := OwnS.plain (M' := fl [blk a24, [b2], blk (Ad g18 0), M]) (plain_int _) (hw24 [] (fun _ h => by cases h))
     clear hw24
     have hg := guard_l h
     replace h := guard_r h
     obtain ⟨a25, c25, w25, hr25, he25, hn25, hm25, hw25⟩ := own_appendC (M := blk (Ad g18 0)) tel22 22 k_s7_j14 (OwnS.plain (plain_int _) ho7) (fun _ h => h) (OwnS.ro (M := blk (Ad g18 0)) (OwnS.plain (plain_int _) ho22) (fun _ h => h) (hms.apart 0 2 rfl rfl rfl)) (fun cs y hh => hh) ⟨hg20.1, hg20.2, hg⟩
     refine x_builtin (vs := [.slice (Ad g18 0) ((d8_l9.take (Int.toNat k_s7_j14))).length (Int.toNat k_s7_j14), .slice a24 ((([x11] : List Int) ++ ((d8_l9.drop (Int.toNat k_s7_j14)).take (Int.toNat (d8_l9.length : Int) - Int.toNat k_s7_j14)))).length c24]) _ w25 rfl rfl rfl rfl (run_value _ _ _ _ hr25) ?_
     refine inl1 ?_
     have hst : Stp (fl [blk a24, [b2], blk (Ad g18 0), M]) w24 (fl [blk a24, [b2], blk a25, M]) w25 := Stp.upd 2 he25 rfl (fun b hb => (hn25 b hb).1)
     replace hb2 := he25.box hb2 (hms.apart 1 2 rfl rfl rfl _ mem1)
     replace hs_p0_2 := hs_p0_2.step hst
     replace ho22 := ho22.step hst he25 (hms.apart 0 2 rfl rfl rfl)
     replace hms : MS w25 [blk a24, [b2], blk a25, M] := hms.upd 2 he25 rfl hn25
     have hfr2 : FR w.heap.size [blk a24, [b2], blk a25] := hfr.upd 2 rfl hev.size (fun b hb => (hn25 b hb).1)
     replace hev := hev.then he25 (fun b hb => .inr (hfr.at 2 rfl b hb))
     replace hfr := hfr2
     clear hfr2
     replace ho7 := OwnS.plain (M' := fl [blk a24, [b2], blk a25, M]) (plain_int _) (hw25 [] (fun _ h => by cases h))
     clear hw25
     refine x_pure 1 [(4, .slice a25 (((d8_l9.take (Int.toNat k_s7_j14)) ++ (([x11] : List Int) ++ ((d8_l9.drop (Int.toNat k_s7_j14)).take (Int.toNat (d8_l9.length : Int) - Int.toNat k_s7_j14))))).length c25)] _ _ _ (by kernel_rfl) ?_
     refine x_end rfl ?_
     refine k_block ?_
     refine k_then ?_
     refine c_plain ?_
     refine x_pure 3 [(19, Vi i_s5_l9), (20, Vi (IntKind.i64.wrap (i_s5_l9 + 1))), (5, Vi (IntKind.i64.wrap (i_s5_l9 + 1)))] _ _ _ (by kernel_rfl) ?_
     refine x_end rfl ?_
     have hx := some_inj h
     subst hx
     have hpk : MS w25 [[b2], blk a25, M] := hms.pick [some 1, some 2, some 3] _ rfl
     have hsu : ∀ x ∈ fl [[b2], blk a25, M], x ∈ fl [blk a24, [b2], blk a25, M] := pick_sub [some 1, some 2, some 3] _ rfl
     replace hs_p0_2 := hs_p0_2.sub hsu
     replace ho7 := ho7.sub hsu
     replace hms := hpk
     replace hfr : FR w.heap.size [[b2], blk a25] := hfr.pick [some 1, some 2] _ rfl
     clear hpk hsu
     exact k_then ⟨(m9, ((d8_l9.take (Int.toNat k_s7_j14)) ++ (([x11] : List Int) ++ ((d8_l9.drop (Int.toNat k_s7_j14)).take (Int.toNat (d8_l9.length : Int) - Int.toNat k_s7_j14)))), IntKind.i64.wrap (i_s5_l9 + 1), a25, c25), ⟨rfl, rfl, rfl, trivial⟩, ⟨hn9, hev, hms, hfr, hs_p0_2, hb2, ho7⟩, Nat.lt_succ_self _⟩
   replace h := ite_f hb h
   refine c_skip ?_
   refine k_block ?_
   refine k_then ?_
   refine c_plain ?_
   refine x_pure 3 [(19, Vi i_s5_l9), (20, Vi (IntKind.i64.wrap (i_s5_l9 + 1))), (5, Vi (IntKind.i64.wrap (i_s5_l9 + 1)))] _ _ _ (by kernel_rfl) ?_
   refine x_end rfl ?_
   have hx := some_inj h
   subst hx
   exact k_then ⟨(m9, d8_l9, IntKind.i64.wrap (i_s5_l9 + 1), (Ad g18 0), c8_l9), ⟨rfl, rfl, rfl, trivial⟩, ⟨hn9, hev, hms, hfr, hs_p0_2, hb2, ho7⟩, Nat.lt_succ_self _⟩
 replace h := ite_f hb h
 refine c_exit ?_
 refine k_then_exit ?_
 have hx := some_inj h
 subst hx
 have hy := some_inj hn9
 subst hy
 replace h := h9
 refine k_then_exit ?_
 refine k_block_in ?_
 refine k_then ?_
 refine c_norm [(4, .slice a8_l9 (d8_l9).length c8_l9)] ⟨rfl, trivial⟩ (fun J => ?_)
 refine c_sp ?_
 refine x_pure 3 [(69, .slice a8_l9 (d8_l9).length c8_l9), (2, .slice a8_l9 (d8_l9).length c8_l9), (3, Vi 0)] _ _ _ (by kernel_rfl) ?_
 refine x_ek ?_
 refine c_ret ?_
 refine r_ret (r_vals [.slice a8_l9 (d8_l9).length c8_l9, Vi 0] ⟨rfl, rfl, trivial⟩ ?_)
 have hx := some_inj h
 subst hx
 have hmr : MS wl9 [blk a8_l9, M] := hms.pick [some 1, some 2] _ rfl
 have hsu : ∀ x ∈ fl [blk a8_l9, M], x ∈ fl [[b2], blk a8_l9, M] := pick_sub [some 1, some 2] _ rfl
 have hfe : FR w.heap.size [blk a8_l9] := hfr.pick [some 1] _ rfl
 exact ⟨a8_l9, c8_l9, rfl, hev, hmr, hfe, ho7.sub hsu⟩
def r41_Best_L12 (p0_0 : Int) (p0_1 : Int) (p0_2 : List Int) (p0_3 : Int) (p0_4 : Int) (x9 : (List Int) × Int) (s : Int × Int × Int) : Option (Step (Int × Int × Int) (Int × Int)) :=
match s with
| (v_t_s5_l12, best_s6_l12, i_s10_l12) =>
(if (decide (i_s10_l12 < ((x9.1).length : Int))) = true then
((idx x9.1 i_s10_l12).bind fun x14 =>
((r41_Cost p0_0 p0_1 p0_2 p0_3 p0_4 x14).bind fun x16 =>
(if (decide (x16.1 < best_s6_l12)) = true then
((idx x9.1 i_s10_l12).bind fun x18 =>
some (.next (x18, x16.1, IntKind.i64.wrap (i_s10_l12 + 1))))
else
some (.next (v_t_s5_l12, best_s6_l12, IntKind.i64.wrap (i_s10_l12 + 1))))))
else
some (.done (v_t_s5_l12, best_s6_l12)))

def r41_Best (p0_0 : Int) (p0_1 : Int) (p0_2 : List Int) (p0_3 : Int) (p0_4 : Int) : Option (Int × Int × Int) :=
((r41_Valid p0_0 p0_1 p0_2 p0_3 p0_4).bind fun x5 =>
(if (!x5) = true then
some (0, 0, 1)
else
((r41_Cost p0_0 p0_1 p0_2 p0_3 p0_4 p0_0).bind fun x7 =>
((r41_Saves p0_0 p0_1 p0_2 p0_3 p0_4).bind fun x9 =>
((loop (r41_Best_L12 p0_0 p0_1 p0_2 p0_3 p0_4 x9) (p0_0, x7.1, 0)).bind fun d => match d with
| (v_t_s5_x12, best_s6_x12) => some (v_t_s5_x12, best_s6_x12, 0))))))

theorem r41_Best_w (p0_0 : Int) (p0_1 : Int) (a_p0_2 : Option Addr) (c_p0_2 : Nat) (p0_2 : List Int) (p0_3 : Int) (p0_4 : Int) (r : Int × Int × Int) (w : World) (M : List Nat) (hms : MS w [M]) (hs_p0_2 : SlR (eInt .i64) w (fl [M]) a_p0_2 c_p0_2 p0_2) (h : r41_Best p0_0 p0_1 p0_2 p0_3 p0_4 = some r) : CallVC Try.prog 20 [.agg #[Vi p0_0, Vi p0_1, .slice a_p0_2 (p0_2).length c_p0_2, Vi p0_3, Vi p0_4]] w fun v w' => v = .tuple #[Vi r.1, Vi r.2.1, Vi r.2.2] ∧ Ev [] w w' := by
 refine calls_vc hmx Try.func20 (by kernel_rfl) rfl (rs := [.tmp 2, .tmp 3, .tmp 4]) rfl (by kernel_rfl) (args := [.agg #[Vi p0_0, Vi p0_1, .slice a_p0_2 (p0_2).length c_p0_2, Vi p0_3, Vi p0_4]]) rfl ?_
 have hev : Ev [] w w := Ev.refl _ _
 have hfr : FR w.heap.size [] := FR.nil _
 refine c_sp ?_
 refine x_box (xv := .agg #[Vi p0_0, Vi p0_1, .slice a_p0_2 (p0_2).length c_p0_2, Vi p0_3, Vi p0_4]) rfl rfl rfl (fun b2 w2 hq2 hb2 he2 hz2 => ?_)
 replace hb2 : w2.heap[b2]? = some (.cells #[Vi p0_0, Vi p0_1, .slice a_p0_2 (p0_2).length c_p0_2, Vi p0_3, Vi p0_4] 24 (0, 0)) := hb2
 refine inl1 ?_
 have hst := Stp.box (ls := [M]) he2 hq2
 replace hs_p0_2 := hs_p0_2.step hst
 replace hms := hms.box he2 hq2 hb2
 replace hfr := hfr.box hev.size hq2
 replace hev := hev.ext he2
 refine x_pure 3 [(2, Vi 0), (3, Vi 0), (4, Vi 0)] _ _ _ (by kernel_rfl) ?_
 refine x_ek ?_
 refine c_seq ?_
 refine c_sp ?_
 refine x_load (xv := Vp b2 0) (.agg #[Vi p0_0, Vi p0_1, .slice a_p0_2 (p0_2).length c_p0_2, Vi p0_3, Vi p0_4]) rfl rfl rfl (reads_boxagg 0 [Vi p0_0, Vi p0_1, .slice a_p0_2 (p0_2).length c_p0_2, Vi p0_3, Vi p0_4] tagg24 hb2 nn rfl) ?_
 obtain ⟨x5, hx, h⟩ := bind_some h
 have hpk : MS w2 ([] ++ [[b2], M]) := hms.pick [some 0, some 1] _ rfl
 have hsb0 : ∀ x ∈ fl ([] ++ [[b2], M]), x ∈ fl [[b2], M] := pick_sub [some 0, some 1] _ rfl
 have hsb : ∀ x ∈ fl ([] ++ [(fl [[b2], M])]), x ∈ fl [[b2], M] := fun x hx => hsb0 x (fl_unfold x hx)
 have hcall := r41_Valid_w p0_0 p0_1 a_p0_2 c_p0_2 p0_2 p0_3 p0_4 _ w2 (fl [[b2], M]) (MS.fold (P := []) hpk) (hs_p0_2.sub hsb) hx
 refine x_call 23 #[] #[] [.agg #[Vi p0_0, Vi p0_1, .slice a_p0_2 (p0_2).length c_p0_2, Vi p0_3, Vi p0_4]] _ rfl rfl rfl rfl hcall ?_
 rintro v w6 ⟨rfl, he6⟩
 clear hcall hx
 refine inl1 ?_
 have hst := Stp.ext (ls := [[b2], M]) he6
 replace hs_p0_2 := hs_p0_2.step hst
 replace hb2 := he6.box hb2 nn
 replace hms := hms.ev he6
 replace hev := hev.ext he6
 clear hpk hsb hsb0
 refine x_pure 1 [(15, .bool (!x5))] _ _ _ (by kernel_rfl) ?_
 refine x_ek ?_
 refine c_cond (!x5) rfl (fun hb => ?_) (fun hb => ?_)
 · replace h := ite_t hb h
   refine c_sp ?_
   refine x_pure 3 [(2, Vi 0), (3, Vi 0), (4, Vi 1)] _ _ _ (by kernel_rfl) ?_
   refine x_ek ?_
   refine c_ret ?_
   refine k_then_ret ?_
   refine r_ret (r_vals [Vi 0, Vi 0, Vi 1] ⟨rfl, rfl, rfl, trivial⟩ ?_)
   have hx := some_inj h
   subst hx
   have hmr : MS w6 [M] := hms.pick [some 1] _ rfl
   have hsu : ∀ x ∈ fl [M], x ∈ fl [[b2], M] := pick_sub [some 1] _ rfl
   exact ⟨rfl, hev⟩
 replace h := ite_f hb h
 refine c_skip ?_
 refine k_then ?_
 refine c_sp ?_
 refine x_fieldAddr (xv := Vp b2 0) (Vp b2 0) rfl rfl rfl (reads_field tfld24_0 _ _) ?_
 refine x_load (xv := Vp b2 0) (Vi p0_0) rfl rfl rfl (reads_box tcell3 hb2 nn 0 _ rfl) ?_
 refine x_pure 1 [(5, Vi p0_0)] _ _ _ (by kernel_rfl) ?_
 refine x_ek ?_
 refine c_sp ?_
 refine x_load (xv := Vp b2 0) (.agg #[Vi p0_0, Vi p0_1, .slice a_p0_2 (p0_2).length c_p0_2, Vi p0_3, Vi p0_4]) rfl rfl rfl (reads_boxagg 0 [Vi p0_0, Vi p0_1, .slice a_p0_2 (p0_2).length c_p0_2, Vi p0_3, Vi p0_4] tagg24 hb2 nn rfl) ?_
 refine x_pure 1 [(20, Vi p0_0)] _ _ _ (by kernel_rfl) ?_
 obtain ⟨x7, hx, h⟩ := bind_some h
 have hpk : MS w6 ([] ++ [[b2], M]) := hms.pick [some 0, some 1] _ rfl
 have hsb0 : ∀ x ∈ fl ([] ++ [[b2], M]), x ∈ fl [[b2], M] := pick_sub [some 0, some 1] _ rfl
 have hsb : ∀ x ∈ fl ([] ++ [(fl [[b2], M])]), x ∈ fl [[b2], M] := fun x hx => hsb0 x (fl_unfold x hx)
 have hcall := r41_Cost_w p0_0 p0_1 a_p0_2 c_p0_2 p0_2 p0_3 p0_4 p0_0 _ w6 (fl [[b2], M]) (MS.fold (P := []) hpk) (hs_p0_2.sub hsb) hx
 refine x_call 19 #[] #[] [.agg #[Vi p0_0, Vi p0_1, .slice a_p0_2 (p0_2).length c_p0_2, Vi p0_3, Vi p0_4], Vi p0_0] _ rfl rfl rfl rfl hcall ?_
 rintro v w8 ⟨rfl, he8⟩
 clear hcall hx
 refine inl1 ?_
 have hst := Stp.ext (ls := [[b2], M]) he8
 replace hs_p0_2 := hs_p0_2.step hst
 replace hb2 := he8.box hb2 nn
 replace hms := hms.ev he8
 replace hev := hev.ext he8
 clear hpk hsb hsb0
 refine x_pure 5 [(18, .tuple #[Vi x7.1, Vi x7.2]), (22, Vi x7.1), (23, Vi x7.2), (6, Vi x7.1), (7, Vi x7.2)] _ _ _ (by kernel_rfl) ?_
 refine x_ek ?_
 refine c_norm [(1, Vp b2 0), (5, Vi p0_0), (6, Vi x7.1)] ⟨rfl, rfl, rfl, trivial⟩ (fun J => ?_)
 refine c_sp ?_
 refine x_load (xv := Vp b2 0) (.agg #[Vi p0_0, Vi p0_1, .slice a_p0_2 (p0_2).length c_p0_2, Vi p0_3, Vi p0_4]) rfl rfl rfl (reads_boxagg 0 [Vi p0_0, Vi p0_1, .slice a_p0_2 (p0_2).length c_p0_2, Vi p0_3, Vi p0_4] tagg24 hb2 nn rfl) ?_
 obtain ⟨x9, hx, h⟩ := bind_some h
 have hpk : MS w8 ([] ++ [[b2], M]) := hms.pick [some 0, some 1] _ rfl
 have hsb0 : ∀ x ∈ fl ([] ++ [[b2], M]), x ∈ fl [[b2], M] := pick_sub [some 0, some 1] _ rfl
 have hsb : ∀ x ∈ fl ([] ++ [(fl [[b2], M])]), x ∈ fl [[b2], M] := fun x hx => hsb0 x (fl_unfold x hx)
 have hcall := r41_Saves_w p0_0 p0_1 a_p0_2 c_p0_2 p0_2 p0_3 p0_4 _ w8 (fl [[b2], M]) (MS.fold (P := []) hpk) (hs_p0_2.sub hsb) hx
 refine x_call 21 #[] #[] [.agg #[Vi p0_0, Vi p0_1, .slice a_p0_2 (p0_2).length c_p0_2, Vi p0_3, Vi p0_4]] _ rfl rfl rfl rfl hcall ?_
 rintro v w10 ⟨a0_10, c0_10, rfl, he10, hmn10, hfn10, hf10_1⟩
 clear hcall hx
 refine inl1 ?_
 have hpk2 : MS w8 ([] ++ [[b2], M]) := hms.pick [some 0, some 1] _ rfl
 have hsb2 : ∀ x ∈ fl ([] ++ [[b2], M]), x ∈ fl [[b2], M] := pick_sub [some 0, some 1] _ rfl
 have hst0 := Stp.call (LS := [[b2], M]) (res := [blk a0_10]) (par := []) (R := [[b2], M]) he10 (fun b hb => hsb2 b (fl_left' (P := []) b hb)) hfn10 (NP.init _ _) (fun x hx => hsb2 x (fl_right' (P := []) x hx))
 have hsn : ∀ x ∈ fl [blk a0_10, [b2], M], x ∈ fl ([blk a0_10] ++ ([] ++ [[b2], M])) := pick_sub [some 0, some 1, some 2] _ rfl
 have hst := hst0.res hsn
 replace hs_p0_2 := hs_p0_2.step hst
 replace hb2 := he10.box hb2 ((MS.outs (P := []) hpk2 0 rfl) _ mem1)
 replace hms : MS w10 [blk a0_10, [b2], M] := (MS.call (P := []) (R := [[b2], M]) (res := [blk a0_10]) (par := []) hpk2 he10 hmn10 hfn10 (NP.init _ _)).pick [some 0, some 1, some 2] _ rfl
 have hfr2 : FR w.heap.size [blk a0_10, [b2]] := (FR.cons (fun b hb => Nat.le_trans hev.size (hfn10.at 0 rfl b hb)) (FR.cons (hfr.at 0 rfl) (FR.nil _)))
 replace hev := hev.ext he10
 replace hfr := hfr2
 clear hfr2
 replace hf10_1 := OwnS.plain (M' := fl [blk a0_10, [b2], M]) (plain_int _) hf10_1
 clear hpk hsb hsb0 hpk2 hsb2 hst0 hsn hst
 have hpk : MS w10 [[b2], M] := hms.pick [some 1, some 2] _ rfl
 have hsu : ∀ x ∈ fl [[b2], M], x ∈ fl [blk a0_10, [b2], M] := pick_sub [some 1, some 2] _ rfl
 replace hs_p0_2 := hs_p0_2.sub hsu
 replace hf10_1 := hf10_1.ro hsu (pick_out hms 0 rfl [some 1, some 2] [[b2], M] rfl rfl)
 replace hms := hpk
 replace hfr : FR w.heap.size [[b2]] := hfr.pick [some 1] _ rfl
 clear hpk hsu
 refine x_pure 5 [(24, .tuple #[.slice a0_10 (x9.1).length c0_10, Vi x9.2]), (27, .slice a0_10 (x9.1).length c0_10), (28, Vi x9.2), (8, .slice a0_10 (x9.1).length c0_10), (9, Vi x9.2)] _ _ _ (by kernel_rfl) ?_
 refine x_ek ?_
 refine c_seq ?_
 refine c_sp ?_
 refine x_pure 1 [(10, Vi 0)] _ _ _ (by kernel_rfl) ?_
 refine x_ek ?_
 refine c_block ?_
 obtain ⟨d12, hd12, h12⟩ := bind_some h
 obtain ⟨m12, hd12⟩ := loop_some hd12
 refine c_loop (loop_rule hmx (σ := Nat × Int × Int × Int) (fun s => match s with | (_, v_t_s5_l12, best_s6_l12, i_s10_l12) => [(1, Vp b2 0), (5, Vi v_t_s5_l12), (6, Vi best_s6_l12), (8, .slice a0_10 (x9.1).length c0_10), (10, Vi i_s10_l12)]) (fun s w' => match s with | (m, v_t_s5_l12, best_s6_l12, i_s10_l12) => loopN (r41_Best_L12 p0_0 p0_1 p0_2 p0_3 p0_4 x9) m (v_t_s5_l12, best_s6_l12, i_s10_l12) = some d12 ∧ Ev [] w w' ∧ MS w' [[b2], M] ∧ FR w.heap.size [[b2]] ∧ SlR (eInt .i64) w' (fl [[b2], M]) a_p0_2 c_p0_2 p0_2 ∧ w'.heap[b2]? = some (.cells #[Vi p0_0, Vi p0_1, .slice a_p0_2 (p0_2).length c_p0_2, Vi p0_3, Vi p0_4] 24 (0, 0)) ∧ SlR (eInt .i64) w' (fl [[b2], M]) a0_10 c0_10 x9.1) (fun s => s.1) (m12, p0_0, x7.1, 0) ⟨rfl, rfl, rfl, rfl, rfl, trivial⟩ ⟨hd12, hev, hms, hfr, hs_p0_2, hb2, hf10_1⟩ ?_)
 rintro ⟨m12, v_t_s5_l12, best_s6_l12, i_s10_l12⟩ J wl12 ⟨hn12, hev, hms, hfr, hs_p0_2, hb2, hf10_1⟩
 rcases m12 with _ | m12
 · exact (loopN_zero hn12).elim
 obtain ⟨t12, h, hn12⟩ := bind_some hn12
 refine c_seq ?_
 refine c_sp ?_
 refine x_pure 2 [(29, Vi i_s10_l12), (30, .slice a0_10 (x9.1).length c0_10)] _ _ _ (by kernel_rfl) ?_
 refine x_len (vs := [.slice a0_10 (x9.1).length c0_10]) (Vi ((x9.1).length : Int)) rfl rfl rfl (reads_len tsl22 _ _ _ _ _) ?_
 refine x_pure 1 [(32, .bool (decide (i_s10_l12 < ((x9.1).length : Int))))] _ _ _ (by kernel_rfl) ?_
 refine x_ek ?_
 refine c_norm [(1, Vp b2 0), (5, Vi v_t_s5_l12), (6, Vi best_s6_l12), (8, .slice a0_10 (x9.1).length c0_10), (10, Vi i_s10_l12), (32, .bool (decide (i_s10_l12 < ((x9.1).length : Int))))] ⟨rfl, rfl, rfl, rfl, rfl, rfl, trivial⟩ (fun J => ?_)
 refine c_cond (decide (i_s10_l12 < ((x9.1).length : Int))) rfl (fun hb => ?_) (fun hb => ?_)
 · replace h := ite_t hb h
   refine c_skip ?_
   refine k_then ?_
   refine c_seq ?_
   refine c_block ?_
   refine c_seq ?_
   refine c_drawn [] [(0, false), (1, false), (2, false), (3, false), (4, false), (5, true), (6, false), (7, false), (8, false), (9, false), (10, false)] _ (by kernel_rfl) rfl ?_
   have hst := Stp.ext (ls := [[b2], M]) (Ev.drew wl12)
   replace hb2 := (Ev.drew wl12).box hb2 nn
   replace hs_p0_2 := hs_p0_2.step hst
   replace hf10_1 := hf10_1.step hst
   replace hms := hms.ev (Ev.drew wl12)
   replace hev := hev.ext (Ev.drew wl12)
   refine x_load (xv := Vp b2 0) (.agg #[Vi p0_0, Vi p0_1, .slice a_p0_2 (p0_2).length c_p0_2, Vi p0_3, Vi p0_4]) rfl rfl rfl (reads_boxagg 0 [Vi p0_0, Vi p0_1, .slice a_p0_2 (p0_2).length c_p0_2, Vi p0_3, Vi p0_4] tagg24 hb2 nn rfl) ?_
   refine x_pure 2 [(37, .slice a0_10 (x9.1).length c0_10), (38, Vi i_s10_l12)] _ _ _ (by kernel_rfl) ?_
   obtain ⟨x14, hx14, h⟩ := bind_some h
   obtain ⟨ad14, cs14, hr14, hc14, hR⟩ := reads_index (Mo := []) tsl22 hf10_1 hx14
   obtain rfl := hR
   refine x_indexAddr (xv := .slice a0_10 (x9.1).length c0_10) (yv := Vi i_s10_l12) (.pointer (some ad14)) rfl rfl rfl rfl hr14 ?_
   refine x_load (xv := .pointer (some ad14)) (Vi x14) rfl rfl rfl (reads_cell0 tcell3 hc14 (fun _ h => by cases h)) ?_
   obtain ⟨x16, hx, h⟩ := bind_some h
   have hpk : MS (wl12).drew ([] ++ [[b2], M]) := hms.pick [some 0, some 1] _ rfl
   have hsb0 : ∀ x ∈ fl ([] ++ [[b2], M]), x ∈ fl [[b2], M] := pick_sub [some 0, some 1] _ rfl
   have hsb : ∀ x ∈ fl ([] ++ [(fl [[b2], M])]), x ∈ fl [[b2], M] := fun x hx => hsb0 x (fl_unfold x hx)
   have hcall := r41_Cost_w p0_0 p0_1 a_p0_2 c_p0_2 p0_2 p0_3 p0_4 x14 _ (wl12).drew (fl [[b2], M]) (MS.fold (P := []) hpk) (hs_p0_2.sub hsb) hx
   refine x_call 19 #[] #[] [.agg #[Vi p0_0, Vi p0_1, .slice a_p0_2 (p0_2).length c_p0_2, Vi p0_3, Vi p0_4], Vi x14] _ rfl rfl rfl rfl hcall ?_
   rintro v w17 ⟨rfl, he17⟩
   clear hcall hx
   refine inl1 ?_
   have hst := Stp.ext (ls := [[b2], M]) he17
   replace hb2 := he17.box hb2 nn
   replace hs_p0_2 := hs_p0_2.step hst
   replace hf10_1 := hf10_1.step hst
   replace hc14 := hc14.step hst
   replace hms := hms.ev he17
   replace hev := hev.ext he17
   clear hpk hsb hsb0
   refine x_pure 5 [(35, .tuple #[Vi x16.1, Vi x16.2]), (42, Vi x16.1), (43, Vi x16.2), (11, Vi x16.1), (12, Vi x16.2)] _ _ _ (by kernel_rfl) ?_
   refine x_ek ?_
   refine c_sp ?_
   refine x_pure 3 [(44, Vi x16.1), (45, Vi best_s6_l12), (46, .bool (decide (x16.1 < best_s6_l12)))] _ _ _ (by kernel_rfl) ?_
   refine x_ek ?_
   refine c_norm [(1, Vp b2 0), (5, Vi v_t_s5_l12), (6, Vi best_s6_l12), (8, .slice a0_10 (x9.1).length c0_10), (10, Vi i_s10_l12), (11, Vi x16.1), (46, .bool (decide (x16.1 < best_s6_l12)))] ⟨rfl, rfl, rfl, rfl, rfl, rfl, rfl, trivial⟩ (fun J => ?_)
   refine c_cond (decide (x16.1 < best_s6_l12)) rfl (fun hb => ?_) (fun hb => ?_)
   · replace h := ite_t hb h
     refine c_plain ?_
     refine x_pure 2 [(47, .slice a0_10 (x9.1).length c0_10), (48, Vi i_s10_l12)] _ _ _ (by kernel_rfl) ?_
     obtain ⟨x18, hx18, h⟩ := bind_some h
     obtain ⟨ad18, cs18, hr18, hc18, hR⟩ := reads_index (Mo := []) tsl22 hf10_1 hx18
     obtain rfl := hR
     refine x_indexAddr (xv := .slice a0_10 (x9.1).length c0_10) (yv := Vi i_s10_l12) (.pointer (some ad18)) rfl rfl rfl rfl hr18 ?_
     refine x_load (xv := .pointer (some ad18)) (Vi x18) rfl rfl rfl (reads_cell0 tcell3 hc18 (fun _ h => by cases h)) ?_
     refine x_pure 3 [(51, Vi x16.1), (5, Vi x18), (6, Vi x16.1)] _ _ _ (by kernel_rfl) ?_
     refine x_end rfl ?_
     refine k_block ?_
     refine k_then ?_
     refine c_plain ?_
     refine x_pure 3 [(33, Vi i_s10_l12), (34, Vi (IntKind.i64.wrap (i_s10_l12 + 1))), (10, Vi (IntKind.i64.wrap (i_s10_l12 + 1)))] _ _ _ (by kernel_rfl) ?_
     refine x_end rfl ?_
     have hx := some_inj h
     subst hx
     exact k_then ⟨(m12, x18, x16.1, IntKind.i64.wrap (i_s10_l12 + 1)), ⟨rfl, rfl, rfl, rfl, rfl, trivial⟩, ⟨hn12, hev, hms, hfr, hs_p0_2, hb2, hf10_1⟩, Nat.lt_succ_self _⟩
   replace h := ite_f hb h
   refine c_skip ?_
   refine k_block ?_
   refine k_then ?_
   refine c_plain ?_
   refine x_pure 3 [(33, Vi i_s10_l12), (34, Vi (IntKind.i64.wrap (i_s10_l12 + 1))), (10, Vi (IntKind.i64.wrap (i_s10_l12 + 1)))] _ _ _ (by kernel_rfl) ?_
   refine x_end rfl ?_
   have hx := some_inj h
   subst hx
   exact k_then ⟨(m12, v_t_s5_l12, best_s6_l12, IntKind.i64.wrap (i_s10_l12 + 1)), ⟨rfl, rfl, rfl, rfl, rfl, trivial⟩, ⟨hn12, hev, hms, hfr, hs_p0_2, hb2, hf10_1⟩, Nat.lt_succ_self _⟩
 replace h := ite_f hb h
 refine c_exit ?_
 refine k_then_exit ?_
 have hx := some_inj h
 subst hx
 have hy := some_inj hn12
 subst hy
 replace h := h12
 refine k_then_exit ?_
 refine k_block_in ?_
 refine k_then ?_
 refine c_norm [(5, Vi v_t_s5_l12), (6, Vi best_s6_l12)] ⟨rfl, rfl, trivial⟩ (fun J => ?_)
 refine c_sp ?_
 refine x_pure 5 [(52, Vi v_t_s5_l12), (53, Vi best_s6_l12), (2, Vi v_t_s5_l12), (3, Vi best_s6_l12), (4, Vi 0)] _ _ _ (by kernel_rfl) ?_
 refine x_ek ?_
 refine c_ret ?_
 refine r_ret (r_vals [Vi v_t_s5_l12, Vi best_s6_l12, Vi 0] ⟨rfl, rfl, rfl, trivial⟩ ?_)
 have hx := some_inj h
 subst hx
 have hmr : MS wl12 [M] := hms.pick [some 1] _ rfl
 have hsu : ∀ x ∈ fl [M], x ∈ fl [[b2], M] := pick_sub [some 1] _ rfl
 exact ⟨rfl, hev⟩
end Go.Proofs.Ytdjadgodphfihaa
