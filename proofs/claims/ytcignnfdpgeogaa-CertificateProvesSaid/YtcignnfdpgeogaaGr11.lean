/- Walks, printed by program: each function returns what the partial function of the same name returns. Conditions: those of each theorem. -/
import Derived.Test.YtcignnfdpgeogaaGT
set_option linter.unusedVariables false
set_option linter.unusedSimpArgs false
set_option maxRecDepth 4000
namespace Go.Proofs.Ytcignnfdpgeogaa
open Go Go.V Go.Proofs
def r11_Kind_J9 (p1 : Int) (p2 : Int) (t19__s19_j9 : Bool) : Option Int :=
(if t19__s19_j9 = true then
some 0
else
(if (decide (p2 < p1)) = true then
some 2
else
some 1))

def r11_Kind_J4 (p1 : Int) (p2 : Int) (e10_j4_0 : Int) (e10_j4_1 : Int) (e10_j4_2 : Int) (e10_j4_3 : Int) (e12_j4_0 : Int) (e12_j4_1 : Int) (e12_j4_2 : Int) (e12_j4_3 : Int) : Option Int :=
(if (e10_j4_0 != e12_j4_0) = true then
r11_Kind_J9 p1 p2 true
else
r11_Kind_J9 p1 p2 (decide (e10_j4_1 ≥ e12_j4_1)))

def r11_Kind (p0_0 : List (Int × Int × Int × Int)) (p0_1 : Int) (p1 : Int) (p2 : Int) : Option Int :=
((idx p0_0 p1).bind fun x5 =>
((idx p0_0 p2).bind fun x7 =>
r11_Kind_J4 p1 p2 x5.1 x5.2.1 x5.2.2.1 x5.2.2.2 x7.1 x7.2.1 x7.2.2.1 x7.2.2.2))

theorem r11_Kind_w (a_p0_0 : Option Addr) (c_p0_0 : Nat) (p0_0 : List (Int × Int × Int × Int)) (p0_1 : Int) (p1 : Int) (p2 : Int) (r : Int) (w : World) (M : List Nat) (hms : MS w [M]) (hs_p0_0 : SlR (eIt4) w (fl [M]) a_p0_0 c_p0_0 p0_0) (h : r11_Kind p0_0 p0_1 p1 p2 = some r) : CallVC Try.prog 18 [.agg #[.slice a_p0_0 (p0_0).length c_p0_0, Vi p0_1], Vi p1, Vi p2] w fun v w' => v = Vi r ∧ Ev [] w w' := by
 refine calls_vc hmx Try.func18 (by kernel_rfl) rfl (rs := [.tmp 6]) rfl (by kernel_rfl) (args := [.agg #[.slice a_p0_0 (p0_0).length c_p0_0, Vi p0_1], Vi p1, Vi p2]) rfl ?_
 have hev : Ev [] w w := Ev.refl _ _
 have hfr : FR w.heap.size [] := FR.nil _
 refine c_sp ?_
 refine x_box (xv := .agg #[.slice a_p0_0 (p0_0).length c_p0_0, Vi p0_1]) rfl rfl rfl (fun b2 w2 hq2 hb2 he2 hz2 => ?_)
 replace hb2 : w2.heap[b2]? = some (.cells #[.slice a_p0_0 (p0_0).length c_p0_0, Vi p0_1] 25 (0, 0)) := hb2
 refine inl1 ?_
 have hst := Stp.box (ls := [M]) he2 hq2
 replace hs_p0_0 := hs_p0_0.step hst
 replace hms := hms.box he2 hq2 hb2
 replace hfr := hfr.box hev.size hq2
 replace hev := hev.ext he2
 refine x_pure 1 [(6, Vi 0)] _ _ _ (by kernel_rfl) ?_
 refine x_ek ?_
 refine c_join (σ := Int × Int × Int × Int × Int × Int × Int × Int × Nat × Nat) (fun s => match s with | (e10_j4_0, e10_j4_1, e10_j4_2, e10_j4_3, e12_j4_0, e12_j4_1, e12_j4_2, e12_j4_3, b10_j4, b12_j4) => [(1, Vi p1), (2, Vi p2), (7, Vp b10_j4 0), (8, Vp b12_j4 0)]) (fun s w' => match s with | (e10_j4_0, e10_j4_1, e10_j4_2, e10_j4_3, e12_j4_0, e12_j4_1, e12_j4_2, e12_j4_3, b10_j4, b12_j4) => r11_Kind_J4 p1 p2 e10_j4_0 e10_j4_1 e10_j4_2 e10_j4_3 e12_j4_0 e12_j4_1 e12_j4_2 e12_j4_3 = some r ∧ Ev [] w w' ∧ MS w' [[b10_j4], [b12_j4], M] ∧ FR w.heap.size [[b10_j4], [b12_j4]] ∧ w'.heap[b10_j4]? = some (.cells #[Vi e10_j4_0, Vi e10_j4_1, Vi e10_j4_2, Vi e10_j4_3] 79 (0, 0)) ∧ w'.heap[b12_j4]? = some (.cells #[Vi e12_j4_0, Vi e12_j4_1, Vi e12_j4_2, Vi e12_j4_3] 79 (0, 0))) ?_ ?_
 · refine c_drawnp (newmo (w2).drew) [(0, false), (1, false), (2, false), (3, false), (4, false), (5, false), (6, false), (7, false), (8, false), (9, false)] (.alt 10 false (opsThen [(11, false), (12, false), (13, true)] .stop) (.alt 11 false (opsThen [(10, false), (12, false), (13, true)] .stop) .none_)) _ (by kernel_rfl) rfl ?_
   have hst := Stp.ext (ls := [[b2], M]) (Ev.drew w2)
   replace hs_p0_0 := hs_p0_0.step hst
   replace hb2 := (Ev.drew w2).box hb2 nn
   replace hms := hms.ev (Ev.drew w2)
   replace hev := hev.ext (Ev.drew w2)
   have hnz : ((w2).drew).heap.size = ((w2).drew).heap.size + 0 := rfl
   refine x_fieldAddr (xv := Vp b2 0) (Vp b2 0) rfl rfl rfl (reads_field tfld25_0 _ _) ?_
   refine x_load (xv := Vp b2 0) (.slice a_p0_0 (p0_0).length c_p0_0) rfl rfl rfl (reads_box tcell23 hb2 ((newmo_out (hms.ltat 0 rfl)) _ mem1) 0 _ rfl) ?_
   refine x_pure 1 [(11, Vi p1)] _ _ _ (by kernel_rfl) ?_
   obtain ⟨x5, hx5, h⟩ := bind_some h
   obtain ⟨ad5, cs5, hr5, hc5, hR⟩ := reads_index (Mo := (newmo (w2).drew)) tsl23 hs_p0_0 hx5
   obtain ⟨_, _, rfl, rfl, ⟨_, _, rfl, rfl, ⟨_, _, rfl, rfl, rfl⟩⟩⟩ := hR
   refine x_indexAddr (xv := .slice a_p0_0 (p0_0).length c_p0_0) (yv := Vi p1) (.pointer (some ad5)) rfl rfl rfl rfl hr5 ?_
   refine x_load (xv := .pointer (some ad5)) (.agg #[Vi x5.1, Vi x5.2.1, Vi x5.2.2.1, Vi x5.2.2.2]) rfl rfl rfl (reads_agg tagg79 (CellsAt.newer hc5) (fun b hb => hb)) ?_
   refine x_fieldAddr (xv := Vp b2 0) (Vp b2 0) rfl rfl rfl (reads_field tfld25_0 _ _) ?_
   refine x_load (xv := Vp b2 0) (.slice a_p0_0 (p0_0).length c_p0_0) rfl rfl rfl (reads_box tcell23 hb2 ((newmo_out (hms.ltat 0 rfl)) _ mem1) 0 _ rfl) ?_
   refine x_pure 1 [(16, Vi p2)] _ _ _ (by kernel_rfl) ?_
   obtain ⟨x7, hx7, h⟩ := bind_some h
   obtain ⟨ad7, cs7, hr7, hc7, hR⟩ := reads_index (Mo := (newmo (w2).drew)) tsl23 hs_p0_0 hx7
   obtain ⟨_, _, rfl, rfl, ⟨_, _, rfl, rfl, ⟨_, _, rfl, rfl, rfl⟩⟩⟩ := hR
   refine x_indexAddr (xv := .slice a_p0_0 (p0_0).length c_p0_0) (yv := Vi p2) (.pointer (some ad7)) rfl rfl rfl rfl hr7 ?_
   refine x_load (xv := .pointer (some ad7)) (.agg #[Vi x7.1, Vi x7.2.1, Vi x7.2.2.1, Vi x7.2.2.2]) rfl rfl rfl (reads_agg tagg79 (CellsAt.newer hc7) (fun b hb => hb)) ?_
   refine x_end rfl ?_
   refine t_alt _ rfl ?_ ?_
   · refine x_alloc (z := .agg #[Vi 0, Vi 0, Vi 0, Vi 0]) rfl rfl (by kernel_rfl) (fun b9 w9 hq9 hb9 he9 hz9 => ?_)
     replace hb9 : w9.heap[b9]? = some (.cells #[Vi 0, Vi 0, Vi 0, Vi 0] 79 (0, 0)) := hb9
     refine ⟨.inr (he9.nil), ?_⟩
     have hns9 : w9.heap.size = b9 + 1 := hz9
     have hnb9 : b9 = ((w2).drew).heap.size + 0 := by omega
     replace hnz : w9.heap.size = ((w2).drew).heap.size + 1 := by omega
     have hst := Stp.box (ls := [[b2], M]) he9 hq9
     replace hs_p0_0 := hs_p0_0.step hst
     replace hb2 := he9.box hb2 nn
     replace hc5 := hc5.step hst
     replace hc7 := hc7.step hst
     replace hms := hms.box he9 hq9 hb9
     replace hfr := hfr.box hev.size hq9
     replace hev := hev.ext he9
     refine x_alloc (z := .agg #[Vi 0, Vi 0, Vi 0, Vi 0]) rfl rfl (by kernel_rfl) (fun b11 w11 hq11 hb11 he11 hz11 => ?_)
     replace hb11 : w11.heap[b11]? = some (.cells #[Vi 0, Vi 0, Vi 0, Vi 0] 79 (0, 0)) := hb11
     refine ⟨.inr (he11.nil), ?_⟩
     have hns11 : w11.heap.size = b11 + 1 := hz11
     have hnb11 : b11 = ((w2).drew).heap.size + 1 := by omega
     replace hnz : w11.heap.size = ((w2).drew).heap.size + 2 := by omega
     have hst := Stp.box (ls := [[b9], [b2], M]) he11 hq11
     replace hs_p0_0 := hs_p0_0.step hst
     replace hb2 := he11.box hb2 nn
     replace hc5 := hc5.step hst
     replace hc7 := hc7.step hst
     replace hb9 := he11.box hb9 nn
     replace hms := hms.box he11 hq11 hb11
     replace hfr := hfr.box hev.size hq11
     replace hev := hev.ext he11
     obtain ⟨w13, hr13, hb13, he13⟩ := store_boxagg 0 [Vi x5.1, Vi x5.2.1, Vi x5.2.2.1, Vi x5.2.2.2] #[Vi x5.1, Vi x5.2.1, Vi x5.2.2.1, Vi x5.2.2.2] tagg79 hb9 rfl rfl rfl
     refine x_store w13 (xv := Vp b9 0) (yv := .agg #[Vi x5.1, Vi x5.2.1, Vi x5.2.2.1, Vi x5.2.2.2]) rfl rfl rfl rfl hr13 ?_
     refine ⟨.inr (he13.sub (fun x hx => by simp only [List.mem_singleton] at hx; subst hx; exact newmo_mem hnb9 rfl)), ?_⟩
     have hst := Stp.ev' (ls := [[b11], [b9], [b2], M]) he13 (mem_flat 1 rfl)
     replace hs_p0_0 := hs_p0_0.step hst
     replace hb2 := he13.box hb2 (hms.apart 2 1 rfl rfl rfl _ mem1)
     replace hc5 := hc5.step hst
     replace hc7 := hc7.step hst
     replace hb11 := he13.box hb11 (hms.apart 0 1 rfl rfl rfl _ mem1)
     replace hms := hms.ev he13
     replace hev := hev.then he13 (fun b hb => .inr (hfr.at 1 rfl b hb))
     replace hb9 := hb13
     obtain ⟨w14, hr14, hb14, he14⟩ := store_boxagg 0 [Vi x7.1, Vi x7.2.1, Vi x7.2.2.1, Vi x7.2.2.2] #[Vi x7.1, Vi x7.2.1, Vi x7.2.2.1, Vi x7.2.2.2] tagg79 hb11 rfl rfl rfl
     refine x_store w14 (xv := Vp b11 0) (yv := .agg #[Vi x7.1, Vi x7.2.1, Vi x7.2.2.1, Vi x7.2.2.2]) rfl rfl rfl rfl hr14 ?_
     refine inl1 ?_
     have hst := Stp.ev' (ls := [[b11], [b9], [b2], M]) he14 (mem_flat 0 rfl)
     replace hs_p0_0 := hs_p0_0.step hst
     replace hb2 := he14.box hb2 (hms.apart 2 0 rfl rfl rfl _ mem1)
     replace hc5 := hc5.step hst
     replace hc7 := hc7.step hst
     replace hb9 := he14.box hb9 (hms.apart 1 0 rfl rfl rfl _ mem1)
     replace hms := hms.ev he14
     replace hev := hev.then he14 (fun b hb => .inr (hfr.at 0 rfl b hb))
     replace hb11 := hb14
     refine x_end rfl ?_
     refine t_stop ?_
     have hpk : MS w14 [[b9], [b11], M] := hms.pick [some 1, some 0, some 3] _ rfl
     have hsu : ∀ x ∈ fl [[b9], [b11], M], x ∈ fl [[b11], [b9], [b2], M] := pick_sub [some 1, some 0, some 3] _ rfl
     replace hms := hpk
     replace hfr : FR w.heap.size [[b9], [b11]] := hfr.pick [some 1, some 0] _ rfl
     clear hpk hsu
     exact k_then ⟨(x5.1, x5.2.1, x5.2.2.1, x5.2.2.2, x7.1, x7.2.1, x7.2.2.1, x7.2.2.2, b9, b11), ⟨rfl, rfl, rfl, rfl, trivial⟩, h, hev, hms, hfr, hb9, hb11⟩
   refine t_alt _ rfl ?_ ?_
   · refine x_alloc (z := .agg #[Vi 0, Vi 0, Vi 0, Vi 0]) rfl rfl (by kernel_rfl) (fun b9 w9 hq9 hb9 he9 hz9 => ?_)
     replace hb9 : w9.heap[b9]? = some (.cells #[Vi 0, Vi 0, Vi 0, Vi 0] 79 (0, 0)) := hb9
     refine ⟨.inr (he9.nil), ?_⟩
     have hns9 : w9.heap.size = b9 + 1 := hz9
     have hnb9 : b9 = ((w2).drew).heap.size + 0 := by omega
     replace hnz : w9.heap.size = ((w2).drew).heap.size + 1 := by omega
     have hst := Stp.box (ls := [[b2], M]) he9 hq9
     replace hs_p0_0 := hs_p0_0.step hst
     replace hb2 := he9.box hb2 nn
     replace hc5 := hc5.step hst
     replace hc7 := hc7.step hst
     replace hms := hms.box he9 hq9 hb9
     replace hfr := hfr.box hev.size hq9
     replace hev := hev.ext he9
     refine x_alloc (z := .agg #[Vi 0, Vi 0, Vi 0, Vi 0]) rfl rfl (by kernel_rfl) (fun b11 w11 hq11 hb11 he11 hz11 => ?_)
     replace hb11 : w11.heap[b11]? = some (.cells #[Vi 0, Vi 0, Vi 0, Vi 0] 79 (0, 0)) := hb11
     refine ⟨.inr (he11.nil), ?_⟩
     have hns11 : w11.heap.size = b11 + 1 := hz11
     have hnb11 : b11 = ((w2).drew).heap.size + 1 := by omega
     replace hnz : w11.heap.size = ((w2).drew).heap.size + 2 := by omega
     have hst := Stp.box (ls := [[b9], [b2], M]) he11 hq11
     replace hs_p0_0 := hs_p0_0.step hst
     replace hb2 := he11.box hb2 nn
     replace hc5 := hc5.step hst
     replace hc7 := hc7.step hst
     replace hb9 := he11.box hb9 nn
     replace hms := hms.box he11 hq11 hb11
     replace hfr := hfr.box hev.size hq11
     replace hev := hev.ext he11
     obtain ⟨w13, hr13, hb13, he13⟩ := store_boxagg 0 [Vi x5.1, Vi x5.2.1, Vi x5.2.2.1, Vi x5.2.2.2] #[Vi x5.1, Vi x5.2.1, Vi x5.2.2.1, Vi x5.2.2.2] tagg79 hb11 rfl rfl rfl
     refine x_store w13 (xv := Vp b11 0) (yv := .agg #[Vi x5.1, Vi x5.2.1, Vi x5.2.2.1, Vi x5.2.2.2]) rfl rfl rfl rfl hr13 ?_
     refine ⟨.inr (he13.sub (fun x hx => by simp only [List.mem_singleton] at hx; subst hx; exact newmo_mem hnb11 rfl)), ?_⟩
     have hst := Stp.ev' (ls := [[b11], [b9], [b2], M]) he13 (mem_flat 0 rfl)
     replace hs_p0_0 := hs_p0_0.step hst
     replace hb2 := he13.box hb2 (hms.apart 2 0 rfl rfl rfl _ mem1)
     replace hc5 := hc5.step hst
     replace hc7 := hc7.step hst
     replace hb9 := he13.box hb9 (hms.apart 1 0 rfl rfl rfl _ mem1)
     replace hms := hms.ev he13
     replace hev := hev.then he13 (fun b hb => .inr (hfr.at 0 rfl b hb))
     replace hb11 := hb13
     obtain ⟨w14, hr14, hb14, he14⟩ := store_boxagg 0 [Vi x7.1, Vi x7.2.1, Vi x7.2.2.1, Vi x7.2.2.2] #[Vi x7.1, Vi x7.2.1, Vi x7.2.2.1, Vi x7.2.2.2] tagg79 hb9 rfl rfl rfl
     refine x_store w14 (xv := Vp b9 0) (yv := .agg #[Vi x7.1, Vi x7.2.1, Vi x7.2.2.1, Vi x7.2.2.2]) rfl rfl rfl rfl hr14 ?_
     refine inl1 ?_
     have hst := Stp.ev' (ls := [[b11], [b9], [b2], M]) he14 (mem_flat 1 rfl)
     replace hs_p0_0 := hs_p0_0.step hst
     replace hb2 := he14.box hb2 (hms.apart 2 1 rfl rfl rfl _ mem1)
     replace hc5 := hc5.step hst
     replace hc7 := hc7.step hst
     replace hb11 := he14.box hb11 (hms.apart 0 1 rfl rfl rfl _ mem1)
     replace hms := hms.ev he14
     replace hev := hev.then he14 (fun b hb => .inr (hfr.at 1 rfl b hb))
     replace hb9 := hb14
     refine x_end rfl ?_
     refine t_stop ?_
     have hpk : MS w14 [[b11], [b9], M] := hms.pick [some 0, some 1, some 3] _ rfl
     have hsu : ∀ x ∈ fl [[b11], [b9], M], x ∈ fl [[b11], [b9], [b2], M] := pick_sub [some 0, some 1, some 3] _ rfl
     replace hms := hpk
     replace hfr : FR w.heap.size [[b11], [b9]] := hfr.pick [some 0, some 1] _ rfl
     clear hpk hsu
     exact k_then ⟨(x5.1, x5.2.1, x5.2.2.1, x5.2.2.2, x7.1, x7.2.1, x7.2.2.1, x7.2.2.2, b11, b9), ⟨rfl, rfl, rfl, rfl, trivial⟩, h, hev, hms, hfr, hb11, hb9⟩
   exact t_none
 rintro ⟨e10_j4_0, e10_j4_1, e10_j4_2, e10_j4_3, e12_j4_0, e12_j4_1, e12_j4_2, e12_j4_3, b10_j4, b12_j4⟩ J wj4 ⟨h, hev, hms, hfr, hb10_j4, hb12_j4⟩
 refine c_seq ?_
 refine c_block ?_
 refine c_join (σ := Bool) (fun s => match s with | t19__s19_j9 => [(1, Vi p1), (2, Vi p2), (19, .bool t19__s19_j9)]) (fun s w' => match s with | t19__s19_j9 => r11_Kind_J9 p1 p2 t19__s19_j9 = some r ∧ Ev [] w w' ∧ MS w' [M] ∧ FR w.heap.size []) ?_ ?_
 · refine c_plain ?_
   refine x_fieldAddr (xv := Vp b10_j4 0) (Vp b10_j4 0) rfl rfl rfl (reads_field tfld79_0 _ _) ?_
   refine x_load (xv := Vp b10_j4 0) (Vi e10_j4_0) rfl rfl rfl (reads_box tcell3 hb10_j4 nn 0 _ rfl) ?_
   refine x_fieldAddr (xv := Vp b12_j4 0) (Vp b12_j4 0) rfl rfl rfl (reads_field tfld79_0 _ _) ?_
   refine x_load (xv := Vp b12_j4 0) (Vi e12_j4_0) rfl rfl rfl (reads_box tcell3 hb12_j4 nn 0 _ rfl) ?_
   refine x_pure 2 [(24, .bool (e10_j4_0 != e12_j4_0)), (25, .bool (e10_j4_0 != e12_j4_0))] _ _ _ (by kernel_rfl) ?_
   refine x_split 25 (e10_j4_0 != e12_j4_0) rfl (fun hb => ?_) (fun hb => ?_)
   · replace h := ite_t hb h
     refine x_pure 7 [(26, undef), (27, undef), (28, undef), (29, undef), (30, undef), (31, .bool true), (19, .bool true)] _ _ _ (by kernel_rfl) ?_
     refine x_end rfl ?_
     have hpk : MS wj4 [M] := hms.pick [some 2] _ rfl
     have hsu : ∀ x ∈ fl [M], x ∈ fl [[b10_j4], [b12_j4], M] := pick_sub [some 2] _ rfl
     replace hms := hpk
     replace hfr : FR w.heap.size [] := hfr.pick [] _ rfl
     clear hpk hsu
     exact k_then ⟨true, ⟨rfl, rfl, rfl, trivial⟩, h, hev, hms, hfr⟩
   replace h := ite_f hb h
   refine x_fieldAddr (xv := Vp b10_j4 0) (Vp b10_j4 1) rfl rfl rfl (reads_field tfld79_1 _ _) ?_
   refine x_load (xv := Vp b10_j4 1) (Vi e10_j4_1) rfl rfl rfl (reads_box tcell3 hb10_j4 nn 1 _ rfl) ?_
   refine x_fieldAddr (xv := Vp b12_j4 0) (Vp b12_j4 1) rfl rfl rfl (reads_field tfld79_1 _ _) ?_
   refine x_load (xv := Vp b12_j4 1) (Vi e12_j4_1) rfl rfl rfl (reads_box tcell3 hb12_j4 nn 1 _ rfl) ?_
   refine x_pure 3 [(30, .bool (decide (e10_j4_1 ≥ e12_j4_1))), (31, .bool (decide (e10_j4_1 ≥ e12_j4_1))), (19, .bool (decide (e10_j4_1 ≥ e12_j4_1)))] _ _ _ (by kernel_rfl) ?_
   refine x_end rfl ?_
   have hpk : MS wj4 [M] := hms.pick [some 2] _ rfl
   have hsu : ∀ x ∈ fl [M], x ∈ fl [[b10_j4], [b12_j4], M] := pick_sub [some 2] _ rfl
   replace hms := hpk
   replace hfr : FR w.heap.size [] := hfr.pick [] _ rfl
   clear hpk hsu
   exact k_then ⟨decide (e10_j4_1 ≥ e12_j4_1), ⟨rfl, rfl, rfl, trivial⟩, h, hev, hms, hfr⟩
 rintro t19__s19_j9 J wj9 ⟨h, hev, hms, hfr⟩
 refine c_cond t19__s19_j9 rfl (fun hb => ?_) (fun hb => ?_)
 · replace h := ite_t hb h
   refine c_sp ?_
   refine x_pure 1 [(6, Vi 0)] _ _ _ (by kernel_rfl) ?_
   refine x_ek ?_
   refine c_norm [(6, Vi 0)] ⟨rfl, trivial⟩ (fun J => ?_)
   refine c_ret ?_
   refine k_block_ret ?_
   refine k_then_ret ?_
   refine r_ret (r_vals [Vi 0] ⟨rfl, trivial⟩ ?_)
   have hx := some_inj h
   subst hx
   have hmr : MS wj9 [M] := hms.pick [some 0] _ rfl
   have hsu : ∀ x ∈ fl [M], x ∈ fl [M] := pick_sub [some 0] _ rfl
   exact ⟨rfl, hev⟩
 replace h := ite_f hb h
 refine c_sp ?_
 refine x_pure 4 [(33, Vi p2), (34, Vi p1), (35, .bool (decide (p2 < p1))), (32, .bool (decide (p2 < p1)))] _ _ _ (by kernel_rfl) ?_
 refine x_ek ?_
 refine c_norm [(32, .bool (decide (p2 < p1)))] ⟨rfl, trivial⟩ (fun J => ?_)
 refine c_cond (decide (p2 < p1)) rfl (fun hb => ?_) (fun hb => ?_)
 · replace h := ite_t hb h
   refine c_sp ?_
   refine x_pure 1 [(6, Vi 2)] _ _ _ (by kernel_rfl) ?_
   refine x_ek ?_
   refine c_ret ?_
   refine k_block_ret ?_
   refine k_then_ret ?_
   refine r_ret (r_vals [Vi 2] ⟨rfl, trivial⟩ ?_)
   have hx := some_inj h
   subst hx
   have hmr : MS wj9 [M] := hms.pick [some 0] _ rfl
   have hsu : ∀ x ∈ fl [M], x ∈ fl [M] := pick_sub [some 0] _ rfl
   exact ⟨rfl, hev⟩
 replace h := ite_f hb h
 refine c_skip ?_
 refine k_block ?_
 refine k_then ?_
 refine c_sp ?_
 refine x_pure 1 [(6, Vi 1)] _ _ _ (by kernel_rfl) ?_
 refine x_ek ?_
 refine c_ret ?_
 refine r_ret (r_vals [Vi 1] ⟨rfl, trivial⟩ ?_)
 have hx := some_inj h
 subst hx
 have hmr : MS wj9 [M] := hms.pick [some 0] _ rfl
 have hsu : ∀ x ∈ fl [M], x ∈ fl [M] := pick_sub [some 0] _ rfl
 exact ⟨rfl, hev⟩
def r11_Strict (p0_0 : List (Int × Int × Int × Int)) (p0_1 : Int) (p1 : Int) (p2 : Int) : Option Int :=
((r11_Kind p0_0 p0_1 p1 p2).bind fun x4 =>
some (IntKind.i64.wrap (Int.tdiv x4 2)))

theorem r11_Strict_w (a_p0_0 : Option Addr) (c_p0_0 : Nat) (p0_0 : List (Int × Int × Int × Int)) (p0_1 : Int) (p1 : Int) (p2 : Int) (r : Int) (w : World) (M : List Nat) (hms : MS w [M]) (hs_p0_0 : SlR (eIt4) w (fl [M]) a_p0_0 c_p0_0 p0_0) (h : r11_Strict p0_0 p0_1 p1 p2 = some r) : CallVC Try.prog 19 [.agg #[.slice a_p0_0 (p0_0).length c_p0_0, Vi p0_1], Vi p1, Vi p2] w fun v w' => v = Vi r ∧ Ev [] w w' := by
 refine calls_vc hmx Try.func19 (by kernel_rfl) rfl (rs := [.tmp 6]) rfl (by kernel_rfl) (args := [.agg #[.slice a_p0_0 (p0_0).length c_p0_0, Vi p0_1], Vi p1, Vi p2]) rfl ?_
 have hev : Ev [] w w := Ev.refl _ _
 have hfr : FR w.heap.size [] := FR.nil _
 refine c_sp ?_
 refine x_box (xv := .agg #[.slice a_p0_0 (p0_0).length c_p0_0, Vi p0_1]) rfl rfl rfl (fun b2 w2 hq2 hb2 he2 hz2 => ?_)
 replace hb2 : w2.heap[b2]? = some (.cells #[.slice a_p0_0 (p0_0).length c_p0_0, Vi p0_1] 25 (0, 0)) := hb2
 refine inl1 ?_
 have hst := Stp.box (ls := [M]) he2 hq2
 replace hs_p0_0 := hs_p0_0.step hst
 replace hms := hms.box he2 hq2 hb2
 replace hfr := hfr.box hev.size hq2
 replace hev := hev.ext he2
 refine x_pure 1 [(6, Vi 0)] _ _ _ (by kernel_rfl) ?_
 refine x_ek ?_
 refine c_sp ?_
 refine x_load (xv := Vp b2 0) (.agg #[.slice a_p0_0 (p0_0).length c_p0_0, Vi p0_1]) rfl rfl rfl (reads_boxagg 0 [.slice a_p0_0 (p0_0).length c_p0_0, Vi p0_1] tagg25 hb2 nn rfl) ?_
 refine x_pure 2 [(8, Vi p1), (9, Vi p2)] _ _ _ (by kernel_rfl) ?_
 obtain ⟨x4, hx, h⟩ := bind_some h
 have hpk : MS w2 ([] ++ [[b2], M]) := hms.pick [some 0, some 1] _ rfl
 have hsb0 : ∀ x ∈ fl ([] ++ [[b2], M]), x ∈ fl [[b2], M] := pick_sub [some 0, some 1] _ rfl
 have hsb : ∀ x ∈ fl ([] ++ [(fl [[b2], M])]), x ∈ fl [[b2], M] := fun x hx => hsb0 x (fl_unfold x hx)
 have hcall := r11_Kind_w a_p0_0 c_p0_0 p0_0 p0_1 p1 p2 _ w2 (fl [[b2], M]) (MS.fold (P := []) hpk) (hs_p0_0.sub hsb) hx
 refine x_call 18 #[] #[] [.agg #[.slice a_p0_0 (p0_0).length c_p0_0, Vi p0_1], Vi p1, Vi p2] _ rfl rfl rfl rfl hcall ?_
 rintro v w5 ⟨rfl, he5⟩
 clear hcall hx
 refine inl1 ?_
 have hst := Stp.ext (ls := [[b2], M]) he5
 replace hs_p0_0 := hs_p0_0.step hst
 replace hb2 := he5.box hb2 nn
 replace hms := hms.ev he5
 replace hev := hev.ext he5
 clear hpk hsb hsb0
 refine x_pure 2 [(11, Vi (IntKind.i64.wrap (Int.tdiv x4 2))), (6, Vi (IntKind.i64.wrap (Int.tdiv x4 2)))] _ _ _ (by kernel_rfl) ?_
 refine x_ek ?_
 refine c_ret ?_
 refine r_ret (r_vals [Vi (IntKind.i64.wrap (Int.tdiv x4 2))] ⟨rfl, trivial⟩ ?_)
 have hx := some_inj h
 subst hx
 have hmr : MS w5 [M] := hms.pick [some 1] _ rfl
 have hsu : ∀ x ∈ fl [M], x ∈ fl [[b2], M] := pick_sub [some 1] _ rfl
 exact ⟨rfl, hev⟩
end Go.Proofs.Ytcignnfdpgeogaa
