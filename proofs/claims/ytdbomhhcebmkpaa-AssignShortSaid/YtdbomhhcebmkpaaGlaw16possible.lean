/- Walks, printed by program: each function returns what the partial function of the same name returns. Conditions: those of each theorem. -/
import Derived.Test.YtdbomhhcebmkpaaGT
set_option linter.unusedVariables false
set_option linter.unusedSimpArgs false
set_option maxRecDepth 4000
namespace Go.Proofs.Ytdbomhhcebmkpaa
open Go Go.V Go.Proofs
def law16_possible_J12 (p0 : List Int) (p1 : List Int) (p2 : Int) (RF : (List Int) → (List Int) → Int → (List Bool) → Option (Bool × (List Bool))) (d3_l10 : List Bool) (t28__s28_l10 : Int) (t46__s46_j12 : Bool) : Option (Step ((List Bool) × Int) ((List Bool) ⊕ (List Bool))) :=
(if t46__s46_j12 = true then
((idx d3_l10 t28__s28_l10).bind fun x20 =>
((RF p0 p1 (IntKind.i64.wrap (p2 + 1)) (d3_l10.set (Int.toNat t28__s28_l10) true)).bind fun x25 =>
(if x25.2.length = (d3_l10.set (Int.toNat t28__s28_l10) true).length then
((idx x25.2 t28__s28_l10).bind fun x27 =>
(if x25.1 = true then
some (.done (.inl (x25.2.set (Int.toNat t28__s28_l10) false)))
else
some (.next ((x25.2.set (Int.toNat t28__s28_l10) false), IntKind.i64.wrap (t28__s28_l10 + 1)))))
else none)))
else
some (.next (d3_l10, IntKind.i64.wrap (t28__s28_l10 + 1))))

def law16_possible_L10 (p0 : List Int) (p1 : List Int) (p2 : Int) (RF : (List Int) → (List Int) → Int → (List Bool) → Option (Bool × (List Bool))) (s : (List Bool) × Int) : Option (Step ((List Bool) × Int) ((List Bool) ⊕ (List Bool))) :=
match s with
| (d3_l10, t28__s28_l10) =>
(if (decide (t28__s28_l10 < ((p1).length : Int))) = true then
((idx d3_l10 t28__s28_l10).bind fun x13 =>
(if (!x13) = true then
((idx p1 t28__s28_l10).bind fun x16 =>
((idx p0 p2).bind fun x18 =>
law16_possible_J12 p0 p1 p2 RF d3_l10 t28__s28_l10 (decide (x16 ≥ x18))))
else
law16_possible_J12 p0 p1 p2 RF d3_l10 t28__s28_l10 false))
else
some (.done (.inr d3_l10)))

def law16_possible_b (RF : (List Int) → (List Int) → Int → (List Bool) → Option (Bool × (List Bool))) (p0 : List Int) (p1 : List Int) (p2 : Int) (p3 : List Bool) : Option (Bool × (List Bool)) :=
(if (p2 == ((p0).length : Int)) = true then
some (true, p3)
else
((idx p0 p2).bind fun x6 =>
(if (x6 == 0) = true then
((RF p0 p1 (IntKind.i64.wrap (p2 + 1)) p3).bind fun x8 =>
(if x8.2.length = p3.length then
some (x8.1, x8.2)
else none))
else
((loop (law16_possible_L10 p0 p1 p2 RF) (p3, 0)).bind fun d => match d with
| (.inl d3_x1000) => some (true, d3_x1000)
| (.inr d3_x1001) => some (false, d3_x1001)))))

theorem law16_possible_bw (RF : (List Int) → (List Int) → Int → (List Bool) → Option (Bool × (List Bool))) (RF_w : ∀ (a_p0 : Option Addr) (c_p0 : Nat) (p0 : List Int) (a_p1 : Option Addr) (c_p1 : Nat) (p1 : List Int) (p2 : Int) (a_p3 : Option Addr) (c_p3 : Nat) (p3 : List Bool) (r : Bool × (List Bool)) (w : World) (M : List Nat) (hms : MS w [blk a_p3, M]) (hs_p0 : SlR (eInt .i64) w (fl [blk a_p3, M]) a_p0 c_p0 p0) (hs_p1 : SlR (eInt .i64) w (fl [blk a_p3, M]) a_p1 c_p1 p1) (hs_p3 : OwnS eBool 4 w (fl [blk a_p3, M]) a_p3 c_p3 p3) (h : RF p0 p1 p2 p3 = some r), CallVC Try.prog 20 [.slice a_p0 (p0).length c_p0, .slice a_p1 (p1).length c_p1, Vi p2, .slice a_p3 (p3).length c_p3] w fun v w' => v = .bool r.1 ∧ Ev (fl [blk a_p3]) w w' ∧ OwnS eBool 4 w' (fl [blk a_p3, M]) a_p3 c_p3 r.2 ∧ MS w' [blk a_p3, M] ∧ FR w.heap.size [] ∧ NP (fl [blk a_p3]) w.heap.size [blk a_p3]) (a_p0 : Option Addr) (c_p0 : Nat) (p0 : List Int) (a_p1 : Option Addr) (c_p1 : Nat) (p1 : List Int) (p2 : Int) (a_p3 : Option Addr) (c_p3 : Nat) (p3 : List Bool) (r : Bool × (List Bool)) (w : World) (M : List Nat) (hms : MS w [blk a_p3, M]) (hs_p0 : SlR (eInt .i64) w (fl [blk a_p3, M]) a_p0 c_p0 p0) (hs_p1 : SlR (eInt .i64) w (fl [blk a_p3, M]) a_p1 c_p1 p1) (hs_p3 : OwnS eBool 4 w (fl [blk a_p3, M]) a_p3 c_p3 p3) (h : law16_possible_b RF p0 p1 p2 p3 = some r) : CallVC Try.prog 20 [.slice a_p0 (p0).length c_p0, .slice a_p1 (p1).length c_p1, Vi p2, .slice a_p3 (p3).length c_p3] w fun v w' => v = .bool r.1 ∧ Ev (fl [blk a_p3]) w w' ∧ OwnS eBool 4 w' (fl [blk a_p3, M]) a_p3 c_p3 r.2 ∧ MS w' [blk a_p3, M] ∧ FR w.heap.size [] ∧ NP (fl [blk a_p3]) w.heap.size [blk a_p3] := by
 refine calls_vc hmx Try.func20 (by kernel_rfl) rfl (rs := [.tmp 8]) rfl (by kernel_rfl) (args := [.slice a_p0 (p0).length c_p0, .slice a_p1 (p1).length c_p1, Vi p2, .slice a_p3 (p3).length c_p3]) rfl ?_
 have hev : Ev (fl [blk a_p3]) w w := Ev.refl _ _
 have hfr : FR w.heap.size [] := FR.nil _
 have hpr : NP (fl [blk a_p3]) w.heap.size [blk a_p3] := NP.init _ _
 refine c_sp ?_
 refine x_pure 1 [(8, .bool false)] _ _ _ (by kernel_rfl) ?_
 refine x_ek ?_
 refine c_seq ?_
 refine c_sp ?_
 refine x_pure 2 [(11, Vi p2), (12, .slice a_p0 (p0).length c_p0)] _ _ _ (by kernel_rfl) ?_
 refine x_len (vs := [.slice a_p0 (p0).length c_p0]) (Vi ((p0).length : Int)) rfl rfl rfl (reads_len tsl22 _ _ _ _ _) ?_
 refine x_pure 1 [(14, .bool (p2 == ((p0).length : Int)))] _ _ _ (by kernel_rfl) ?_
 refine x_ek ?_
 refine c_cond (p2 == ((p0).length : Int)) rfl (fun hb => ?_) (fun hb => ?_)
 · replace h := ite_t hb h
   refine c_sp ?_
   refine x_pure 1 [(8, .bool true)] _ _ _ (by kernel_rfl) ?_
   refine x_ek ?_
   refine c_ret ?_
   refine k_then_ret ?_
   refine r_ret (r_vals [.bool true] ⟨rfl, trivial⟩ ?_)
   have hx := some_inj h
   subst hx
   have hmr : MS w [blk a_p3, M] := hms.pick [some 0, some 1] _ rfl
   have hsu : ∀ x ∈ fl [blk a_p3, M], x ∈ fl [blk a_p3, M] := pick_sub [some 0, some 1] _ rfl
   have hfe : FR w.heap.size [] := hfr.pick [] _ rfl
   exact ⟨rfl, hev, hs_p3.sub hsu, hmr, hfe, (NP.cons (hpr.at 0 rfl) (NP.nil _ _))⟩
 replace h := ite_f hb h
 refine c_skip ?_
 refine k_then ?_
 refine c_seq ?_
 refine c_sp ?_
 refine x_pure 2 [(15, .slice a_p0 (p0).length c_p0), (16, Vi p2)] _ _ _ (by kernel_rfl) ?_
 obtain ⟨x6, hx6, h⟩ := bind_some h
 obtain ⟨ad6, cs6, hr6, hc6, hR⟩ := reads_index (Mo := []) tsl22 hs_p0 hx6
 obtain rfl := hR
 refine x_indexAddr (xv := .slice a_p0 (p0).length c_p0) (yv := Vi p2) (.pointer (some ad6)) rfl rfl rfl rfl hr6 ?_
 refine x_load (xv := .pointer (some ad6)) (Vi x6) rfl rfl rfl (reads_cell0 tcell3 hc6 (fun _ h => by cases h)) ?_
 refine x_pure 1 [(19, .bool (x6 == 0))] _ _ _ (by kernel_rfl) ?_
 refine x_ek ?_
 refine c_cond (x6 == 0) rfl (fun hb => ?_) (fun hb => ?_)
 · replace h := ite_t hb h
   refine c_sp ?_
   refine x_pure 5 [(20, .slice a_p0 (p0).length c_p0), (21, .slice a_p1 (p1).length c_p1), (22, Vi p2), (23, Vi (IntKind.i64.wrap (p2 + 1))), (24, .slice a_p3 (p3).length c_p3)] _ _ _ (by kernel_rfl) ?_
   obtain ⟨x8, hx, h⟩ := bind_some h
   have hpk : MS w ([blk a_p3] ++ [M]) := hms.pick [some 0, some 1] _ rfl
   have hsb0 : ∀ x ∈ fl ([blk a_p3] ++ [M]), x ∈ fl [blk a_p3, M] := pick_sub [some 0, some 1] _ rfl
   have hsb : ∀ x ∈ fl ([blk a_p3] ++ [(fl [M])]), x ∈ fl [blk a_p3, M] := fun x hx => hsb0 x (fl_unfold x hx)
   have hcall := RF_w a_p0 c_p0 p0 a_p1 c_p1 p1 (IntKind.i64.wrap (p2 + 1)) a_p3 c_p3 p3 _ w (fl [M]) (hpk.fold (P := [blk a_p3])) (hs_p0.sub hsb) (hs_p1.sub hsb) (hs_p3.sub hsb) hx
   refine x_call 20 #[] #[] [.slice a_p0 (p0).length c_p0, .slice a_p1 (p1).length c_p1, Vi (IntKind.i64.wrap (p2 + 1)), .slice a_p3 (p3).length c_p3] _ rfl rfl rfl rfl hcall ?_
   rintro v w9 ⟨rfl, he9, hp9_0, hmn9, hfn9, hnp9⟩
   clear hcall hx
   refine inl1 ?_
   have hpk2 : MS w ([blk a_p3] ++ [M]) := hms.pick [some 0, some 1] _ rfl
   have hsb2 : ∀ x ∈ fl ([blk a_p3] ++ [M]), x ∈ fl [blk a_p3, M] := pick_sub [some 0, some 1] _ rfl
   have hst0 := Stp.call (LS := [blk a_p3, M]) (res := []) (par := [blk a_p3]) (R := [M]) he9 (fun b hb => hsb2 b (fl_left' (P := [blk a_p3]) b hb)) hfn9 hnp9 (fun x hx => hsb2 x (fl_right' (P := [blk a_p3]) x hx))
   have hsn : ∀ x ∈ fl [blk a_p3, M], x ∈ fl ([] ++ ([blk a_p3] ++ [M])) := pick_sub [some 0, some 1] _ rfl
   have hst := hst0.res hsn
   replace hs_p0 := hs_p0.step hst
   replace hs_p1 := hs_p1.step hst
   replace hms : MS w9 [blk a_p3, M] := (MS.call (P := [blk a_p3]) (R := [M]) (res := []) (par := [blk a_p3]) hpk2 he9 hmn9 hfn9 hnp9).pick [some 0, some 1] _ rfl
   have hPf : ∀ b ∈ fl [blk a_p3], b ∈ (fl [blk a_p3]) ∨ w.heap.size ≤ b := NP.mem (ls := [blk a_p3]) (hpr.pick [some 0] _ rfl)
   have hpr2 : NP (fl [blk a_p3]) w.heap.size [blk a_p3] := (NP.cons (fun b hb => (hnp9.at 0 rfl b hb).elim (fun h => hPf b h) (fun h => .inr (Nat.le_trans hev.size h))) (NP.nil _ _))
   replace hev := hev.then he9 hPf
   replace hpr := hpr2
   clear hpr2
   replace hs_p3 := OwnS.plain (M' := fl [blk a_p3, M]) plain_bool hp9_0
   clear hpk hsb hsb0 hpk2 hsb2 hst0 hsn hst
   have hgl := guard_l h
   replace h := guard_r h
   have hsl : (Value.slice a_p3 (p3).length c_p3) = (Value.slice a_p3 (x8.2).length c_p3) := by first | (rw [hgl]; done) | simp only [hgl]
   try rw [hsl]
   clear hsl
   refine x_pure 1 [(8, .bool x8.1)] _ _ _ (by kernel_rfl) ?_
   refine x_ek ?_
   refine c_norm [(8, .bool x8.1)] ⟨rfl, trivial⟩ (fun J => ?_)
   refine c_ret ?_
   refine k_then_ret ?_
   refine r_ret (r_vals [.bool x8.1] ⟨rfl, trivial⟩ ?_)
   have hx := some_inj h
   subst hx
   have hmr : MS w9 [blk a_p3, M] := hms.pick [some 0, some 1] _ rfl
   have hsu : ∀ x ∈ fl [blk a_p3, M], x ∈ fl [blk a_p3, M] := pick_sub [some 0, some 1] _ rfl
   have hfe : FR w.heap.size [] := hfr.pick [] _ rfl
   exact ⟨rfl, hev, hs_p3.sub hsu, hmr, hfe, (NP.cons (hpr.at 0 rfl) (NP.nil _ _))⟩
 replace h := ite_f hb h
 refine c_skip ?_
 refine k_then ?_
 refine c_seq ?_
 refine c_sp ?_
 refine x_pure 1 [(26, .slice a_p1 (p1).length c_p1)] _ _ _ (by kernel_rfl) ?_
 refine x_len (vs := [.slice a_p1 (p1).length c_p1]) (Vi ((p1).length : Int)) rfl rfl rfl (reads_len tsl22 _ _ _ _ _) ?_
 refine x_pure 1 [(28, Vi 0)] _ _ _ (by kernel_rfl) ?_
 refine x_ek ?_
 refine c_norm [(0, .slice a_p0 (p0).length c_p0), (1, .slice a_p1 (p1).length c_p1), (2, Vi p2), (3, .slice a_p3 (p3).length c_p3), (27, Vi ((p1).length : Int)), (28, Vi 0)] ⟨rfl, rfl, rfl, rfl, rfl, rfl, trivial⟩ (fun J => ?_)
 refine c_block ?_
 obtain ⟨d10, hd10, h10⟩ := bind_some h
 obtain ⟨m10, hd10⟩ := loop_some hd10
 refine c_loop (loop_rule hmx (σ := Nat × (List Bool) × Int) (fun s => match s with | (_, d3_l10, t28__s28_l10) => [(0, .slice a_p0 (p0).length c_p0), (1, .slice a_p1 (p1).length c_p1), (2, Vi p2), (3, .slice a_p3 (d3_l10).length c_p3), (27, Vi ((p1).length : Int)), (28, Vi t28__s28_l10)]) (fun s w' => match s with | (m, d3_l10, t28__s28_l10) => loopN (law16_possible_L10 p0 p1 p2 RF) m (d3_l10, t28__s28_l10) = some d10 ∧ Ev (fl [blk a_p3]) w w' ∧ MS w' [blk a_p3, M] ∧ FR w.heap.size [] ∧ NP (fl [blk a_p3]) w.heap.size [blk a_p3] ∧ OwnS eBool 4 w' (fl [blk a_p3, M]) a_p3 c_p3 d3_l10 ∧ SlR (eInt .i64) w' (fl [blk a_p3, M]) a_p0 c_p0 p0 ∧ SlR (eInt .i64) w' (fl [blk a_p3, M]) a_p1 c_p1 p1) (fun s => s.1) (m10, p3, 0) ⟨rfl, rfl, rfl, rfl, rfl, rfl, trivial⟩ ⟨hd10, hev, hms, hfr, hpr, hs_p3, hs_p0, hs_p1⟩ ?_)
 rintro ⟨m10, d3_l10, t28__s28_l10⟩ J wl10 ⟨hn10, hev, hms, hfr, hpr, hs_p3, hs_p0, hs_p1⟩
 rcases m10 with _ | m10
 · exact (loopN_zero hn10).elim
 obtain ⟨t10, h, hn10⟩ := bind_some hn10
 refine c_sp ?_
 refine x_pure 1 [(29, .bool (decide (t28__s28_l10 < ((p1).length : Int))))] _ _ _ (by kernel_rfl) ?_
 refine x_ek ?_
 refine c_norm [(0, .slice a_p0 (p0).length c_p0), (1, .slice a_p1 (p1).length c_p1), (2, Vi p2), (3, .slice a_p3 (d3_l10).length c_p3), (27, Vi ((p1).length : Int)), (28, Vi t28__s28_l10), (29, .bool (decide (t28__s28_l10 < ((p1).length : Int))))] ⟨rfl, rfl, rfl, rfl, rfl, rfl, rfl, trivial⟩ (fun J => ?_)
 refine c_seq ?_
 refine c_cond (decide (t28__s28_l10 < ((p1).length : Int))) rfl (fun hb => ?_) (fun hb => ?_)
 · replace h := ite_t hb h
   refine c_skip ?_
   refine k_then ?_
   refine c_seq ?_
   refine c_block ?_
   refine c_sp ?_
   refine x_pure 2 [(30, Vi t28__s28_l10), (9, Vi t28__s28_l10)] _ _ _ (by kernel_rfl) ?_
   refine x_ek ?_
   refine c_join (σ := Bool) (fun s => match s with | t46__s46_j12 => [(0, .slice a_p0 (p0).length c_p0), (1, .slice a_p1 (p1).length c_p1), (2, Vi p2), (3, .slice a_p3 (d3_l10).length c_p3), (9, Vi t28__s28_l10), (27, Vi ((p1).length : Int)), (28, Vi t28__s28_l10), (46, .bool t46__s46_j12)]) (fun s w' => match s with | t46__s46_j12 => law16_possible_J12 p0 p1 p2 RF d3_l10 t28__s28_l10 t46__s46_j12 = some t10 ∧ Ev (fl [blk a_p3]) w w' ∧ MS w' [blk a_p3, M] ∧ FR w.heap.size [] ∧ NP (fl [blk a_p3]) w.heap.size [blk a_p3] ∧ OwnS eBool 4 w' (fl [blk a_p3, M]) a_p3 c_p3 d3_l10 ∧ SlR (eInt .i64) w' (fl [blk a_p3, M]) a_p0 c_p0 p0 ∧ SlR (eInt .i64) w' (fl [blk a_p3, M]) a_p1 c_p1 p1) ?_ ?_
   · refine c_drawn [] [(0, false), (1, false), (2, false), (3, false), (4, false), (5, false), (6, false), (7, false), (8, false), (9, false), (10, false), (11, false), (12, false), (13, false), (14, false), (15, false)] _ (by kernel_rfl) rfl ?_
     have hst := Stp.ext (ls := [blk a_p3, M]) (Ev.drew wl10)
     replace hs_p3 := hs_p3.step hst (Ev.drew wl10) nn2
     replace hs_p0 := hs_p0.step hst
     replace hs_p1 := hs_p1.step hst
     replace hms := hms.ev (Ev.drew wl10)
     replace hev := hev.ext (Ev.drew wl10)
     refine x_pure 2 [(31, .slice a_p3 (d3_l10).length c_p3), (32, Vi t28__s28_l10)] _ _ _ (by kernel_rfl) ?_
     obtain ⟨x13, hx13, h⟩ := bind_some h
     obtain ⟨g13, cs13, ha13, hr13, hc13, hR⟩ := own_index (Mo := []) tsl41 hs_p3 hx13
     obtain rfl := hR
     refine x_indexAddr (xv := .slice a_p3 (d3_l10).length c_p3) (yv := Vi t28__s28_l10) (.pointer (some ⟨g13, (Int.toNat t28__s28_l10) * eBool.n, none⟩)) rfl rfl rfl rfl hr13 ?_
     refine x_load (xv := .pointer (some ⟨g13, (Int.toNat t28__s28_l10) * eBool.n, none⟩)) (.bool x13) rfl rfl rfl (reads_cell0 tcell4 hc13 (fun _ h => by cases h)) ?_
     refine x_pure 2 [(35, .bool (!x13)), (36, .bool (!x13))] _ _ _ (by kernel_rfl) ?_
     refine x_split 36 (!x13) rfl (fun hb => ?_) (fun hb => ?_)
     · replace h := ite_t hb h
       refine x_pure 2 [(37, .slice a_p1 (p1).length c_p1), (38, Vi t28__s28_l10)] _ _ _ (by kernel_rfl) ?_
       obtain ⟨x16, hx16, h⟩ := bind_some h
       obtain ⟨ad16, cs16, hr16, hc16, hR⟩ := reads_index (Mo := []) tsl22 hs_p1 hx16
       obtain rfl := hR
       refine x_indexAddr (xv := .slice a_p1 (p1).length c_p1) (yv := Vi t28__s28_l10) (.pointer (some ad16)) rfl rfl rfl rfl hr16 ?_
       refine x_load (xv := .pointer (some ad16)) (Vi x16) rfl rfl rfl (reads_cell0 tcell3 hc16 (fun _ h => by cases h)) ?_
       refine x_pure 2 [(41, .slice a_p0 (p0).length c_p0), (42, Vi p2)] _ _ _ (by kernel_rfl) ?_
       obtain ⟨x18, hx18, h⟩ := bind_some h
       obtain ⟨ad18, cs18, hr18, hc18, hR⟩ := reads_index (Mo := []) tsl22 hs_p0 hx18
       obtain rfl := hR
       refine x_indexAddr (xv := .slice a_p0 (p0).length c_p0) (yv := Vi p2) (.pointer (some ad18)) rfl rfl rfl rfl hr18 ?_
       refine x_load (xv := .pointer (some ad18)) (Vi x18) rfl rfl rfl (reads_cell0 tcell3 hc18 (fun _ h => by cases h)) ?_
       refine x_pure 2 [(45, .bool (decide (x16 ≥ x18))), (46, .bool (decide (x16 ≥ x18)))] _ _ _ (by kernel_rfl) ?_
       refine x_end rfl ?_
       exact k_then ⟨decide (x16 ≥ x18), ⟨rfl, rfl, rfl, rfl, rfl, rfl, rfl, rfl, trivial⟩, h, hev, hms, hfr, hpr, hs_p3, hs_p0, hs_p1⟩
     replace h := ite_f hb h
     refine x_pure 10 [(37, undef), (38, undef), (39, undef), (40, undef), (41, undef), (42, undef), (43, undef), (44, undef), (45, undef), (46, .bool false)] _ _ _ (by kernel_rfl) ?_
     refine x_end rfl ?_
     exact k_then ⟨false, ⟨rfl, rfl, rfl, rfl, rfl, rfl, rfl, rfl, trivial⟩, h, hev, hms, hfr, hpr, hs_p3, hs_p0, hs_p1⟩
   rintro t46__s46_j12 J wj12 ⟨h, hev, hms, hfr, hpr, hs_p3, hs_p0, hs_p1⟩
   refine c_cond t46__s46_j12 rfl (fun hb => ?_) (fun hb => ?_)
   · replace h := ite_t hb h
     refine c_sp ?_
     refine x_pure 2 [(47, .slice a_p3 (d3_l10).length c_p3), (48, Vi t28__s28_l10)] _ _ _ (by kernel_rfl) ?_
     obtain ⟨x20, hx20, h⟩ := bind_some h
     obtain ⟨g20, cs20, ha20, hr20, hc20, hR⟩ := own_index (Mo := []) tsl41 hs_p3 hx20
     obtain rfl := hR
     refine x_indexAddr (xv := .slice a_p3 (d3_l10).length c_p3) (yv := Vi t28__s28_l10) (.pointer (some ⟨g20, (Int.toNat t28__s28_l10) * eBool.n, none⟩)) rfl rfl rfl rfl hr20 ?_
     obtain ⟨w24, hr24, he24, ho24⟩ := own_storeE ha20 (y := true) 0 (.bool true) tcell4 hs_p3 (mem_flat 0 rfl) hx20 rfl rfl (fun _ _ _ hR => set_bool hR)
     refine x_store w24 (xv := .pointer (some ⟨g20, (Int.toNat t28__s28_l10) * eBool.n, none⟩)) (yv := .bool true) rfl rfl rfl rfl hr24 ?_
     refine inl1 ?_
     have hst := Stp.ev' (ls := [blk a_p3, M]) he24 (mem_flat 0 rfl)
     replace hs_p0 := hs_p0.step hst
     replace hs_p1 := hs_p1.step hst
     replace hms := hms.ev he24
     replace hev := hev.then he24 (hpr.at 0 rfl)
     replace hs_p3 := ho24
     have hsl : (Value.slice a_p3 (d3_l10).length c_p3) = (Value.slice a_p3 ((d3_l10.set (Int.toNat t28__s28_l10) true)).length c_p3) := by first | (rw [List.length_set]; done) | simp only [List.length_set]
     try rw [hsl]
     clear hsl
     refine x_ek ?_
     refine c_norm [(0, .slice a_p0 (p0).length c_p0), (1, .slice a_p1 (p1).length c_p1), (2, Vi p2), (3, .slice a_p3 ((d3_l10.set (Int.toNat t28__s28_l10) true)).length c_p3), (9, Vi t28__s28_l10), (27, Vi ((p1).length : Int)), (28, Vi t28__s28_l10)] ⟨rfl, rfl, rfl, rfl, rfl, rfl, rfl, trivial⟩ (fun J => ?_)
     refine c_sp ?_
     refine x_pure 5 [(50, .slice a_p0 (p0).length c_p0), (51, .slice a_p1 (p1).length c_p1), (52, Vi p2), (53, Vi (IntKind.i64.wrap (p2 + 1))), (54, .slice a_p3 ((d3_l10.set (Int.toNat t28__s28_l10) true)).length c_p3)] _ _ _ (by kernel_rfl) ?_
     obtain ⟨x25, hx, h⟩ := bind_some h
     have hpk : MS w24 ([blk a_p3] ++ [M]) := hms.pick [some 0, some 1] _ rfl
     have hsb0 : ∀ x ∈ fl ([blk a_p3] ++ [M]), x ∈ fl [blk a_p3, M] := pick_sub [some 0, some 1] _ rfl
     have hsb : ∀ x ∈ fl ([blk a_p3] ++ [(fl [M])]), x ∈ fl [blk a_p3, M] := fun x hx => hsb0 x (fl_unfold x hx)
     have hcall := RF_w a_p0 c_p0 p0 a_p1 c_p1 p1 (IntKind.i64.wrap (p2 + 1)) a_p3 c_p3 (d3_l10.set (Int.toNat t28__s28_l10) true) _ w24 (fl [M]) (hpk.fold (P := [blk a_p3])) (hs_p0.sub hsb) (hs_p1.sub hsb) (hs_p3.sub hsb) hx
     refine x_call 20 #[] #[] [.slice a_p0 (p0).length c_p0, .slice a_p1 (p1).length c_p1, Vi (IntKind.i64.wrap (p2 + 1)), .slice a_p3 ((d3_l10.set (Int.toNat t28__s28_l10) true)).length c_p3] _ rfl rfl rfl rfl hcall ?_
     rintro v w26 ⟨rfl, he26, hp26_0, hmn26, hfn26, hnp26⟩
     clear hcall hx
     refine inl1 ?_
     have hpk2 : MS w24 ([blk a_p3] ++ [M]) := hms.pick [some 0, some 1] _ rfl
     have hsb2 : ∀ x ∈ fl ([blk a_p3] ++ [M]), x ∈ fl [blk a_p3, M] := pick_sub [some 0, some 1] _ rfl
     have hst0 := Stp.call (LS := [blk a_p3, M]) (res := []) (par := [blk a_p3]) (R := [M]) he26 (fun b hb => hsb2 b (fl_left' (P := [blk a_p3]) b hb)) hfn26 hnp26 (fun x hx => hsb2 x (fl_right' (P := [blk a_p3]) x hx))
     have hsn : ∀ x ∈ fl [blk a_p3, M], x ∈ fl ([] ++ ([blk a_p3] ++ [M])) := pick_sub [some 0, some 1] _ rfl
     have hst := hst0.res hsn
     replace hs_p0 := hs_p0.step hst
     replace hs_p1 := hs_p1.step hst
     replace hms : MS w26 [blk a_p3, M] := (MS.call (P := [blk a_p3]) (R := [M]) (res := []) (par := [blk a_p3]) hpk2 he26 hmn26 hfn26 hnp26).pick [some 0, some 1] _ rfl
     have hPf : ∀ b ∈ fl [blk a_p3], b ∈ (fl [blk a_p3]) ∨ w.heap.size ≤ b := NP.mem (ls := [blk a_p3]) (hpr.pick [some 0] _ rfl)
     have hpr2 : NP (fl [blk a_p3]) w.heap.size [blk a_p3] := (NP.cons (fun b hb => (hnp26.at 0 rfl b hb).elim (fun h => hPf b h) (fun h => .inr (Nat.le_trans hev.size h))) (NP.nil _ _))
     replace hev := hev.then he26 hPf
     replace hpr := hpr2
     clear hpr2
     replace hs_p3 := OwnS.plain (M' := fl [blk a_p3, M]) plain_bool hp26_0
     clear hpk hsb hsb0 hpk2 hsb2 hst0 hsn hst
     have hgl := guard_l h
     replace h := guard_r h
     have hsl : (Value.slice a_p3 ((d3_l10.set (Int.toNat t28__s28_l10) true)).length c_p3) = (Value.slice a_p3 (x25.2).length c_p3) := by first | (rw [hgl]; done) | simp only [hgl]
     try rw [hsl]
     clear hsl
     refine x_pure 1 [(10, .bool x25.1)] _ _ _ (by kernel_rfl) ?_
     refine x_ek ?_
     refine c_sp ?_
     refine x_pure 2 [(56, .slice a_p3 (x25.2).length c_p3), (57, Vi t28__s28_l10)] _ _ _ (by kernel_rfl) ?_
     obtain ⟨x27, hx27, h⟩ := bind_some h
     obtain ⟨g27, cs27, ha27, hr27, hc27, hR⟩ := own_index (Mo := []) tsl41 hs_p3 hx27
     obtain rfl := hR
     refine x_indexAddr (xv := .slice a_p3 (x25.2).length c_p3) (yv := Vi t28__s28_l10) (.pointer (some ⟨g27, (Int.toNat t28__s28_l10) * eBool.n, none⟩)) rfl rfl rfl rfl hr27 ?_
     obtain ⟨w31, hr31, he31, ho31⟩ := own_storeE ha27 (y := false) 0 (.bool false) tcell4 hs_p3 (mem_flat 0 rfl) hx27 rfl rfl (fun _ _ _ hR => set_bool hR)
     refine x_store w31 (xv := .pointer (some ⟨g27, (Int.toNat t28__s28_l10) * eBool.n, none⟩)) (yv := .bool false) rfl rfl rfl rfl hr31 ?_
     refine inl1 ?_
     have hst := Stp.ev' (ls := [blk a_p3, M]) he31 (mem_flat 0 rfl)
     replace hs_p0 := hs_p0.step hst
     replace hs_p1 := hs_p1.step hst
     replace hms := hms.ev he31
     replace hev := hev.then he31 (hpr.at 0 rfl)
     replace hs_p3 := ho31
     have hsl : (Value.slice a_p3 (x25.2).length c_p3) = (Value.slice a_p3 ((x25.2.set (Int.toNat t28__s28_l10) false)).length c_p3) := by first | (rw [List.length_set]; done) | simp only [List.length_set]
     try rw [hsl]
     clear hsl
     refine x_ek ?_
     refine c_sp ?_
     refine x_pure 1 [(59, .bool x25.1)] _ _ _ (by kernel_rfl) ?_
     refine x_ek ?_
     refine c_cond x25.1 rfl (fun hb => ?_) (fun hb => ?_)
     · replace h := ite_t hb h
       refine c_sp ?_
       refine x_pure 1 [(8, .bool true)] _ _ _ (by kernel_rfl) ?_
       refine x_ek ?_
       refine c_ret ?_
       refine k_block_ret ?_
       refine k_then_ret ?_
       have hx := some_inj h
       subst hx
       have hy := some_inj hn10
       subst hy
       replace h := h10
       refine k_then_ret ?_
       refine k_block_ret ?_
       refine k_then_ret ?_
       refine r_ret (r_vals [.bool true] ⟨rfl, trivial⟩ ?_)
       have hx := some_inj h
       subst hx
       have hmr : MS w31 [blk a_p3, M] := hms.pick [some 0, some 1] _ rfl
       have hsu : ∀ x ∈ fl [blk a_p3, M], x ∈ fl [blk a_p3, M] := pick_sub [some 0, some 1] _ rfl
       have hfe : FR w.heap.size [] := hfr.pick [] _ rfl
       exact ⟨rfl, hev, hs_p3.sub hsu, hmr, hfe, (NP.cons (hpr.at 0 rfl) (NP.nil _ _))⟩
     replace h := ite_f hb h
     refine c_skip ?_
     refine k_block ?_
     refine k_then ?_
     refine c_plain ?_
     refine x_pure 2 [(60, Vi (IntKind.i64.wrap (t28__s28_l10 + 1))), (28, Vi (IntKind.i64.wrap (t28__s28_l10 + 1)))] _ _ _ (by kernel_rfl) ?_
     refine x_end rfl ?_
     have hx := some_inj h
     subst hx
     exact k_then ⟨(m10, (x25.2.set (Int.toNat t28__s28_l10) false), IntKind.i64.wrap (t28__s28_l10 + 1)), ⟨rfl, rfl, rfl, rfl, rfl, rfl, trivial⟩, ⟨hn10, hev, hms, hfr, hpr, hs_p3, hs_p0, hs_p1⟩, Nat.lt_succ_self _⟩
   replace h := ite_f hb h
   refine c_skip ?_
   refine k_block ?_
   refine k_then ?_
   refine c_norm [(0, .slice a_p0 (p0).length c_p0), (1, .slice a_p1 (p1).length c_p1), (2, Vi p2), (3, .slice a_p3 (d3_l10).length c_p3), (27, Vi ((p1).length : Int)), (28, Vi t28__s28_l10)] ⟨rfl, rfl, rfl, rfl, rfl, rfl, trivial⟩ (fun J => ?_)
   refine c_plain ?_
   refine x_pure 2 [(60, Vi (IntKind.i64.wrap (t28__s28_l10 + 1))), (28, Vi (IntKind.i64.wrap (t28__s28_l10 + 1)))] _ _ _ (by kernel_rfl) ?_
   refine x_end rfl ?_
   have hx := some_inj h
   subst hx
   exact k_then ⟨(m10, d3_l10, IntKind.i64.wrap (t28__s28_l10 + 1)), ⟨rfl, rfl, rfl, rfl, rfl, rfl, trivial⟩, ⟨hn10, hev, hms, hfr, hpr, hs_p3, hs_p0, hs_p1⟩, Nat.lt_succ_self _⟩
 replace h := ite_f hb h
 refine c_exit ?_
 refine k_then_exit ?_
 have hx := some_inj h
 subst hx
 have hy := some_inj hn10
 subst hy
 replace h := h10
 refine k_then_exit ?_
 refine k_block_in ?_
 refine k_then ?_
 refine c_norm [] trivial (fun J => ?_)
 refine c_sp ?_
 refine x_pure 1 [(8, .bool false)] _ _ _ (by kernel_rfl) ?_
 refine x_ek ?_
 refine c_ret ?_
 refine r_ret (r_vals [.bool false] ⟨rfl, trivial⟩ ?_)
 have hx := some_inj h
 subst hx
 have hmr : MS wl10 [blk a_p3, M] := hms.pick [some 0, some 1] _ rfl
 have hsu : ∀ x ∈ fl [blk a_p3, M], x ∈ fl [blk a_p3, M] := pick_sub [some 0, some 1] _ rfl
 have hfe : FR w.heap.size [] := hfr.pick [] _ rfl
 exact ⟨rfl, hev, hs_p3.sub hsu, hmr, hfe, (NP.cons (hpr.at 0 rfl) (NP.nil _ _))⟩

def law16_possible_n : Nat → (List Int) → (List Int) → Int → (List Bool) → Option (Bool × (List Bool))
| 0 => fun _ _ _ _ => none
| n + 1 => law16_possible_b (law16_possible_n n)
theorem law16_possible_nw : ∀ (n : Nat) (a_p0 : Option Addr) (c_p0 : Nat) (p0 : List Int) (a_p1 : Option Addr) (c_p1 : Nat) (p1 : List Int) (p2 : Int) (a_p3 : Option Addr) (c_p3 : Nat) (p3 : List Bool) (r : Bool × (List Bool)) (w : World) (M : List Nat) (hms : MS w [blk a_p3, M]) (hs_p0 : SlR (eInt .i64) w (fl [blk a_p3, M]) a_p0 c_p0 p0) (hs_p1 : SlR (eInt .i64) w (fl [blk a_p3, M]) a_p1 c_p1 p1) (hs_p3 : OwnS eBool 4 w (fl [blk a_p3, M]) a_p3 c_p3 p3) (h : law16_possible_n n p0 p1 p2 p3 = some r), CallVC Try.prog 20 [.slice a_p0 (p0).length c_p0, .slice a_p1 (p1).length c_p1, Vi p2, .slice a_p3 (p3).length c_p3] w fun v w' => v = .bool r.1 ∧ Ev (fl [blk a_p3]) w w' ∧ OwnS eBool 4 w' (fl [blk a_p3, M]) a_p3 c_p3 r.2 ∧ MS w' [blk a_p3, M] ∧ FR w.heap.size [] ∧ NP (fl [blk a_p3]) w.heap.size [blk a_p3] := by
 intro n
 induction n with
 | zero => intros; rename_i h; cases h
 | succ n ih => exact law16_possible_bw (law16_possible_n n) ih
def law16_possible : (List Int) → (List Int) → Int → (List Bool) → Option (Bool × (List Bool)) := law16_possible_n 100
theorem law16_possible_w (a_p0 : Option Addr) (c_p0 : Nat) (p0 : List Int) (a_p1 : Option Addr) (c_p1 : Nat) (p1 : List Int) (p2 : Int) (a_p3 : Option Addr) (c_p3 : Nat) (p3 : List Bool) (r : Bool × (List Bool)) (w : World) (M : List Nat) (hms : MS w [blk a_p3, M]) (hs_p0 : SlR (eInt .i64) w (fl [blk a_p3, M]) a_p0 c_p0 p0) (hs_p1 : SlR (eInt .i64) w (fl [blk a_p3, M]) a_p1 c_p1 p1) (hs_p3 : OwnS eBool 4 w (fl [blk a_p3, M]) a_p3 c_p3 p3) (h : law16_possible p0 p1 p2 p3 = some r) : CallVC Try.prog 20 [.slice a_p0 (p0).length c_p0, .slice a_p1 (p1).length c_p1, Vi p2, .slice a_p3 (p3).length c_p3] w fun v w' => v = .bool r.1 ∧ Ev (fl [blk a_p3]) w w' ∧ OwnS eBool 4 w' (fl [blk a_p3, M]) a_p3 c_p3 r.2 ∧ MS w' [blk a_p3, M] ∧ FR w.heap.size [] ∧ NP (fl [blk a_p3]) w.heap.size [blk a_p3] := law16_possible_nw 100 a_p0 c_p0 p0 a_p1 c_p1 p1 p2 a_p3 c_p3 p3 r w M hms hs_p0 hs_p1 hs_p3 h

end Go.Proofs.Ytdbomhhcebmkpaa
