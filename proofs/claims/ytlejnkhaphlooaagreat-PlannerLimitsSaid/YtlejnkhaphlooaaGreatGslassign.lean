
/- Walks, printed by program: each function returns what the partial function of the same name returns. Conditions: those of each theorem. -/
import Derived.Test.YtlejnkhaphlooaaGreatGT
set_option linter.unusedVariables false
set_option linter.unusedSimpArgs false
set_option maxRecDepth 4000
namespace Go.Proofs.YtlejnkhaphlooaaGreat
open Go Go.V Go.Proofs Go.IntKind
def assign_order_1 (b : Int) (c : Int) (a : List Int) : Option Int :=
((idx a c).bind fun d =>
((idx a b).bind fun e =>
some (i64.wrap (d - e))))
theorem assign_order_1_w (h : Int) (i : Int) (a : Nat) (e : Option Addr) (f : Nat) (d : List Int) (r : Int) (b : World) (m : List Nat) (D : MS b [[a], m]) (j : SlR (eInt .i64) b (fl [[a], m]) e f d) (g : b.heap[a]? = some (.cells #[Vl e d f] 22 (0, 0))) (c : assign_order_1 h i d = some r) : CallVC Tryz.prog 132 [Vi h, Vi i, Vp a 0] b fun A s => A = Vi r ∧ Ev [a] b s ∧ s.heap[a]? = some (.cells #[Vl e d f] 22 (0, 0)) := by
 refine calls_vc hmx Tryz.func132 (by kernel_rfl) R (rs := [.tmp 5]) R (by kernel_rfl) (args := [Vi h, Vi i, Vp a 0]) R ?_
 have o : Ev [a] b b := Ev.refl _ _
 refine c_sp (x_u 1 [(5, Vi 0)] (x_ek (c_seq (c_drawn [] [(0, false), (1, false), (2, false), (3, false), (4, false), (5, false), (6, false), (7, false), (8, false), (9, false)] _ (by kernel_rfl) R ?_))))
 have x := Stp.ext (ls := [[a], m]) (Ev.drew b)
 replace j := j.step x
 replace g := (Ev.drew b).box g nn
 replace o := o.ext (Ev.drew b)
 refine x_load (xv := Vp a 0) (Vl e d f) R R R (reads_box tcell22 g nn 0 _ R) (x_u 1 [(7, Vi i)] ?_)
 obtain ⟨k, y, c⟩ := bind_some c
 obtain ⟨p, B, v, t, n⟩ := reads_index (Mo := []) tsl22 j y
 obtain rfl := n
 refine x_indexAddr (xv := Vl e d f) (yv := Vi i) (.pointer (some p)) R R R R v (x_load (xv := .pointer (some p)) (Vi k) R R R (reads_cell0 tcell3 t (fun _ c => by cases c)) ?_)
 refine x_load (xv := Vp a 0) (Vl e d f) R R R (reads_box tcell22 g nn 0 _ R) (x_u 1 [(11, Vi h)] ?_)
 obtain ⟨l, z, c⟩ := bind_some c
 obtain ⟨q, C, w, u, n⟩ := reads_index (Mo := []) tsl22 j z
 obtain rfl := n
 refine x_indexAddr (xv := Vl e d f) (yv := Vi h) (.pointer (some q)) R R R R w (x_load (xv := .pointer (some q)) (Vi l) R R R (reads_cell0 tcell3 u (fun _ c => by cases c)) ?_)
 refine x_u 2 [(14, Vi (i64.wrap (k - l))), (5, Vi (i64.wrap (k - l)))] (x_ek (c_ret (r_ret (r_vals [Vi (i64.wrap (k - l))] ⟨R, trivial⟩ ?_))))
 obtain rfl := some_inj c
 exact ⟨R, o, g⟩
def slices_insertionSortCmpFunc_int__L6 (d : Int) (e : List Int) (f : (List Int) × Int) : Option (Step ((List Int) × Int) (List Int)) :=
match f with
| (b, a) =>
(if (decide (a > d)) = true then
((idx b a).bind fun j =>
((idx b (i64.wrap (a - 1))).bind fun g =>
((assign_order_1 j g e).bind fun h =>
(if (decide (h < 0)) = true then
((idx b (i64.wrap (a - 1))).bind fun c =>
((idx b a).bind fun i =>
((idx b a).bind fun k =>
((idx (b.set (Int.toNat a) c) (i64.wrap (a - 1))).bind fun l =>
some (.next (((b.set (Int.toNat a) c).set (Int.toNat (i64.wrap (a - 1))) i), i64.wrap (a - 1)))))))
else
some (.done b)))))
else
some (.done b))
def slices_insertionSortCmpFunc_int__L4 (e : Int) (f : Int) (g : List Int) (h : (List Int) × Int) : Option (Step ((List Int) × Int) (List Int)) :=
match h with
| (b, a) =>
(if (decide (a < f)) = true then
((loop (slices_insertionSortCmpFunc_int__L6 e g) (b, a)).bind fun c => match c with
| d => some (.next (d, i64.wrap (a + 1))))
else
some (.done b))
def slices_insertionSortCmpFunc_int_ (d : List Int) (a : Int) (e : Int) (f : List Int) : Option (List Int) :=
((loop (slices_insertionSortCmpFunc_int__L4 a e f) (d, i64.wrap (a + 1))).bind fun b => match b with
| c => some c)
theorem slices_insertionSortCmpFunc_int__w (a : Option Addr) (g : Nat) (X : List Int) (k : Int) (q : Int) (b : Nat) (B : Option Addr) (C : Nat) (x : List Int) (aG : (List Int)) (l : World) (f : List Nat) (j : MS l [blk a, [b], f]) (i : OwnS (eInt .i64) 3 l (fl [blk a, [b], f]) a g X) (p : SlR (eInt .i64) l (fl [blk a, [b], f]) B C x) (m : l.heap[b]? = some (.cells #[.slice B (x).length C] 22 (0, 0))) (d : slices_insertionSortCmpFunc_int_ X k q x = some aG) : CallVC Tryz.prog 136 [.slice a (X).length g, Vi k, Vi q, (.func (.func 132) #[] #[Vp b 0])] l fun aH r => aH = .tuple #[] ∧ Ev (fl [blk a, [b]]) l r ∧ OwnS (eInt .i64) 3 r (fl [blk a, [b], f]) a g aG ∧ r.heap[b]? = some (.cells #[.slice B (x).length C] 22 (0, 0)) ∧ MS r [blk a, [b], f] ∧ FR l.heap.size [] ∧ NP (fl [blk a, [b]]) l.heap.size [blk a, [b]] := by
 refine calls_vc hmx Tryz.func136 (by kernel_rfl) R (rs := []) R (by kernel_rfl) (args := [.slice a (X).length g, Vi k, Vi q, (.func (.func 132) #[] #[Vp b 0])]) R ?_
 have o : Ev (fl [blk a, [b]]) l l := Ev.refl _ _
 have D : FR l.heap.size [] := FR.nil _
 have w : NP (fl [blk a, [b]]) l.heap.size [blk a, [b]] := NP.init _ _
 refine c_sp (x_u 3 [(10, Vi k), (11, Vi (i64.wrap (k + 1))), (8, Vi (i64.wrap (k + 1)))] (x_ek (c_block ?_)))
 obtain ⟨aI, ac, aK⟩ := bind_some d
 obtain ⟨L, ac⟩ := loop_some ac
 refine c_loop (loop_rule hmx (σ := Nat × (List Int) × Int) (fun z => match z with | (_, G, h) => [(0, .slice a (G).length g), (1, Vi k), (2, Vi q), (3, (.func (.func 132) #[] #[Vp b 0])), (8, Vi h)]) (fun z r => match z with | (ah, G, h) => loopN (slices_insertionSortCmpFunc_int__L4 k q x) ah (G, h) = some aI ∧ Ev (fl [blk a, [b]]) l r ∧ MS r [blk a, [b], f] ∧ FR l.heap.size [] ∧ NP (fl [blk a, [b]]) l.heap.size [blk a, [b]] ∧ OwnS (eInt .i64) 3 r (fl [blk a, [b], f]) a g G ∧ SlR (eInt .i64) r (fl [blk a, [b], f]) B C x ∧ r.heap[b]? = some (.cells #[.slice B (x).length C] 22 (0, 0))) (fun z => z.1) (L, X, i64.wrap (k + 1)) ⟨R, R, R, R, R, trivial⟩ ⟨ac, o, j, D, w, i, p, m⟩ ?_)
 rintro ⟨L, G, h⟩ F bv ⟨I, o, j, D, w, i, p, m⟩
 rcases L with _ | L
 · exact (loopN_zero I).elim
 obtain ⟨bt, d, I⟩ := bind_some I
 refine c_seq (c_sp (x_u 3 [(12, Vi h), (13, Vi q), (14, .bool (decide (h < q)))] (x_ek (c_nm [(0, .slice a (G).length g), (1, Vi k), (2, Vi q), (3, (.func (.func 132) #[] #[Vp b 0])), (8, Vi h), (14, .bool (decide (h < q)))] (fun F => ?_)))))
 refine c_if (decide (h < q)) R d (fun d => ?_) (fun d => ?_)
 · refine c_skip (k_then (c_seq (c_block (c_sp (x_u 2 [(17, Vi h), (9, Vi h)] (x_ek (c_block ?_)))))))
   obtain ⟨aJ, ad, aq⟩ := bind_some d
   obtain ⟨U, ad⟩ := loop_some ad
   refine c_loop (loop_rule hmx (σ := Nat × (List Int) × Int) (fun z => match z with | (_, e, c) => [(0, .slice a (e).length g), (1, Vi k), (2, Vi q), (3, (.func (.func 132) #[] #[Vp b 0])), (8, Vi h), (9, Vi c)]) (fun z r => match z with | (ah, e, c) => loopN (slices_insertionSortCmpFunc_int__L6 k x) ah (e, c) = some aJ ∧ Ev (fl [blk a, [b]]) l r ∧ MS r [blk a, [b], f] ∧ FR l.heap.size [] ∧ NP (fl [blk a, [b]]) l.heap.size [blk a, [b]] ∧ OwnS (eInt .i64) 3 r (fl [blk a, [b], f]) a g e ∧ SlR (eInt .i64) r (fl [blk a, [b], f]) B C x ∧ r.heap[b]? = some (.cells #[.slice B (x).length C] 22 (0, 0))) (fun z => z.1) (U, G, h) ⟨R, R, R, R, R, R, trivial⟩ ⟨ad, o, j, D, w, i, p, m⟩ ?_)
   rintro ⟨U, e, c⟩ F E ⟨J, o, j, D, w, i, p, m⟩
   rcases U with _ | U
   · exact (loopN_zero J).elim
   obtain ⟨bu, d, J⟩ := bind_some J
   refine c_seq (c_seq (c_drawn [] [(0, false), (1, false), (2, false), (3, false), (4, false), (5, false), (6, false), (7, false), (8, false), (9, false), (10, false), (11, false), (12, false), (13, false), (14, true), (15, false), (16, false)] _ (by kernel_rfl) R ?_))
   have u := Stp.ext (ls := [blk a, [b], f]) (Ev.drew E)
   replace i := i.step u (Ev.drew E) nn2
   replace m := (Ev.drew E).box m nn
   replace p := p.step u
   replace j := j.ev (Ev.drew E)
   replace o := o.ext (Ev.drew E)
   refine x_u 4 [(18, Vi c), (19, Vi k), (20, .bool (decide (c > k))), (21, .bool (decide (c > k)))] (x_if 21 (decide (c > k)) R d (fun d => ?_) (fun d => ?_))
   · refine x_u 3 [(22, (.func (.func 132) #[] #[Vp b 0])), (23, .slice a (e).length g), (24, Vi c)] ?_
     obtain ⟨aj, be, d⟩ := bind_some d
     obtain ⟨ap, bm, bq, bb, aY, s⟩ := own_index (Mo := []) tsl22 i be
     obtain rfl := s
     refine x_indexAddr (xv := .slice a (e).length g) (yv := Vi c) (.pointer (some ⟨ap, (Int.toNat c) * (eInt .i64).n, none⟩)) R R R R bb (x_load (xv := .pointer (some ⟨ap, (Int.toNat c) * (eInt .i64).n, none⟩)) (Vi aj) R R R (reads_cell0 tcell3 aY (fun _ d => by cases d)) ?_)
     refine x_u 3 [(27, .slice a (e).length g), (28, Vi c), (29, Vi (i64.wrap (c - 1)))] ?_
     obtain ⟨ai, bd, d⟩ := bind_some d
     obtain ⟨ak, bh, bn, a4, aS, s⟩ := own_index (Mo := []) tsl22 i bd
     obtain rfl := s
     refine x_indexAddr (xv := .slice a (e).length g) (yv := Vi (i64.wrap (c - 1))) (.pointer (some ⟨ak, (Int.toNat (i64.wrap (c - 1))) * (eInt .i64).n, none⟩)) R R R R a4 (x_load (xv := .pointer (some ⟨ak, (Int.toNat (i64.wrap (c - 1))) * (eInt .i64).n, none⟩)) (Vi ai) R R R (reads_cell0 tcell3 aS (fun _ d => by cases d)) ?_)
     obtain ⟨ab, K, d⟩ := bind_some d
     have au : MS (E).drew ([[b]] ++ [blk a, f]) := j.pick [some 1, some 0, some 2] _ R
     have ax : ∀ v ∈ fl ([[b]] ++ [blk a, f]), v ∈ fl [blk a, [b], f] := pick_sub [some 1, some 0, some 2] _ R
     have aw : ∀ v ∈ fl ([[b]] ++ [(fl [blk a, f])]), v ∈ fl [blk a, [b], f] := fun v K => ax v (fl_unfold v K)
     have ar := assign_order_1_w aj ai b B C x _ (E).drew (fl [blk a, f]) (au.fold (P := [[b]])) (p.sub aw) m K
     refine x_call 132 #[] #[Vp b 0] [Vi aj, Vi ai, Vp b 0] _ R R R R ar ?_
     rintro aH Y ⟨rfl, Z, a3⟩
     clear ar K
     refine inl1 ?_
     have av : MS (E).drew ([[b]] ++ [blk a, f]) := j.pick [some 1, some 0, some 2] _ R
     have ae : ∀ v ∈ fl ([[b]] ++ [blk a, f]), v ∈ fl [blk a, [b], f] := pick_sub [some 1, some 0, some 2] _ R
     have az := Stp.call (LS := [blk a, [b], f]) (res := []) (par := [[b]]) (R := [blk a, f]) Z (fun N aQ => ae N (fl_left' (P := [[b]]) N aQ)) (FR.nil _) (NP.init _ _) (fun v K => ae v (fl_right' (P := [[b]]) v K))
     have ay : ∀ v ∈ fl [blk a, [b], f], v ∈ fl ([] ++ ([[b]] ++ [blk a, f])) := pick_sub [some 1, some 0, some 2] _ R
     have u := az.res ay
     replace i := i.step u Z (MS.outs (P := [[b]]) av 0 R)
     replace p := p.step u
     replace j := j.ev Z
     have aL : ∀ N ∈ fl [[b]], N ∈ (fl [blk a, [b]]) ∨ l.heap.size ≤ N := NP.mem (ls := [[b]]) (w.pick [some 1] _ R)
     replace o := o.then Z aL
     replace m := a3
     clear au aw ax av ae az ay u
     refine x_u 2 [(33, .bool (decide (ab < 0))), (34, .bool (decide (ab < 0)))] (x_ek (c_nm [(0, .slice a (e).length g), (1, Vi k), (2, Vi q), (3, (.func (.func 132) #[] #[Vp b 0])), (8, Vi h), (9, Vi c), (34, .bool (decide (ab < 0)))] (fun F => ?_)))
     refine c_if (decide (ab < 0)) R d (fun d => ?_) (fun d => ?_)
     · refine c_skip (k_then (c_seq (c_block (c_drawn (blk a) [(0, true), (1, true), (2, false), (3, false), (4, false), (5, true), (6, true), (7, true), (8, true), (9, true), (10, true), (11, true), (12, true), (13, true), (14, true), (15, false), (16, true), (17, true)] _ (by kernel_rfl) R ?_))))
       have u := Stp.ext (ls := [blk a, [b], f]) (Ev.drew Y)
       replace i := i.step u (Ev.drew Y) nn2
       replace m := (Ev.drew Y).box m nn
       replace p := p.step u
       replace j := j.ev (Ev.drew Y)
       replace o := o.ext (Ev.drew Y)
       refine x_u 8 [(37, .slice a (e).length g), (38, Vi c), (39, .slice a (e).length g), (40, Vi c), (41, Vi (i64.wrap (c - 1))), (42, .slice a (e).length g), (43, Vi c), (44, Vi (i64.wrap (c - 1)))] ?_
       obtain ⟨t, aA, d⟩ := bind_some d
       obtain ⟨al, bi, bo, a5, aU, s⟩ := own_index (Mo := []) tsl22 i aA
       obtain rfl := s
       refine x_indexAddr (xv := .slice a (e).length g) (yv := Vi (i64.wrap (c - 1))) (.pointer (some ⟨al, (Int.toNat (i64.wrap (c - 1))) * (eInt .i64).n, none⟩)) R R R R a5 (x_load (xv := .pointer (some ⟨al, (Int.toNat (i64.wrap (c - 1))) * (eInt .i64).n, none⟩)) (Vi t) R R R (reads_cell0 tcell3 aU (fun _ d => by cases d)) ?_)
       refine x_u 2 [(47, .slice a (e).length g), (48, Vi c)] ?_
       obtain ⟨A, aB, d⟩ := bind_some d
       obtain ⟨am, bj, bp, a6, aX, s⟩ := own_index (Mo := []) tsl22 i aB
       obtain rfl := s
       refine x_indexAddr (xv := .slice a (e).length g) (yv := Vi c) (.pointer (some ⟨am, (Int.toNat c) * (eInt .i64).n, none⟩)) R R R R a6 (x_load (xv := .pointer (some ⟨am, (Int.toNat c) * (eInt .i64).n, none⟩)) (Vi A) R R R (reads_cell0 tcell3 aX (fun _ d => by cases d)) ?_)
       obtain ⟨bw, aC, d⟩ := bind_some d
       obtain ⟨an, bk, aN, a7, br, s⟩ := own_index (Mo := []) tsl22 i aC
       obtain rfl := s
       refine x_indexAddr (xv := .slice a (e).length g) (yv := Vi c) (.pointer (some ⟨an, (Int.toNat c) * (eInt .i64).n, none⟩)) R R R R a7 ?_
       have af := aA
       have ag := aB
       obtain ⟨bf, a8, O, a1⟩ := own_storeE aN (y := t) 0 (Vi t) tcell3 i (mem_flat 0 R) aC R R (fun _ _ _ s => set_int s)
       refine x_store bf (xv := .pointer (some ⟨an, (Int.toNat c) * (eInt .i64).n, none⟩)) (yv := Vi t) R R R R a8 (⟨.inr O, ?_⟩)
       have u := Stp.ev' (ls := [blk a, [b], f]) O (mem_flat 0 R)
       replace m := O.box m (j.apart 1 0 R R R _ mem1)
       replace p := p.step u
       replace j := j.ev O
       replace o := o.then O (w.at 0 R)
       replace i := a1
       have Q : (Value.slice a (e).length g) = (Value.slice a ((e.set (Int.toNat c) t)).length g) := by first | (rw [List.length_set]; done) | simp only [List.length_set]
       try rw [Q]
       clear Q
       obtain ⟨_, af⟩ : ∃ H, idx (e.set (Int.toNat c) t) (i64.wrap (c - 1)) = some H := idx_set_any af _ _
       obtain ⟨_, ag⟩ : ∃ H, idx (e.set (Int.toNat c) t) c = some H := idx_set_any ag _ _
       obtain ⟨bx, aD, d⟩ := bind_some d
       obtain ⟨ao, bl, aO, a9, bs, s⟩ := own_index (Mo := []) tsl22 i aD
       obtain rfl := s
       refine x_indexAddr (xv := .slice a ((e.set (Int.toNat c) t)).length g) (yv := Vi (i64.wrap (c - 1))) (.pointer (some ⟨ao, (Int.toNat (i64.wrap (c - 1))) * (eInt .i64).n, none⟩)) R R R R a9 ?_
       have aE := af
       have aF := ag
       obtain ⟨bg, ba, aa, a2⟩ := own_storeE aO (y := A) 0 (Vi A) tcell3 i (mem_flat 0 R) aD R R (fun _ _ _ s => set_int s)
       refine x_store bg (xv := .pointer (some ⟨ao, (Int.toNat (i64.wrap (c - 1))) * (eInt .i64).n, none⟩)) (yv := Vi A) R R R R ba (inl1 ?_)
       have u := Stp.ev' (ls := [blk a, [b], f]) aa (mem_flat 0 R)
       replace m := aa.box m (j.apart 1 0 R R R _ mem1)
       replace p := p.step u
       replace j := j.ev aa
       replace o := o.then aa (w.at 0 R)
       replace i := a2
       have Q : (Value.slice a ((e.set (Int.toNat c) t)).length g) = (Value.slice a (((e.set (Int.toNat c) t).set (Int.toNat (i64.wrap (c - 1))) A)).length g) := by first | (rw [List.length_set]; done) | simp only [List.length_set]
       try rw [Q]
       clear Q
       obtain ⟨_, aE⟩ : ∃ H, idx ((e.set (Int.toNat c) t).set (Int.toNat (i64.wrap (c - 1))) A) (i64.wrap (c - 1)) = some H := idx_set_any aE _ _
       obtain ⟨_, aF⟩ : ∃ H, idx ((e.set (Int.toNat c) t).set (Int.toNat (i64.wrap (c - 1))) A) c = some H := idx_set_any aF _ _
       refine x_end R (k_block (k_then (c_nm [(0, .slice a (((e.set (Int.toNat c) t).set (Int.toNat (i64.wrap (c - 1))) A)).length g), (1, Vi k), (2, Vi q), (3, (.func (.func 132) #[] #[Vp b 0])), (8, Vi h), (9, Vi c)] (fun F => ?_))))
       refine c_plain (x_u 3 [(35, Vi c), (36, Vi (i64.wrap (c - 1))), (9, Vi (i64.wrap (c - 1)))] (x_end R ?_))
       obtain rfl := some_inj d
       exact k_then ⟨(U, ((e.set (Int.toNat c) t).set (Int.toNat (i64.wrap (c - 1))) A), i64.wrap (c - 1)), ⟨R, R, R, R, R, R, trivial⟩, ⟨J, o, j, D, w, i, p, m⟩, Nat.lt_succ_self _⟩
     refine c_exit (k_then_exit ?_)
     obtain rfl := some_inj d
     have S := some_inj J
     subst S
     replace d := aq
     refine k_then_exit (k_block_in (k_block (k_then (c_nm [(0, .slice a (e).length g), (1, Vi k), (2, Vi q), (3, (.func (.func 132) #[] #[Vp b 0])), (8, Vi h)] (fun F => ?_)))))
     refine c_plain (x_u 3 [(15, Vi h), (16, Vi (i64.wrap (h + 1))), (8, Vi (i64.wrap (h + 1)))] (x_end R ?_))
     obtain rfl := some_inj d
     exact k_then ⟨(L, e, i64.wrap (h + 1)), ⟨R, R, R, R, R, trivial⟩, ⟨I, o, j, D, w, i, p, m⟩, Nat.lt_succ_self _⟩
   refine x_u 13 [(22, undef), (23, undef), (24, undef), (25, undef), (26, undef), (27, undef), (28, undef), (29, undef), (30, undef), (31, undef), (32, undef), (33, undef), (34, .bool false)] (x_ek (c_nm [(0, .slice a (e).length g), (1, Vi k), (2, Vi q), (3, (.func (.func 132) #[] #[Vp b 0])), (8, Vi h), (9, Vi c), (34, .bool false)] (fun F => ?_)))
   refine c_false R (c_exit (k_then_exit ?_))
   obtain rfl := some_inj d
   have S := some_inj J
   subst S
   replace d := aq
   refine k_then_exit (k_block_in (k_block (k_then (c_nm [(0, .slice a (e).length g), (1, Vi k), (2, Vi q), (3, (.func (.func 132) #[] #[Vp b 0])), (8, Vi h)] (fun F => ?_)))))
   refine c_plain (x_u 3 [(15, Vi h), (16, Vi (i64.wrap (h + 1))), (8, Vi (i64.wrap (h + 1)))] (x_end R ?_))
   obtain rfl := some_inj d
   exact k_then ⟨(L, e, i64.wrap (h + 1)), ⟨R, R, R, R, R, trivial⟩, ⟨I, o, j, D, w, i, p, m⟩, Nat.lt_succ_self _⟩
 refine c_exit (k_then_exit ?_)
 obtain rfl := some_inj d
 have S := some_inj I
 subst S
 replace d := aK
 refine k_then_exit (k_block_in (r_normal (r_vals [] trivial ?_)))
 obtain rfl := some_inj d
 have a0 := j.pick [some 0, some 1, some 2] [blk a, [b], f] R
 have bc := pick_sub (ls := [blk a, [b], f]) [some 0, some 1, some 2] [blk a, [b], f] R
 have aZ := D.pick [] [] R
 exact ⟨R, o, i.sub bc, m, a0, aZ, (NP.cons (w.at 0 R) (NP.cons (w.at 1 R) (NP.nil _ _)))⟩
def slices_stableCmpFunc_int__L14 (b : Int) (a : Int) (c : Unit) : Option (Step Unit Unit) :=
(if (decide ((i64.wrap (2 * a)) ≤ b)) = true then
none
else
some (.done ()))
def slices_stableCmpFunc_int__L11 (b : Int) (d : Int) : Option (Step Int Unit) :=
match d with
| a =>
(if (decide (a < b)) = true then
((loop (slices_stableCmpFunc_int__L14 b a) ()).bind fun c => match c with
| _ => (if (decide ((i64.wrap (0 + a)) < b)) = true then
none
else
some (.next (i64.wrap (a * 2)))))
else
some (.done ()))
def slices_stableCmpFunc_int__L5 (e : Int) (f : List Int) (g : (List Int) × Int × Int) : Option (Step ((List Int) × Int × Int) ((List Int) × Int)) :=
match g with
| (b, c, a) =>
(if (decide (a ≤ e)) = true then
((slices_insertionSortCmpFunc_int_ b c a f).bind fun d =>
(if d.length = b.length then
some (.next (d, a, i64.wrap (a + 20)))
else none))
else
some (.done (b, c)))
def slices_stableCmpFunc_int_ (g : List Int) (b : Int) (d : List Int) : Option (List Int) :=
((loop (slices_stableCmpFunc_int__L5 b d) (g, 0, 20)).bind fun a => match a with
| (c, f) => ((slices_insertionSortCmpFunc_int_ c f b d).bind fun e =>
(if e.length = c.length then
((loop (slices_stableCmpFunc_int__L11 b) 20).bind fun a => match a with
| _ => some e)
else none)))
theorem slices_stableCmpFunc_int__w (a : Option Addr) (h : Nat) (ad : List Int) (f : Int) (b : Nat) (x : Option Addr) (y : Nat) (v : List Int) (aq : (List Int)) (i : World) (d : List Nat) (p : MS i [blk a, [b], d]) (t : OwnS (eInt .i64) 3 i (fl [blk a, [b], d]) a h ad) (r : SlR (eInt .i64) i (fl [blk a, [b], d]) x y v) (s : i.heap[b]? = some (.cells #[.slice x (v).length y] 22 (0, 0))) (c : slices_stableCmpFunc_int_ ad f v = some aq) : CallVC Tryz.prog 146 [.slice a (ad).length h, Vi f, (.func (.func 132) #[] #[Vp b 0])] i fun an k => an = .tuple #[] ∧ Ev (fl [blk a, [b]]) i k ∧ OwnS (eInt .i64) 3 k (fl [blk a, [b], d]) a h aq ∧ k.heap[b]? = some (.cells #[.slice x (v).length y] 22 (0, 0)) ∧ MS k [blk a, [b], d] ∧ FR i.heap.size [] ∧ NP (fl [blk a, [b]]) i.heap.size [blk a, [b]] := by
 refine calls_vc hmx Tryz.func146 (by kernel_rfl) R (rs := []) R (by kernel_rfl) (args := [.slice a (ad).length h, Vi f, (.func (.func 132) #[] #[Vp b 0])]) R ?_
 have m : Ev (fl [blk a, [b]]) i i := Ev.refl _ _
 have A : FR i.heap.size [] := FR.nil _
 have q : NP (fl [blk a, [b]]) i.heap.size [blk a, [b]] := NP.init _ _
 refine c_sp (x_u 1 [(6, Vi 20)] (x_ek (c_sp (x_u 3 [(10, Vi 20), (7, Vi 0), (8, Vi 20)] (x_ek (c_seq (c_block ?_)))))))
 obtain ⟨aw, ak, az⟩ := bind_some c
 obtain ⟨ac, ak⟩ := loop_some ak
 refine c_loop (loop_rule hmx (σ := Nat × (List Int) × Int × Int) (fun n => match n with | (_, o, w, l) => [(0, .slice a (o).length h), (1, Vi f), (2, (.func (.func 132) #[] #[Vp b 0])), (6, Vi 20), (7, Vi w), (8, Vi l)]) (fun n k => match n with | (aa, o, w, l) => loopN (slices_stableCmpFunc_int__L5 f v) aa (o, w, l) = some aw ∧ Ev (fl [blk a, [b]]) i k ∧ MS k [blk a, [b], d] ∧ FR i.heap.size [] ∧ NP (fl [blk a, [b]]) i.heap.size [blk a, [b]] ∧ OwnS (eInt .i64) 3 k (fl [blk a, [b], d]) a h o ∧ SlR (eInt .i64) k (fl [blk a, [b], d]) x y v ∧ k.heap[b]? = some (.cells #[.slice x (v).length y] 22 (0, 0))) (fun n => n.1) (ac, ad, 0, 20) ⟨R, R, R, R, R, R, trivial⟩ ⟨ak, m, p, A, q, t, r, s⟩ ?_)
 rintro ⟨ac, o, w, l⟩ C G ⟨K, m, p, A, q, t, r, s⟩
 rcases ac with _ | ac
 · exact (loopN_zero K).elim
 obtain ⟨aO, c, K⟩ := bind_some K
 refine c_seq (c_sp (x_u 3 [(11, Vi l), (12, Vi f), (13, .bool (decide (l ≤ f)))] (x_ek (c_nm [(0, .slice a (o).length h), (1, Vi f), (2, (.func (.func 132) #[] #[Vp b 0])), (6, Vi 20), (7, Vi w), (8, Vi l), (13, .bool (decide (l ≤ f)))] (fun C => ?_)))))
 refine c_if (decide (l ≤ f)) R c (fun c => ?_) (fun c => ?_)
 · refine c_skip (k_then (c_block (c_sp (x_u 4 [(14, .slice a (o).length h), (15, Vi w), (16, Vi l), (17, (.func (.func 132) #[] #[Vp b 0]))] ?_))))
   obtain ⟨ar, u, c⟩ := bind_some c
   have L : MS G ([blk a, [b]] ++ [d]) := p.pick [some 0, some 1, some 2] _ R
   have Q : ∀ g ∈ fl ([blk a, [b]] ++ [d]), g ∈ fl [blk a, [b], d] := pick_sub [some 0, some 1, some 2] _ R
   have E : ∀ g ∈ fl ([blk a, [b]] ++ [(fl [d])]), g ∈ fl [blk a, [b], d] := fun g u => Q g (fl_unfold g u)
   have H := slices_insertionSortCmpFunc_int__w a h o w l b x y v _ G (fl [d]) (L.fold (P := [blk a, [b]])) (t.sub E) (r.sub E) s u
   refine x_call 136 #[] #[] [.slice a (o).length h, Vi w, Vi l, (.func (.func 132) #[] #[Vp b 0])] _ R R R R H ?_
   rintro an aK ⟨rfl, am, aG, aH, aC, ap, ag⟩
   clear H u
   refine inl1 ?_
   have N : MS G ([blk a, [b]] ++ [d]) := p.pick [some 0, some 1, some 2] _ R
   have F : ∀ g ∈ fl ([blk a, [b]] ++ [d]), g ∈ fl [blk a, [b], d] := pick_sub [some 0, some 1, some 2] _ R
   have Y := Stp.call (LS := [blk a, [b], d]) (res := []) (par := [blk a, [b]]) (R := [d]) am (fun j z => F j (fl_left' (P := [blk a, [b]]) j z)) ap ag (fun g u => F g (fl_right' (P := [blk a, [b]]) g u))
   have U : ∀ g ∈ fl [blk a, [b], d], g ∈ fl ([] ++ ([blk a, [b]] ++ [d])) := pick_sub [some 0, some 1, some 2] _ R
   have X := Y.res U
   replace r := r.step X
   replace p : MS aK [blk a, [b], d] := (MS.call (P := [blk a, [b]]) (R := [d]) (res := []) (par := [blk a, [b]]) N am aC ap ag).pick [some 0, some 1, some 2] _ R
   have D : ∀ j ∈ fl [blk a, [b]], j ∈ (fl [blk a, [b]]) ∨ i.heap.size ≤ j := NP.mem (ls := [blk a, [b]]) (q.pick [some 0, some 1] _ R)
   have O : NP (fl [blk a, [b]]) i.heap.size [blk a, [b]] := (NP.cons (fun j z => (ag.at 0 R j z).elim (fun c => D j c) (fun c => .inr (Nat.le_trans m.size c))) (NP.cons (fun j z => (ag.at 1 R j z).elim (fun c => D j c) (fun c => .inr (Nat.le_trans m.size c))) (NP.nil _ _)))
   replace m := m.then am D
   replace q := O
   clear O
   replace s := aH
   replace t := OwnS.plain (M' := fl [blk a, [b], d]) (plain_int _) aG
   clear L E Q N F Y U X
   have I := guard_l c
   replace c := guard_r c
   have S : (Value.slice a (o).length h) = (Value.slice a (ar).length h) := by first | (rw [I]; done) | simp only [I]
   try rw [S]
   clear S
   refine x_ek (c_sp (x_u 2 [(19, Vi l), (7, Vi l)] (x_ek (c_plain (x_u 4 [(20, Vi l), (21, Vi 20), (22, Vi (i64.wrap (l + 20))), (8, Vi (i64.wrap (l + 20)))] (x_end R (k_block ?_)))))))
   obtain rfl := some_inj c
   exact k_then ⟨(ac, ar, l, i64.wrap (l + 20)), ⟨R, R, R, R, R, R, trivial⟩, ⟨K, m, p, A, q, t, r, s⟩, Nat.lt_succ_self _⟩
 refine c_exit (k_then_exit ?_)
 obtain rfl := some_inj c
 have Z := some_inj K
 subst Z
 replace c := az
 refine k_then_exit (k_block_in (k_then (c_nm [(0, .slice a (o).length h), (1, Vi f), (2, (.func (.func 132) #[] #[Vp b 0])), (6, Vi 20), (7, Vi w)] (fun C => ?_))))
 refine c_sp (x_u 4 [(23, .slice a (o).length h), (24, Vi w), (25, Vi f), (26, (.func (.func 132) #[] #[Vp b 0]))] ?_)
 obtain ⟨B, u, c⟩ := bind_some c
 have L : MS G ([blk a, [b]] ++ [d]) := p.pick [some 0, some 1, some 2] _ R
 have Q : ∀ g ∈ fl ([blk a, [b]] ++ [d]), g ∈ fl [blk a, [b], d] := pick_sub [some 0, some 1, some 2] _ R
 have E : ∀ g ∈ fl ([blk a, [b]] ++ [(fl [d])]), g ∈ fl [blk a, [b], d] := fun g u => Q g (fl_unfold g u)
 have H := slices_insertionSortCmpFunc_int__w a h o w f b x y v _ G (fl [d]) (L.fold (P := [blk a, [b]])) (t.sub E) (r.sub E) s u
 refine x_call 136 #[] #[] [.slice a (o).length h, Vi w, Vi f, (.func (.func 132) #[] #[Vp b 0])] _ R R R R H ?_
 rintro an aJ ⟨rfl, al, aE, aF, aB, ao, af⟩
 clear H u
 refine inl1 ?_
 have N : MS G ([blk a, [b]] ++ [d]) := p.pick [some 0, some 1, some 2] _ R
 have F : ∀ g ∈ fl ([blk a, [b]] ++ [d]), g ∈ fl [blk a, [b], d] := pick_sub [some 0, some 1, some 2] _ R
 have Y := Stp.call (LS := [blk a, [b], d]) (res := []) (par := [blk a, [b]]) (R := [d]) al (fun j z => F j (fl_left' (P := [blk a, [b]]) j z)) ao af (fun g u => F g (fl_right' (P := [blk a, [b]]) g u))
 have U : ∀ g ∈ fl [blk a, [b], d], g ∈ fl ([] ++ ([blk a, [b]] ++ [d])) := pick_sub [some 0, some 1, some 2] _ R
 have X := Y.res U
 replace r := r.step X
 replace p : MS aJ [blk a, [b], d] := (MS.call (P := [blk a, [b]]) (R := [d]) (res := []) (par := [blk a, [b]]) N al aB ao af).pick [some 0, some 1, some 2] _ R
 have D : ∀ j ∈ fl [blk a, [b]], j ∈ (fl [blk a, [b]]) ∨ i.heap.size ≤ j := NP.mem (ls := [blk a, [b]]) (q.pick [some 0, some 1] _ R)
 have O : NP (fl [blk a, [b]]) i.heap.size [blk a, [b]] := (NP.cons (fun j z => (af.at 0 R j z).elim (fun c => D j c) (fun c => .inr (Nat.le_trans m.size c))) (NP.cons (fun j z => (af.at 1 R j z).elim (fun c => D j c) (fun c => .inr (Nat.le_trans m.size c))) (NP.nil _ _)))
 replace m := m.then al D
 replace q := O
 clear O
 replace s := aF
 replace t := OwnS.plain (M' := fl [blk a, [b], d]) (plain_int _) aE
 clear L E Q N F Y U X
 have I := guard_l c
 replace c := guard_r c
 have S : (Value.slice a (o).length h) = (Value.slice a (B).length h) := by first | (rw [I]; done) | simp only [I]
 try rw [S]
 clear S
 refine x_ek (c_block ?_)
 obtain ⟨au, ai, ax⟩ := bind_some c
 obtain ⟨ab, ai⟩ := loop_some ai
 refine c_loop (loop_rule hmx (σ := Nat × Int) (fun n => match n with | (_, e) => [(0, .slice a (B).length h), (1, Vi f), (2, (.func (.func 132) #[] #[Vp b 0])), (6, Vi e)]) (fun n k => match n with | (aa, e) => loopN (slices_stableCmpFunc_int__L11 f) aa e = some au ∧ Ev (fl [blk a, [b]]) i k ∧ MS k [blk a, [b], d] ∧ FR i.heap.size [] ∧ NP (fl [blk a, [b]]) i.heap.size [blk a, [b]] ∧ OwnS (eInt .i64) 3 k (fl [blk a, [b], d]) a h B ∧ SlR (eInt .i64) k (fl [blk a, [b], d]) x y v ∧ k.heap[b]? = some (.cells #[.slice x (v).length y] 22 (0, 0))) (fun n => n.1) (ab, 20) ⟨R, R, R, R, trivial⟩ ⟨ai, m, p, A, q, t, r, s⟩ ?_)
 rintro ⟨ab, e⟩ C aQ ⟨J, m, p, A, q, t, r, s⟩
 rcases ab with _ | ab
 · exact (loopN_zero J).elim
 obtain ⟨aL, c, J⟩ := bind_some J
 refine c_seq (c_sp (x_u 3 [(28, Vi e), (29, Vi f), (30, .bool (decide (e < f)))] (x_ek (c_nm [(0, .slice a (B).length h), (1, Vi f), (2, (.func (.func 132) #[] #[Vp b 0])), (6, Vi e), (30, .bool (decide (e < f)))] (fun C => ?_)))))
 refine c_if (decide (e < f)) R c (fun c => ?_) (fun c => ?_)
 · refine c_skip (k_then (c_block (c_sp (x_u 4 [(31, Vi e), (32, Vi (i64.wrap (2 * e))), (7, Vi 0), (8, Vi (i64.wrap (2 * e)))] (x_ek (c_seq (c_block ?_)))))))
   obtain ⟨av, aj, ay⟩ := bind_some c
   obtain ⟨ah, aj⟩ := loop_some aj
   refine c_loop (loop_rule hmx (σ := Nat × Unit) (fun n => match n with | (_, _) => [(0, .slice a (B).length h), (1, Vi f), (2, (.func (.func 132) #[] #[Vp b 0])), (6, Vi e), (7, Vi 0), (8, Vi (i64.wrap (2 * e)))]) (fun n k => match n with | (aa, _) => loopN (slices_stableCmpFunc_int__L14 f e) aa () = some av ∧ Ev (fl [blk a, [b]]) i k ∧ MS k [blk a, [b], d] ∧ FR i.heap.size [] ∧ NP (fl [blk a, [b]]) i.heap.size [blk a, [b]] ∧ OwnS (eInt .i64) 3 k (fl [blk a, [b], d]) a h B ∧ SlR (eInt .i64) k (fl [blk a, [b], d]) x y v ∧ k.heap[b]? = some (.cells #[.slice x (v).length y] 22 (0, 0))) (fun n => n.1) (ah, ()) ⟨R, R, R, R, R, R, trivial⟩ ⟨aj, m, p, A, q, t, r, s⟩ ?_)
   rintro ⟨ah, _⟩ C aS ⟨ae, m, p, A, q, t, r, s⟩
   rcases ah with _ | ah
   · exact (loopN_zero ae).elim
   obtain ⟨aN, c, ae⟩ := bind_some ae
   refine c_seq (c_sp (x_u 3 [(33, Vi (i64.wrap (2 * e))), (34, Vi f), (35, .bool (decide ((i64.wrap (2 * e)) ≤ f)))] (x_ek (c_nm [(0, .slice a (B).length h), (1, Vi f), (2, (.func (.func 132) #[] #[Vp b 0])), (6, Vi e), (7, Vi 0), (8, Vi (i64.wrap (2 * e))), (35, .bool (decide ((i64.wrap (2 * e)) ≤ f)))] (fun C => ?_)))))
   refine c_if (decide ((i64.wrap (2 * e)) ≤ f)) R c (fun c => ?_) (fun c => ?_)
   · refine c_skip (k_then (c_block (c_sp ?_)))
     cases c
   refine c_exit (k_then_exit ?_)
   obtain rfl := some_inj c
   have Z := some_inj ae
   subst Z
   replace c := ay
   refine k_then_exit (k_block_in (k_then (c_nm [(0, .slice a (B).length h), (1, Vi f), (2, (.func (.func 132) #[] #[Vp b 0])), (6, Vi e), (7, Vi 0)] (fun C => ?_))))
   refine c_seq (c_sp (x_u 4 [(49, Vi 0), (50, Vi e), (51, Vi (i64.wrap (0 + e))), (9, Vi (i64.wrap (0 + e)))] (x_ek (c_sp (x_u 3 [(52, Vi (i64.wrap (0 + e))), (53, Vi f), (54, .bool (decide ((i64.wrap (0 + e)) < f)))] (x_ek (c_if (decide ((i64.wrap (0 + e)) < f)) R c (fun c => ?_) (fun c => ?_))))))))
   · refine c_plain ?_
     cases c
   refine c_skip (k_then (c_plain (x_u 3 [(61, Vi e), (62, Vi (i64.wrap (e * 2))), (6, Vi (i64.wrap (e * 2)))] (x_end R (k_block ?_)))))
   obtain rfl := some_inj c
   exact k_then ⟨(ab, i64.wrap (e * 2)), ⟨R, R, R, R, trivial⟩, ⟨J, m, p, A, q, t, r, s⟩, Nat.lt_succ_self _⟩
 refine c_exit (k_then_exit ?_)
 obtain rfl := some_inj c
 have Z := some_inj J
 subst Z
 replace c := ax
 refine k_then_exit (k_block_in (r_normal (r_vals [] trivial ?_)))
 obtain rfl := some_inj c
 have aD := p.pick [some 0, some 1, some 2] [blk a, [b], d] R
 have aI := pick_sub (ls := [blk a, [b], d]) [some 0, some 1, some 2] [blk a, [b], d] R
 have aA := A.pick [] [] R
 exact ⟨R, m, t.sub aI, s, aD, aA, (NP.cons (q.at 0 R) (NP.cons (q.at 1 R) (NP.nil _ _)))⟩
def slices_SortStableFunc_int_int_ (a : List Int) (c : List Int) : Option (List Int) :=
((slices_stableCmpFunc_int_ a ((a).length : Int) c).bind fun b =>
(if b.length = a.length then
some b
else none))
theorem slices_SortStableFunc_int_int__w (a : Option Addr) (g : Nat) (f : List Int) (b : Nat) (l : Option Addr) (m : Nat) (k : List Int) (F : (List Int)) (d : World) (c : List Nat) (n : MS d [blk a, [b], c]) (v : OwnS (eInt .i64) 3 d (fl [blk a, [b], c]) a g f) (Q : SlR (eInt .i64) d (fl [blk a, [b], c]) l m k) (t : d.heap[b]? = some (.cells #[.slice l (k).length m] 22 (0, 0))) (e : slices_SortStableFunc_int_int_ f k = some F) : CallVC Tryz.prog 131 [.slice a (f).length g, (.func (.func 132) #[] #[Vp b 0])] d fun G q => G = .tuple #[] ∧ Ev (fl [blk a, [b]]) d q ∧ OwnS (eInt .i64) 3 q (fl [blk a, [b], c]) a g F ∧ q.heap[b]? = some (.cells #[.slice l (k).length m] 22 (0, 0)) ∧ MS q [blk a, [b], c] ∧ FR d.heap.size [] ∧ NP (fl [blk a, [b]]) d.heap.size [blk a, [b]] := by
 refine calls_vc hmx Tryz.func131 (by kernel_rfl) R (rs := []) R (by kernel_rfl) (args := [.slice a (f).length g, (.func (.func 132) #[] #[Vp b 0])]) R ?_
 have j : Ev (fl [blk a, [b]]) d d := Ev.refl _ _
 have J : FR d.heap.size [] := FR.nil _
 have o : NP (fl [blk a, [b]]) d.heap.size [blk a, [b]] := NP.init _ _
 refine c_plain (x_u 2 [(4, .slice a (f).length g), (5, .slice a (f).length g)] (x_len (vs := [.slice a (f).length g]) (Vi ((f).length : Int)) R R R (reads_len tsl22 _ _ _ _ _) (x_u 1 [(7, (.func (.func 132) #[] #[Vp b 0]))] ?_)))
 obtain ⟨X, p, e⟩ := bind_some e
 have A : MS d ([blk a, [b]] ++ [c]) := n.pick [some 0, some 1, some 2] _ R
 have D : ∀ i ∈ fl ([blk a, [b]] ++ [c]), i ∈ fl [blk a, [b], c] := pick_sub [some 0, some 1, some 2] _ R
 have w : ∀ i ∈ fl ([blk a, [b]] ++ [(fl [c])]), i ∈ fl [blk a, [b], c] := fun i p => D i (fl_unfold i p)
 have x := slices_stableCmpFunc_int__w a g f ((f).length : Int) b l m k _ d (fl [c]) (A.fold (P := [blk a, [b]])) (v.sub w) (Q.sub w) t p
 refine x_call 146 #[] #[] [.slice a (f).length g, Vi ((f).length : Int), (.func (.func 132) #[] #[Vp b 0])] _ R R R R x ?_
 rintro G U ⟨rfl, y, N, O, K, I, u⟩
 clear x p
 refine inl1 ?_
 have B : MS d ([blk a, [b]] ++ [c]) := n.pick [some 0, some 1, some 2] _ R
 replace n : MS U [blk a, [b], c] := (MS.call (P := [blk a, [b]]) (R := [c]) (res := []) (par := [blk a, [b]]) B y K I u).pick [some 0, some 1, some 2] _ R
 have r : ∀ h ∈ fl [blk a, [b]], h ∈ (fl [blk a, [b]]) ∨ d.heap.size ≤ h := NP.mem (ls := [blk a, [b]]) (o.pick [some 0, some 1] _ R)
 have C : NP (fl [blk a, [b]]) d.heap.size [blk a, [b]] := (NP.cons (fun h s => (u.at 0 R h s).elim (fun e => r h e) (fun e => .inr (Nat.le_trans j.size e))) (NP.cons (fun h s => (u.at 1 R h s).elim (fun e => r h e) (fun e => .inr (Nat.le_trans j.size e))) (NP.nil _ _)))
 replace j := j.then y r
 replace o := C
 clear C
 replace t := O
 replace v := OwnS.plain (M' := fl [blk a, [b], c]) (plain_int _) N
 clear A w D B
 have z := guard_l e
 replace e := guard_r e
 have E : (Value.slice a (f).length g) = (Value.slice a (X).length g) := by first | (rw [z]; done) | simp only [z]
 try rw [E]
 clear E
 refine x_end R (r_normal (r_vals [] trivial ?_))
 obtain rfl := some_inj e
 have L := n.pick [some 0, some 1, some 2] [blk a, [b], c] R
 have S := pick_sub (ls := [blk a, [b], c]) [some 0, some 1, some 2] [blk a, [b], c] R
 have H := J.pick [] [] R
 exact ⟨R, j, v.sub S, t, L, H, (NP.cons (o.at 0 R) (NP.cons (o.at 1 R) (NP.nil _ _)))⟩
end Go.Proofs.YtlejnkhaphlooaaGreat
