
/- Walks, printed by program: each function returns what the partial function of the same name returns. Conditions: those of each theorem. -/
import Derived.Test.YtlejnkhaphlooaaGreatGT
import Derived.Test.YtlejnkhaphlooaaGreatGcmp
set_option linter.unusedVariables false
set_option linter.unusedSimpArgs false
set_option maxRecDepth 4000
namespace Go.Proofs.YtlejnkhaphlooaaGreat
open Go Go.V Go.Proofs Go.IntKind
def planner_Schemes_1 (a : Int) (b : Int) (c : Int) (h : Int) (d : Int) (e : Int) (f : Int) (i : Int) : Option Int :=
((cmp_Or_int_ ([i64.wrap (b - e), i64.wrap (c - f), i64.wrap (a - d)])).bind fun g =>
some g)
theorem planner_Schemes_1_w (a : Int) (b : Int) (d : Int) (n : Int) (e : Int) (f : Int) (g : Int) (o : Int) (B : Int) (p : World) (r : planner_Schemes_1 a b d n e f g o = some B) : CallVC Tryz.prog 49 [.agg #[Vi a, Vi b, Vi d, Vi n], .agg #[Vi e, Vi f, Vi g, Vi o]] p fun C K => C = Vi B ∧ Ev [] p K := by
 refine calls_vc hmx Tryz.func49 (by kernel_rfl) R (rs := [.tmp 4]) R (by kernel_rfl) (args := [.agg #[Vi a, Vi b, Vi d, Vi n], .agg #[Vi e, Vi f, Vi g, Vi o]]) R ?_
 have j : Ev [] p p := Ev.refl _ _
 have l : MS p [[]] := ⟨List.pairwise_singleton _ _, fun Y y Q E => by simp only [List.mem_singleton] at y; subst y; cases E⟩
 refine c_sp (x_box (xv := .agg #[Vi a, Vi b, Vi d, Vi n]) R R R (fun h L G k w S => ?_))
 replace k : L.heap[h]? = some (.cells #[Vi a, Vi b, Vi d, Vi n] 48 (0, 0)) := k
 refine inl1 ?_
 replace l := l.box w G k
 replace j := j.ext w
 refine x_box (xv := .agg #[Vi e, Vi f, Vi g, Vi o]) R R R (fun i N H m s U => ?_)
 replace m : N.heap[i]? = some (.cells #[Vi e, Vi f, Vi g, Vi o] 48 (0, 0)) := m
 refine inl1 ?_
 replace k := s.box k nn
 replace l := l.box s H m
 replace j := j.ext s
 refine x_u 1 [(4, Vi 0)] (x_ek (c_sp (x_fieldAddr (xv := Vp h 0) (Vp h 1) R R R (reads_field tfld48_1 _ _) (x_load (xv := Vp h 1) (Vi b) R R R (reads_box tcell3 k nn 1 _ R) (x_fieldAddr (xv := Vp i 0) (Vp i 1) R R R (reads_field tfld48_1 _ _) (x_load (xv := Vp i 1) (Vi f) R R R (reads_box tcell3 m nn 1 _ R) (x_u 1 [(9, Vi (i64.wrap (b - f)))] (x_fieldAddr (xv := Vp h 0) (Vp h 2) R R R (reads_field tfld48_2 _ _) (x_load (xv := Vp h 2) (Vi d) R R R (reads_box tcell3 k nn 2 _ R) ?_)))))))))
 refine x_fieldAddr (xv := Vp i 0) (Vp i 2) R R R (reads_field tfld48_2 _ _) (x_load (xv := Vp i 2) (Vi g) R R R (reads_box tcell3 m nn 2 _ R) (x_u 1 [(14, Vi (i64.wrap (d - g)))] (x_fieldAddr (xv := Vp h 0) (Vp h 0) R R R (reads_field tfld48_0 _ _) (x_load (xv := Vp h 0) (Vi a) R R R (reads_box tcell3 k nn 0 _ R) (x_fieldAddr (xv := Vp i 0) (Vp i 0) R R R (reads_field tfld48_0 _ _) (x_load (xv := Vp i 0) (Vi e) R R R (reads_box tcell3 m nn 0 _ R) (x_u 1 [(19, Vi (i64.wrap (a - e)))] (x_buildSlice (vs := [(0, Vi (i64.wrap (b - f))), (1, Vi (i64.wrap (d - g))), (2, Vi (i64.wrap (a - e)))]) #[Vi (i64.wrap (b - f)), Vi (i64.wrap (d - g)), Vi (i64.wrap (a - e))] 3 R R R (by kernel_rfl) (fun q D I u x X => ?_)))))))))
 refine inl1 ?_
 have z := l
 replace l := l.ev x
 replace j := j.ext x
 have J : SlR (eInt .i64) D (fl [[i], [h], []]) (Ad q 0) 3 ([i64.wrap (b - f), i64.wrap (d - g), i64.wrap (a - e)]) := ro_of_box z I u R R (cells_at (cs := [Vi (i64.wrap (b - f)), Vi (i64.wrap (d - g)), Vi (i64.wrap (a - e))]) (CellsOf.cons (c := [Vi (i64.wrap (b - f))]) R (CellsOf.cons (c := [Vi (i64.wrap (d - g))]) R (CellsOf.cons (c := [Vi (i64.wrap (a - e))]) R CellsOf.nil))))
 clear u z
 obtain ⟨t, A, r⟩ := bind_some r
 have v := cmp_Or_int__w (Ad q 0) 3 ([i64.wrap (b - f), i64.wrap (d - g), i64.wrap (a - e)]) _ D (fl [[i], [h], []]) (MS.fold (P := []) l) (J.sub fl1) A
 refine x_call 50 #[] #[] [.slice (Ad q 0) ([i64.wrap (b - f), i64.wrap (d - g), i64.wrap (a - e)]).length 3] _ R R R R v ?_
 rintro C Z ⟨rfl, F⟩
 clear v A
 refine inl1 ?_
 replace j := j.ext F
 refine x_u 1 [(4, Vi t)] (x_ek (c_nm [(4, Vi t)] (fun O => ?_)))
 refine c_ret (r_ret (r_vals [Vi t] ⟨R, trivial⟩ ?_))
 obtain rfl := some_inj r
 exact ⟨R, j⟩
def slices_insertionSortCmpFunc_humpyard_api_Scheme__L4 (g : Int) (h : (List (Int × Int × Int × Int)) × Int) : Option (Step ((List (Int × Int × Int × Int)) × Int) (List (Int × Int × Int × Int))) :=
match h with
| (b, a) =>
(if (decide (a > g)) = true then
((idx b a).bind fun e =>
((idx b (i64.wrap (a - 1))).bind fun f =>
((planner_Schemes_1 e.1 e.2.1 e.2.2.1 e.2.2.2 f.1 f.2.1 f.2.2.1 f.2.2.2).bind fun i =>
(if (decide (i < 0)) = true then
((idx b (i64.wrap (a - 1))).bind fun c =>
((idx b a).bind fun d =>
((idx b a).bind fun j =>
((idx (b.set (Int.toNat a) (c.1, c.2.1, c.2.2.1, c.2.2.2)) (i64.wrap (a - 1))).bind fun k =>
some (.next (((b.set (Int.toNat a) (c.1, c.2.1, c.2.2.1, c.2.2.2)).set (Int.toNat (i64.wrap (a - 1))) (d.1, d.2.1, d.2.2.1, d.2.2.2)), i64.wrap (a - 1)))))))
else
some (.done b)))))
else
some (.done b))
def slices_insertionSortCmpFunc_humpyard_api_Scheme__L2 (e : Int) (f : Int) (g : (List (Int × Int × Int × Int)) × Int) : Option (Step ((List (Int × Int × Int × Int)) × Int) (List (Int × Int × Int × Int))) :=
match g with
| (b, a) =>
(if (decide (a < f)) = true then
((loop (slices_insertionSortCmpFunc_humpyard_api_Scheme__L4 e) (b, a)).bind fun c => match c with
| d => some (.next (d, i64.wrap (a + 1))))
else
some (.done b))
def slices_insertionSortCmpFunc_humpyard_api_Scheme_ (d : List (Int × Int × Int × Int)) (a : Int) (e : Int) : Option (List (Int × Int × Int × Int)) :=
((loop (slices_insertionSortCmpFunc_humpyard_api_Scheme__L2 a e) (d, i64.wrap (a + 1))).bind fun b => match b with
| c => some c)
theorem slices_insertionSortCmpFunc_humpyard_api_Scheme__w (c : Option Addr) (g : Nat) (I : List (Int × Int × Int × Int)) (j : Int) (m : Int) (ap : (List (Int × Int × Int × Int))) (o : World) (p : List Nat) (l : MS o [blk c, p]) (i : OwnS (eIt4) 48 o (fl [blk c, p]) c g I) (d : slices_insertionSortCmpFunc_humpyard_api_Scheme_ I j m = some ap) : CallVC Tryz.prog 107 [.slice c (I).length g, Vi j, Vi m, (.func (.func 49) #[] #[])] o fun aq u => aq = .tuple #[] ∧ Ev (fl [blk c]) o u ∧ OwnS (eIt4) 48 u (fl [blk c, p]) c g ap ∧ MS u [blk c, p] ∧ FR o.heap.size [] ∧ NP (fl [blk c]) o.heap.size [blk c] := by
 refine calls_vc hmx Tryz.func107 (by kernel_rfl) R (rs := []) R (by kernel_rfl) (args := [.slice c (I).length g, Vi j, Vi m, (.func (.func 49) #[] #[])]) R ?_
 have k : Ev (fl [blk c]) o o := Ev.refl _ _
 have w : FR o.heap.size [] := FR.nil _
 have v : NP (fl [blk c]) o.heap.size [blk c] := NP.init _ _
 refine c_sp (x_u 3 [(10, Vi j), (11, Vi (i64.wrap (j + 1))), (8, Vi (i64.wrap (j + 1)))] (x_ek (c_block ?_)))
 obtain ⟨ar, O, av⟩ := bind_some d
 obtain ⟨D, O⟩ := loop_some O
 refine c_loop (loop_rule hmx (σ := Nat × (List (Int × Int × Int × Int)) × Int) (fun t => match t with | (_, z, h) => [(0, .slice c (z).length g), (1, Vi j), (2, Vi m), (3, (.func (.func 49) #[] #[])), (8, Vi h)]) (fun t u => match t with | (Y, z, h) => loopN (slices_insertionSortCmpFunc_humpyard_api_Scheme__L2 j m) Y (z, h) = some ar ∧ Ev (fl [blk c]) o u ∧ MS u [blk c, p] ∧ FR o.heap.size [] ∧ NP (fl [blk c]) o.heap.size [blk c] ∧ OwnS (eIt4) 48 u (fl [blk c, p]) c g z) (fun t => t.1) (D, I, i64.wrap (j + 1)) ⟨R, R, R, R, R, trivial⟩ ⟨O, k, l, w, v, i⟩ ?_)
 rintro ⟨D, z, h⟩ x bd ⟨B, k, l, w, v, i⟩
 rcases D with _ | D
 · exact (loopN_zero B).elim
 obtain ⟨bb, d, B⟩ := bind_some B
 refine c_seq (c_sp (x_u 3 [(12, Vi h), (13, Vi m), (14, .bool (decide (h < m)))] (x_ek (c_nm [(0, .slice c (z).length g), (1, Vi j), (2, Vi m), (3, (.func (.func 49) #[] #[])), (8, Vi h), (14, .bool (decide (h < m)))] (fun x => ?_)))))
 refine c_if (decide (h < m)) R d (fun d => ?_) (fun d => ?_)
 · refine c_skip (k_then (c_seq (c_block (c_sp (x_u 2 [(17, Vi h), (9, Vi h)] (x_ek (c_block ?_)))))))
   obtain ⟨au, Q, af⟩ := bind_some d
   obtain ⟨H, Q⟩ := loop_some Q
   refine c_loop (loop_rule hmx (σ := Nat × (List (Int × Int × Int × Int)) × Int) (fun t => match t with | (_, f, b) => [(0, .slice c (f).length g), (1, Vi j), (2, Vi m), (3, (.func (.func 49) #[] #[])), (8, Vi h), (9, Vi b)]) (fun t u => match t with | (Y, f, b) => loopN (slices_insertionSortCmpFunc_humpyard_api_Scheme__L4 j) Y (f, b) = some au ∧ Ev (fl [blk c]) o u ∧ MS u [blk c, p] ∧ FR o.heap.size [] ∧ NP (fl [blk c]) o.heap.size [blk c] ∧ OwnS (eIt4) 48 u (fl [blk c, p]) c g f) (fun t => t.1) (H, z, h) ⟨R, R, R, R, R, R, trivial⟩ ⟨Q, k, l, w, v, i⟩ ?_)
   rintro ⟨H, f, b⟩ x J ⟨C, k, l, w, v, i⟩
   rcases H with _ | H
   · exact (loopN_zero C).elim
   obtain ⟨bc, d, C⟩ := bind_some C
   refine c_seq (c_seq (c_drawn [] [(0, false), (1, false), (2, false), (3, false), (4, false), (5, false), (6, false), (7, false), (8, false), (9, false), (10, false), (11, false), (12, false), (13, false), (14, true), (15, false), (16, false)] _ (by kernel_rfl) R ?_))
   have F := Stp.ext (ls := [blk c, p]) (Ev.drew J)
   replace i := i.step F (Ev.drew J) nn2
   replace l := l.ev (Ev.drew J)
   replace k := k.ext (Ev.drew J)
   refine x_u 4 [(18, Vi b), (19, Vi j), (20, .bool (decide (b > j))), (21, .bool (decide (b > j)))] (x_if 21 (decide (b > j)) R d (fun d => ?_) (fun d => ?_))
   · refine x_u 3 [(22, (.func (.func 49) #[] #[])), (23, .slice c (f).length g), (24, Vi b)] ?_
     obtain ⟨q, aS, d⟩ := bind_some d
     obtain ⟨ad, a3, a7, aN, aA, s⟩ := own_index (Mo := []) tsl44 i aS
     obtain ⟨_, _, rfl, rfl, ⟨_, _, rfl, rfl, ⟨_, _, rfl, rfl, rfl⟩⟩⟩ := s
     refine x_indexAddr (xv := .slice c (f).length g) (yv := Vi b) (.pointer (some ⟨ad, (Int.toNat b) * (eIt4).n, none⟩)) R R R R aN (x_load (xv := .pointer (some ⟨ad, (Int.toNat b) * (eIt4).n, none⟩)) (.agg #[Vi q.1, Vi q.2.1, Vi q.2.2.1, Vi q.2.2.2]) R R R (reads_agg tagg48 aA (fun _ d => by cases d)) ?_)
     refine x_u 3 [(27, .slice c (f).length g), (28, Vi b), (29, Vi (i64.wrap (b - 1)))] ?_
     obtain ⟨r, aU, d⟩ := bind_some d
     obtain ⟨ae, a4, a8, aO, aB, s⟩ := own_index (Mo := []) tsl44 i aU
     obtain ⟨_, _, rfl, rfl, ⟨_, _, rfl, rfl, ⟨_, _, rfl, rfl, rfl⟩⟩⟩ := s
     refine x_indexAddr (xv := .slice c (f).length g) (yv := Vi (i64.wrap (b - 1))) (.pointer (some ⟨ae, (Int.toNat (i64.wrap (b - 1))) * (eIt4).n, none⟩)) R R R R aO (x_load (xv := .pointer (some ⟨ae, (Int.toNat (i64.wrap (b - 1))) * (eIt4).n, none⟩)) (.agg #[Vi r.1, Vi r.2.1, Vi r.2.2.1, Vi r.2.2.2]) R R R (reads_agg tagg48 aB (fun _ d => by cases d)) ?_)
     obtain ⟨N, ai, d⟩ := bind_some d
     have ag := planner_Schemes_1_w q.1 q.2.1 q.2.2.1 q.2.2.2 r.1 r.2.1 r.2.2.1 r.2.2.2 _ (J).drew ai
     refine x_call 49 #[] #[] [.agg #[Vi q.1, Vi q.2.1, Vi q.2.2.1, Vi q.2.2.2], .agg #[Vi r.1, Vi r.2.1, Vi r.2.2.1, Vi r.2.2.2]] _ R R R R ag ?_
     rintro aq L ⟨rfl, K⟩
     clear ag ai
     refine inl1 ?_
     have F := Stp.ext (ls := [blk c, p]) K
     replace i := i.step F K nn2
     replace l := l.ev K
     replace k := k.ext K
     refine x_u 2 [(33, .bool (decide (N < 0))), (34, .bool (decide (N < 0)))] (x_ek (c_nm [(0, .slice c (f).length g), (1, Vi j), (2, Vi m), (3, (.func (.func 49) #[] #[])), (8, Vi h), (9, Vi b), (34, .bool (decide (N < 0)))] (fun x => ?_)))
     refine c_if (decide (N < 0)) R d (fun d => ?_) (fun d => ?_)
     · refine c_skip (k_then (c_seq (c_block (c_drawn (blk c) [(0, true), (1, true), (2, false), (3, false), (4, false), (5, true), (6, true), (7, true), (8, true), (9, true), (10, true), (11, true), (12, true), (13, true), (14, true), (15, false), (16, true), (17, true)] _ (by kernel_rfl) R ?_))))
       have F := Stp.ext (ls := [blk c, p]) (Ev.drew L)
       replace i := i.step F (Ev.drew L) nn2
       replace l := l.ev (Ev.drew L)
       replace k := k.ext (Ev.drew L)
       refine x_u 8 [(37, .slice c (f).length g), (38, Vi b), (39, .slice c (f).length g), (40, Vi b), (41, Vi (i64.wrap (b - 1))), (42, .slice c (f).length g), (43, Vi b), (44, Vi (i64.wrap (b - 1)))] ?_
       obtain ⟨a, aj, d⟩ := bind_some d
       obtain ⟨Z, aZ, a5, aG, ay, s⟩ := own_index (Mo := []) tsl44 i aj
       obtain ⟨_, _, rfl, rfl, ⟨_, _, rfl, rfl, ⟨_, _, rfl, rfl, rfl⟩⟩⟩ := s
       refine x_indexAddr (xv := .slice c (f).length g) (yv := Vi (i64.wrap (b - 1))) (.pointer (some ⟨Z, (Int.toNat (i64.wrap (b - 1))) * (eIt4).n, none⟩)) R R R R aG (x_load (xv := .pointer (some ⟨Z, (Int.toNat (i64.wrap (b - 1))) * (eIt4).n, none⟩)) (.agg #[Vi a.1, Vi a.2.1, Vi a.2.2.1, Vi a.2.2.2]) R R R (reads_agg tagg48 ay (fun _ d => by cases d)) ?_)
       refine x_u 2 [(47, .slice c (f).length g), (48, Vi b)] ?_
       obtain ⟨e, ak, d⟩ := bind_some d
       obtain ⟨aa, a0, a6, aH, az, s⟩ := own_index (Mo := []) tsl44 i ak
       obtain ⟨_, _, rfl, rfl, ⟨_, _, rfl, rfl, ⟨_, _, rfl, rfl, rfl⟩⟩⟩ := s
       refine x_indexAddr (xv := .slice c (f).length g) (yv := Vi b) (.pointer (some ⟨aa, (Int.toNat b) * (eIt4).n, none⟩)) R R R R aH (x_load (xv := .pointer (some ⟨aa, (Int.toNat b) * (eIt4).n, none⟩)) (.agg #[Vi e.1, Vi e.2.1, Vi e.2.2.1, Vi e.2.2.2]) R R R (reads_agg tagg48 az (fun _ d => by cases d)) ?_)
       obtain ⟨be, al, d⟩ := bind_some d
       obtain ⟨ab, a1, aw, aI, a9, s⟩ := own_index (Mo := []) tsl44 i al
       obtain ⟨_, _, rfl, rfl, ⟨_, _, rfl, rfl, ⟨_, _, rfl, rfl, rfl⟩⟩⟩ := s
       refine x_indexAddr (xv := .slice c (f).length g) (yv := Vi b) (.pointer (some ⟨ab, (Int.toNat b) * (eIt4).n, none⟩)) R R R R aI ?_
       have U := aj
       have X := ak
       obtain ⟨aX, aJ, S, aE⟩ := own_storeAE aw (y := (a.1, a.2.1, a.2.2.1, a.2.2.2)) [Vi a.1, Vi a.2.1, Vi a.2.2.1, Vi a.2.2.2] tagg48 i (mem_flat 0 R) al R R (fun _ _ => ⟨[Vi a.1], [Vi a.2.1, Vi a.2.2.1, Vi a.2.2.2], R, R, ⟨[Vi a.2.1], [Vi a.2.2.1, Vi a.2.2.2], R, R, ⟨[Vi a.2.2.1], [Vi a.2.2.2], R, R, R⟩⟩⟩)
       refine x_store aX (xv := .pointer (some ⟨ab, (Int.toNat b) * (eIt4).n, none⟩)) (yv := .agg #[Vi a.1, Vi a.2.1, Vi a.2.2.1, Vi a.2.2.2]) R R R R aJ (⟨.inr S, ?_⟩)
       replace l := l.ev S
       replace k := k.then S (v.at 0 R)
       replace i := aE
       have E : (Value.slice c (f).length g) = (Value.slice c ((f.set (Int.toNat b) (a.1, a.2.1, a.2.2.1, a.2.2.2))).length g) := by first | (rw [List.length_set]; done) | simp only [List.length_set]
       try rw [E]
       clear E
       obtain ⟨_, U⟩ : ∃ A, idx (f.set (Int.toNat b) (a.1, a.2.1, a.2.2.1, a.2.2.2)) (i64.wrap (b - 1)) = some A := idx_set_any U _ _
       obtain ⟨_, X⟩ : ∃ A, idx (f.set (Int.toNat b) (a.1, a.2.1, a.2.2.1, a.2.2.2)) b = some A := idx_set_any X _ _
       obtain ⟨bf, am, d⟩ := bind_some d
       obtain ⟨ac, a2, ax, aK, ba, s⟩ := own_index (Mo := []) tsl44 i am
       obtain ⟨_, _, rfl, rfl, ⟨_, _, rfl, rfl, ⟨_, _, rfl, rfl, rfl⟩⟩⟩ := s
       refine x_indexAddr (xv := .slice c ((f.set (Int.toNat b) (a.1, a.2.1, a.2.2.1, a.2.2.2))).length g) (yv := Vi (i64.wrap (b - 1))) (.pointer (some ⟨ac, (Int.toNat (i64.wrap (b - 1))) * (eIt4).n, none⟩)) R R R R aK ?_
       have an := U
       have ao := X
       obtain ⟨aY, aL, ah, aF⟩ := own_storeAE ax (y := (e.1, e.2.1, e.2.2.1, e.2.2.2)) [Vi e.1, Vi e.2.1, Vi e.2.2.1, Vi e.2.2.2] tagg48 i (mem_flat 0 R) am R R (fun _ _ => ⟨[Vi e.1], [Vi e.2.1, Vi e.2.2.1, Vi e.2.2.2], R, R, ⟨[Vi e.2.1], [Vi e.2.2.1, Vi e.2.2.2], R, R, ⟨[Vi e.2.2.1], [Vi e.2.2.2], R, R, R⟩⟩⟩)
       refine x_store aY (xv := .pointer (some ⟨ac, (Int.toNat (i64.wrap (b - 1))) * (eIt4).n, none⟩)) (yv := .agg #[Vi e.1, Vi e.2.1, Vi e.2.2.1, Vi e.2.2.2]) R R R R aL (inl1 ?_)
       replace l := l.ev ah
       replace k := k.then ah (v.at 0 R)
       replace i := aF
       have E : (Value.slice c ((f.set (Int.toNat b) (a.1, a.2.1, a.2.2.1, a.2.2.2))).length g) = (Value.slice c (((f.set (Int.toNat b) (a.1, a.2.1, a.2.2.1, a.2.2.2)).set (Int.toNat (i64.wrap (b - 1))) (e.1, e.2.1, e.2.2.1, e.2.2.2))).length g) := by first | (rw [List.length_set]; done) | simp only [List.length_set]
       try rw [E]
       clear E
       obtain ⟨_, an⟩ : ∃ A, idx ((f.set (Int.toNat b) (a.1, a.2.1, a.2.2.1, a.2.2.2)).set (Int.toNat (i64.wrap (b - 1))) (e.1, e.2.1, e.2.2.1, e.2.2.2)) (i64.wrap (b - 1)) = some A := idx_set_any an _ _
       obtain ⟨_, ao⟩ : ∃ A, idx ((f.set (Int.toNat b) (a.1, a.2.1, a.2.2.1, a.2.2.2)).set (Int.toNat (i64.wrap (b - 1))) (e.1, e.2.1, e.2.2.1, e.2.2.2)) b = some A := idx_set_any ao _ _
       refine x_end R (k_block (k_then (c_nm [(0, .slice c (((f.set (Int.toNat b) (a.1, a.2.1, a.2.2.1, a.2.2.2)).set (Int.toNat (i64.wrap (b - 1))) (e.1, e.2.1, e.2.2.1, e.2.2.2))).length g), (1, Vi j), (2, Vi m), (3, (.func (.func 49) #[] #[])), (8, Vi h), (9, Vi b)] (fun x => ?_))))
       refine c_plain (x_u 3 [(35, Vi b), (36, Vi (i64.wrap (b - 1))), (9, Vi (i64.wrap (b - 1)))] (x_end R ?_))
       obtain rfl := some_inj d
       exact k_then ⟨(H, ((f.set (Int.toNat b) (a.1, a.2.1, a.2.2.1, a.2.2.2)).set (Int.toNat (i64.wrap (b - 1))) (e.1, e.2.1, e.2.2.1, e.2.2.2)), i64.wrap (b - 1)), ⟨R, R, R, R, R, R, trivial⟩, ⟨C, k, l, w, v, i⟩, Nat.lt_succ_self _⟩
     refine c_exit (k_then_exit ?_)
     obtain rfl := some_inj d
     have G := some_inj C
     subst G
     replace d := af
     refine k_then_exit (k_block_in (k_block (k_then (c_nm [(0, .slice c (f).length g), (1, Vi j), (2, Vi m), (3, (.func (.func 49) #[] #[])), (8, Vi h)] (fun x => ?_)))))
     refine c_plain (x_u 3 [(15, Vi h), (16, Vi (i64.wrap (h + 1))), (8, Vi (i64.wrap (h + 1)))] (x_end R ?_))
     obtain rfl := some_inj d
     exact k_then ⟨(D, f, i64.wrap (h + 1)), ⟨R, R, R, R, R, trivial⟩, ⟨B, k, l, w, v, i⟩, Nat.lt_succ_self _⟩
   refine x_u 13 [(22, undef), (23, undef), (24, undef), (25, undef), (26, undef), (27, undef), (28, undef), (29, undef), (30, undef), (31, undef), (32, undef), (33, undef), (34, .bool false)] (x_ek (c_nm [(0, .slice c (f).length g), (1, Vi j), (2, Vi m), (3, (.func (.func 49) #[] #[])), (8, Vi h), (9, Vi b), (34, .bool false)] (fun x => ?_)))
   refine c_false R (c_exit (k_then_exit ?_))
   obtain rfl := some_inj d
   have G := some_inj C
   subst G
   replace d := af
   refine k_then_exit (k_block_in (k_block (k_then (c_nm [(0, .slice c (f).length g), (1, Vi j), (2, Vi m), (3, (.func (.func 49) #[] #[])), (8, Vi h)] (fun x => ?_)))))
   refine c_plain (x_u 3 [(15, Vi h), (16, Vi (i64.wrap (h + 1))), (8, Vi (i64.wrap (h + 1)))] (x_end R ?_))
   obtain rfl := some_inj d
   exact k_then ⟨(D, f, i64.wrap (h + 1)), ⟨R, R, R, R, R, trivial⟩, ⟨B, k, l, w, v, i⟩, Nat.lt_succ_self _⟩
 refine c_exit (k_then_exit ?_)
 obtain rfl := some_inj d
 have G := some_inj B
 subst G
 replace d := av
 refine k_then_exit (k_block_in (r_normal (r_vals [] trivial ?_)))
 obtain rfl := some_inj d
 have aD := l.pick [some 0, some 1] [blk c, p] R
 have aQ := pick_sub (ls := [blk c, p]) [some 0, some 1] [blk c, p] R
 have aC := w.pick [] [] R
 exact ⟨R, k, i.sub aQ, aD, aC, (NP.cons (v.at 0 R) (NP.nil _ _))⟩
def slices_stableCmpFunc_humpyard_api_Scheme__L12 (b : Int) (a : Int) (c : Unit) : Option (Step Unit Unit) :=
(if (decide ((i64.wrap (2 * a)) ≤ b)) = true then
none
else
some (.done ()))
def slices_stableCmpFunc_humpyard_api_Scheme__L9 (b : Int) (d : Int) : Option (Step Int Unit) :=
match d with
| a =>
(if (decide (a < b)) = true then
((loop (slices_stableCmpFunc_humpyard_api_Scheme__L12 b a) ()).bind fun c => match c with
| _ => (if (decide ((i64.wrap (0 + a)) < b)) = true then
none
else
some (.next (i64.wrap (a * 2)))))
else
some (.done ()))
def slices_stableCmpFunc_humpyard_api_Scheme__L3 (e : Int) (f : (List (Int × Int × Int × Int)) × Int × Int) : Option (Step ((List (Int × Int × Int × Int)) × Int × Int) ((List (Int × Int × Int × Int)) × Int)) :=
match f with
| (b, c, a) =>
(if (decide (a ≤ e)) = true then
((slices_insertionSortCmpFunc_humpyard_api_Scheme_ b c a).bind fun d =>
(if d.length = b.length then
some (.next (d, a, i64.wrap (a + 20)))
else none))
else
some (.done (b, c)))
def slices_stableCmpFunc_humpyard_api_Scheme_ (f : List (Int × Int × Int × Int)) (b : Int) : Option (List (Int × Int × Int × Int)) :=
((loop (slices_stableCmpFunc_humpyard_api_Scheme__L3 b) (f, 0, 20)).bind fun a => match a with
| (c, e) => ((slices_insertionSortCmpFunc_humpyard_api_Scheme_ c e b).bind fun d =>
(if d.length = c.length then
((loop (slices_stableCmpFunc_humpyard_api_Scheme__L9 b) 20).bind fun a => match a with
| _ => some d)
else none)))
theorem slices_stableCmpFunc_humpyard_api_Scheme__w (a : Option Addr) (f : Nat) (N : List (Int × Int × Int × Int)) (e : Int) (ae : (List (Int × Int × Int × Int))) (g : World) (c : List Nat) (l : MS g [blk a, c]) (o : OwnS (eIt4) 48 g (fl [blk a, c]) a f N) (b : slices_stableCmpFunc_humpyard_api_Scheme_ N e = some ae) : CallVC Tryz.prog 78 [.slice a (N).length f, Vi e, (.func (.func 49) #[] #[])] g fun Z m => Z = .tuple #[] ∧ Ev (fl [blk a]) g m ∧ OwnS (eIt4) 48 m (fl [blk a, c]) a f ae ∧ MS m [blk a, c] ∧ FR g.heap.size [] ∧ NP (fl [blk a]) g.heap.size [blk a] := by
 refine calls_vc hmx Tryz.func78 (by kernel_rfl) R (rs := []) R (by kernel_rfl) (args := [.slice a (N).length f, Vi e, (.func (.func 49) #[] #[])]) R ?_
 have k : Ev (fl [blk a]) g g := Ev.refl _ _
 have s : FR g.heap.size [] := FR.nil _
 have n : NP (fl [blk a]) g.heap.size [blk a] := NP.init _ _
 refine c_sp (x_u 1 [(6, Vi 20)] (x_ek (c_sp (x_u 3 [(10, Vi 20), (7, Vi 0), (8, Vi 20)] (x_ek (c_seq (c_block ?_)))))))
 obtain ⟨ah, X, ak⟩ := bind_some b
 obtain ⟨K, X⟩ := loop_some X
 refine c_loop (loop_rule hmx (σ := Nat × (List (Int × Int × Int × Int)) × Int × Int) (fun i => match i with | (_, j, q, h) => [(0, .slice a (j).length f), (1, Vi e), (2, (.func (.func 49) #[] #[])), (6, Vi 20), (7, Vi q), (8, Vi h)]) (fun i m => match i with | (J, j, q, h) => loopN (slices_stableCmpFunc_humpyard_api_Scheme__L3 e) J (j, q, h) = some ah ∧ Ev (fl [blk a]) g m ∧ MS m [blk a, c] ∧ FR g.heap.size [] ∧ NP (fl [blk a]) g.heap.size [blk a] ∧ OwnS (eIt4) 48 m (fl [blk a, c]) a f j) (fun i => i.1) (K, N, 0, 20) ⟨R, R, R, R, R, R, trivial⟩ ⟨X, k, l, s, n, o⟩ ?_)
 rintro ⟨K, j, q, h⟩ v w ⟨A, k, l, s, n, o⟩
 rcases K with _ | K
 · exact (loopN_zero A).elim
 obtain ⟨aA, b, A⟩ := bind_some A
 refine c_seq (c_sp (x_u 3 [(11, Vi h), (12, Vi e), (13, .bool (decide (h ≤ e)))] (x_ek (c_nm [(0, .slice a (j).length f), (1, Vi e), (2, (.func (.func 49) #[] #[])), (6, Vi 20), (7, Vi q), (8, Vi h), (13, .bool (decide (h ≤ e)))] (fun v => ?_)))))
 refine c_if (decide (h ≤ e)) R b (fun b => ?_) (fun b => ?_)
 · refine c_skip (k_then (c_block (c_sp (x_u 4 [(14, .slice a (j).length f), (15, Vi q), (16, Vi h), (17, (.func (.func 49) #[] #[]))] ?_))))
   obtain ⟨af, t, b⟩ := bind_some b
   have C : MS w ([blk a] ++ [c]) := l.pick [some 0, some 1] _ R
   have G : ∀ p ∈ fl ([blk a] ++ [c]), p ∈ fl [blk a, c] := pick_sub [some 0, some 1] _ R
   have F : ∀ p ∈ fl ([blk a] ++ [(fl [c])]), p ∈ fl [blk a, c] := fun p t => G p (fl_unfold p t)
   have y := slices_insertionSortCmpFunc_humpyard_api_Scheme__w a f j q h _ w (fl [c]) (C.fold (P := [blk a])) (o.sub F) t
   refine x_call 107 #[] #[] [.slice a (j).length f, Vi q, Vi h, (.func (.func 49) #[] #[])] _ R R R R y ?_
   rintro Z ax ⟨rfl, aa, au, ap, an, ac⟩
   clear y t
   refine inl1 ?_
   have D : MS w ([blk a] ++ [c]) := l.pick [some 0, some 1] _ R
   replace l : MS ax [blk a, c] := (MS.call (P := [blk a]) (R := [c]) (res := []) (par := [blk a]) D aa ap an ac).pick [some 0, some 1] _ R
   have x : ∀ r ∈ fl [blk a], r ∈ (fl [blk a]) ∨ g.heap.size ≤ r := NP.mem (ls := [blk a]) (n.pick [some 0] _ R)
   have E : NP (fl [blk a]) g.heap.size [blk a] := (NP.cons (fun r S => (ac.at 0 R r S).elim (fun b => x r b) (fun b => .inr (Nat.le_trans k.size b))) (NP.nil _ _))
   replace k := k.then aa x
   replace n := E
   clear E
   replace o := OwnS.plain (M' := fl [blk a, c]) (plain_prod (plain_int _) (plain_prod (plain_int _) (plain_prod (plain_int _) (plain_int _)))) au
   clear C F G D
   have z := guard_l b
   replace b := guard_r b
   have H : (Value.slice a (j).length f) = (Value.slice a (af).length f) := by first | (rw [z]; done) | simp only [z]
   try rw [H]
   clear H
   refine x_ek (c_sp (x_u 2 [(19, Vi h), (7, Vi h)] (x_ek (c_plain (x_u 4 [(20, Vi h), (21, Vi 20), (22, Vi (i64.wrap (h + 20))), (8, Vi (i64.wrap (h + 20)))] (x_end R (k_block ?_)))))))
   obtain rfl := some_inj b
   exact k_then ⟨(K, af, h, i64.wrap (h + 20)), ⟨R, R, R, R, R, R, trivial⟩, ⟨A, k, l, s, n, o⟩, Nat.lt_succ_self _⟩
 refine c_exit (k_then_exit ?_)
 obtain rfl := some_inj b
 have I := some_inj A
 subst I
 replace b := ak
 refine k_then_exit (k_block_in (k_then (c_nm [(0, .slice a (j).length f), (1, Vi e), (2, (.func (.func 49) #[] #[])), (6, Vi 20), (7, Vi q)] (fun v => ?_))))
 refine c_sp (x_u 4 [(23, .slice a (j).length f), (24, Vi q), (25, Vi e), (26, (.func (.func 49) #[] #[]))] ?_)
 obtain ⟨u, t, b⟩ := bind_some b
 have C : MS w ([blk a] ++ [c]) := l.pick [some 0, some 1] _ R
 have G : ∀ p ∈ fl ([blk a] ++ [c]), p ∈ fl [blk a, c] := pick_sub [some 0, some 1] _ R
 have F : ∀ p ∈ fl ([blk a] ++ [(fl [c])]), p ∈ fl [blk a, c] := fun p t => G p (fl_unfold p t)
 have y := slices_insertionSortCmpFunc_humpyard_api_Scheme__w a f j q e _ w (fl [c]) (C.fold (P := [blk a])) (o.sub F) t
 refine x_call 107 #[] #[] [.slice a (j).length f, Vi q, Vi e, (.func (.func 49) #[] #[])] _ R R R R y ?_
 rintro Z ay ⟨rfl, ab, av, aq, ao, ad⟩
 clear y t
 refine inl1 ?_
 have D : MS w ([blk a] ++ [c]) := l.pick [some 0, some 1] _ R
 replace l : MS ay [blk a, c] := (MS.call (P := [blk a]) (R := [c]) (res := []) (par := [blk a]) D ab aq ao ad).pick [some 0, some 1] _ R
 have x : ∀ r ∈ fl [blk a], r ∈ (fl [blk a]) ∨ g.heap.size ≤ r := NP.mem (ls := [blk a]) (n.pick [some 0] _ R)
 have E : NP (fl [blk a]) g.heap.size [blk a] := (NP.cons (fun r S => (ad.at 0 R r S).elim (fun b => x r b) (fun b => .inr (Nat.le_trans k.size b))) (NP.nil _ _))
 replace k := k.then ab x
 replace n := E
 clear E
 replace o := OwnS.plain (M' := fl [blk a, c]) (plain_prod (plain_int _) (plain_prod (plain_int _) (plain_prod (plain_int _) (plain_int _)))) av
 clear C F G D
 have z := guard_l b
 replace b := guard_r b
 have H : (Value.slice a (j).length f) = (Value.slice a (u).length f) := by first | (rw [z]; done) | simp only [z]
 try rw [H]
 clear H
 refine x_ek (c_block ?_)
 obtain ⟨ai, Y, al⟩ := bind_some b
 obtain ⟨L, Y⟩ := loop_some Y
 refine c_loop (loop_rule hmx (σ := Nat × Int) (fun i => match i with | (_, d) => [(0, .slice a (u).length f), (1, Vi e), (2, (.func (.func 49) #[] #[])), (6, Vi d)]) (fun i m => match i with | (J, d) => loopN (slices_stableCmpFunc_humpyard_api_Scheme__L9 e) J d = some ai ∧ Ev (fl [blk a]) g m ∧ MS m [blk a, c] ∧ FR g.heap.size [] ∧ NP (fl [blk a]) g.heap.size [blk a] ∧ OwnS (eIt4) 48 m (fl [blk a, c]) a f u) (fun i => i.1) (L, 20) ⟨R, R, R, R, trivial⟩ ⟨Y, k, l, s, n, o⟩ ?_)
 rintro ⟨L, d⟩ v aD ⟨B, k, l, s, n, o⟩
 rcases L with _ | L
 · exact (loopN_zero B).elim
 obtain ⟨aB, b, B⟩ := bind_some B
 refine c_seq (c_sp (x_u 3 [(28, Vi d), (29, Vi e), (30, .bool (decide (d < e)))] (x_ek (c_nm [(0, .slice a (u).length f), (1, Vi e), (2, (.func (.func 49) #[] #[])), (6, Vi d), (30, .bool (decide (d < e)))] (fun v => ?_)))))
 refine c_if (decide (d < e)) R b (fun b => ?_) (fun b => ?_)
 · refine c_skip (k_then (c_block (c_sp (x_u 4 [(31, Vi d), (32, Vi (i64.wrap (2 * d))), (7, Vi 0), (8, Vi (i64.wrap (2 * d)))] (x_ek (c_seq (c_block ?_)))))))
   obtain ⟨ag, U, aj⟩ := bind_some b
   obtain ⟨Q, U⟩ := loop_some U
   refine c_loop (loop_rule hmx (σ := Nat × Unit) (fun i => match i with | (_, _) => [(0, .slice a (u).length f), (1, Vi e), (2, (.func (.func 49) #[] #[])), (6, Vi d), (7, Vi 0), (8, Vi (i64.wrap (2 * d)))]) (fun i m => match i with | (J, _) => loopN (slices_stableCmpFunc_humpyard_api_Scheme__L12 e d) J () = some ag ∧ Ev (fl [blk a]) g m ∧ MS m [blk a, c] ∧ FR g.heap.size [] ∧ NP (fl [blk a]) g.heap.size [blk a] ∧ OwnS (eIt4) 48 m (fl [blk a, c]) a f u) (fun i => i.1) (Q, ()) ⟨R, R, R, R, R, R, trivial⟩ ⟨U, k, l, s, n, o⟩ ?_)
   rintro ⟨Q, _⟩ v aC ⟨O, k, l, s, n, o⟩
   rcases Q with _ | Q
   · exact (loopN_zero O).elim
   obtain ⟨az, b, O⟩ := bind_some O
   refine c_seq (c_sp (x_u 3 [(33, Vi (i64.wrap (2 * d))), (34, Vi e), (35, .bool (decide ((i64.wrap (2 * d)) ≤ e)))] (x_ek (c_nm [(0, .slice a (u).length f), (1, Vi e), (2, (.func (.func 49) #[] #[])), (6, Vi d), (7, Vi 0), (8, Vi (i64.wrap (2 * d))), (35, .bool (decide ((i64.wrap (2 * d)) ≤ e)))] (fun v => ?_)))))
   refine c_if (decide ((i64.wrap (2 * d)) ≤ e)) R b (fun b => ?_) (fun b => ?_)
   · refine c_skip (k_then (c_block (c_sp ?_)))
     cases b
   refine c_exit (k_then_exit ?_)
   obtain rfl := some_inj b
   have I := some_inj O
   subst I
   replace b := aj
   refine k_then_exit (k_block_in (k_then (c_nm [(0, .slice a (u).length f), (1, Vi e), (2, (.func (.func 49) #[] #[])), (6, Vi d), (7, Vi 0)] (fun v => ?_))))
   refine c_seq (c_sp (x_u 4 [(49, Vi 0), (50, Vi d), (51, Vi (i64.wrap (0 + d))), (9, Vi (i64.wrap (0 + d)))] (x_ek (c_sp (x_u 3 [(52, Vi (i64.wrap (0 + d))), (53, Vi e), (54, .bool (decide ((i64.wrap (0 + d)) < e)))] (x_ek (c_if (decide ((i64.wrap (0 + d)) < e)) R b (fun b => ?_) (fun b => ?_))))))))
   · refine c_plain ?_
     cases b
   refine c_skip (k_then (c_plain (x_u 3 [(61, Vi d), (62, Vi (i64.wrap (d * 2))), (6, Vi (i64.wrap (d * 2)))] (x_end R (k_block ?_)))))
   obtain rfl := some_inj b
   exact k_then ⟨(L, i64.wrap (d * 2)), ⟨R, R, R, R, trivial⟩, ⟨B, k, l, s, n, o⟩, Nat.lt_succ_self _⟩
 refine c_exit (k_then_exit ?_)
 obtain rfl := some_inj b
 have I := some_inj B
 subst I
 replace b := al
 refine k_then_exit (k_block_in (r_normal (r_vals [] trivial ?_)))
 obtain rfl := some_inj b
 have ar := l.pick [some 0, some 1] [blk a, c] R
 have aw := pick_sub (ls := [blk a, c]) [some 0, some 1] [blk a, c] R
 have am := s.pick [] [] R
 exact ⟨R, k, o.sub aw, ar, am, (NP.cons (n.at 0 R) (NP.nil _ _))⟩
def slices_SortStableFunc_humpyard_api_Scheme_humpyard_api_Scheme_ (a : List (Int × Int × Int × Int)) : Option (List (Int × Int × Int × Int)) :=
((slices_stableCmpFunc_humpyard_api_Scheme_ a ((a).length : Int)).bind fun b =>
(if b.length = a.length then
some b
else none))
theorem slices_SortStableFunc_humpyard_api_Scheme_humpyard_api_Scheme__w (a : Option Addr) (e : Nat) (d : List (Int × Int × Int × Int)) (z : (List (Int × Int × Int × Int))) (c : World) (b : List Nat) (j : MS c [blk a, b]) (m : OwnS (eIt4) 48 c (fl [blk a, b]) a e d) (f : slices_SortStableFunc_humpyard_api_Scheme_humpyard_api_Scheme_ d = some z) : CallVC Tryz.prog 48 [.slice a (d).length e, (.func (.func 49) #[] #[])] c fun A n => A = .tuple #[] ∧ Ev (fl [blk a]) c n ∧ OwnS (eIt4) 48 n (fl [blk a, b]) a e z ∧ MS n [blk a, b] ∧ FR c.heap.size [] ∧ NP (fl [blk a]) c.heap.size [blk a] := by
 refine calls_vc hmx Tryz.func48 (by kernel_rfl) R (rs := []) R (by kernel_rfl) (args := [.slice a (d).length e, (.func (.func 49) #[] #[])]) R ?_
 have i : Ev (fl [blk a]) c c := Ev.refl _ _
 have E : FR c.heap.size [] := FR.nil _
 have l : NP (fl [blk a]) c.heap.size [blk a] := NP.init _ _
 refine c_plain (x_u 2 [(4, .slice a (d).length e), (5, .slice a (d).length e)] (x_len (vs := [.slice a (d).length e]) (Vi ((d).length : Int)) R R R (reads_len tsl44 _ _ _ _ _) (x_u 1 [(7, (.func (.func 49) #[] #[]))] ?_)))
 obtain ⟨K, k, f⟩ := bind_some f
 have t : MS c ([blk a] ++ [b]) := j.pick [some 0, some 1] _ R
 have x : ∀ g ∈ fl ([blk a] ++ [b]), g ∈ fl [blk a, b] := pick_sub [some 0, some 1] _ R
 have w : ∀ g ∈ fl ([blk a] ++ [(fl [b])]), g ∈ fl [blk a, b] := fun g k => x g (fl_unfold g k)
 have p := slices_stableCmpFunc_humpyard_api_Scheme__w a e d ((d).length : Int) _ c (fl [b]) (t.fold (P := [blk a])) (m.sub w) k
 refine x_call 78 #[] #[] [.slice a (d).length e, Vi ((d).length : Int), (.func (.func 49) #[] #[])] _ R R R R p ?_
 rintro A J ⟨rfl, q, H, F, D, s⟩
 clear p k
 refine inl1 ?_
 have u : MS c ([blk a] ++ [b]) := j.pick [some 0, some 1] _ R
 replace j : MS J [blk a, b] := (MS.call (P := [blk a]) (R := [b]) (res := []) (par := [blk a]) u q F D s).pick [some 0, some 1] _ R
 have o : ∀ h ∈ fl [blk a], h ∈ (fl [blk a]) ∨ c.heap.size ≤ h := NP.mem (ls := [blk a]) (l.pick [some 0] _ R)
 have v : NP (fl [blk a]) c.heap.size [blk a] := (NP.cons (fun h B => (s.at 0 R h B).elim (fun f => o h f) (fun f => .inr (Nat.le_trans i.size f))) (NP.nil _ _))
 replace i := i.then q o
 replace l := v
 clear v
 replace m := OwnS.plain (M' := fl [blk a, b]) (plain_prod (plain_int _) (plain_prod (plain_int _) (plain_prod (plain_int _) (plain_int _)))) H
 clear t w x u
 have r := guard_l f
 replace f := guard_r f
 have y : (Value.slice a (d).length e) = (Value.slice a (K).length e) := by first | (rw [r]; done) | simp only [r]
 try rw [y]
 clear y
 refine x_end R (r_normal (r_vals [] trivial ?_))
 obtain rfl := some_inj f
 have G := j.pick [some 0, some 1] [blk a, b] R
 have I := pick_sub (ls := [blk a, b]) [some 0, some 1] [blk a, b] R
 have C := E.pick [] [] R
 exact ⟨R, i, m.sub I, G, C, (NP.cons (l.at 0 R) (NP.nil _ _))⟩
end Go.Proofs.YtlejnkhaphlooaaGreat
