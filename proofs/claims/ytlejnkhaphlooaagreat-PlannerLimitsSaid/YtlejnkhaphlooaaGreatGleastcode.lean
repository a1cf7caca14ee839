
/- Walks, printed by program: each function returns what the partial function of the same name returns. Conditions: those of each theorem. -/
import Derived.Test.YtlejnkhaphlooaaGreatGT
import Derived.Test.YtlejnkhaphlooaaGreatGcode
import Derived.Test.YtlejnkhaphlooaaGreatGjob
import Derived.Test.YtlejnkhaphlooaaGreatGslices
set_option linter.unusedVariables false
set_option linter.unusedSimpArgs false
set_option maxRecDepth 4000
namespace Go.Proofs.YtlejnkhaphlooaaGreat
open Go Go.V Go.Proofs Go.IntKind
def leastcode_relations_J24 (c : Int) (b : List (List Int)) (a : Int) (f : Bool) : Option (Step ((List (List Int)) × Int) (List (List Int))) :=
(if f = true then
some (.next (b, i64.wrap (a + 1)))
else
(if (decide (a < c)) = true then
((idx b c).bind fun d =>
((idx d a).bind fun g =>
some (.next ((b.set (Int.toNat c) (d.set (Int.toNat a) 2)), i64.wrap (a + 1)))))
else
((idx b c).bind fun e =>
((idx e a).bind fun h =>
some (.next ((b.set (Int.toNat c) (e.set (Int.toNat a) 1)), i64.wrap (a + 1)))))))
def leastcode_relations_J19 (b : Int) (a : List (List Int)) (c : Int) (d : Int) (e : Int) (h : Int) (i : Int) (f : Int) (g : Int) (j : Int) (k : Int) : Option (Step ((List (List Int)) × Int) (List (List Int))) :=
(if (d != f) = true then
leastcode_relations_J24 b a c true
else
leastcode_relations_J24 b a c (decide (e ≥ g)))
def leastcode_relations_L17 (e : List (Int × Int × Int × Int)) (f : Int) (h : List Int) (g : (List (List Int)) × Int) : Option (Step ((List (List Int)) × Int) (List (List Int))) :=
match g with
| (d, c) =>
(if (decide (c < ((h).length : Int))) = true then
((idx e f).bind fun a =>
((idx e c).bind fun b =>
leastcode_relations_J19 f d c a.1 a.2.1 a.2.2.1 a.2.2.2 b.1 b.2.1 b.2.2.1 b.2.2.2))
else
some (.done d))
def leastcode_relations_L6 (b : List (Int × Int × Int × Int)) (f : (List (List Int)) × Int) : Option (Step ((List (List Int)) × Int) (List (List Int))) :=
match f with
| (c, a) =>
(if (decide (a < (((List.replicate (Int.toNat ((b).length : Int)) ([] : List Int))).length : Int))) = true then
(if (0 : Int) ≤ ((b).length : Int) ∧ (((b).length : Int) : Int) ≤ 4294967296 then
((idx c a).bind fun h =>
((idx (c.set (Int.toNat a) (List.replicate (Int.toNat ((b).length : Int)) 0 : List Int)) a).bind fun g =>
((loop (leastcode_relations_L17 b a g) ((c.set (Int.toNat a) (List.replicate (Int.toNat ((b).length : Int)) 0 : List Int)), 0)).bind fun d => match d with
| e => some (.next (e, i64.wrap (a + 1))))))
else none)
else
some (.done c))
def leastcode_relations (a : List (Int × Int × Int × Int)) (d : Int) : Option (List (List Int)) :=
(if (0 : Int) ≤ ((a).length : Int) ∧ (((a).length : Int) : Int) ≤ 4294967296 then
((loop (leastcode_relations_L6 a) ((List.replicate (Int.toNat ((a).length : Int)) ([] : List Int)), 0)).bind fun b => match b with
| c => some c)
else none)
theorem leastcode_relations_w (D : Option Addr) (F : Nat) (i : List (Int × Int × Int × Int)) (ak : Int) (bj : (List (List Int))) (I : World) (h : List Nat) (b : MS I [h]) (d : SlR (eIt4) I (fl [h]) D F i) (f : leastcode_relations i ak = some bj) : CallVC Tryz.prog 80 [.agg #[.slice D (i).length F, Vi ak]] I fun cs w => ∃ (bm : Option Addr), ∃ (bs : Nat), ∃ (a3 : List Nat), cs = .slice bm (bj).length bs ∧ Ev [] I w ∧ MS w [a3, h] ∧ FR I.heap.size [a3] ∧ OwnR (eInt .i64) 3 22 w a3 bm bs bj none := by
 refine calls_vc hmx Tryz.func80 (by kernel_rfl) R (rs := [.tmp 2]) R (by kernel_rfl) (args := [.agg #[.slice D (i).length F, Vi ak]]) R ?_
 have j : Ev [] I I := Ev.refl _ _
 have g : FR I.heap.size [] := FR.nil _
 refine c_sp (x_box (xv := .agg #[.slice D (i).length F, Vi ak]) R R R (fun a bJ bd k a8 cI => ?_))
 replace k : bJ.heap[a]? = some (.cells #[.slice D (i).length F, Vi ak] 50 (0, 0)) := k
 refine inl1 ?_
 have v := Stp.box (ls := [h]) a8 bd
 replace d := d.step v
 replace b := b.box a8 bd k
 replace g := g.box j.size bd
 replace j := j.ext a8
 refine x_u 1 [(2, .slice none 0 0)] (x_ek (c_sp (x_fieldAddr (xv := Vp a 0) (Vp a 0) R R R (reads_field tfld50_0 _ _) (x_load (xv := Vp a 0) (.slice D (i).length F) R R R (reads_box tcell36 k nn 0 _ R) (x_len (vs := [.slice D (i).length F]) (Vi ((i).length : Int)) R R R (reads_len tsl36 _ _ _ _ _) ?_)))))
 have ay := guard_l f
 replace f := guard_r f
 obtain ⟨p, q, cu, au, cg, aX, ba, n⟩ := OwnR.mk (P := Tryz.prog) (T := 3) (eInt .i64) tel57 bJ ((i).length : Int) ay.1 ay.2
 refine x_makeSlice _ cu (xv := Vi ((i).length : Int)) (yv := Vi ((i).length : Int)) R R R R cg (inl1 ?_)
 have v := Stp.push (ls := [[a], h]) (l := au) aX (fun _ f => by cases f) (fun t u => (ba t u).1)
 replace d := d.step v
 replace k := aX.box k nn
 replace b := b.push aX ba
 replace g := g.push (fun t u => Nat.le_trans j.size (ba t u).1)
 replace j := j.ext aX
 refine x_u 1 [(3, .slice p ((List.replicate (Int.toNat ((i).length : Int)) ([] : List Int))).length q)] (x_ek (c_seq (c_sp (x_u 1 [(12, .slice p ((List.replicate (Int.toNat ((i).length : Int)) ([] : List Int))).length q)] (x_len (vs := [.slice p ((List.replicate (Int.toNat ((i).length : Int)) ([] : List Int))).length q]) (Vi (((List.replicate (Int.toNat ((i).length : Int)) ([] : List Int))).length : Int)) R R R (reads_len tsl57 _ _ _ _ _) (x_u 1 [(14, Vi 0)] (x_ek (c_block ?_))))))))
 have O := b.pick [some 1, some 0, some 2] [[a], au, h] R
 have A := pick_sub (ls := [au, [a], h]) [some 1, some 0, some 2] [[a], au, h] R
 replace d := d.sub A
 replace b := O
 replace g := g.pick [some 1, some 0] [[a], au] R
 clear O A
 obtain ⟨bN, a7, bQ⟩ := bind_some f
 obtain ⟨aC, a7⟩ := loop_some a7
 refine c_loop (loop_rule hmx (σ := Nat × (List (List Int)) × Int × List Nat) (fun H => match H with | (_, J, c, ab) => [(1, Vp a 0), (3, .slice p (J).length q), (13, Vi (((List.replicate (Int.toNat ((i).length : Int)) ([] : List Int))).length : Int)), (14, Vi c)]) (fun H w => match H with | (bi, J, c, ab) => loopN (leastcode_relations_L6 i) bi (J, c) = some bN ∧ Ev [] I w ∧ MS w [[a], ab, h] ∧ FR I.heap.size [[a], ab] ∧ SlR (eIt4) w (fl [[a], ab, h]) D F i ∧ w.heap[a]? = some (.cells #[.slice D (i).length F, Vi ak] 50 (0, 0)) ∧ OwnR (eInt .i64) 3 22 w ab p q J none) (fun H => H.1) (aC, (List.replicate (Int.toNat ((i).length : Int)) ([] : List Int)), 0, au) ⟨R, R, R, R, trivial⟩ ⟨a7, j, b, g, d, k, n⟩ ?_)
 rintro ⟨aC, J, c, ab⟩ ag cv ⟨aA, j, b, g, d, k, n⟩
 rcases aC with _ | aC
 · exact (loopN_zero aA).elim
 obtain ⟨cJ, f, aA⟩ := bind_some aA
 refine c_sp (x_u 1 [(15, .bool (decide (c < (((List.replicate (Int.toNat ((i).length : Int)) ([] : List Int))).length : Int))))] (x_ek (c_nm [(1, Vp a 0), (3, .slice p (J).length q), (13, Vi (((List.replicate (Int.toNat ((i).length : Int)) ([] : List Int))).length : Int)), (14, Vi c), (15, .bool (decide (c < (((List.replicate (Int.toNat ((i).length : Int)) ([] : List Int))).length : Int))))] (fun ag => ?_))))
 refine c_seq (c_if (decide (c < (((List.replicate (Int.toNat ((i).length : Int)) ([] : List Int))).length : Int))) R f (fun f => ?_) (fun f => ?_))
 · refine c_skip (k_then (c_seq (c_block (c_sp (x_u 2 [(16, Vi c), (4, Vi c)] (x_ek (c_sp (x_u 2 [(17, .slice p (J).length q), (18, Vi c)] (x_fieldAddr (xv := Vp a 0) (Vp a 0) R R R (reads_field tfld50_0 _ _) ?_)))))))))
   refine x_load (xv := Vp a 0) (.slice D (i).length F) R R R (reads_box tcell36 k nn 0 _ R) (x_len (vs := [.slice D (i).length F]) (Vi ((i).length : Int)) R R R (reads_len tsl36 _ _ _ _ _) ?_)
   have ay := guard_l f
   replace f := guard_r f
   obtain ⟨Q, bK, a2, ch, ax, bb, bF⟩ := own_make (e := (eInt .i64)) tel22 cv ((i).length : Int) ay.1 ay.2 0 (fun _ _ => R)
   refine x_makeSlice _ a2 (xv := Vi ((i).length : Int)) (yv := Vi ((i).length : Int)) R R R R ch (inl1 ?_)
   have v := Stp.push (ls := [[a], ab, h]) (l := blk Q) ax (fun _ f => by cases f) (fun t u => (bb t u).1)
   replace k := ax.box k nn
   replace d := d.step v
   replace n := n.step (plain_int _) ax nn2
   replace b := b.push ax bb
   replace g := g.push (fun t u => Nat.le_trans j.size (bb t u).1)
   replace j := j.ext ax
   have bc := bF (fl [blk Q, [a], ab, h])
   clear bF
   obtain ⟨cN, cj, f⟩ := bind_some f
   obtain ⟨bu, ac, cw, b6, a1⟩ := OwnR.view (P := Tryz.prog) (Mo := []) tsl57 n cj
   refine x_indexAddr (xv := .slice p (J).length q) (yv := Vi c) (.pointer (some ⟨bu, (Int.toNat c), none⟩)) R R R R b6 ?_
   obtain ⟨ae, bS, cF, aZ, a0, bE⟩ := OwnR.opn n a1
   replace n := bS
   have az := b.split 2 R a0 aZ bE
   have A : ∀ ar ∈ fl [blk ac, blk Q, [a], ae, h], ar ∈ fl [blk Q, [a], ab, h] := split_sub (ls := [blk Q, [a], ab, h]) 2 R a0 aZ
   replace b : MS a2 [blk ac, blk Q, [a], ae, h] := az
   replace g : FR I.heap.size [blk ac, blk Q, [a], ae] := (g.upd 2 R j.size (fun t u => .inl (aZ t u))).push (fun t u => g.at 2 R t (a0 t u))
   replace d := d.sub A
   replace bc := bc.sub A
   have b2 := a1.eq
   have ck := a1.at_
   clear a1 az aZ a0 bE A
   obtain ⟨bk, m, b7, aS, a9, bU⟩ := OwnR.cls (P := Tryz.prog) (plain_int _) tcell22 n b2 ck bc (b.apart 1 3 R R R) (b.ltat 3 R)
   refine x_store bk (xv := .pointer (some ⟨bu, (Int.toNat c), none⟩)) (yv := .slice Q ((List.replicate (Int.toNat ((i).length : Int)) 0 : List Int)).length bK) R R R R b7 (inl1 ?_)
   have az := b.merge (C := blk Q ++ ae) 1 3 R R (fun ar aj => List.mem_append.1 aj)
   replace g : FR I.heap.size [blk ac, [a], blk Q ++ ae] := (FR.cons (g.at 0 R) (FR.cons (g.at 2 R) (FR.cons (fun t u => (List.mem_append.1 u).elim (g.at 1 R t) (g.at 3 R t)) (FR.nil _))))
   have A : ∀ ar ∈ fl [blk ac, [a], blk Q ++ ae, h], ar ∈ fl [blk ac, blk Q, [a], ae, h] := merge_sub (ls := [blk ac, blk Q, [a], ae, h]) (C := blk Q ++ ae) 1 3 R R (fun ar aj => List.mem_append.1 aj)
   replace b : MS a2 [blk ac, [a], blk Q ++ ae, h] := az
   replace d := d.sub A
   clear az A
   have v : Stp (fl [blk ac, [a], blk Q ++ ae, h]) a2 (fl [blk ac, [a], m, h]) bk := Stp.upd 2 aS R (fun t u => (a9 t u).1)
   replace k := aS.box k (b.apart 1 2 R R R _ mem1)
   replace d := d.step v
   replace b : MS bk [blk ac, [a], m, h] := b.upd 2 aS R a9
   have bB : FR I.heap.size [blk ac, [a], m] := g.upd 2 R j.size (fun t u => (a9 t u).1)
   replace j := j.then aS (fun t u => .inr (g.at 2 R t u))
   replace g := bB
   clear bB
   replace n := bU
   have Z : (Value.slice p (J).length q) = (Value.slice p ((J.set (Int.toNat c) (List.replicate (Int.toNat ((i).length : Int)) 0 : List Int))).length q) := by first | (rw [List.length_set]; done) | simp only [List.length_set]
   try rw [Z]
   clear Z
   refine x_ek (c_sp (x_u 2 [(24, .slice p ((J.set (Int.toNat c) (List.replicate (Int.toNat ((i).length : Int)) 0 : List Int))).length q), (25, Vi c)] ?_))
   obtain ⟨aa, cl, f⟩ := bind_some f
   obtain ⟨bv, br, bt, b8, ci⟩ := OwnR.view (P := Tryz.prog) (Mo := []) tsl57 n cl
   refine x_indexAddr (xv := .slice p ((J.set (Int.toNat c) (List.replicate (Int.toNat ((i).length : Int)) 0 : List Int))).length q) (yv := Vi c) (.pointer (some ⟨bv, (Int.toNat c), none⟩)) R R R R b8 (x_load (xv := .pointer (some ⟨bv, (Int.toNat c), none⟩)) (.slice br (aa).length bt) R R R (RView.load tcell22 ci) (x_len (vs := [.slice br (aa).length bt]) (Vi ((aa).length : Int)) R R R (reads_len tsl22 _ _ _ _ _) (x_u 1 [(29, Vi 0)] (x_ek (c_nm [(1, Vp a 0), (3, .slice p ((J.set (Int.toNat c) (List.replicate (Int.toNat ((i).length : Int)) 0 : List Int))).length q), (4, Vi c), (13, Vi (((List.replicate (Int.toNat ((i).length : Int)) ([] : List Int))).length : Int)), (14, Vi c), (28, Vi ((aa).length : Int)), (29, Vi 0)] (fun ag => ?_))))))
   refine c_block ?_
   have O := b.pick [some 1, some 2, some 3] [[a], m, h] R
   have A := pick_sub (ls := [blk ac, [a], m, h]) [some 1, some 2, some 3] [[a], m, h] R
   replace d := d.sub A
   replace b := O
   replace g := g.pick [some 1, some 2] [[a], m] R
   clear O A
   obtain ⟨bL, a6, bO⟩ := bind_some f
   obtain ⟨aq, a6⟩ := loop_some a6
   refine c_loop (loop_rule hmx (σ := Nat × (List (List Int)) × Int) (fun H => match H with | (_, x, o) => [(1, Vp a 0), (3, .slice p (x).length q), (4, Vi c), (13, Vi (((List.replicate (Int.toNat ((i).length : Int)) ([] : List Int))).length : Int)), (14, Vi c), (28, Vi ((aa).length : Int)), (29, Vi o)]) (fun H w => match H with | (bi, x, o) => loopN (leastcode_relations_L17 i c aa) bi (x, o) = some bL ∧ Ev [] I w ∧ MS w [[a], m, h] ∧ FR I.heap.size [[a], m] ∧ SlR (eIt4) w (fl [[a], m, h]) D F i ∧ w.heap[a]? = some (.cells #[.slice D (i).length F, Vi ak] 50 (0, 0)) ∧ OwnR (eInt .i64) 3 22 w m p q x none) (fun H => H.1) (aq, (J.set (Int.toNat c) (List.replicate (Int.toNat ((i).length : Int)) 0 : List Int)), 0) ⟨R, R, R, R, R, R, R, trivial⟩ ⟨a6, j, b, g, d, k, n⟩ ?_)
   rintro ⟨aq, x, o⟩ ag L ⟨an, j, b, g, d, k, n⟩
   rcases aq with _ | aq
   · exact (loopN_zero an).elim
   obtain ⟨bI, f, an⟩ := bind_some an
   refine c_sp (x_u 1 [(30, .bool (decide (o < ((aa).length : Int))))] (x_ek (c_nm [(1, Vp a 0), (3, .slice p (x).length q), (4, Vi c), (13, Vi (((List.replicate (Int.toNat ((i).length : Int)) ([] : List Int))).length : Int)), (14, Vi c), (28, Vi ((aa).length : Int)), (29, Vi o), (30, .bool (decide (o < ((aa).length : Int))))] (fun ag => ?_))))
   refine c_seq (c_if (decide (o < ((aa).length : Int))) R f (fun f => ?_) (fun f => ?_))
   · refine c_skip (k_then (c_seq (c_block (c_sp (x_u 2 [(31, Vi o), (5, Vi o)] (x_ek (c_join (σ := Int × Int × Int × Int × Int × Int × Int × Int × Nat × Nat) (fun H => match H with | (al, ah, aL, aN, am, ai, aO, aQ, S, U) => [(1, Vp a 0), (3, .slice p (x).length q), (4, Vi c), (5, Vi o), (6, Vp S 0), (7, Vp U 0), (13, Vi (((List.replicate (Int.toNat ((i).length : Int)) ([] : List Int))).length : Int)), (14, Vi c), (28, Vi ((aa).length : Int)), (29, Vi o)]) (fun H w => match H with | (al, ah, aL, aN, am, ai, aO, aQ, S, U) => leastcode_relations_J19 c x o al ah aL aN am ai aO aQ = some bI ∧ Ev [] I w ∧ MS w [[a], m, [S], [U], h] ∧ FR I.heap.size [[a], m, [S], [U]] ∧ SlR (eIt4) w (fl [[a], m, [S], [U], h]) D F i ∧ w.heap[a]? = some (.cells #[.slice D (i).length F, Vi ak] 50 (0, 0)) ∧ OwnR (eInt .i64) 3 22 w m p q x none ∧ w.heap[S]? = some (.cells #[Vi al, Vi ah, Vi aL, Vi aN] 76 (0, 0)) ∧ w.heap[U]? = some (.cells #[Vi am, Vi ai, Vi aO, Vi aQ] 76 (0, 0))) ?_ ?_)))))))
     · refine c_drawnp (newmo (L).drew) [(0, false), (1, false), (2, false), (3, false), (4, false), (5, false), (6, false), (7, false), (8, false), (9, false)] (.alt 10 false (opsThen [(11, false), (12, false), (13, true)] .stop) (.alt 11 false (opsThen [(10, false), (12, false), (13, true)] .stop) .none_)) _ (by kernel_rfl) R ?_
       have v := Stp.ext (ls := [[a], m, h]) (Ev.drew L)
       replace k := (Ev.drew L).box k nn
       replace d := d.step v
       replace n := n.step (plain_int _) (Ev.drew L) nn2
       replace b := b.ev (Ev.drew L)
       replace j := j.ext (Ev.drew L)
       have aY : ((L).drew).heap.size = ((L).drew).heap.size + 0 := R
       refine x_fieldAddr (xv := Vp a 0) (Vp a 0) R R R (reads_field tfld50_0 _ _) (x_load (xv := Vp a 0) (.slice D (i).length F) R R R (reads_box tcell36 k ((newmo_out (b.ltat 0 R)) _ mem1) 0 _ R) (x_u 1 [(34, Vi c)] ?_))
       obtain ⟨r, cm, f⟩ := bind_some f
       obtain ⟨bn, cx, b9, bZ, af⟩ := reads_index (Mo := (newmo (L).drew)) tsl36 d cm
       obtain ⟨_, _, rfl, rfl, ⟨_, _, rfl, rfl, ⟨_, _, rfl, rfl, rfl⟩⟩⟩ := af
       refine x_indexAddr (xv := .slice D (i).length F) (yv := Vi c) (.pointer (some bn)) R R R R b9 (x_load (xv := .pointer (some bn)) (.agg #[Vi r.1, Vi r.2.1, Vi r.2.2.1, Vi r.2.2.2]) R R R (reads_agg tagg76 (CellsAt.newer bZ) (fun t u => u)) (x_fieldAddr (xv := Vp a 0) (Vp a 0) R R R (reads_field tfld50_0 _ _) (x_load (xv := Vp a 0) (.slice D (i).length F) R R R (reads_box tcell36 k ((newmo_out (b.ltat 0 R)) _ mem1) 0 _ R) (x_u 1 [(39, Vi o)] ?_))))
       obtain ⟨s, cn, f⟩ := bind_some f
       obtain ⟨bo, cy, ca, b0, af⟩ := reads_index (Mo := (newmo (L).drew)) tsl36 d cn
       obtain ⟨_, _, rfl, rfl, ⟨_, _, rfl, rfl, ⟨_, _, rfl, rfl, rfl⟩⟩⟩ := af
       refine x_indexAddr (xv := .slice D (i).length F) (yv := Vi o) (.pointer (some bo)) R R R R ca (x_load (xv := .pointer (some bo)) (.agg #[Vi s.1, Vi s.2.1, Vi s.2.2.1, Vi s.2.2.2]) R R R (reads_agg tagg76 (CellsAt.newer b0) (fun t u => u)) (x_end R (t_alt _ R ?_ ?_)))
       · refine x_alloc (z := .agg #[Vi 0, Vi 0, Vi 0, Vi 0]) R R (by kernel_rfl) (fun B aE ao G ad cq => ?_)
         replace G : aE.heap[B]? = some (.cells #[Vi 0, Vi 0, Vi 0, Vi 0] 76 (0, 0)) := G
         refine ⟨.inr (ad.nil), ?_⟩
         have bC : B = ((L).drew).heap.size + 0 := by omega
         replace aY : aE.heap.size = ((L).drew).heap.size + 1 := by omega
         have v := Stp.box (ls := [[a], m, h]) ad ao
         replace k := ad.box k nn
         replace d := d.step v
         replace n := n.step (plain_int _) ad nn2
         replace b := b.box ad ao G
         replace g := g.box j.size ao
         replace j := j.ext ad
         refine x_alloc (z := .agg #[Vi 0, Vi 0, Vi 0, Vi 0]) R R (by kernel_rfl) (fun E aF ap N X cr => ?_)
         replace N : aF.heap[E]? = some (.cells #[Vi 0, Vi 0, Vi 0, Vi 0] 76 (0, 0)) := N
         refine ⟨.inr (X.nil), ?_⟩
         have bD : E = ((L).drew).heap.size + 1 := by omega
         replace aY : aF.heap.size = ((L).drew).heap.size + 2 := by omega
         have v := Stp.box (ls := [[B], [a], m, h]) X ap
         replace k := X.box k nn
         replace d := d.step v
         replace n := n.step (plain_int _) X nn2
         replace G := X.box G nn
         replace b := b.box X ap N
         replace g := g.box j.size ap
         replace j := j.ext X
         obtain ⟨bl, be, a4, Y⟩ := store_boxagg 0 [Vi r.1, Vi r.2.1, Vi r.2.2.1, Vi r.2.2.2] #[Vi r.1, Vi r.2.1, Vi r.2.2.1, Vi r.2.2.2] tagg76 G R R R
         refine x_store bl (xv := Vp B 0) (yv := .agg #[Vi r.1, Vi r.2.1, Vi r.2.2.1, Vi r.2.2.2]) R R R R be (⟨.inr (Y.sub (fun ar aj => by simp only [List.mem_singleton] at aj; subst aj; exact newmo_mem bC R)), ?_⟩)
         have v := Stp.ev' (ls := [[E], [B], [a], m, h]) Y (mem_flat 1 R)
         replace k := Y.box k (b.apart 2 1 R R R _ mem1)
         replace d := d.step v
         replace n := n.step (plain_int _) Y (b.apart 3 1 R R R)
         replace N := Y.box N (b.apart 0 1 R R R _ mem1)
         replace b := b.ev Y
         replace j := j.then Y (fun t u => .inr (g.at 1 R t u))
         replace G := a4
         obtain ⟨aG, aB, a5, K⟩ := store_boxagg 0 [Vi s.1, Vi s.2.1, Vi s.2.2.1, Vi s.2.2.2] #[Vi s.1, Vi s.2.1, Vi s.2.2.1, Vi s.2.2.2] tagg76 N R R R
         refine x_store aG (xv := Vp E 0) (yv := .agg #[Vi s.1, Vi s.2.1, Vi s.2.2.1, Vi s.2.2.2]) R R R R aB (inl1 ?_)
         have v := Stp.ev' (ls := [[E], [B], [a], m, h]) K (mem_flat 0 R)
         replace k := K.box k (b.apart 2 0 R R R _ mem1)
         replace d := d.step v
         replace n := n.step (plain_int _) K (b.apart 3 0 R R R)
         replace G := K.box G (b.apart 1 0 R R R _ mem1)
         replace b := b.ev K
         replace j := j.then K (fun t u => .inr (g.at 0 R t u))
         replace N := a5
         refine x_end R (t_stop ?_)
         have O := b.pick [some 2, some 3, some 1, some 0, some 4] [[a], m, [B], [E], h] R
         have A := pick_sub (ls := [[E], [B], [a], m, h]) [some 2, some 3, some 1, some 0, some 4] [[a], m, [B], [E], h] R
         replace d := d.sub A
         replace b := O
         replace g := g.pick [some 2, some 3, some 1, some 0] [[a], m, [B], [E]] R
         clear O A
         exact k_then ⟨(r.1, r.2.1, r.2.2.1, r.2.2.2, s.1, s.2.1, s.2.2.1, s.2.2.2, B, E), ⟨R, R, R, R, R, R, R, R, R, R, trivial⟩, f, j, b, g, d, k, n, G, N⟩
       refine t_alt _ R ?_ ?_
       · refine x_alloc (z := .agg #[Vi 0, Vi 0, Vi 0, Vi 0]) R R (by kernel_rfl) (fun B aE ao G ad cq => ?_)
         replace G : aE.heap[B]? = some (.cells #[Vi 0, Vi 0, Vi 0, Vi 0] 76 (0, 0)) := G
         refine ⟨.inr (ad.nil), ?_⟩
         have bC : B = ((L).drew).heap.size + 0 := by omega
         replace aY : aE.heap.size = ((L).drew).heap.size + 1 := by omega
         have v := Stp.box (ls := [[a], m, h]) ad ao
         replace k := ad.box k nn
         replace d := d.step v
         replace n := n.step (plain_int _) ad nn2
         replace b := b.box ad ao G
         replace g := g.box j.size ao
         replace j := j.ext ad
         refine x_alloc (z := .agg #[Vi 0, Vi 0, Vi 0, Vi 0]) R R (by kernel_rfl) (fun E aF ap N X cr => ?_)
         replace N : aF.heap[E]? = some (.cells #[Vi 0, Vi 0, Vi 0, Vi 0] 76 (0, 0)) := N
         refine ⟨.inr (X.nil), ?_⟩
         have bD : E = ((L).drew).heap.size + 1 := by omega
         replace aY : aF.heap.size = ((L).drew).heap.size + 2 := by omega
         have v := Stp.box (ls := [[B], [a], m, h]) X ap
         replace k := X.box k nn
         replace d := d.step v
         replace n := n.step (plain_int _) X nn2
         replace G := X.box G nn
         replace b := b.box X ap N
         replace g := g.box j.size ap
         replace j := j.ext X
         obtain ⟨bl, be, a4, Y⟩ := store_boxagg 0 [Vi r.1, Vi r.2.1, Vi r.2.2.1, Vi r.2.2.2] #[Vi r.1, Vi r.2.1, Vi r.2.2.1, Vi r.2.2.2] tagg76 N R R R
         refine x_store bl (xv := Vp E 0) (yv := .agg #[Vi r.1, Vi r.2.1, Vi r.2.2.1, Vi r.2.2.2]) R R R R be (⟨.inr (Y.sub (fun ar aj => by simp only [List.mem_singleton] at aj; subst aj; exact newmo_mem bD R)), ?_⟩)
         have v := Stp.ev' (ls := [[E], [B], [a], m, h]) Y (mem_flat 0 R)
         replace k := Y.box k (b.apart 2 0 R R R _ mem1)
         replace d := d.step v
         replace n := n.step (plain_int _) Y (b.apart 3 0 R R R)
         replace G := Y.box G (b.apart 1 0 R R R _ mem1)
         replace b := b.ev Y
         replace j := j.then Y (fun t u => .inr (g.at 0 R t u))
         replace N := a4
         obtain ⟨aG, aB, a5, K⟩ := store_boxagg 0 [Vi s.1, Vi s.2.1, Vi s.2.2.1, Vi s.2.2.2] #[Vi s.1, Vi s.2.1, Vi s.2.2.1, Vi s.2.2.2] tagg76 G R R R
         refine x_store aG (xv := Vp B 0) (yv := .agg #[Vi s.1, Vi s.2.1, Vi s.2.2.1, Vi s.2.2.2]) R R R R aB (inl1 ?_)
         have v := Stp.ev' (ls := [[E], [B], [a], m, h]) K (mem_flat 1 R)
         replace k := K.box k (b.apart 2 1 R R R _ mem1)
         replace d := d.step v
         replace n := n.step (plain_int _) K (b.apart 3 1 R R R)
         replace N := K.box N (b.apart 0 1 R R R _ mem1)
         replace b := b.ev K
         replace j := j.then K (fun t u => .inr (g.at 1 R t u))
         replace G := a5
         refine x_end R (t_stop ?_)
         have O := b.pick [some 2, some 3, some 0, some 1, some 4] [[a], m, [E], [B], h] R
         have A := pick_sub (ls := [[E], [B], [a], m, h]) [some 2, some 3, some 0, some 1, some 4] [[a], m, [E], [B], h] R
         replace d := d.sub A
         replace b := O
         replace g := g.pick [some 2, some 3, some 0, some 1] [[a], m, [E], [B]] R
         clear O A
         exact k_then ⟨(r.1, r.2.1, r.2.2.1, r.2.2.2, s.1, s.2.1, s.2.2.1, s.2.2.2, E, B), ⟨R, R, R, R, R, R, R, R, R, R, trivial⟩, f, j, b, g, d, k, n, N, G⟩
       exact t_none
     rintro ⟨al, ah, aL, aN, am, ai, aO, aQ, S, U⟩ ag cK ⟨f, j, b, g, d, k, n, bz, bA⟩
     refine c_block (c_join (σ := Bool) (fun H => match H with | aD => [(1, Vp a 0), (3, .slice p (x).length q), (4, Vi c), (5, Vi o), (13, Vi (((List.replicate (Int.toNat ((i).length : Int)) ([] : List Int))).length : Int)), (14, Vi c), (28, Vi ((aa).length : Int)), (29, Vi o), (48, .bool aD)]) (fun H w => match H with | aD => leastcode_relations_J24 c x o aD = some bI ∧ Ev [] I w ∧ MS w [[a], m, h] ∧ FR I.heap.size [[a], m] ∧ SlR (eIt4) w (fl [[a], m, h]) D F i ∧ w.heap[a]? = some (.cells #[.slice D (i).length F, Vi ak] 50 (0, 0)) ∧ OwnR (eInt .i64) 3 22 w m p q x none) ?_ ?_)
     · refine c_plain (x_fieldAddr (xv := Vp S 0) (Vp S 0) R R R (reads_field tfld76_0 _ _) (x_load (xv := Vp S 0) (Vi al) R R R (reads_box tcell3 bz nn 0 _ R) (x_fieldAddr (xv := Vp U 0) (Vp U 0) R R R (reads_field tfld76_0 _ _) (x_load (xv := Vp U 0) (Vi am) R R R (reads_box tcell3 bA nn 0 _ R) (x_u 2 [(53, .bool (al != am)), (54, .bool (al != am))] (x_if 54 (al != am) R f (fun f => ?_) (fun f => ?_)))))))
       · refine x_u 7 [(55, undef), (56, undef), (57, undef), (58, undef), (59, undef), (60, .bool true), (48, .bool true)] (x_end R ?_)
         have O := b.pick [some 0, some 1, some 4] [[a], m, h] R
         have A := pick_sub (ls := [[a], m, [S], [U], h]) [some 0, some 1, some 4] [[a], m, h] R
         replace d := d.sub A
         replace b := O
         replace g := g.pick [some 0, some 1] [[a], m] R
         clear O A
         exact k_then ⟨true, ⟨R, R, R, R, R, R, R, R, R, trivial⟩, f, j, b, g, d, k, n⟩
       refine x_fieldAddr (xv := Vp S 0) (Vp S 1) R R R (reads_field tfld76_1 _ _) (x_load (xv := Vp S 1) (Vi ah) R R R (reads_box tcell3 bz nn 1 _ R) (x_fieldAddr (xv := Vp U 0) (Vp U 1) R R R (reads_field tfld76_1 _ _) (x_load (xv := Vp U 1) (Vi ai) R R R (reads_box tcell3 bA nn 1 _ R) (x_u 3 [(59, .bool (decide (ah ≥ ai))), (60, .bool (decide (ah ≥ ai))), (48, .bool (decide (ah ≥ ai)))] (x_end R ?_)))))
       have O := b.pick [some 0, some 1, some 4] [[a], m, h] R
       have A := pick_sub (ls := [[a], m, [S], [U], h]) [some 0, some 1, some 4] [[a], m, h] R
       replace d := d.sub A
       replace b := O
       replace g := g.pick [some 0, some 1] [[a], m] R
       clear O A
       exact k_then ⟨decide (ah ≥ ai), ⟨R, R, R, R, R, R, R, R, R, trivial⟩, f, j, b, g, d, k, n⟩
     rintro aD ag cL ⟨f, j, b, g, d, k, n⟩
     refine c_if aD R f (fun f => ?_) (fun f => ?_)
     · refine c_skip (k_block (k_block (k_then (c_nm [(1, Vp a 0), (3, .slice p (x).length q), (4, Vi c), (13, Vi (((List.replicate (Int.toNat ((i).length : Int)) ([] : List Int))).length : Int)), (14, Vi c), (28, Vi ((aa).length : Int)), (29, Vi o)] (fun ag => ?_)))))
       refine c_plain (x_u 2 [(71, Vi (i64.wrap (o + 1))), (29, Vi (i64.wrap (o + 1)))] (x_end R ?_))
       obtain rfl := some_inj f
       exact k_then ⟨(aq, x, i64.wrap (o + 1)), ⟨R, R, R, R, R, R, R, trivial⟩, ⟨an, j, b, g, d, k, n⟩, Nat.lt_succ_self _⟩
     refine c_sp (x_u 4 [(62, Vi o), (63, Vi c), (64, .bool (decide (o < c))), (61, .bool (decide (o < c)))] (x_ek (c_nm [(1, Vp a 0), (3, .slice p (x).length q), (4, Vi c), (5, Vi o), (13, Vi (((List.replicate (Int.toNat ((i).length : Int)) ([] : List Int))).length : Int)), (14, Vi c), (28, Vi ((aa).length : Int)), (29, Vi o), (61, .bool (decide (o < c)))] (fun ag => ?_))))
     refine c_if (decide (o < c)) R f (fun f => ?_) (fun f => ?_)
     · refine c_plain (x_u 2 [(65, .slice p (x).length q), (66, Vi c)] ?_)
       obtain ⟨av, co, f⟩ := bind_some f
       obtain ⟨bw, aH, aJ, cb, bf⟩ := OwnR.view (P := Tryz.prog) (Mo := []) tsl57 n co
       refine x_indexAddr (xv := .slice p (x).length q) (yv := Vi c) (.pointer (some ⟨bw, (Int.toNat c), none⟩)) R R R R cb (x_load (xv := .pointer (some ⟨bw, (Int.toNat c), none⟩)) (.slice aH (av).length aJ) R R R (RView.load tcell22 bf) (x_u 1 [(69, Vi o)] ?_))
       obtain ⟨cO, bG, f⟩ := bind_some f
       obtain ⟨bp, cz, cc, cD, af, cB, bX⟩ := RView.elem (P := Tryz.prog) (Mo := []) tsl22 bf bG
       obtain rfl := af
       refine x_indexAddr (xv := .slice aH (av).length aJ) (yv := Vi o) (.pointer (some bp)) R R R R cc ?_
       obtain ⟨aG, aB, K, cG, b4⟩ := RView.store (P := Tryz.prog) (y := 2) (Vi 2) (plain_int _) tcell3 n bf bG bX R R (fun _ _ _ af => set_int af)
       refine x_store aG (xv := .pointer (some bp)) (yv := Vi 2) R R R R aB (inl1 ?_)
       have v := Stp.ev' (ls := [[a], m, h]) K (mem_flat 1 R)
       replace k := K.box k (b.apart 0 1 R R R _ mem1)
       replace d := d.step v
       replace b := b.ev K
       replace j := j.then K (fun t u => .inr (g.at 1 R t u))
       replace n := b4
       have Z : (Value.slice p (x).length q) = (Value.slice p ((x.set (Int.toNat c) (av.set (Int.toNat o) 2))).length q) := by first | (rw [List.length_set]; done) | simp only [List.length_set]
       try rw [Z]
       clear Z
       have Z : (Value.slice aH (av).length aJ) = (Value.slice aH ((av.set (Int.toNat o) 2)).length aJ) := by first | (rw [List.length_set]; done) | simp only [List.length_set]
       try rw [Z]
       clear Z
       refine x_end R (k_block (k_block (k_then (c_plain (x_u 2 [(71, Vi (i64.wrap (o + 1))), (29, Vi (i64.wrap (o + 1)))] (x_end R ?_))))))
       obtain rfl := some_inj f
       exact k_then ⟨(aq, (x.set (Int.toNat c) (av.set (Int.toNat o) 2)), i64.wrap (o + 1)), ⟨R, R, R, R, R, R, R, trivial⟩, ⟨an, j, b, g, d, k, n⟩, Nat.lt_succ_self _⟩
     refine c_plain (x_u 2 [(42, .slice p (x).length q), (43, Vi c)] ?_)
     obtain ⟨aw, cp, f⟩ := bind_some f
     obtain ⟨bx, aI, aK, cd, bg⟩ := OwnR.view (P := Tryz.prog) (Mo := []) tsl57 n cp
     refine x_indexAddr (xv := .slice p (x).length q) (yv := Vi c) (.pointer (some ⟨bx, (Int.toNat c), none⟩)) R R R R cd (x_load (xv := .pointer (some ⟨bx, (Int.toNat c), none⟩)) (.slice aI (aw).length aK) R R R (RView.load tcell22 bg) (x_u 1 [(46, Vi o)] ?_))
     obtain ⟨cQ, bH, f⟩ := bind_some f
     obtain ⟨bq, cA, ce, cE, af, cC, bY⟩ := RView.elem (P := Tryz.prog) (Mo := []) tsl22 bg bH
     obtain rfl := af
     refine x_indexAddr (xv := .slice aI (aw).length aK) (yv := Vi o) (.pointer (some bq)) R R R R ce ?_
     obtain ⟨ct, cf, aU, cH, b5⟩ := RView.store (P := Tryz.prog) (y := 1) (Vi 1) (plain_int _) tcell3 n bg bH bY R R (fun _ _ _ af => set_int af)
     refine x_store ct (xv := .pointer (some bq)) (yv := Vi 1) R R R R cf (inl1 ?_)
     have v := Stp.ev' (ls := [[a], m, h]) aU (mem_flat 1 R)
     replace k := aU.box k (b.apart 0 1 R R R _ mem1)
     replace d := d.step v
     replace b := b.ev aU
     replace j := j.then aU (fun t u => .inr (g.at 1 R t u))
     replace n := b5
     have Z : (Value.slice p (x).length q) = (Value.slice p ((x.set (Int.toNat c) (aw.set (Int.toNat o) 1))).length q) := by first | (rw [List.length_set]; done) | simp only [List.length_set]
     try rw [Z]
     clear Z
     have Z : (Value.slice aI (aw).length aK) = (Value.slice aI ((aw.set (Int.toNat o) 1)).length aK) := by first | (rw [List.length_set]; done) | simp only [List.length_set]
     try rw [Z]
     clear Z
     refine x_end R (k_block (k_block (k_then (c_plain (x_u 2 [(71, Vi (i64.wrap (o + 1))), (29, Vi (i64.wrap (o + 1)))] (x_end R ?_))))))
     obtain rfl := some_inj f
     exact k_then ⟨(aq, (x.set (Int.toNat c) (aw.set (Int.toNat o) 1)), i64.wrap (o + 1)), ⟨R, R, R, R, R, R, R, trivial⟩, ⟨an, j, b, g, d, k, n⟩, Nat.lt_succ_self _⟩
   refine c_exit (k_then_exit ?_)
   obtain rfl := some_inj f
   have bh := some_inj an
   subst bh
   replace f := bO
   refine k_then_exit (k_block_in (k_block (k_then (c_nm [(1, Vp a 0), (3, .slice p (x).length q), (13, Vi (((List.replicate (Int.toNat ((i).length : Int)) ([] : List Int))).length : Int)), (14, Vi c)] (fun ag => ?_)))))
   refine c_plain (x_u 2 [(72, Vi (i64.wrap (c + 1))), (14, Vi (i64.wrap (c + 1)))] (x_end R ?_))
   obtain rfl := some_inj f
   exact k_then ⟨(aC, x, i64.wrap (c + 1), m), ⟨R, R, R, R, trivial⟩, ⟨aA, j, b, g, d, k, n⟩, Nat.lt_succ_self _⟩
 refine c_exit (k_then_exit ?_)
 obtain rfl := some_inj f
 have bh := some_inj aA
 subst bh
 replace f := bQ
 refine k_then_exit (k_block_in (k_then (c_nm [(3, .slice p (J).length q)] (fun ag => ?_))))
 refine c_sp (x_u 2 [(73, .slice p (J).length q), (2, .slice p (J).length q)] (x_ek (c_ret (r_ret (r_vals [.slice p (J).length q] ⟨R, trivial⟩ ?_)))))
 obtain rfl := some_inj f
 have b3 := b.pick [some 1, some 2] [ab, h] R
 have b1 := g.pick [some 1] [ab] R
 exact ⟨p, q, ab, R, j, b3, b1, n⟩
def leastcode_solve_1 (b : Int) (c : Int) (a : List (Int × Int × Int × Int)) (f : Int) : Option Int :=
((idx a b).bind fun d =>
((idx a c).bind fun e =>
some (i64.wrap (d.2.1 - e.2.1))))
theorem leastcode_solve_1_w (h : Int) (i : Int) (a : Nat) (e : Option Addr) (f : Nat) (d : List (Int × Int × Int × Int)) (r : Int) (t : Int) (b : World) (o : List Nat) (G : MS b [[a], o]) (n : SlR (eIt4) b (fl [[a], o]) e f d) (g : b.heap[a]? = some (.cells #[Vl e d f, Vi r] 50 (0, 0))) (c : leastcode_solve_1 h i d r = some t) : CallVC Tryz.prog 110 [Vi h, Vi i, Vp a 0] b fun C s => (∃ B, s = b.drewN B) ∧ C = Vi t ∧ Ev [a] b s ∧ s.heap[a]? = some (.cells #[Vl e d f, Vi r] 50 (0, 0)) := by
 refine calls_vc hmx Tryz.func110 (by kernel_rfl) R (rs := [.tmp 5]) R (by kernel_rfl) (args := [Vi h, Vi i, Vp a 0]) R ?_
 have q : Ev [a] b b := Ev.refl _ _
 refine c_sp (x_u 1 [(5, Vi 0)] (x_ek (c_seq (c_drawn [] [(0, false), (1, false), (2, false), (3, false), (4, false), (5, false), (6, false), (7, false), (8, false), (9, false), (10, false), (11, false), (12, false), (13, false)] _ (by kernel_rfl) R ?_))))
 have y := Stp.ext (ls := [[a], o]) (Ev.drew b)
 replace n := n.step y
 replace g := (Ev.drew b).box g nn
 replace q := q.ext (Ev.drew b)
 refine x_fieldAddr (xv := Vp a 0) (Vp a 0) R R R (reads_field tfld50_0 _ _) (x_load (xv := Vp a 0) (Vl e d f) R R R (reads_box tcell36 g nn 0 _ R) (x_u 1 [(8, Vi h)] ?_))
 obtain ⟨j, z, c⟩ := bind_some c
 obtain ⟨l, E, w, u, p⟩ := reads_index (Mo := []) tsl36 n z
 obtain ⟨_, _, rfl, rfl, ⟨_, _, rfl, rfl, ⟨_, _, rfl, rfl, rfl⟩⟩⟩ := p
 refine x_indexAddr (xv := Vl e d f) (yv := Vi h) (.pointer (some l)) R R R R w (x_fieldAddr (xv := .pointer (some l)) (.pointer (some (Addr.add l 1))) R R R (reads_field tfld76_1 _ _) (x_load (xv := .pointer (some (Addr.add l 1))) (Vi j.2.1) R R R (reads_cell tcell3 u (fun _ c => by cases c) 1 _ R) ?_))
 refine x_fieldAddr (xv := Vp a 0) (Vp a 0) R R R (reads_field tfld50_0 _ _) (x_load (xv := Vp a 0) (Vl e d f) R R R (reads_box tcell36 g nn 0 _ R) (x_u 1 [(14, Vi i)] ?_))
 obtain ⟨k, A, c⟩ := bind_some c
 obtain ⟨m, F, x, v, p⟩ := reads_index (Mo := []) tsl36 n A
 obtain ⟨_, _, rfl, rfl, ⟨_, _, rfl, rfl, ⟨_, _, rfl, rfl, rfl⟩⟩⟩ := p
 refine x_indexAddr (xv := Vl e d f) (yv := Vi i) (.pointer (some m)) R R R R x (x_fieldAddr (xv := .pointer (some m)) (.pointer (some (Addr.add m 1))) R R R (reads_field tfld76_1 _ _) (x_load (xv := .pointer (some (Addr.add m 1))) (Vi k.2.1) R R R (reads_cell tcell3 v (fun _ c => by cases c) 1 _ R) ?_))
 refine x_u 2 [(18, Vi (i64.wrap (j.2.1 - k.2.1))), (5, Vi (i64.wrap (j.2.1 - k.2.1)))] (x_ek (c_nm [(5, Vi (i64.wrap (j.2.1 - k.2.1)))] (fun D => ?_)))
 refine c_ret (r_ret (r_vals [Vi (i64.wrap (j.2.1 - k.2.1))] ⟨R, trivial⟩ ?_))
 obtain rfl := some_inj c
 exact ⟨⟨1, R⟩, R, q, g⟩
def leastcode_solve_L23 (h : List (Int × Int × Int × Int)) (i : List (List Int)) (g : List Int) (c : Int) (j : (List Int) × Int) : Option (Step ((List Int) × Int) (List Int)) :=
match j with
| (a, b) =>
(if (decide (b < ((h).length : Int))) = true then
((idx i b).bind fun k =>
((idx k c).bind fun d =>
(if (decide (d > 0)) = true then
((idx a c).bind fun e =>
((idx g b).bind fun f =>
((idx a c).bind fun l =>
some (.next ((a.set (Int.toNat c) (if (i64.wrap ((i64.wrap (f + d)) - 1)) > e then (i64.wrap ((i64.wrap (f + d)) - 1)) else e)), i64.wrap (b + 1))))))
else
some (.next (a, i64.wrap (b + 1))))))
else
some (.done a))
def leastcode_solve_L18 (g : List (Int × Int × Int × Int)) (j : Int) (k : List (List Int)) (h : List Int) (l : (List Int) × (List Int) × Int) : Option (Step ((List Int) × (List Int) × Int) (Int ⊕ ((List Int) × (List Int)))) :=
match l with
| (e, b, c) =>
(if (decide (c < ((h).length : Int))) = true then
((idx h c).bind fun a =>
((loop (leastcode_solve_L23 g k b a) (e, 0)).bind fun i => match i with
| f => ((idx f a).bind fun m =>
((idx g a).bind fun n =>
((code_Next m n.2.2.1 j).bind fun d =>
(if (d.2 != 0) = true then
some (.done (.inl d.2))
else
((idx b a).bind fun o =>
some (.next (f, (b.set (Int.toNat a) d.1), i64.wrap (c + 1))))))))))
else
some (.done (.inr (e, b))))
def leastcode_solve_L8 (c : List (Int × Int × Int × Int)) (d : (List Int) × Int) : Option (Step ((List Int) × Int) (List Int)) :=
match d with
| (b, a) =>
(if (decide (a < (((List.replicate (Int.toNat ((c).length : Int)) 0 : List Int)).length : Int))) = true then
((idx b a).bind fun e =>
some (.next ((b.set (Int.toNat a) a), i64.wrap (a + 1))))
else
some (.done b))
def leastcode_solve (b : List (Int × Int × Int × Int)) (d : Int) (h : List (List Int)) : Option ((List Int) × (List Int) × Int) :=
(if (0 : Int) ≤ ((b).length : Int) ∧ (((b).length : Int) : Int) ≤ 4294967296 then
((loop (leastcode_solve_L8 b) ((List.replicate (Int.toNat ((b).length : Int)) 0 : List Int), 0)).bind fun c => match c with
| g => ((sortF (fun i j => leastcode_solve_1 i j b d) g).bind fun a =>
(if (0 : Int) ≤ ((a).length : Int) ∧ (((a).length : Int) : Int) ≤ 4294967296 then
(if (0 : Int) ≤ ((a).length : Int) ∧ (((a).length : Int) : Int) ≤ 4294967296 then
((loop (leastcode_solve_L18 b d h a) ((List.replicate (Int.toNat ((a).length : Int)) 0 : List Int), (List.replicate (Int.toNat ((a).length : Int)) 0 : List Int), 0)).bind fun c => match c with
| (.inl k) => some ([], [], k)
| (.inr (e, f)) => some (e, f, 0))
else none)
else none)))
else none)
theorem leastcode_solve_w (X : Option Addr) (Y : Nat) (o : List (Int × Int × Int × Int)) (af : Int) (K : Option Addr) (L : Nat) (H : List (List Int)) (ax : (List Int) × (List Int) × Int) (ac : World) (h : List Nat) (j : MS ac [h]) (r : SlR (eIt4) ac (fl [h]) X Y o) (s : SlR (eSl (eInt .i64)) ac (fl [h]) K L H) (a : leastcode_solve o af H = some ax) : CallVC Tryz.prog 79 [.agg #[.slice X (o).length Y, Vi af], .slice K (H).length L] ac fun aL w => ∃ (an : Option Addr), ∃ (ba : Nat), ∃ (ao : Option Addr), ∃ (bb : Nat), aL = .tuple #[.slice an (ax.1).length ba, .slice ao (ax.2.1).length bb, Vi ax.2.2] ∧ Ev [] ac w ∧ MS w [blk an, blk ao, h] ∧ FR ac.heap.size [blk an, blk ao] ∧ OwnS (eInt .i64) 3 w (fl [blk an, blk ao, h]) an ba ax.1 ∧ OwnS (eInt .i64) 3 w (fl [blk an, blk ao, h]) ao bb ax.2.1 := by
 refine calls_vc hmx Tryz.func79 (by kernel_rfl) R (rs := [.tmp 4, .tmp 5, .tmp 6]) R (by kernel_rfl) (args := [.agg #[.slice X (o).length Y, Vi af], .slice K (H).length L]) R ?_
 have q : Ev [] ac ac := Ev.refl _ _
 have x : FR ac.heap.size [] := FR.nil _
 refine c_sp (x_box (xv := .agg #[.slice X (o).length Y, Vi af]) R R R (fun b bv a2 p aS cS => ?_))
 replace p : bv.heap[b]? = some (.cells #[.slice X (o).length Y, Vi af] 50 (0, 0)) := p
 refine inl1 ?_
 have k := Stp.box (ls := [h]) aS a2
 replace r := r.step k
 replace s := s.step k
 replace j := j.box aS a2 p
 replace x := x.box q.size a2
 replace q := q.ext aS
 refine x_u 3 [(4, .slice none 0 0), (5, .slice none 0 0), (6, Vi 0)] (x_ek (c_sp (x_fieldAddr (xv := Vp b 0) (Vp b 0) R R R (reads_field tfld50_0 _ _) (x_load (xv := Vp b 0) (.slice X (o).length Y) R R R (reads_box tcell36 p nn 0 _ R) (x_len (vs := [.slice X (o).length Y]) (Vi ((o).length : Int)) R R R (reads_len tsl36 _ _ _ _ _) ?_)))))
 have aj := guard_l a
 replace a := guard_r a
 obtain ⟨c, v, cw, cd, aJ, a1, bp⟩ := own_make (e := (eInt .i64)) tel22 bv ((o).length : Int) aj.1 aj.2 0 (fun _ _ => R)
 refine x_makeSlice _ cw (xv := Vi ((o).length : Int)) (yv := Vi ((o).length : Int)) R R R R cd (inl1 ?_)
 have k := Stp.push (ls := [[b], h]) (l := blk c) aJ (fun _ a => by cases a) (fun S U => (a1 S U).1)
 replace r := r.step k
 replace s := s.step k
 replace p := aJ.box p nn
 replace j := j.push aJ a1
 replace x := x.push (fun S U => Nat.le_trans q.size (a1 S U).1)
 replace q := q.ext aJ
 have u := bp (fl [blk c, [b], h])
 clear bp
 refine x_u 1 [(7, .slice c ((List.replicate (Int.toNat ((o).length : Int)) 0 : List Int)).length v)] (x_ek (c_seq (c_sp (x_u 1 [(19, .slice c ((List.replicate (Int.toNat ((o).length : Int)) 0 : List Int)).length v)] (x_len (vs := [.slice c ((List.replicate (Int.toNat ((o).length : Int)) 0 : List Int)).length v]) (Vi (((List.replicate (Int.toNat ((o).length : Int)) 0 : List Int)).length : Int)) R R R (reads_len tsl22 _ _ _ _ _) (x_u 1 [(21, Vi 0)] (x_ek (c_block ?_))))))))
 have aC := j.pick [some 1, some 0, some 2] [[b], blk c, h] R
 have ae := pick_sub (ls := [blk c, [b], h]) [some 1, some 0, some 2] [[b], blk c, h] R
 replace s := s.sub ae
 replace r := r.sub ae
 replace u := u.sub ae
 replace j := aC
 replace x := x.pick [some 1, some 0] [[b], blk c] R
 clear aC ae
 obtain ⟨bB, aQ, bD⟩ := bind_some a
 obtain ⟨aF, aQ⟩ := loop_some aQ
 refine c_loop (loop_rule hmx (σ := Nat × (List Int) × Int) (fun aa => match aa with | (_, ab, D) => [(1, .slice K (H).length L), (2, Vp b 0), (7, .slice c (ab).length v), (20, Vi (((List.replicate (Int.toNat ((o).length : Int)) 0 : List Int)).length : Int)), (21, Vi D)]) (fun aa w => match aa with | (aD, ab, D) => loopN (leastcode_solve_L8 o) aD (ab, D) = some bB ∧ Ev [] ac w ∧ MS w [[b], blk c, h] ∧ FR ac.heap.size [[b], blk c] ∧ SlR (eSl (eInt .i64)) w (fl [[b], blk c, h]) K L H ∧ SlR (eIt4) w (fl [[b], blk c, h]) X Y o ∧ w.heap[b]? = some (.cells #[.slice X (o).length Y, Vi af] 50 (0, 0)) ∧ OwnS (eInt .i64) 3 w (fl [[b], blk c, h]) c v ab) (fun aa => aa.1) (aF, (List.replicate (Int.toNat ((o).length : Int)) 0 : List Int), 0) ⟨R, R, R, R, R, trivial⟩ ⟨aQ, q, j, x, s, r, p, u⟩ ?_)
 rintro ⟨aF, ab, D⟩ ag c2 ⟨aB, q, j, x, s, r, p, u⟩
 rcases aF with _ | aF
 · exact (loopN_zero aB).elim
 obtain ⟨cY, a, aB⟩ := bind_some aB
 refine c_sp (x_u 1 [(22, .bool (decide (D < (((List.replicate (Int.toNat ((o).length : Int)) 0 : List Int)).length : Int))))] (x_ek (c_nm [(1, .slice K (H).length L), (2, Vp b 0), (7, .slice c (ab).length v), (20, Vi (((List.replicate (Int.toNat ((o).length : Int)) 0 : List Int)).length : Int)), (21, Vi D), (22, .bool (decide (D < (((List.replicate (Int.toNat ((o).length : Int)) 0 : List Int)).length : Int))))] (fun ag => ?_))))
 refine c_seq (c_if (decide (D < (((List.replicate (Int.toNat ((o).length : Int)) 0 : List Int)).length : Int))) R a (fun a => ?_) (fun a => ?_))
 · refine c_skip (k_then (c_seq (c_block (c_sp (x_u 2 [(23, Vi D), (8, Vi D)] (x_ek (c_plain (x_u 3 [(24, .slice c (ab).length v), (25, Vi D), (26, Vi D)] ?_))))))))
   obtain ⟨c5, aK, a⟩ := bind_some a
   obtain ⟨bj, cH, bG, ce, cQ, B⟩ := own_index (Mo := []) tsl22 u aK
   obtain rfl := B
   refine x_indexAddr (xv := .slice c (ab).length v) (yv := Vi D) (.pointer (some ⟨bj, (Int.toNat D) * (eInt .i64).n, none⟩)) R R R R ce ?_
   obtain ⟨cr, bZ, aH, bS⟩ := own_storeE bG (y := D) 0 (Vi D) tcell3 u (mem_flat 1 R) aK R R (fun _ _ _ B => set_int B)
   refine x_store cr (xv := .pointer (some ⟨bj, (Int.toNat D) * (eInt .i64).n, none⟩)) (yv := Vi D) R R R R bZ (inl1 ?_)
   have k := Stp.ev' (ls := [[b], blk c, h]) aH (mem_flat 1 R)
   replace s := s.step k
   replace p := aH.box p (j.apart 0 1 R R R _ mem1)
   replace r := r.step k
   replace j := j.ev aH
   replace q := q.then aH (fun S U => .inr (x.at 1 R S U))
   replace u := bS
   have ai : (Value.slice c (ab).length v) = (Value.slice c ((ab.set (Int.toNat D) D)).length v) := by first | (rw [List.length_set]; done) | simp only [List.length_set]
   try rw [ai]
   clear ai
   refine x_end R (k_block (k_then (c_plain (x_u 2 [(28, Vi (i64.wrap (D + 1))), (21, Vi (i64.wrap (D + 1)))] (x_end R ?_)))))
   obtain rfl := some_inj a
   exact k_then ⟨(aF, (ab.set (Int.toNat D) D), i64.wrap (D + 1)), ⟨R, R, R, R, R, trivial⟩, ⟨aB, q, j, x, s, r, p, u⟩, Nat.lt_succ_self _⟩
 refine c_exit (k_then_exit ?_)
 obtain rfl := some_inj a
 have am := some_inj aB
 subst am
 replace a := bD
 refine k_then_exit (k_block_in (k_then (c_nm [(1, .slice K (H).length L), (2, Vp b 0), (7, .slice c (ab).length v)] (fun ag => ?_))))
 refine c_sp (x_u 1 [(29, .slice c (ab).length v)] (x_makeFunc 110 #[] #[Vp b 0] R R R R ?_))
 obtain ⟨m, al, a⟩ := bind_some a
 have az := sortF_w (P := Tryz.prog) Lsortfunc (f := 109) (g := 110) R ⟨_, Tryz.func109, by kernel_rfl, R⟩ ⟨_, Tryz.func110, by kernel_rfl, R⟩ [Vp b 0] (T := 3) (fun a3 a4 => leastcode_solve_1 a3 a4 o af) u (fun bw a3 a4 cq aU aK => by
 · have ci := Stp.ev' (ls := [[b], blk c, h]) aU (mem_flat 1 R)
   have bQ := j.ev aU
   have bY : MS bw ([[b]] ++ [h]) := bQ.pick [some 0, some 2] _ R
   have cg : ∀ ay ∈ fl ([[b]] ++ [h]), ay ∈ fl [[b], blk c, h] := pick_sub [some 0, some 2] _ R
   have ch : ∀ ay ∈ fl ([[b]] ++ [fl [h]]), ay ∈ fl [[b], blk c, h] := fun ay al => cg ay (fl_unfold ay al)
   exact (leastcode_solve_1_w a3 a4 b X Y o af cq bw (fl [h]) (bY.fold (P := [[b]])) ((r.step ci).sub ch) (aU.box p (j.apart 0 1 R R R _ mem1)) aK).mono (fun aL cZ bl => ⟨bl.2.1, bl.1⟩)) al
 refine x_call 109 #[] #[] [.slice c (ab).length v, (.func (.func 110) #[] #[Vp b 0])] _ R R R R az ?_
 rintro aL cs ⟨rfl, aI, bm, cj⟩
 clear az al
 refine inl1 ?_
 have k := Stp.ev' (ls := [[b], blk c, h]) aI (mem_flat 1 R)
 replace s := s.step k
 replace p := aI.box p (j.apart 0 1 R R R _ mem1)
 replace r := r.step k
 replace j := j.ev aI
 replace q := q.then aI (fun S U => .inr (x.at 1 R S U))
 replace u := cj (fl [[b], blk c, h])
 have ai : (Value.slice c (ab).length v) = (Value.slice c (m).length v) := by first | (rw [bm]; done) | simp only [bm]
 try rw [ai]
 clear ai
 refine x_ek (c_sp (x_u 1 [(32, .slice c (m).length v)] (x_len (vs := [.slice c (m).length v]) (Vi ((m).length : Int)) R R R (reads_len tsl22 _ _ _ _ _) ?_)))
 have aj := guard_l a
 replace a := guard_r a
 obtain ⟨d, z, bu, b0, aA, aZ, bn⟩ := own_make (e := (eInt .i64)) tel22 cs ((m).length : Int) aj.1 aj.2 0 (fun _ _ => R)
 refine x_makeSlice _ bu (xv := Vi ((m).length : Int)) (yv := Vi ((m).length : Int)) R R R R b0 (inl1 ?_)
 have k := Stp.push (ls := [[b], blk c, h]) (l := blk d) aA (fun _ a => by cases a) (fun S U => (aZ S U).1)
 replace s := s.step k
 replace p := aA.box p nn
 replace r := r.step k
 replace u := u.step k aA nn2
 replace j := j.push aA aZ
 replace x := x.push (fun S U => Nat.le_trans q.size (aZ S U).1)
 replace q := q.ext aA
 have C := bn (fl [blk d, [b], blk c, h])
 clear bn
 refine x_u 1 [(4, .slice d ((List.replicate (Int.toNat ((m).length : Int)) 0 : List Int)).length z)] (x_ek (c_sp (x_u 1 [(35, .slice c (m).length v)] (x_len (vs := [.slice c (m).length v]) (Vi ((m).length : Int)) R R R (reads_len tsl22 _ _ _ _ _) ?_))))
 have aj := guard_l a
 replace a := guard_r a
 obtain ⟨i, G, ct, b1, ap, a0, bo⟩ := own_make (e := (eInt .i64)) tel22 bu ((m).length : Int) aj.1 aj.2 0 (fun _ _ => R)
 refine x_makeSlice _ ct (xv := Vi ((m).length : Int)) (yv := Vi ((m).length : Int)) R R R R b1 (inl1 ?_)
 have k := Stp.push (ls := [blk d, [b], blk c, h]) (l := blk i) ap (fun _ a => by cases a) (fun S U => (a0 S U).1)
 replace s := s.step k
 replace p := ap.box p nn
 replace r := r.step k
 replace u := u.step k ap nn2
 replace C := C.step k ap nn2
 replace j := j.push ap a0
 replace x := x.push (fun S U => Nat.le_trans q.size (a0 S U).1)
 replace q := q.ext ap
 have J := bo (fl [blk i, blk d, [b], blk c, h])
 clear bo
 refine x_u 1 [(5, .slice i ((List.replicate (Int.toNat ((m).length : Int)) 0 : List Int)).length G)] (x_ek (c_seq (c_sp (x_u 1 [(38, .slice c (m).length v)] (x_len (vs := [.slice c (m).length v]) (Vi ((m).length : Int)) R R R (reads_len tsl22 _ _ _ _ _) (x_u 1 [(40, Vi 0)] (x_ek (c_nm [(1, .slice K (H).length L), (2, Vp b 0), (4, .slice d ((List.replicate (Int.toNat ((m).length : Int)) 0 : List Int)).length z), (5, .slice i ((List.replicate (Int.toNat ((m).length : Int)) 0 : List Int)).length G), (38, .slice c (m).length v), (39, Vi ((m).length : Int)), (40, Vi 0)] (fun ag => ?_)))))))))
 refine c_block ?_
 have aC := j.pick [some 2, some 1, some 0, some 3, some 4] [[b], blk d, blk i, blk c, h] R
 have ae := pick_sub (ls := [blk i, blk d, [b], blk c, h]) [some 2, some 1, some 0, some 3, some 4] [[b], blk d, blk i, blk c, h] R
 replace s := s.sub ae
 replace r := r.sub ae
 replace C := C.sub ae
 replace J := J.sub ae
 replace u := u.sub ae
 replace j := aC
 replace x := x.pick [some 2, some 1, some 0, some 3] [[b], blk d, blk i, blk c] R
 clear aC ae
 obtain ⟨bz, aN, bk⟩ := bind_some a
 obtain ⟨aE, aN⟩ := loop_some aN
 refine c_loop (loop_rule hmx (σ := Nat × (List Int) × (List Int) × Int) (fun aa => match aa with | (_, ah, A, N) => [(1, .slice K (H).length L), (2, Vp b 0), (4, .slice d (ah).length z), (5, .slice i (A).length G), (38, .slice c (m).length v), (39, Vi ((m).length : Int)), (40, Vi N)]) (fun aa w => match aa with | (aD, ah, A, N) => loopN (leastcode_solve_L18 o af H m) aD (ah, A, N) = some bz ∧ Ev [] ac w ∧ MS w [[b], blk d, blk i, blk c, h] ∧ FR ac.heap.size [[b], blk d, blk i, blk c] ∧ SlR (eSl (eInt .i64)) w (fl [[b], blk d, blk i, blk c, h]) K L H ∧ SlR (eIt4) w (fl [[b], blk d, blk i, blk c, h]) X Y o ∧ w.heap[b]? = some (.cells #[.slice X (o).length Y, Vi af] 50 (0, 0)) ∧ OwnS (eInt .i64) 3 w (fl [[b], blk d, blk i, blk c, h]) d z ah ∧ OwnS (eInt .i64) 3 w (fl [[b], blk d, blk i, blk c, h]) i G A ∧ OwnS (eInt .i64) 3 w (fl [[b], blk d, blk i, blk c, h]) c v m) (fun aa => aa.1) (aE, (List.replicate (Int.toNat ((m).length : Int)) 0 : List Int), (List.replicate (Int.toNat ((m).length : Int)) 0 : List Int), 0) ⟨R, R, R, R, R, R, R, trivial⟩ ⟨aN, q, j, x, s, r, p, C, J, u⟩ ?_)
 rintro ⟨aE, ah, A, N⟩ ag c1 ⟨au, q, j, x, s, r, p, C, J, u⟩
 rcases aE with _ | aE
 · exact (loopN_zero au).elim
 obtain ⟨cU, a, au⟩ := bind_some au
 refine c_sp (x_u 1 [(41, .bool (decide (N < ((m).length : Int))))] (x_ek (c_nm [(1, .slice K (H).length L), (2, Vp b 0), (4, .slice d (ah).length z), (5, .slice i (A).length G), (38, .slice c (m).length v), (39, Vi ((m).length : Int)), (40, Vi N), (41, .bool (decide (N < ((m).length : Int))))] (fun ag => ?_))))
 refine c_seq (c_if (decide (N < ((m).length : Int))) R a (fun a => ?_) (fun a => ?_))
 · refine c_skip (k_then (c_seq (c_block (c_sp ?_))))
   obtain ⟨t, ck, a⟩ := bind_some a
   obtain ⟨bd, cy, cI, b2, bH, B⟩ := own_index (Mo := []) tsl22 u ck
   obtain rfl := B
   refine x_indexAddr (xv := .slice c (m).length v) (yv := Vi N) (.pointer (some ⟨bd, (Int.toNat N) * (eInt .i64).n, none⟩)) R R R R b2 (x_load (xv := .pointer (some ⟨bd, (Int.toNat N) * (eInt .i64).n, none⟩)) (Vi t) R R R (reads_cell0 tcell3 bH (fun _ a => by cases a)) ?_)
   refine x_u 1 [(10, Vi t)] (x_ek (c_seq (c_sp (x_fieldAddr (xv := Vp b 0) (Vp b 0) R R R (reads_field tfld50_0 _ _) (x_load (xv := Vp b 0) (.slice X (o).length Y) R R R (reads_box tcell36 p nn 0 _ R) (x_len (vs := [.slice X (o).length Y]) (Vi ((o).length : Int)) R R R (reads_len tsl36 _ _ _ _ _) (x_u 1 [(47, Vi 0)] (x_ek (c_block ?_)))))))))
   obtain ⟨bA, aO, bC⟩ := bind_some a
   obtain ⟨aw, aO⟩ := loop_some aO
   refine c_loop (loop_rule hmx (σ := Nat × (List Int) × Int) (fun aa => match aa with | (_, I, F) => [(1, .slice K (H).length L), (2, Vp b 0), (4, .slice d (I).length z), (5, .slice i (A).length G), (10, Vi t), (38, .slice c (m).length v), (39, Vi ((m).length : Int)), (40, Vi N), (46, Vi ((o).length : Int)), (47, Vi F)]) (fun aa w => match aa with | (aD, I, F) => loopN (leastcode_solve_L23 o H A t) aD (I, F) = some bA ∧ Ev [] ac w ∧ MS w [[b], blk d, blk i, blk c, h] ∧ FR ac.heap.size [[b], blk d, blk i, blk c] ∧ SlR (eSl (eInt .i64)) w (fl [[b], blk d, blk i, blk c, h]) K L H ∧ SlR (eIt4) w (fl [[b], blk d, blk i, blk c, h]) X Y o ∧ w.heap[b]? = some (.cells #[.slice X (o).length Y, Vi af] 50 (0, 0)) ∧ OwnS (eInt .i64) 3 w (fl [[b], blk d, blk i, blk c, h]) d z I ∧ OwnS (eInt .i64) 3 w (fl [[b], blk d, blk i, blk c, h]) i G A ∧ OwnS (eInt .i64) 3 w (fl [[b], blk d, blk i, blk c, h]) c v m) (fun aa => aa.1) (aw, ah, 0) ⟨R, R, R, R, R, R, R, R, R, R, trivial⟩ ⟨aO, q, j, x, s, r, p, C, J, u⟩ ?_)
   rintro ⟨aw, I, F⟩ ag ad ⟨av, q, j, x, s, r, p, C, J, u⟩
   rcases aw with _ | aw
   · exact (loopN_zero av).elim
   obtain ⟨cX, a, av⟩ := bind_some av
   refine c_sp (x_u 1 [(48, .bool (decide (F < ((o).length : Int))))] (x_ek (c_nm [(1, .slice K (H).length L), (2, Vp b 0), (4, .slice d (I).length z), (5, .slice i (A).length G), (10, Vi t), (38, .slice c (m).length v), (39, Vi ((m).length : Int)), (40, Vi N), (46, Vi ((o).length : Int)), (47, Vi F), (48, .bool (decide (F < ((o).length : Int))))] (fun ag => ?_))))
   refine c_seq (c_if (decide (F < ((o).length : Int))) R a (fun a => ?_) (fun a => ?_))
   · refine c_skip (k_then (c_seq (c_block (c_sp (x_u 2 [(49, Vi F), (11, Vi F)] (x_ek (c_sp (x_u 2 [(50, .slice K (H).length L), (51, Vi F)] ?_))))))))
     obtain ⟨bx, cl, a⟩ := bind_some a
     obtain ⟨a8, cz, b3, bI, B⟩ := reads_index (Mo := []) tsl57 s cl
     obtain ⟨a7, bc, rfl, cf⟩ := B
     refine x_indexAddr (xv := .slice K (H).length L) (yv := Vi F) (.pointer (some a8)) R R R R b3 (x_load (xv := .pointer (some a8)) (.slice a7 (bx).length bc) R R R (reads_cell0 tcell22 bI (fun _ a => by cases a)) ?_)
     refine x_u 1 [(54, Vi t)] ?_
     obtain ⟨E, cm, a⟩ := bind_some a
     obtain ⟨a9, cA, b4, bJ, B⟩ := reads_index (Mo := []) tsl22 cf cm
     obtain rfl := B
     refine x_indexAddr (xv := .slice a7 (bx).length bc) (yv := Vi t) (.pointer (some a9)) R R R R b4 (x_load (xv := .pointer (some a9)) (Vi E) R R R (reads_cell0 tcell3 bJ (fun _ a => by cases a)) ?_)
     refine x_u 1 [(12, Vi E)] (x_ek (c_sp (x_u 2 [(57, Vi E), (58, .bool (decide (E > 0)))] (x_ek (c_if (decide (E > 0)) R a (fun a => ?_) (fun a => ?_))))))
     · refine c_drawn [] [(0, false), (1, false), (2, false), (3, false), (4, false), (5, false), (6, false), (7, false), (8, false), (9, false), (10, false), (11, false), (12, false), (13, false), (14, false), (15, true)] _ (by kernel_rfl) R ?_
       have k := Stp.ext (ls := [[b], blk d, blk i, blk c, h]) (Ev.drew ad)
       replace s := s.step k
       replace p := (Ev.drew ad).box p nn
       replace r := r.step k
       replace C := C.step k (Ev.drew ad) nn2
       replace J := J.step k (Ev.drew ad) nn2
       replace u := u.step k (Ev.drew ad) nn2
       replace j := j.ev (Ev.drew ad)
       replace q := q.ext (Ev.drew ad)
       refine x_u 4 [(59, .slice d (I).length z), (60, Vi t), (61, .slice d (I).length z), (62, Vi t)] ?_
       obtain ⟨Z, bq, a⟩ := bind_some a
       obtain ⟨be, cB, cJ, b5, bK, B⟩ := own_index (Mo := []) tsl22 C bq
       obtain rfl := B
       refine x_indexAddr (xv := .slice d (I).length z) (yv := Vi t) (.pointer (some ⟨be, (Int.toNat t) * (eInt .i64).n, none⟩)) R R R R b5 (x_load (xv := .pointer (some ⟨be, (Int.toNat t) * (eInt .i64).n, none⟩)) (Vi Z) R R R (reads_cell0 tcell3 bK (fun _ a => by cases a)) ?_)
       refine x_u 2 [(65, .slice i (A).length G), (66, Vi F)] ?_
       obtain ⟨O, cn, a⟩ := bind_some a
       obtain ⟨bf, cC, cK, b6, bL, B⟩ := own_index (Mo := []) tsl22 J cn
       obtain rfl := B
       refine x_indexAddr (xv := .slice i (A).length G) (yv := Vi F) (.pointer (some ⟨bf, (Int.toNat F) * (eInt .i64).n, none⟩)) R R R R b6 (x_load (xv := .pointer (some ⟨bf, (Int.toNat F) * (eInt .i64).n, none⟩)) (Vi O) R R R (reads_cell0 tcell3 bL (fun _ a => by cases a)) ?_)
       refine x_u 3 [(69, Vi E), (70, Vi (i64.wrap (O + E))), (71, Vi (i64.wrap ((i64.wrap (O + E)) - 1)))] (x_max (vs := [Vi Z, Vi (i64.wrap ((i64.wrap (O + E)) - 1))]) (Vi (if (i64.wrap ((i64.wrap (O + E)) - 1)) > Z then (i64.wrap ((i64.wrap (O + E)) - 1)) else Z)) R R R (fun _ _ => R) ?_)
       obtain ⟨c3, br, a⟩ := bind_some a
       obtain ⟨bg, cD, bE, b7, cN, B⟩ := own_index (Mo := []) tsl22 C br
       obtain rfl := B
       refine x_indexAddr (xv := .slice d (I).length z) (yv := Vi t) (.pointer (some ⟨bg, (Int.toNat t) * (eInt .i64).n, none⟩)) R R R R b7 ?_
       have bt := bq
       obtain ⟨cu, b8, aq, bU⟩ := own_storeE bE (y := if (i64.wrap ((i64.wrap (O + E)) - 1)) > Z then (i64.wrap ((i64.wrap (O + E)) - 1)) else Z) 0 (Vi (if (i64.wrap ((i64.wrap (O + E)) - 1)) > Z then (i64.wrap ((i64.wrap (O + E)) - 1)) else Z)) tcell3 C (mem_flat 1 R) br R R (fun _ _ _ B => set_int B)
       refine x_store cu (xv := .pointer (some ⟨bg, (Int.toNat t) * (eInt .i64).n, none⟩)) (yv := Vi (if (i64.wrap ((i64.wrap (O + E)) - 1)) > Z then (i64.wrap ((i64.wrap (O + E)) - 1)) else Z)) R R R R b8 (inl1 ?_)
       have k := Stp.ev' (ls := [[b], blk d, blk i, blk c, h]) aq (mem_flat 1 R)
       replace s := s.step k
       replace p := aq.box p (j.apart 0 1 R R R _ mem1)
       replace r := r.step k
       replace J := J.step k aq (j.apart 2 1 R R R)
       replace u := u.step k aq (j.apart 3 1 R R R)
       replace j := j.ev aq
       replace q := q.then aq (fun S U => .inr (x.at 1 R S U))
       replace C := bU
       have ai : (Value.slice d (I).length z) = (Value.slice d ((I.set (Int.toNat t) (if (i64.wrap ((i64.wrap (O + E)) - 1)) > Z then (i64.wrap ((i64.wrap (O + E)) - 1)) else Z))).length z) := by first | (rw [List.length_set]; done) | simp only [List.length_set]
       try rw [ai]
       clear ai
       obtain ⟨_, bt⟩ : ∃ y, idx (I.set (Int.toNat t) (if (i64.wrap ((i64.wrap (O + E)) - 1)) > Z then (i64.wrap ((i64.wrap (O + E)) - 1)) else Z)) t = some y := idx_set_any bt _ _
       refine x_end R (k_block (k_then (c_nm [(1, .slice K (H).length L), (2, Vp b 0), (4, .slice d ((I.set (Int.toNat t) (if (i64.wrap ((i64.wrap (O + E)) - 1)) > Z then (i64.wrap ((i64.wrap (O + E)) - 1)) else Z))).length z), (5, .slice i (A).length G), (10, Vi t), (38, .slice c (m).length v), (39, Vi ((m).length : Int)), (40, Vi N), (46, Vi ((o).length : Int)), (47, Vi F)] (fun ag => ?_))))
       refine c_plain (x_u 2 [(74, Vi (i64.wrap (F + 1))), (47, Vi (i64.wrap (F + 1)))] (x_end R ?_))
       obtain rfl := some_inj a
       exact k_then ⟨(aw, (I.set (Int.toNat t) (if (i64.wrap ((i64.wrap (O + E)) - 1)) > Z then (i64.wrap ((i64.wrap (O + E)) - 1)) else Z)), i64.wrap (F + 1)), ⟨R, R, R, R, R, R, R, R, R, R, trivial⟩, ⟨av, q, j, x, s, r, p, C, J, u⟩, Nat.lt_succ_self _⟩
     refine c_skip (k_block (k_then (c_nm [(1, .slice K (H).length L), (2, Vp b 0), (4, .slice d (I).length z), (5, .slice i (A).length G), (10, Vi t), (38, .slice c (m).length v), (39, Vi ((m).length : Int)), (40, Vi N), (46, Vi ((o).length : Int)), (47, Vi F)] (fun ag => ?_))))
     refine c_plain (x_u 2 [(74, Vi (i64.wrap (F + 1))), (47, Vi (i64.wrap (F + 1)))] (x_end R ?_))
     obtain rfl := some_inj a
     exact k_then ⟨(aw, I, i64.wrap (F + 1)), ⟨R, R, R, R, R, R, R, R, R, R, trivial⟩, ⟨av, q, j, x, s, r, p, C, J, u⟩, Nat.lt_succ_self _⟩
   refine c_exit (k_then_exit ?_)
   obtain rfl := some_inj a
   have am := some_inj av
   subst am
   replace a := bC
   refine k_then_exit (k_block_in (k_then (c_nm [(1, .slice K (H).length L), (2, Vp b 0), (4, .slice d (I).length z), (5, .slice i (A).length G), (10, Vi t), (38, .slice c (m).length v), (39, Vi ((m).length : Int)), (40, Vi N)] (fun ag => ?_))))
   refine c_seq (c_drawn [] [(0, false), (1, false), (2, false), (3, false), (4, false), (5, false), (6, false), (7, false), (8, false), (9, false), (10, false), (11, false), (12, true), (13, false), (14, false), (15, false), (16, false), (17, false)] _ (by kernel_rfl) R ?_)
   have k := Stp.ext (ls := [[b], blk d, blk i, blk c, h]) (Ev.drew ad)
   replace s := s.step k
   replace p := (Ev.drew ad).box p nn
   replace r := r.step k
   replace C := C.step k (Ev.drew ad) nn2
   replace J := J.step k (Ev.drew ad) nn2
   replace u := u.step k (Ev.drew ad) nn2
   replace j := j.ev (Ev.drew ad)
   replace q := q.ext (Ev.drew ad)
   refine x_u 2 [(76, .slice d (I).length z), (77, Vi t)] ?_
   obtain ⟨a5, co, a⟩ := bind_some a
   obtain ⟨bh, cE, cL, b9, bN, B⟩ := own_index (Mo := []) tsl22 C co
   obtain rfl := B
   refine x_indexAddr (xv := .slice d (I).length z) (yv := Vi t) (.pointer (some ⟨bh, (Int.toNat t) * (eInt .i64).n, none⟩)) R R R R b9 (x_load (xv := .pointer (some ⟨bh, (Int.toNat t) * (eInt .i64).n, none⟩)) (Vi a5) R R R (reads_cell0 tcell3 bN (fun _ a => by cases a)) ?_)
   refine x_fieldAddr (xv := Vp b 0) (Vp b 0) R R R (reads_field tfld50_0 _ _) (x_load (xv := Vp b 0) (.slice X (o).length Y) R R R (reads_box tcell36 p nn 0 _ R) (x_u 1 [(82, Vi t)] ?_))
   obtain ⟨a6, cp, a⟩ := bind_some a
   obtain ⟨aG, cF, ca, bO, B⟩ := reads_index (Mo := []) tsl36 r cp
   obtain ⟨_, _, rfl, rfl, ⟨_, _, rfl, rfl, ⟨_, _, rfl, rfl, rfl⟩⟩⟩ := B
   refine x_indexAddr (xv := .slice X (o).length Y) (yv := Vi t) (.pointer (some aG)) R R R R ca (x_fieldAddr (xv := .pointer (some aG)) (.pointer (some (Addr.add aG 2))) R R R (reads_field tfld76_2 _ _) (x_load (xv := .pointer (some (Addr.add aG 2))) (Vi a6.2.2.1) R R R (reads_cell tcell3 bO (fun _ a => by cases a) 2 _ R) ?_))
   refine x_fieldAddr (xv := Vp b 0) (Vp b 1) R R R (reads_field tfld50_1 _ _) (x_load (xv := Vp b 1) (Vi af) R R R (reads_box tcell3 p nn 1 _ R) ?_)
   obtain ⟨Q, al, a⟩ := bind_some a
   have az := code_Next_w a5 a6.2.2.1 af _ (ad).drew al
   refine x_call 111 #[] #[] [Vi a5, Vi a6.2.2.1, Vi af] _ R R R R az ?_
   rintro aL c0 ⟨rfl, ak⟩
   clear az al
   refine inl1 ?_
   have k := Stp.ext (ls := [[b], blk d, blk i, blk c, h]) ak
   replace s := s.step k
   replace p := ak.box p nn
   replace r := r.step k
   replace C := C.step k ak nn2
   replace J := J.step k ak nn2
   replace u := u.step k ak nn2
   replace j := j.ev ak
   replace q := q.ext ak
   refine x_u 5 [(75, .tuple #[Vi Q.1, Vi Q.2]), (89, Vi Q.1), (90, Vi Q.2), (13, Vi Q.1), (14, Vi Q.2)] (x_ek (c_nm [(1, .slice K (H).length L), (2, Vp b 0), (4, .slice d (I).length z), (5, .slice i (A).length G), (10, Vi t), (13, Vi Q.1), (14, Vi Q.2), (38, .slice c (m).length v), (39, Vi ((m).length : Int)), (40, Vi N)] (fun ag => ?_)))
   refine c_seq (c_sp (x_u 2 [(91, Vi Q.2), (92, .bool (Q.2 != 0))] (x_ek (c_if (Q.2 != 0) R a (fun a => ?_) (fun a => ?_)))))
   · refine c_sp (x_u 4 [(93, Vi Q.2), (4, .slice none 0 0), (5, .slice none 0 0), (6, Vi Q.2)] (x_ek (c_ret (k_then_ret (k_block_ret (k_then_ret ?_))))))
     obtain rfl := some_inj a
     have am := some_inj au
     subst am
     replace a := bk
     refine k_then_ret (k_block_ret (k_then_ret (r_ret (r_vals [.slice none 0 0, .slice none 0 0, Vi Q.2] ⟨R, R, R, trivial⟩ ?_))))
     obtain rfl := some_inj a
     have aY := j.pick [none, none, some 4] [blk none, blk none, h] R
     have aX := x.pick [none, none] [blk none, blk none] R
     exact ⟨none, 0, none, 0, R, q, aY, aX, OwnS.nil _ _ _ _, OwnS.nil _ _ _ _⟩
   refine c_skip (k_then (c_plain (x_u 3 [(94, .slice i (A).length G), (95, Vi t), (96, Vi Q.1)] ?_)))
   obtain ⟨c4, bs, a⟩ := bind_some a
   obtain ⟨bi, cG, bF, cb, cO, B⟩ := own_index (Mo := []) tsl22 J bs
   obtain rfl := B
   refine x_indexAddr (xv := .slice i (A).length G) (yv := Vi t) (.pointer (some ⟨bi, (Int.toNat t) * (eInt .i64).n, none⟩)) R R R R cb ?_
   obtain ⟨cv, cc, ar, bX⟩ := own_storeE bF (y := Q.1) 0 (Vi Q.1) tcell3 J (mem_flat 2 R) bs R R (fun _ _ _ B => set_int B)
   refine x_store cv (xv := .pointer (some ⟨bi, (Int.toNat t) * (eInt .i64).n, none⟩)) (yv := Vi Q.1) R R R R cc (inl1 ?_)
   have k := Stp.ev' (ls := [[b], blk d, blk i, blk c, h]) ar (mem_flat 2 R)
   replace s := s.step k
   replace p := ar.box p (j.apart 0 2 R R R _ mem1)
   replace r := r.step k
   replace C := C.step k ar (j.apart 1 2 R R R)
   replace u := u.step k ar (j.apart 3 2 R R R)
   replace j := j.ev ar
   replace q := q.then ar (fun S U => .inr (x.at 2 R S U))
   replace J := bX
   have ai : (Value.slice i (A).length G) = (Value.slice i ((A.set (Int.toNat t) Q.1)).length G) := by first | (rw [List.length_set]; done) | simp only [List.length_set]
   try rw [ai]
   clear ai
   refine x_end R (k_block (k_then (c_plain (x_u 2 [(98, Vi (i64.wrap (N + 1))), (40, Vi (i64.wrap (N + 1)))] (x_end R ?_)))))
   obtain rfl := some_inj a
   exact k_then ⟨(aE, I, (A.set (Int.toNat t) Q.1), i64.wrap (N + 1)), ⟨R, R, R, R, R, R, R, trivial⟩, ⟨au, q, j, x, s, r, p, C, J, u⟩, Nat.lt_succ_self _⟩
 refine c_exit (k_then_exit ?_)
 obtain rfl := some_inj a
 have am := some_inj au
 subst am
 replace a := bk
 refine k_then_exit (k_block_in (k_then (c_nm [(4, .slice d (ah).length z), (5, .slice i (A).length G)] (fun ag => ?_))))
 refine c_sp (x_u 5 [(99, .slice d (ah).length z), (100, .slice i (A).length G), (4, .slice d (ah).length z), (5, .slice i (A).length G), (6, Vi 0)] (x_ek (c_ret (r_ret (r_vals [.slice d (ah).length z, .slice i (A).length G, Vi 0] ⟨R, R, R, trivial⟩ ?_)))))
 obtain rfl := some_inj a
 have aY := j.pick [some 1, some 2, some 4] [blk d, blk i, h] R
 have ae := pick_sub (ls := [[b], blk d, blk i, blk c, h]) [some 1, some 2, some 4] [blk d, blk i, h] R
 have aX := x.pick [some 1, some 2] [blk d, blk i] R
 exact ⟨d, z, i, G, R, q, aY, aX, C.sub ae, J.sub ae⟩
def leastcode_Least_L22 (c : (List Int) × (List Int) × Int) (e : Int × Int) : Option (Step (Int × Int) Int) :=
match e with
| (a, b) =>
(if (decide (b < ((c.2.1).length : Int))) = true then
((idx c.2.1 b).bind fun f =>
((code_Steps f).bind fun d =>
some (.next (if d.1 > a then d.1 else a, i64.wrap (b + 1)))))
else
some (.done a))
def leastcode_Least (b : List (Int × Int × Int × Int)) (c : Int) : Option ((Int × (List Int)) × Int) :=
((job_Valid b c).bind fun d =>
(if (d != 0) = true then
some ((0, []), d)
else
((leastcode_relations b c).bind fun g =>
((leastcode_solve b c g).bind fun a =>
(if (a.2.2 != 0) = true then
some ((0, []), a.2.2)
else
((loop (leastcode_Least_L22 a) (0, 0)).bind fun e => match e with
| f => some ((f, a.2.1), 0)))))))
theorem leastcode_Least_w (s : Option Addr) (t : Nat) (q : List (Int × Int × Int × Int)) (u : Int) (af : (Int × (List Int)) × Int) (G : World) (d : List Nat) (e : MS G [d]) (C : SlR (eIt4) G (fl [d]) s t q) (i : leastcode_Least q u = some af) : CallVC Tryz.prog 51 [.agg #[Vl s q t, Vi u]] G fun ah I => ∃ (O : Option Addr), ∃ (aA : Nat), ah = .tuple #[.agg #[Vi af.1.1, Vl O af.1.2 aA], Vi af.2] ∧ Ev [] G I ∧ MS I [blk O, d] ∧ FR G.heap.size [blk O] ∧ OwnS (eInt .i64) 3 I (fl [blk O, d]) O aA af.1.2 := by
 refine calls_vc hmx Tryz.func51 (by kernel_rfl) R (rs := [.cell 2 52, .tmp 3]) R (by kernel_rfl) (args := [.agg #[Vl s q t, Vi u]]) R ?_
 have f : Ev [] G G := Ev.refl _ _
 have l : FR G.heap.size [] := FR.nil _
 refine c_sp (x_box (xv := .agg #[Vl s q t, Vi u]) R R R (fun g bf aw E aq bp => ?_))
 replace E : bf.heap[g]? = some (.cells #[Vl s q t, Vi u] 50 (0, 0)) := E
 refine inl1 ?_
 have o := Stp.box (ls := [d]) aq aw
 replace C := C.step o
 replace e := e.box aq aw E
 replace l := l.box f.size aw
 replace f := f.ext aq
 refine x_alloc (z := .agg #[Vi 0, .slice none 0 0]) R R (by kernel_rfl) (fun a aK ax h al bq => ?_)
 replace h : aK.heap[a]? = some (.cells #[Vi 0, .slice none 0 0] 52 (0, 0)) := h
 refine inl1 ?_
 have o := Stp.box (ls := [[g], d]) al ax
 replace C := C.step o
 replace E := al.box E nn
 replace e := e.box al ax h
 replace l := l.box f.size ax
 replace f := f.ext al
 refine x_u 1 [(3, Vi 0)] (x_ek (c_seq (c_sp (x_load (xv := Vp g 0) (.agg #[Vl s q t, Vi u]) R R R (reads_boxagg 0 [Vl s q t, Vi u] tagg50 E nn R) ?_))))
 obtain ⟨L, v, i⟩ := bind_some i
 have F := job_Valid_w s t q u _ aK (fl [[a], [g], d]) (MS.fold (P := []) e) (C.sub fl1) v
 refine x_call 46 #[] #[] [.agg #[Vl s q t, Vi u]] _ R R R R F ?_
 rintro ah K ⟨rfl, Y⟩
 clear F v
 refine inl1 ?_
 have o := Stp.ext (ls := [[a], [g], d]) Y
 replace C := C.step o
 replace E := Y.box E nn
 replace h := Y.box h nn
 replace e := e.ev Y
 replace f := f.ext Y
 refine x_u 1 [(4, Vi L)] (x_ek (c_sp (x_u 2 [(15, Vi L), (16, .bool (L != 0))] (x_ek (c_if (L != 0) R i (fun i => ?_) (fun i => ?_))))))
 · refine c_sp (x_build (vs := []) (.agg #[Vi 0, .slice none 0 0]) R R R (fun _ _ => by kernel_rfl) ?_)
   refine x_u 1 [(18, Vi L)] ?_
   obtain ⟨bj, a9, aZ, aE⟩ := store_boxagg 0 [Vi 0, .slice none 0 0] #[Vi 0, .slice none 0 0] tagg52 h R R R
   refine x_store bj (xv := Vp a 0) (yv := .agg #[Vi 0, .slice none 0 0]) R R R R a9 (inl1 ?_)
   replace e := e.ev aE
   replace f := f.then aE (fun x B => .inr (l.at 0 R x B))
   replace h := aZ
   refine x_u 1 [(3, Vi L)] (x_ek (c_ret (k_then_ret (r_ret (r_vals [.agg #[Vi 0, .slice none 0 0], Vi L] ⟨⟨_, R, loadVar_of_reads (reads_boxagg (Mo := []) 0 [Vi 0, .slice none 0 0] tagg52 h nn R)⟩, R, trivial⟩ ?_)))))
   obtain rfl := some_inj i
   have ab := e.pick [none, some 2] [blk none, d] R
   have Z := l.pick [none] [blk none] R
   exact ⟨none, 0, R, f, ab, Z, OwnS.nil _ _ _ _⟩
 refine c_skip (k_then (c_seq (c_drawn [] [(0, false), (1, false), (2, false), (3, true), (4, false), (5, false), (6, false), (7, false), (8, false), (9, false), (10, false)] _ (by kernel_rfl) R ?_)))
 have o := Stp.ext (ls := [[a], [g], d]) (Ev.drew K)
 replace C := C.step o
 replace E := (Ev.drew K).box E nn
 replace h := (Ev.drew K).box h nn
 replace e := e.ev (Ev.drew K)
 replace f := f.ext (Ev.drew K)
 refine x_load (xv := Vp g 0) (.agg #[Vl s q t, Vi u]) R R R (reads_boxagg 0 [Vl s q t, Vi u] tagg50 E nn R) (x_load (xv := Vp g 0) (.agg #[Vl s q t, Vi u]) R R R (reads_boxagg 0 [Vl s q t, Vi u] tagg50 E nn R) ?_)
 obtain ⟨aL, v, i⟩ := bind_some i
 have J : MS (K).drew ([] ++ [[a], [g], d]) := e.pick [some 0, some 1, some 2] _ R
 have aG : ∀ D ∈ fl ([] ++ [[a], [g], d]), D ∈ fl [[a], [g], d] := pick_sub [some 0, some 1, some 2] _ R
 have ad : ∀ D ∈ fl ([] ++ [(fl [[a], [g], d])]), D ∈ fl [[a], [g], d] := fun D v => aG D (fl_unfold D v)
 have F := leastcode_relations_w s t q u _ (K).drew (fl [[a], [g], d]) (MS.fold (P := []) J) (C.sub ad) v
 refine x_call 80 #[] #[] [.agg #[Vl s q t, Vi u]] _ R R R R F ?_
 rintro ah aJ ⟨az, aB, A, rfl, Q, a2, ar, a1⟩
 clear F v
 refine ⟨.inr Q, ?_⟩
 have au : MS (K).drew ([] ++ [[a], [g], d]) := e.pick [some 0, some 1, some 2] _ R
 have ay : ∀ D ∈ fl ([] ++ [[a], [g], d]), D ∈ fl [[a], [g], d] := pick_sub [some 0, some 1, some 2] _ R
 have aI := Stp.call (LS := [[a], [g], d]) (res := [A]) (par := []) (R := [[a], [g], d]) Q (fun x B => ay x (fl_left' (P := []) x B)) ar (NP.init _ _) (fun D v => ay D (fl_right' (P := []) D v))
 have aH : ∀ D ∈ fl [A, [a], [g], d], D ∈ fl ([A] ++ ([] ++ [[a], [g], d])) := pick_sub [some 0, some 1, some 2, some 3] _ R
 have o := aI.res aH
 replace C := C.step o
 replace h := Q.box h ((MS.outs (P := []) au 0 R) _ mem1)
 replace e : MS aJ [A, [a], [g], d] := (MS.call (P := []) (R := [[a], [g], d]) (res := [A]) (par := []) au Q a2 ar (NP.init _ _)).pick [some 0, some 1, some 2, some 3] _ R
 have aa : FR G.heap.size [A, [a], [g]] := (FR.cons (fun x B => Nat.le_trans f.size (ar.at 0 R x B)) (FR.cons (l.at 0 R) (FR.cons (l.at 1 R) (FR.nil _))))
 replace f := f.ext Q
 replace l := aa
 clear aa
 clear J ad aG au ay aI aH o
 obtain ⟨c, v, i⟩ := bind_some i
 have J := e.pick [some 1, some 2, some 3] ([] ++ [[a], [g], d]) R
 have ad := sub_fold (ls := [A, [a], [g], d]) [some 1, some 2, some 3] [[a], [g], d] R
 have F := leastcode_solve_w s t q u az aB aL _ aJ (fl [[a], [g], d]) (MS.fold (P := []) J) (C.sub ad) (OwnR.ro (plain_int _) a1 (pick_outf e 0 R [some 1, some 2, some 3] [[a], [g], d] R R)) v
 refine x_call 79 #[] #[] [.agg #[Vl s q t, Vi u], Vl az aL aB] _ R R R R F ?_
 rintro ah bs ⟨H, an, b, j, rfl, ap, a3, aF, bn, p⟩
 clear F v
 refine inl1 ?_
 replace h := ap.box h nn
 replace e := MS.call0 [blk H, blk b] [blk H, blk b, A, [a], [g], d] e ap a3 aF R
 have aa := FR.call0 [blk H, blk b, A, [a], [g]] f.size aF l R
 replace f := f.ext ap
 replace l := aa
 clear aa
 replace p := OwnS.plain (M' := fl [blk H, blk b, A, [a], [g], d]) (plain_int _) p
 clear J ad
 refine x_u 7 [(19, .tuple #[Vl H c.1 an, Vl b c.2.1 j, Vi c.2.2]), (24, Vl H c.1 an), (25, Vl b c.2.1 j), (26, Vi c.2.2), (5, Vl H c.1 an), (6, Vl b c.2.1 j), (7, Vi c.2.2)] (x_ek (c_nm [(2, Vp a 0), (6, Vl b c.2.1 j), (7, Vi c.2.2)] (fun aj => ?_)))
 refine c_seq (c_sp (x_u 2 [(27, Vi c.2.2), (28, .bool (c.2.2 != 0))] (x_ek (c_if (c.2.2 != 0) R i (fun i => ?_) (fun i => ?_)))))
 · refine c_sp (x_build (vs := []) (.agg #[Vi 0, .slice none 0 0]) R R R (fun _ _ => by kernel_rfl) ?_)
   refine x_u 1 [(30, Vi c.2.2)] ?_
   obtain ⟨bd, a4, aS, aD⟩ := store_boxagg 0 [Vi 0, .slice none 0 0] #[Vi 0, .slice none 0 0] tagg52 h R R R
   refine x_store bd (xv := Vp a 0) (yv := .agg #[Vi 0, .slice none 0 0]) R R R R a4 (inl1 ?_)
   replace e := e.ev aD
   replace f := f.then aD (fun x B => .inr (l.at 3 R x B))
   replace h := aS
   refine x_u 1 [(3, Vi c.2.2)] (x_ek (c_ret (k_then_ret (r_ret (r_vals [.agg #[Vi 0, .slice none 0 0], Vi c.2.2] ⟨⟨_, R, loadVar_of_reads (reads_boxagg (Mo := []) 0 [Vi 0, .slice none 0 0] tagg52 h nn R)⟩, R, trivial⟩ ?_)))))
   obtain rfl := some_inj i
   have ab := e.pick [none, some 5] [blk none, d] R
   have Z := l.pick [none] [blk none] R
   exact ⟨none, 0, R, f, ab, Z, OwnS.nil _ _ _ _⟩
 refine c_skip (k_then (c_sp (x_u 1 [(31, Vl b c.2.1 j)] (x_build (vs := [(1, Vl b c.2.1 j)]) (.agg #[Vi 0, Vl b c.2.1 j]) R R R (fun _ _ => by kernel_rfl) ?_))))
 refine x_alloc (z := .agg #[Vi 0, .slice none 0 0]) R R (by kernel_rfl) (fun k be av y S bo => ?_)
 replace y : be.heap[k]? = some (.cells #[Vi 0, .slice none 0 0] 52 (0, 0)) := y
 refine inl1 ?_
 have o := Stp.box (ls := [blk H, blk b, A, [a], [g], d]) S av
 replace h := S.box h nn
 replace p := p.step o S nn2
 replace e := e.box S av y
 replace l := l.box f.size av
 replace f := f.ext S
 obtain ⟨bg, a5, aU, U⟩ := store_boxagg 0 [Vi 0, Vl b c.2.1 j] #[Vi 0, Vl b c.2.1 j] tagg52 y R R R
 refine x_store bg (xv := Vp k 0) (yv := .agg #[Vi 0, Vl b c.2.1 j]) R R R R a5 (inl1 ?_)
 have o := Stp.ev' (ls := [[k], blk H, blk b, A, [a], [g], d]) U (mem_flat 0 R)
 replace h := U.box h (e.apart 4 0 R R R _ mem1)
 replace p := p.step o U (e.apart 2 0 R R R)
 replace e := e.ev U
 replace f := f.then U (fun x B => .inr (l.at 0 R x B))
 replace y := aU
 refine x_ek (c_seq (c_sp (x_u 1 [(33, Vl b c.2.1 j)] (x_len (vs := [Vl b c.2.1 j]) (Vi ((c.2.1).length : Int)) R R R (reads_len tsl22 _ _ _ _ _) (x_u 1 [(35, Vi 0)] (x_ek (c_block ?_)))))))
 have J := e.pick [some 4, some 2, some 0, some 6] [[a], blk b, [k], d] R
 have am := pick_sub (ls := [[k], blk H, blk b, A, [a], [g], d]) [some 4, some 2, some 0, some 6] [[a], blk b, [k], d] R
 replace p := p.sub am
 replace e := J
 replace l := l.pick [some 4, some 2, some 0] [[a], blk b, [k]] R
 clear J am
 obtain ⟨aN, ao, aO⟩ := bind_some i
 obtain ⟨ae, ao⟩ := loop_some ao
 refine c_loop (loop_rule hmx (σ := Nat × Int × Int) (fun ag => match ag with | (_, m, w) => [(2, Vp a 0), (8, Vp k 0), (33, Vl b c.2.1 j), (34, Vi ((c.2.1).length : Int)), (35, Vi w)]) (fun ag I => match ag with | (bc, m, w) => loopN (leastcode_Least_L22 c) bc (m, w) = some aN ∧ Ev [] G I ∧ MS I [[a], blk b, [k], d] ∧ FR G.heap.size [[a], blk b, [k]] ∧ I.heap[a]? = some (.cells #[Vi 0, .slice none 0 0] 52 (0, 0)) ∧ OwnS (eInt .i64) 3 I (fl [[a], blk b, [k], d]) b j c.2.1 ∧ I.heap[k]? = some (.cells #[Vi m, Vl b c.2.1 j] 52 (0, 0))) (fun ag => ag.1) (ae, 0, 0) ⟨R, R, R, R, R, trivial⟩ ⟨ao, f, e, l, h, p, y⟩ ?_)
 rintro ⟨ae, m, w⟩ aj bk ⟨ac, f, e, l, h, p, y⟩
 rcases ae with _ | ae
 · exact (loopN_zero ac).elim
 obtain ⟨br, i, ac⟩ := bind_some ac
 refine c_sp (x_u 1 [(36, .bool (decide (w < ((c.2.1).length : Int))))] (x_ek (c_nm [(2, Vp a 0), (8, Vp k 0), (33, Vl b c.2.1 j), (34, Vi ((c.2.1).length : Int)), (35, Vi w), (36, .bool (decide (w < ((c.2.1).length : Int))))] (fun aj => ?_))))
 refine c_seq (c_if (decide (w < ((c.2.1).length : Int))) R i (fun i => ?_) (fun i => ?_))
 · refine c_skip (k_then (c_seq (c_block (c_sp ?_))))
   obtain ⟨ai, ba, i⟩ := bind_some i
   obtain ⟨aC, bl, bm, a6, a0, aQ⟩ := own_index (Mo := []) tsl22 p ba
   obtain rfl := aQ
   refine x_indexAddr (xv := Vl b c.2.1 j) (yv := Vi w) (.pointer (some ⟨aC, (Int.toNat w) * (eInt .i64).n, none⟩)) R R R R a6 (x_load (xv := .pointer (some ⟨aC, (Int.toNat w) * (eInt .i64).n, none⟩)) (Vi ai) R R R (reads_cell0 tcell3 a0 (fun _ i => by cases i)) ?_)
   refine x_u 1 [(10, Vi ai)] (x_ek (c_sp (x_u 1 [(40, Vi ai)] ?_)))
   obtain ⟨r, v, i⟩ := bind_some i
   have F := code_Steps_w ai _ bk v
   refine x_call 81 #[] #[] [Vi ai] _ R R R R F ?_
   rintro ah bt ⟨rfl, N⟩
   clear F v
   refine inl1 ?_
   have o := Stp.ext (ls := [[a], blk b, [k], d]) N
   replace h := N.box h nn
   replace y := N.box y nn
   replace p := p.step o N nn2
   replace e := e.ev N
   replace f := f.ext N
   refine x_u 5 [(39, .tuple #[Vi r.1, Vi r.2]), (42, Vi r.1), (43, Vi r.2), (11, Vi r.1), (12, Vi r.2)] (x_ek (c_plain (x_fieldAddr (xv := Vp k 0) (Vp k 0) R R R (reads_field tfld52_0 _ _) (x_load (xv := Vp k 0) (Vi m) R R R (reads_box tcell3 y nn 0 _ R) (x_u 1 [(46, Vi r.1)] (x_max (vs := [Vi m, Vi r.1]) (Vi (if r.1 > m then r.1 else m)) R R R (fun _ _ => R) (x_fieldAddr (xv := Vp k 0) (Vp k 0) R R R (reads_field tfld52_0 _ _) ?_)))))))
   obtain ⟨bh, a7, aX, X⟩ := store_box 0 (Vi (if r.1 > m then r.1 else m)) #[Vi (if r.1 > m then r.1 else m), Vl b c.2.1 j] tcell3 y R R R
   refine x_store bh (xv := Vp k 0) (yv := Vi (if r.1 > m then r.1 else m)) R R R R a7 (inl1 ?_)
   have o := Stp.ev' (ls := [[a], blk b, [k], d]) X (mem_flat 2 R)
   replace h := X.box h (e.apart 0 2 R R R _ mem1)
   replace p := p.step o X (e.apart 1 2 R R R)
   replace e := e.ev X
   replace f := f.then X (fun x B => .inr (l.at 2 R x B))
   replace y := aX
   refine x_end R (k_block (k_then (c_nm [(2, Vp a 0), (8, Vp k 0), (33, Vl b c.2.1 j), (34, Vi ((c.2.1).length : Int)), (35, Vi w)] (fun aj => ?_))))
   refine c_plain (x_u 2 [(49, Vi (i64.wrap (w + 1))), (35, Vi (i64.wrap (w + 1)))] (x_end R ?_))
   obtain rfl := some_inj i
   exact k_then ⟨(ae, if r.1 > m then r.1 else m, i64.wrap (w + 1)), ⟨R, R, R, R, R, trivial⟩, ⟨ac, f, e, l, h, p, y⟩, Nat.lt_succ_self _⟩
 refine c_exit (k_then_exit ?_)
 obtain rfl := some_inj i
 have bb := some_inj ac
 subst bb
 replace i := aO
 refine k_then_exit (k_block_in (k_then (c_nm [(2, Vp a 0), (8, Vp k 0)] (fun aj => ?_))))
 refine c_sp (x_load (xv := Vp k 0) (.agg #[Vi m, Vl b c.2.1 j]) R R R (reads_boxagg 0 [Vi m, Vl b c.2.1 j] tagg52 y nn R) ?_)
 obtain ⟨bi, a8, aY, ak⟩ := store_boxagg 0 [Vi m, Vl b c.2.1 j] #[Vi m, Vl b c.2.1 j] tagg52 h R R R
 refine x_store bi (xv := Vp a 0) (yv := .agg #[Vi m, Vl b c.2.1 j]) R R R R a8 (inl1 ?_)
 have o := Stp.ev' (ls := [[a], blk b, [k], d]) ak (mem_flat 0 R)
 replace p := p.step o ak (e.apart 1 0 R R R)
 replace e := e.ev ak
 replace f := f.then ak (fun x B => .inr (l.at 0 R x B))
 replace h := aY
 refine x_u 1 [(3, Vi 0)] (x_ek (c_ret (r_ret (r_vals [.agg #[Vi m, Vl b c.2.1 j], Vi 0] ⟨⟨_, R, loadVar_of_reads (reads_boxagg (Mo := []) 0 [Vi m, Vl b c.2.1 j] tagg52 h nn R)⟩, R, trivial⟩ ?_))))
 obtain rfl := some_inj i
 have ab := e.pick [some 1, some 3] [blk b, d] R
 have am := pick_sub (ls := [[a], blk b, [k], d]) [some 1, some 3] [blk b, d] R
 have Z := l.pick [some 1] [blk b] R
 exact ⟨b, j, R, f, ab, Z, p.sub am⟩
def leastcode_Witness_L27 (i : (List (List Int))) (b : (List Int) × (List Int) × Int) (c : Int) (e : Int) : Option (Step Int Int) :=
match e with
| a =>
(if (decide (a < ((b.2.1).length : Int))) = true then
((idx i a).bind fun f =>
((idx f c).bind fun d =>
(if (decide (d > 0)) = true then
((idx b.2.1 a).bind fun g =>
((idx b.1 c).bind fun h =>
(if ((i64.wrap ((i64.wrap (g + d)) - 1)) == h) = true then
some (.done a)
else
some (.next (i64.wrap (a + 1))))))
else
some (.next (i64.wrap (a + 1))))))
else
some (.done c))
def leastcode_Witness_L23 (h : (List (List Int))) (c : (List Int) × (List Int) × Int) (f : Int × (List Int)) : Option (Step (Int × (List Int)) (List Int)) :=
match f with
| (d, a) =>
((idx c.1 d).bind fun g =>
(if (decide (g > 0)) = true then
((loop (leastcode_Witness_L27 h c d) 0).bind fun e => match e with
| b => (if a.length + ([b]).length ≤ 4294967296 then
some (.next (b, (a ++ [b])))
else none))
else
some (.done a)))
def leastcode_Witness (b : List (Int × Int × Int × Int)) (c : Int) : Option ((List Int) × Int) :=
((job_Valid b c).bind fun e =>
(if (e != 0) = true then
some ([], e)
else
((leastcode_relations b c).bind fun f =>
((leastcode_solve b c f).bind fun a =>
(if (a.2.2 != 0) = true then
some ([], a.2.2)
else
(if (((a.2.1).length : Int) == 0) = true then
some ([], 0)
else
((slices_Max_int_int_ a.2.1).bind fun i =>
((slices_Index_int_int_ a.2.1 i).bind fun d =>
((loop (leastcode_Witness_L23 f a) (d, ([d] : List Int))).bind fun g => match g with
| h => some (h.reverse, 0))))))))))
theorem leastcode_Witness_w (G : Option Addr) (H : Nat) (F : List (Int × Int × Int × Int)) (J : Int) (aK : (List Int) × Int) (O : World) (g : List Nat) (i : MS O [g]) (ae : SlR (eIt4) O (fl [g]) G H F) (a : leastcode_Witness F J = some aK) : CallVC Tryz.prog 52 [.agg #[.slice G (F).length H, Vi J]] O fun al K => ∃ (az : Option Addr), ∃ (a8 : Nat), al = .tuple #[.slice az (aK.1).length a8, Vi aK.2] ∧ Ev [] O K ∧ MS K [blk az, g] ∧ FR O.heap.size [blk az] ∧ OwnS (eInt .i64) 3 K (fl [blk az, g]) az a8 aK.1 := by
 refine calls_vc hmx Tryz.func52 (by kernel_rfl) R (rs := [.tmp 2, .tmp 3]) R (by kernel_rfl) (args := [.agg #[.slice G (F).length H, Vi J]]) R ?_
 have k : Ev [] O O := Ev.refl _ _
 have u : FR O.heap.size [] := FR.nil _
 refine c_sp (x_box (xv := .agg #[.slice G (F).length H, Vi J]) R R R (fun o bl a1 ad aX b9 => ?_))
 replace ad : bl.heap[o]? = some (.cells #[.slice G (F).length H, Vi J] 50 (0, 0)) := ad
 refine inl1 ?_
 have p := Stp.box (ls := [g]) aX a1
 replace ae := ae.step p
 replace i := i.box aX a1 ad
 replace u := u.box k.size a1
 replace k := k.ext aX
 refine x_u 2 [(2, .slice none 0 0), (3, Vi 0)] (x_ek (c_seq (c_sp (x_load (xv := Vp o 0) (.agg #[.slice G (F).length H, Vi J]) R R R (reads_boxagg 0 [.slice G (F).length H, Vi J] tagg50 ad nn R) ?_))))
 obtain ⟨ap, N, a⟩ := bind_some a
 have I := job_Valid_w G H F J _ bl (fl [[o], g]) (MS.fold (P := []) i) (ae.sub fl1) N
 refine x_call 46 #[] #[] [.agg #[.slice G (F).length H, Vi J]] _ R R R R I ?_
 rintro al bY ⟨rfl, aI⟩
 clear I N
 refine inl1 ?_
 have p := Stp.ext (ls := [[o], g]) aI
 replace ae := ae.step p
 replace ad := aI.box ad nn
 replace i := i.ev aI
 replace k := k.ext aI
 refine x_u 1 [(4, Vi ap)] (x_ek (c_sp (x_u 2 [(15, Vi ap), (16, .bool (ap != 0))] (x_ek (c_if (ap != 0) R a (fun a => ?_) (fun a => ?_))))))
 · refine c_sp (x_u 3 [(17, Vi ap), (2, .slice none 0 0), (3, Vi ap)] (x_ek (c_ret (k_then_ret (r_ret (r_vals [.slice none 0 0, Vi ap] ⟨R, R, trivial⟩ ?_))))))
   obtain rfl := some_inj a
   have ai := i.pick [none, some 1] [blk none, g] R
   have ah := u.pick [none] [blk none] R
   exact ⟨none, 0, R, k, ai, ah, OwnS.nil _ _ _ _⟩
 refine c_skip (k_then (c_sp (x_load (xv := Vp o 0) (.agg #[.slice G (F).length H, Vi J]) R R R (reads_boxagg 0 [.slice G (F).length H, Vi J] tagg50 ad nn R) ?_)))
 obtain ⟨B, N, a⟩ := bind_some a
 have I := leastcode_relations_w G H F J _ bY (fl [[o], g]) (MS.fold (P := []) i) (ae.sub fl1) N
 refine x_call 80 #[] #[] [.agg #[.slice G (F).length H, Vi J]] _ R R R R I ?_
 rintro al bZ ⟨D, E, h, rfl, aJ, bB, aY, v⟩
 clear I N
 refine inl1 ?_
 have p := Stp.call0 [[o], g] [h] [h, [o], g] aJ aY R
 replace ae := ae.step p
 replace ad := aJ.box ad nn
 replace i := MS.call0 [h] [h, [o], g] i aJ bB aY R
 have Z := FR.call0 [h, [o]] k.size aY u R
 replace k := k.ext aJ
 replace u := Z
 clear Z
 clear p
 refine x_u 1 [(5, .slice D (B).length E)] (x_ek (c_sp (x_load (xv := Vp o 0) (.agg #[.slice G (F).length H, Vi J]) R R R (reads_boxagg 0 [.slice G (F).length H, Vi J] tagg50 ad nn R) (x_u 1 [(22, .slice D (B).length E)] ?_))))
 obtain ⟨e, N, a⟩ := bind_some a
 have aa := i.pick [some 1, some 2] ([] ++ [[o], g]) R
 have af := sub_fold (ls := [h, [o], g]) [some 1, some 2] [[o], g] R
 have I := leastcode_solve_w G H F J D E B _ bZ (fl [[o], g]) (MS.fold (P := []) aa) (ae.sub af) (OwnR.ro (plain_int _) v (pick_outf i 0 R [some 1, some 2] [[o], g] R R)) N
 refine x_call 79 #[] #[] [.agg #[.slice G (F).length H, Vi J], .slice D (B).length E] _ R R R R I ?_
 rintro al bS ⟨b, C, d, w, rfl, aU, bA, bg, s, q⟩
 clear I N
 refine inl1 ?_
 replace v := v.step (plain_int _) aU nn2
 replace i := MS.call0 [blk b, blk d] [blk b, blk d, h, [o], g] i aU bA bg R
 have Z := FR.call0 [blk b, blk d, h, [o]] k.size bg u R
 replace k := k.ext aU
 replace u := Z
 clear Z
 replace s := OwnS.plain (M' := fl [blk b, blk d, h, [o], g]) (plain_int _) s
 replace q := OwnS.plain (M' := fl [blk b, blk d, h, [o], g]) (plain_int _) q
 clear aa af
 refine x_u 7 [(20, .tuple #[.slice b (e.1).length C, .slice d (e.2.1).length w, Vi e.2.2]), (24, .slice b (e.1).length C), (25, .slice d (e.2.1).length w), (26, Vi e.2.2), (6, .slice b (e.1).length C), (7, .slice d (e.2.1).length w), (8, Vi e.2.2)] (x_ek (c_nm [(5, .slice D (B).length E), (6, .slice b (e.1).length C), (7, .slice d (e.2.1).length w), (8, Vi e.2.2)] (fun ac => ?_)))
 refine c_seq (c_sp (x_u 2 [(27, Vi e.2.2), (28, .bool (e.2.2 != 0))] (x_ek (c_if (e.2.2 != 0) R a (fun a => ?_) (fun a => ?_)))))
 · refine c_sp (x_u 3 [(29, Vi e.2.2), (2, .slice none 0 0), (3, Vi e.2.2)] (x_ek (c_ret (k_then_ret (r_ret (r_vals [.slice none 0 0, Vi e.2.2] ⟨R, R, trivial⟩ ?_))))))
   obtain rfl := some_inj a
   have ai := i.pick [none, some 4] [blk none, g] R
   have ah := u.pick [none] [blk none] R
   exact ⟨none, 0, R, k, ai, ah, OwnS.nil _ _ _ _⟩
 refine c_skip (k_then (c_seq (c_sp (x_u 1 [(30, .slice d (e.2.1).length w)] (x_len (vs := [.slice d (e.2.1).length w]) (Vi ((e.2.1).length : Int)) R R R (reads_len tsl22 _ _ _ _ _) (x_u 1 [(32, .bool (((e.2.1).length : Int) == 0))] (x_ek (c_if (((e.2.1).length : Int) == 0) R a (fun a => ?_) (fun a => ?_)))))))))
 · refine c_sp (x_u 2 [(2, .slice none 0 0), (3, Vi 0)] (x_ek (c_ret (k_then_ret (r_ret (r_vals [.slice none 0 0, Vi 0] ⟨R, R, trivial⟩ ?_))))))
   obtain rfl := some_inj a
   have ai := i.pick [none, some 4] [blk none, g] R
   have ah := u.pick [none] [blk none] R
   exact ⟨none, 0, R, k, ai, ah, OwnS.nil _ _ _ _⟩
 refine c_skip (k_then (c_sp (x_u 2 [(33, .slice d (e.2.1).length w), (34, .slice d (e.2.1).length w)] ?_)))
 obtain ⟨bn, N, a⟩ := bind_some a
 have aa := i.pick [some 0, some 2, some 3, some 4] ([] ++ [blk b, h, [o], g]) R
 have af := sub_fold (ls := [blk b, blk d, h, [o], g]) [some 0, some 2, some 3, some 4] [blk b, h, [o], g] R
 have I := slices_Max_int_int__w d w e.2.1 _ bS (fl [blk b, h, [o], g]) (MS.fold (P := []) aa) (q.ro af (pick_outf i 1 R [some 0, some 2, some 3, some 4] [blk b, h, [o], g] R R)) N
 refine x_call 83 #[] #[] [.slice d (e.2.1).length w] _ R R R R I ?_
 rintro al bU ⟨rfl, aq⟩
 clear I N
 refine inl1 ?_
 have p := Stp.ext (ls := [blk b, blk d, h, [o], g]) aq
 replace v := v.step (plain_int _) aq nn2
 replace s := s.step p aq nn2
 replace q := q.step p aq nn2
 replace i := i.ev aq
 replace k := k.ext aq
 clear aa af
 obtain ⟨X, N, a⟩ := bind_some a
 have aa := i.pick [some 0, some 2, some 3, some 4] ([] ++ [blk b, h, [o], g]) R
 have af := sub_fold (ls := [blk b, blk d, h, [o], g]) [some 0, some 2, some 3, some 4] [blk b, h, [o], g] R
 have I := slices_Index_int_int__w d w e.2.1 bn _ bU (fl [blk b, h, [o], g]) (MS.fold (P := []) aa) (q.ro af (pick_outf i 1 R [some 0, some 2, some 3, some 4] [blk b, h, [o], g] R R)) N
 refine x_call 82 #[] #[] [.slice d (e.2.1).length w, Vi bn] _ R R R R I ?_
 rintro al bX ⟨rfl, ar⟩
 clear I N
 refine inl1 ?_
 have p := Stp.ext (ls := [blk b, blk d, h, [o], g]) ar
 replace v := v.step (plain_int _) ar nn2
 replace s := s.step p ar nn2
 replace q := q.step p ar nn2
 replace i := i.ev ar
 replace k := k.ext ar
 clear aa af
 refine x_u 1 [(9, Vi X)] (x_ek (c_sp (x_u 1 [(37, Vi X)] (x_buildSlice (vs := [(0, Vi X)]) #[Vi X] 3 R R R (by kernel_rfl) (fun bq bm bC aO au ca => ?_)))))
 refine inl1 ?_
 obtain ⟨Y, aN⟩ : ∃ bp, bp = some (⟨bq, 0, none⟩ : Addr) := ⟨_, R⟩
 have bk : ∀ g, OwnS (eInt .i64) 3 bm g Y 1 ([X] : List Int) := fun g => aN ▸ own_of_box aO (by decide) R R (cells_at (cs := [Vi X]) (CellsOf.cons (c := [Vi X]) R CellsOf.nil))
 have a0 : ∀ z ∈ blk Y, bX.heap.size ≤ z ∧ z < bm.heap.size := by subst aN; intro z A; simp only [blk, List.mem_singleton] at A; subst A; exact ⟨Nat.le_of_eq bC.symm, lt_of_heap aO⟩
 clear aO
 have p := Stp.push (ls := [blk b, blk d, h, [o], g]) (l := blk Y) au (fun _ a => by cases a) (fun z A => (a0 z A).1)
 replace v := v.step (plain_int _) au nn2
 replace s := s.step p au nn2
 replace q := q.step p au nn2
 replace i := i.push au a0
 replace u := u.push (fun z A => Nat.le_trans k.size (a0 z A).1)
 replace k := k.ext au
 have y := bk (fl [blk Y, blk b, blk d, h, [o], g])
 clear bk
 rw [← aN]
 refine x_u 1 [(10, .slice Y (([X] : List Int)).length 1)] (x_ek (c_nm [(5, .slice D (B).length E), (6, .slice b (e.1).length C), (7, .slice d (e.2.1).length w), (9, Vi X), (10, .slice Y (([X] : List Int)).length 1)] (fun ac => ?_)))
 refine c_seq (c_block ?_)
 have aa := i.pick [some 3, some 1, some 2, some 0, some 5] [h, blk b, blk d, blk Y, g] R
 have aw := pick_sub (ls := [blk Y, blk b, blk d, h, [o], g]) [some 3, some 1, some 2, some 0, some 5] [h, blk b, blk d, blk Y, g] R
 replace s := s.sub aw
 replace q := q.sub aw
 replace y := y.sub aw
 replace i := aa
 replace u := u.pick [some 3, some 1, some 2, some 0] [h, blk b, blk d, blk Y] R
 clear aa aw
 obtain ⟨br, aQ, bt⟩ := bind_some a
 obtain ⟨ax, aQ⟩ := loop_some aQ
 refine c_loop (loop_rule hmx (σ := Nat × Int × (List Int) × Option Addr × Nat) (fun ab => match ab with | (_, r, t, j, x) => [(5, .slice D (B).length E), (6, .slice b (e.1).length C), (7, .slice d (e.2.1).length w), (9, Vi r), (10, .slice j (t).length x)]) (fun ab K => match ab with | (a5, r, t, j, x) => loopN (leastcode_Witness_L23 B e) a5 (r, t) = some br ∧ Ev [] O K ∧ MS K [h, blk b, blk d, blk j, g] ∧ FR O.heap.size [h, blk b, blk d, blk j] ∧ OwnR (eInt .i64) 3 22 K h D E B none ∧ OwnS (eInt .i64) 3 K (fl [h, blk b, blk d, blk j, g]) b C e.1 ∧ OwnS (eInt .i64) 3 K (fl [h, blk b, blk d, blk j, g]) d w e.2.1 ∧ OwnS (eInt .i64) 3 K (fl [h, blk b, blk d, blk j, g]) j x t) (fun ab => ab.1) (ax, X, ([X] : List Int), Y, 1) ⟨R, R, R, R, R, trivial⟩ ⟨aQ, k, i, u, v, s, q, y⟩ ?_)
 rintro ⟨ax, r, t, j, x⟩ ac ce ⟨av, k, i, u, v, s, q, y⟩
 rcases ax with _ | ax
 · exact (loopN_zero av).elim
 obtain ⟨cb, a, av⟩ := bind_some av
 refine c_seq (c_sp (x_u 2 [(39, .slice b (e.1).length C), (40, Vi r)] ?_))
 obtain ⟨aL, bJ, a⟩ := bind_some a
 obtain ⟨ba, b0, b5, bD, bu, ag⟩ := own_index (Mo := []) tsl22 s bJ
 obtain rfl := ag
 refine x_indexAddr (xv := .slice b (e.1).length C) (yv := Vi r) (.pointer (some ⟨ba, (Int.toNat r) * (eInt .i64).n, none⟩)) R R R R bD (x_load (xv := .pointer (some ⟨ba, (Int.toNat r) * (eInt .i64).n, none⟩)) (Vi aL) R R R (reads_cell0 tcell3 bu (fun _ a => by cases a)) ?_)
 refine x_u 1 [(43, .bool (decide (aL > 0)))] (x_ek (c_nm [(5, .slice D (B).length E), (6, .slice b (e.1).length C), (7, .slice d (e.2.1).length w), (9, Vi r), (10, .slice j (t).length x), (43, .bool (decide (aL > 0)))] (fun ac => ?_)))
 refine c_if (decide (aL > 0)) R a (fun a => ?_) (fun a => ?_)
 · refine c_skip (k_then (c_block (c_seq (c_sp (x_u 1 [(44, .slice d (e.2.1).length w)] (x_len (vs := [.slice d (e.2.1).length w]) (Vi ((e.2.1).length : Int)) R R R (reads_len tsl22 _ _ _ _ _) (x_u 1 [(46, Vi 0)] (x_ek (c_block ?_)))))))))
   obtain ⟨bs, aS, be⟩ := bind_some a
   obtain ⟨ay, aS⟩ := loop_some aS
   refine c_loop (loop_rule hmx (σ := Nat × Int) (fun ab => match ab with | (_, m) => [(5, .slice D (B).length E), (6, .slice b (e.1).length C), (7, .slice d (e.2.1).length w), (9, Vi r), (10, .slice j (t).length x), (45, Vi ((e.2.1).length : Int)), (46, Vi m)]) (fun ab K => match ab with | (a5, m) => loopN (leastcode_Witness_L27 B e r) a5 m = some bs ∧ Ev [] O K ∧ MS K [h, blk b, blk d, blk j, g] ∧ FR O.heap.size [h, blk b, blk d, blk j] ∧ OwnR (eInt .i64) 3 22 K h D E B none ∧ OwnS (eInt .i64) 3 K (fl [h, blk b, blk d, blk j, g]) b C e.1 ∧ OwnS (eInt .i64) 3 K (fl [h, blk b, blk d, blk j, g]) d w e.2.1 ∧ OwnS (eInt .i64) 3 K (fl [h, blk b, blk d, blk j, g]) j x t) (fun ab => ab.1) (ay, 0) ⟨R, R, R, R, R, R, R, trivial⟩ ⟨aS, k, i, u, v, s, q, y⟩ ?_)
   rintro ⟨ay, m⟩ ac an ⟨aj, k, i, u, v, s, q, y⟩
   rcases ay with _ | ay
   · exact (loopN_zero aj).elim
   obtain ⟨cc, a, aj⟩ := bind_some aj
   refine c_sp (x_u 1 [(47, .bool (decide (m < ((e.2.1).length : Int))))] (x_ek (c_nm [(5, .slice D (B).length E), (6, .slice b (e.1).length C), (7, .slice d (e.2.1).length w), (9, Vi r), (10, .slice j (t).length x), (45, Vi ((e.2.1).length : Int)), (46, Vi m), (47, .bool (decide (m < ((e.2.1).length : Int))))] (fun ac => ?_))))
   refine c_seq (c_if (decide (m < ((e.2.1).length : Int))) R a (fun a => ?_) (fun a => ?_))
   · refine c_skip (k_then (c_seq (c_block (c_sp (x_u 2 [(48, Vi m), (11, Vi m)] (x_ek (c_sp (x_u 2 [(49, .slice D (B).length E), (50, Vi m)] ?_))))))))
     obtain ⟨bo, bK, a⟩ := bind_some a
     obtain ⟨bb, a7, a9, bE, bj⟩ := OwnR.view (P := Tryz.prog) (Mo := []) tsl57 v bK
     refine x_indexAddr (xv := .slice D (B).length E) (yv := Vi m) (.pointer (some ⟨bb, (Int.toNat m), none⟩)) R R R R bE (x_load (xv := .pointer (some ⟨bb, (Int.toNat m), none⟩)) (.slice a7 (bo).length a9) R R R (RView.load tcell22 bj) (x_u 1 [(53, Vi r)] ?_))
     obtain ⟨U, bL, a⟩ := bind_some a
     obtain ⟨a6, b1, bF, bv, ag, b4, b8⟩ := RView.elem (P := Tryz.prog) (Mo := []) tsl22 bj bL
     obtain rfl := ag
     refine x_indexAddr (xv := .slice a7 (bo).length a9) (yv := Vi r) (.pointer (some a6)) R R R R bF (x_load (xv := .pointer (some a6)) (Vi U) R R R (reads_cell0 tcell3 bv (fun z A => A)) (x_u 1 [(12, Vi U)] (x_ek (c_seq (c_drawn [] [(0, false), (1, false), (2, false), (3, false), (4, false), (5, false), (6, false), (7, false), (8, false), (9, false), (10, false), (11, false), (12, false), (13, false), (14, false), (15, false)] _ (by kernel_rfl) R ?_)))))
     have p := Stp.ext (ls := [h, blk b, blk d, blk j, g]) (Ev.drew an)
     replace v := v.step (plain_int _) (Ev.drew an) nn2
     replace s := s.step p (Ev.drew an) nn2
     replace q := q.step p (Ev.drew an) nn2
     replace y := y.step p (Ev.drew an) nn2
     replace i := i.ev (Ev.drew an)
     replace k := k.ext (Ev.drew an)
     refine x_u 3 [(56, Vi U), (57, .bool (decide (U > 0))), (58, .bool (decide (U > 0)))] (x_if 58 (decide (U > 0)) R a (fun a => ?_) (fun a => ?_))
     · refine x_u 2 [(59, .slice d (e.2.1).length w), (60, Vi m)] ?_
       obtain ⟨ao, bN, a⟩ := bind_some a
       obtain ⟨bc, b2, b6, bG, bw, ag⟩ := own_index (Mo := []) tsl22 q bN
       obtain rfl := ag
       refine x_indexAddr (xv := .slice d (e.2.1).length w) (yv := Vi m) (.pointer (some ⟨bc, (Int.toNat m) * (eInt .i64).n, none⟩)) R R R R bG (x_load (xv := .pointer (some ⟨bc, (Int.toNat m) * (eInt .i64).n, none⟩)) (Vi ao) R R R (reads_cell0 tcell3 bw (fun _ a => by cases a)) ?_)
       refine x_u 5 [(63, Vi U), (64, Vi (i64.wrap (ao + U))), (65, Vi (i64.wrap ((i64.wrap (ao + U)) - 1))), (66, .slice b (e.1).length C), (67, Vi r)] ?_
       obtain ⟨aH, bO, a⟩ := bind_some a
       obtain ⟨bd, b3, b7, bH, bx, ag⟩ := own_index (Mo := []) tsl22 s bO
       obtain rfl := ag
       refine x_indexAddr (xv := .slice b (e.1).length C) (yv := Vi r) (.pointer (some ⟨bd, (Int.toNat r) * (eInt .i64).n, none⟩)) R R R R bH (x_load (xv := .pointer (some ⟨bd, (Int.toNat r) * (eInt .i64).n, none⟩)) (Vi aH) R R R (reads_cell0 tcell3 bx (fun _ a => by cases a)) ?_)
       refine x_u 2 [(70, .bool ((i64.wrap ((i64.wrap (ao + U)) - 1)) == aH)), (71, .bool ((i64.wrap ((i64.wrap (ao + U)) - 1)) == aH))] (x_ek (c_nm [(5, .slice D (B).length E), (6, .slice b (e.1).length C), (7, .slice d (e.2.1).length w), (9, Vi r), (10, .slice j (t).length x), (11, Vi m), (45, Vi ((e.2.1).length : Int)), (46, Vi m), (71, .bool ((i64.wrap ((i64.wrap (ao + U)) - 1)) == aH))] (fun ac => ?_)))
       refine c_if ((i64.wrap ((i64.wrap (ao + U)) - 1)) == aH) R a (fun a => ?_) (fun a => ?_)
       · refine c_sp (x_u 2 [(72, Vi m), (9, Vi m)] (x_ek (c_exit (k_block_out R (k_then_exit ?_)))))
         obtain rfl := some_inj a
         have aF := some_inj aj
         subst aF
         replace a := be
         refine k_then_exit (k_block_in (k_then (c_nm [(5, .slice D (B).length E), (6, .slice b (e.1).length C), (7, .slice d (e.2.1).length w), (9, Vi m), (10, .slice j (t).length x)] (fun ac => ?_))))
         refine c_plain (x_u 2 [(74, .slice j (t).length x), (75, Vi m)] (x_buildSlice (vs := [(0, Vi m)]) #[Vi m] 3 R R R (by kernel_rfl) (fun aA aG a2 aC L bQ => ?_)))
         refine inl1 ?_
         have aD := i
         have p := Stp.ext (ls := [h, blk b, blk d, blk j, g]) L
         replace v := v.step (plain_int _) L nn2
         replace s := s.step p L nn2
         replace q := q.step p L nn2
         replace y := y.step p L nn2
         replace i := i.ev L
         replace k := k.ext L
         have a4 : SlR (eInt .i64) aG (fl [h, blk b, blk d, blk j, g]) (Ad aA 0) 1 ([m]) := ro_of_box aD a2 aC R R (cells_at (cs := [Vi m]) (CellsOf.cons (c := [Vi m]) R CellsOf.nil))
         clear aC aD
         have aZ := guard_l a
         replace a := guard_r a
         obtain ⟨Q, aB, am, a3, S, ak, bz, aE⟩ := own_appendN tel22 22 y (mem_flat 3 R) a4 aZ
         refine x_builtin (vs := [.slice j (t).length x, .slice (Ad aA 0) ([m]).length 1]) _ am R R R R (run_value _ _ _ _ a3) (inl1 ?_)
         have p : Stp (fl [h, blk b, blk d, blk j, g]) aG (fl [h, blk b, blk d, blk Q, g]) am := Stp.upd 3 S R (fun z A => (ak z A).1)
         replace v := v.step (plain_int _) S (i.apart 0 3 R R R)
         replace s := s.step p S (i.apart 1 3 R R R)
         replace q := q.step p S (i.apart 2 3 R R R)
         replace i : MS am [h, blk b, blk d, blk Q, g] := i.upd 3 S R ak
         have Z : FR O.heap.size [h, blk b, blk d, blk Q] := u.upd 3 R k.size (fun z A => (ak z A).1)
         replace k := k.then S (fun z A => .inr (u.at 3 R z A))
         replace u := Z
         clear Z
         replace y := aE (fl [h, blk b, blk d, blk Q, g]) p.new
         clear aE
         refine x_u 1 [(10, .slice Q ((t ++ [m])).length aB)] (x_end R (k_block ?_))
         obtain rfl := some_inj a
         exact k_then ⟨(ax, m, (t ++ [m]), Q, aB), ⟨R, R, R, R, R, trivial⟩, ⟨av, k, i, u, v, s, q, y⟩, Nat.lt_succ_self _⟩
       refine c_skip (k_block (k_then (c_plain (x_u 2 [(73, Vi (i64.wrap (m + 1))), (46, Vi (i64.wrap (m + 1)))] (x_end R ?_)))))
       obtain rfl := some_inj a
       exact k_then ⟨(ay, i64.wrap (m + 1)), ⟨R, R, R, R, R, R, R, trivial⟩, ⟨aj, k, i, u, v, s, q, y⟩, Nat.lt_succ_self _⟩
     refine x_u 13 [(59, undef), (60, undef), (61, undef), (62, undef), (63, undef), (64, undef), (65, undef), (66, undef), (67, undef), (68, undef), (69, undef), (70, undef), (71, .bool false)] (x_ek (c_nm [(5, .slice D (B).length E), (6, .slice b (e.1).length C), (7, .slice d (e.2.1).length w), (9, Vi r), (10, .slice j (t).length x), (11, Vi m), (45, Vi ((e.2.1).length : Int)), (46, Vi m), (71, .bool false)] (fun ac => ?_)))
     refine c_false R (c_skip (k_block (k_then (c_plain (x_u 2 [(73, Vi (i64.wrap (m + 1))), (46, Vi (i64.wrap (m + 1)))] (x_end R ?_))))))
     obtain rfl := some_inj a
     exact k_then ⟨(ay, i64.wrap (m + 1)), ⟨R, R, R, R, R, R, R, trivial⟩, ⟨aj, k, i, u, v, s, q, y⟩, Nat.lt_succ_self _⟩
   refine c_exit (k_then_exit ?_)
   obtain rfl := some_inj a
   have aF := some_inj aj
   subst aF
   replace a := be
   refine k_then_exit (k_block_in (k_then (c_nm [(5, .slice D (B).length E), (6, .slice b (e.1).length C), (7, .slice d (e.2.1).length w), (9, Vi r), (10, .slice j (t).length x)] (fun ac => ?_))))
   refine c_plain (x_u 2 [(74, .slice j (t).length x), (75, Vi r)] (x_buildSlice (vs := [(0, Vi r)]) #[Vi r] 3 R R R (by kernel_rfl) (fun aA aG a2 aC L bQ => ?_)))
   refine inl1 ?_
   have aD := i
   have p := Stp.ext (ls := [h, blk b, blk d, blk j, g]) L
   replace v := v.step (plain_int _) L nn2
   replace s := s.step p L nn2
   replace q := q.step p L nn2
   replace y := y.step p L nn2
   replace i := i.ev L
   replace k := k.ext L
   have a4 : SlR (eInt .i64) aG (fl [h, blk b, blk d, blk j, g]) (Ad aA 0) 1 ([r]) := ro_of_box aD a2 aC R R (cells_at (cs := [Vi r]) (CellsOf.cons (c := [Vi r]) R CellsOf.nil))
   clear aC aD
   have aZ := guard_l a
   replace a := guard_r a
   obtain ⟨Q, aB, am, a3, S, ak, bz, aE⟩ := own_appendN tel22 22 y (mem_flat 3 R) a4 aZ
   refine x_builtin (vs := [.slice j (t).length x, .slice (Ad aA 0) ([r]).length 1]) _ am R R R R (run_value _ _ _ _ a3) (inl1 ?_)
   have p : Stp (fl [h, blk b, blk d, blk j, g]) aG (fl [h, blk b, blk d, blk Q, g]) am := Stp.upd 3 S R (fun z A => (ak z A).1)
   replace v := v.step (plain_int _) S (i.apart 0 3 R R R)
   replace s := s.step p S (i.apart 1 3 R R R)
   replace q := q.step p S (i.apart 2 3 R R R)
   replace i : MS am [h, blk b, blk d, blk Q, g] := i.upd 3 S R ak
   have Z : FR O.heap.size [h, blk b, blk d, blk Q] := u.upd 3 R k.size (fun z A => (ak z A).1)
   replace k := k.then S (fun z A => .inr (u.at 3 R z A))
   replace u := Z
   clear Z
   replace y := aE (fl [h, blk b, blk d, blk Q, g]) p.new
   clear aE
   refine x_u 1 [(10, .slice Q ((t ++ [r])).length aB)] (x_end R (k_block ?_))
   obtain rfl := some_inj a
   exact k_then ⟨(ax, r, (t ++ [r]), Q, aB), ⟨R, R, R, R, R, trivial⟩, ⟨av, k, i, u, v, s, q, y⟩, Nat.lt_succ_self _⟩
 refine c_exit (k_then_exit ?_)
 obtain rfl := some_inj a
 have aF := some_inj av
 subst aF
 replace a := bt
 refine k_then_exit (k_block_in (k_then (c_nm [(10, .slice j (t).length x)] (fun ac => ?_))))
 refine c_sp (x_u 1 [(78, .slice j (t).length x)] ?_)
 have I := revI_w (P := Tryz.prog) Lreverse (f := 84) R ⟨_, Tryz.func84, by kernel_rfl, R⟩ (T := 3) y
 refine x_call 84 #[] #[] [.slice j (t).length x] _ R R R R I ?_
 rintro al cd ⟨rfl, bf, bh, bI⟩
 clear I
 refine inl1 ?_
 replace i := i.ev bf
 replace k := k.then bf (fun z A => .inr (u.at 3 R z A))
 replace y := bI (fl [h, blk b, blk d, blk j, g])
 have bi : (Value.slice j (t).length x) = (Value.slice j (t.reverse).length x) := by first | (rw [bh]; done) | simp only [bh]
 try rw [bi]
 clear bi
 refine x_ek (c_sp (x_u 3 [(80, .slice j (t.reverse).length x), (2, .slice j (t.reverse).length x), (3, Vi 0)] (x_ek (c_ret (r_ret (r_vals [.slice j (t.reverse).length x, Vi 0] ⟨R, R, trivial⟩ ?_))))))
 obtain rfl := some_inj a
 have ai := i.pick [some 3, some 4] [blk j, g] R
 have aw := pick_sub (ls := [h, blk b, blk d, blk j, g]) [some 3, some 4] [blk j, g] R
 have ah := u.pick [some 3] [blk j] R
 exact ⟨j, x, R, k, ai, ah, y.sub aw⟩
def leastcode_Bound_J28 (c : List (Int × Int × Int × Int)) (d : Int) (e : Int) (f : Int) (b : Int) : Option (Step (Int × Int) (Int ⊕ Int)) :=
((idx c f).bind fun g =>
((code_Next b g.2.2.1 d).bind fun a =>
(if (a.2 != 0) = true then
some (.done (.inl a.2))
else
some (.next (a.1, i64.wrap (e + 1))))))
def leastcode_Bound_L24 (e : List (Int × Int × Int × Int)) (f : Int) (c : List Int) (k : (List (List Int))) (g : Int × Int) : Option (Step (Int × Int) (Int ⊕ Int)) :=
match g with
| (b, a) =>
(if (decide (a < ((c).length : Int))) = true then
((idx c a).bind fun d =>
(if (decide (a > 0)) = true then
((idx c (i64.wrap (a - 1))).bind fun h =>
((idx k h).bind fun i =>
((idx i d).bind fun j =>
leastcode_Bound_J28 e f a d (i64.wrap (b + (i64.wrap (j - 1)))))))
else
leastcode_Bound_J28 e f a d b))
else
some (.done (.inr b)))
def leastcode_Bound_L12 (d : List (Int × Int × Int × Int)) (b : List Int) (i : (List (List Int))) (e : Int) : Option (Step Int (Unit ⊕ Unit)) :=
match e with
| a =>
(if (decide (a < ((b).length : Int))) = true then
((idx b a).bind fun c =>
(if (decide (c < 0)) = true then
some (.done (.inl ()))
else
(if (decide (c ≥ ((d).length : Int))) = true then
some (.done (.inl ()))
else
(if (decide (a > 0)) = true then
((idx b (i64.wrap (a - 1))).bind fun f =>
((idx i f).bind fun g =>
((idx g c).bind fun h =>
(if (h == 0) = true then
some (.done (.inl ()))
else
some (.next (i64.wrap (a + 1)))))))
else
some (.next (i64.wrap (a + 1)))))))
else
some (.done (.inr ())))
def leastcode_Bound (a : List (Int × Int × Int × Int)) (c : Int) (d : List Int) : Option (Int × Int) :=
((job_Valid a c).bind fun e =>
(if (e != 0) = true then
some (0, e)
else
((leastcode_relations a c).bind fun f =>
((loop (leastcode_Bound_L12 a d f) 0).bind fun b => match b with
| (.inl _) => some (0, 1)
| (.inr _) => ((loop (leastcode_Bound_L24 a c d f) (0, 0)).bind fun b => match b with
| (.inl h) => some (0, h)
| (.inr g) => some (g, 0))))))
theorem leastcode_Bound_w (n : Option Addr) (o : Nat) (f : List (Int × Int × Int × Int)) (s : Int) (d : Option Addr) (e : Nat) (b : List Int) (am : Int × Int) (C : World) (g : List Nat) (l : MS C [g]) (m : SlR (eIt4) C (fl [g]) n o f) (k : SlR (eInt .i64) C (fl [g]) d e b) (a : leastcode_Bound f s b = some am) : CallVC Tryz.prog 92 [.agg #[Vl n f o, Vi s], Vl d b e] C fun ae q => ae = .tuple #[Vi am.1, Vi am.2] ∧ Ev [] C q := by
 refine calls_vc hmx Tryz.func92 (by kernel_rfl) R (rs := [.tmp 4, .tmp 5]) R (by kernel_rfl) (args := [.agg #[Vl n f o, Vi s], Vl d b e]) R ?_
 have h : Ev [] C C := Ev.refl _ _
 have z : FR C.heap.size [] := FR.nil _
 refine c_sp (x_box (xv := .agg #[Vl n f o, Vi s]) R R R (fun c aF aj j ah bx => ?_))
 replace j : aF.heap[c]? = some (.cells #[Vl n f o, Vi s] 50 (0, 0)) := j
 refine inl1 ?_
 have x := Stp.box (ls := [g]) ah aj
 replace m := m.step x
 replace k := k.step x
 replace l := l.box ah aj j
 replace z := z.box h.size aj
 replace h := h.ext ah
 refine x_u 2 [(4, Vi 0), (5, Vi 0)] (x_ek (c_seq (c_sp (x_load (xv := Vp c 0) (.agg #[Vl n f o, Vi s]) R R R (reads_boxagg 0 [Vl n f o, Vi s] tagg50 j nn R) ?_))))
 obtain ⟨L, I, a⟩ := bind_some a
 have H := job_Valid_w n o f s _ aF (fl [[c], g]) (MS.fold (P := []) l) (m.sub fl1) I
 refine x_call 46 #[] #[] [.agg #[Vl n f o, Vi s]] _ R R R R H ?_
 rintro ae bn ⟨rfl, ac⟩
 clear H I
 refine inl1 ?_
 have x := Stp.ext (ls := [[c], g]) ac
 replace m := m.step x
 replace k := k.step x
 replace j := ac.box j nn
 replace l := l.ev ac
 replace h := h.ext ac
 refine x_u 1 [(6, Vi L)] (x_ek (c_sp (x_u 2 [(17, Vi L), (18, .bool (L != 0))] (x_ek (c_if (L != 0) R a (fun a => ?_) (fun a => ?_))))))
 · refine c_sp (x_u 3 [(19, Vi L), (4, Vi 0), (5, Vi L)] (x_ek (c_ret (k_then_ret (r_ret (r_vals [Vi 0, Vi L] ⟨R, R, trivial⟩ ?_))))))
   obtain rfl := some_inj a
   exact ⟨R, h⟩
 refine c_skip (k_then (c_sp (x_load (xv := Vp c 0) (.agg #[Vl n f o, Vi s]) R R R (reads_boxagg 0 [Vl n f o, Vi s] tagg50 j nn R) ?_)))
 obtain ⟨r, I, a⟩ := bind_some a
 have H := leastcode_relations_w n o f s _ bn (fl [[c], g]) (MS.fold (P := []) l) (m.sub fl1) I
 refine x_call 80 #[] #[] [.agg #[Vl n f o, Vi s]] _ R R R R H ?_
 rintro ae bB ⟨t, u, N, rfl, ad, a1, ai, v⟩
 clear H I
 refine inl1 ?_
 have x := Stp.call0 [[c], g] [N] [N, [c], g] ad ai R
 replace m := m.step x
 replace k := k.step x
 replace j := ad.box j nn
 replace l := MS.call0 [N] [N, [c], g] l ad a1 ai R
 have aD := FR.call0 [N, [c]] h.size ai z R
 replace h := h.ext ad
 replace z := aD
 clear aD
 clear x
 have aE := l.pick [some 1, some 2] [[c], g] R
 have ak := pick_sub (ls := [N, [c], g]) [some 1, some 2] [[c], g] R
 replace m := m.sub ak
 replace k := k.sub ak
 replace v := v.ro (plain_int _) (pick_out l 0 R [some 1, some 2] [[c], g] R R)
 replace l := aE
 replace z := z.pick [some 1] [[c]] R
 clear aE ak
 refine x_u 1 [(7, Vl t r u)] (x_ek (c_seq (c_sp (x_u 1 [(22, Vl d b e)] (x_len (vs := [Vl d b e]) (Vi ((b).length : Int)) R R R (reads_len tsl22 _ _ _ _ _) (x_u 1 [(24, Vi 0)] (x_ek (c_nm [(1, Vl d b e), (2, Vp c 0), (7, Vl t r u), (22, Vl d b e), (23, Vi ((b).length : Int)), (24, Vi 0)] (fun E => ?_)))))))))
 refine c_block ?_
 obtain ⟨aK, af, aa⟩ := bind_some a
 obtain ⟨Q, af⟩ := loop_some af
 refine c_loop (loop_rule hmx (σ := Nat × Int) (fun A => match A with | (_, i) => [(1, Vl d b e), (2, Vp c 0), (7, Vl t r u), (22, Vl d b e), (23, Vi ((b).length : Int)), (24, Vi i)]) (fun A q => match A with | (al, i) => loopN (leastcode_Bound_L12 f b r) al i = some aK ∧ Ev [] C q ∧ MS q [[c], g] ∧ FR C.heap.size [[c]] ∧ SlR (eInt .i64) q (fl [[c], g]) d e b ∧ SlR (eIt4) q (fl [[c], g]) n o f ∧ q.heap[c]? = some (.cells #[Vl n f o, Vi s] 50 (0, 0)) ∧ SlR (eSl (eInt .i64)) q (fl [[c], g]) t u r) (fun A => A.1) (Q, 0) ⟨R, R, R, R, R, R, trivial⟩ ⟨af, h, l, z, k, m, j, v⟩ ?_)
 rintro ⟨Q, i⟩ E bC ⟨G, h, l, z, k, m, j, v⟩
 rcases Q with _ | Q
 · exact (loopN_zero G).elim
 obtain ⟨bz, a, G⟩ := bind_some G
 refine c_sp (x_u 1 [(25, .bool (decide (i < ((b).length : Int))))] (x_ek (c_nm [(1, Vl d b e), (2, Vp c 0), (7, Vl t r u), (22, Vl d b e), (23, Vi ((b).length : Int)), (24, Vi i), (25, .bool (decide (i < ((b).length : Int))))] (fun E => ?_))))
 refine c_seq (c_if (decide (i < ((b).length : Int))) R a (fun a => ?_) (fun a => ?_))
 · refine c_skip (k_then (c_seq (c_block (c_sp (x_u 1 [(26, Vi i)] ?_)))))
   obtain ⟨D, bd, a⟩ := bind_some a
   obtain ⟨aq, bo, a2, aN, w⟩ := reads_index (Mo := []) tsl22 k bd
   obtain rfl := w
   refine x_indexAddr (xv := Vl d b e) (yv := Vi i) (.pointer (some aq)) R R R R a2 (x_load (xv := .pointer (some aq)) (Vi D) R R R (reads_cell0 tcell3 aN (fun _ a => by cases a)) ?_)
   refine x_u 2 [(8, Vi i), (9, Vi D)] (x_ek (c_sp (x_u 3 [(29, Vi D), (30, .bool (decide (D < 0))), (31, .bool (decide (D < 0)))] (x_if 31 (decide (D < 0)) R a (fun a => ?_) (fun a => ?_)))))
   · refine x_u 24 [(32, undef), (33, undef), (34, undef), (35, undef), (36, undef), (37, .bool true), (38, .bool true), (39, undef), (40, undef), (41, undef), (42, undef), (43, undef), (44, undef), (45, undef), (46, undef), (47, undef), (48, undef), (49, undef), (50, undef), (51, undef), (52, undef), (53, undef), (54, undef), (55, .bool true)] (x_ek (c_nm [(1, Vl d b e), (2, Vp c 0), (7, Vl t r u), (22, Vl d b e), (23, Vi ((b).length : Int)), (24, Vi i), (55, .bool true)] (fun E => ?_)))
     refine c_true R (c_sp (x_u 2 [(4, Vi 0), (5, Vi 1)] (x_ek (c_ret (k_block_ret (k_then_ret ?_))))))
     obtain rfl := some_inj a
     have F := some_inj G
     subst F
     replace a := aa
     refine k_then_ret (k_block_ret (k_then_ret (r_ret (r_vals [Vi 0, Vi 1] ⟨R, R, trivial⟩ ?_))))
     obtain rfl := some_inj a
     exact ⟨R, h⟩
   refine x_u 1 [(32, Vi D)] (x_fieldAddr (xv := Vp c 0) (Vp c 0) R R R (reads_field tfld50_0 _ _) (x_load (xv := Vp c 0) (Vl n f o) R R R (reads_box tcell36 j nn 0 _ R) (x_len (vs := [Vl n f o]) (Vi ((f).length : Int)) R R R (reads_len tsl36 _ _ _ _ _) (x_u 3 [(36, .bool (decide (D ≥ ((f).length : Int)))), (37, .bool (decide (D ≥ ((f).length : Int)))), (38, .bool (decide (D ≥ ((f).length : Int))))] (x_if 38 (decide (D ≥ ((f).length : Int))) R a (fun a => ?_) (fun a => ?_))))))
   · refine x_u 17 [(39, undef), (40, undef), (41, undef), (42, undef), (43, undef), (44, undef), (45, undef), (46, undef), (47, undef), (48, undef), (49, undef), (50, undef), (51, undef), (52, undef), (53, undef), (54, undef), (55, .bool true)] (x_ek (c_nm [(1, Vl d b e), (2, Vp c 0), (7, Vl t r u), (22, Vl d b e), (23, Vi ((b).length : Int)), (24, Vi i), (55, .bool true)] (fun E => ?_)))
     refine c_true R (c_sp (x_u 2 [(4, Vi 0), (5, Vi 1)] (x_ek (c_ret (k_block_ret (k_then_ret ?_))))))
     obtain rfl := some_inj a
     have F := some_inj G
     subst F
     replace a := aa
     refine k_then_ret (k_block_ret (k_then_ret (r_ret (r_vals [Vi 0, Vi 1] ⟨R, R, trivial⟩ ?_))))
     obtain rfl := some_inj a
     exact ⟨R, h⟩
   refine x_u 3 [(39, Vi i), (40, .bool (decide (i > 0))), (41, .bool (decide (i > 0)))] (x_if 41 (decide (i > 0)) R a (fun a => ?_) (fun a => ?_))
   · refine x_u 4 [(42, Vl t r u), (43, Vl d b e), (44, Vi i), (45, Vi (i64.wrap (i - 1)))] ?_
     obtain ⟨aG, be, a⟩ := bind_some a
     obtain ⟨ar, bp, a3, aO, w⟩ := reads_index (Mo := []) tsl22 k be
     obtain rfl := w
     refine x_indexAddr (xv := Vl d b e) (yv := Vi (i64.wrap (i - 1))) (.pointer (some ar)) R R R R a3 (x_load (xv := .pointer (some ar)) (Vi aG) R R R (reads_cell0 tcell3 aO (fun _ a => by cases a)) ?_)
     obtain ⟨aH, bf, a⟩ := bind_some a
     obtain ⟨au, bq, a4, aQ, w⟩ := reads_index (Mo := []) tsl57 v bf
     obtain ⟨ao, aA, rfl, bb⟩ := w
     refine x_indexAddr (xv := Vl t r u) (yv := Vi aG) (.pointer (some au)) R R R R a4 (x_load (xv := .pointer (some au)) (Vl ao aH aA) R R R (reads_cell0 tcell22 aQ (fun _ a => by cases a)) ?_)
     refine x_u 1 [(50, Vi D)] ?_
     obtain ⟨S, bg, a⟩ := bind_some a
     obtain ⟨av, br, a5, aS, w⟩ := reads_index (Mo := []) tsl22 bb bg
     obtain rfl := w
     refine x_indexAddr (xv := Vl ao aH aA) (yv := Vi D) (.pointer (some av)) R R R R a5 (x_load (xv := .pointer (some av)) (Vi S) R R R (reads_cell0 tcell3 aS (fun _ a => by cases a)) ?_)
     refine x_u 3 [(53, .bool (S == 0)), (54, .bool (S == 0)), (55, .bool (S == 0))] (x_ek (c_nm [(1, Vl d b e), (2, Vp c 0), (7, Vl t r u), (22, Vl d b e), (23, Vi ((b).length : Int)), (24, Vi i), (55, .bool (S == 0))] (fun E => ?_)))
     refine c_if (S == 0) R a (fun a => ?_) (fun a => ?_)
     · refine c_sp (x_u 2 [(4, Vi 0), (5, Vi 1)] (x_ek (c_ret (k_block_ret (k_then_ret ?_)))))
       obtain rfl := some_inj a
       have F := some_inj G
       subst F
       replace a := aa
       refine k_then_ret (k_block_ret (k_then_ret (r_ret (r_vals [Vi 0, Vi 1] ⟨R, R, trivial⟩ ?_))))
       obtain rfl := some_inj a
       exact ⟨R, h⟩
     refine c_skip (k_block (k_then (c_plain (x_u 2 [(56, Vi (i64.wrap (i + 1))), (24, Vi (i64.wrap (i + 1)))] (x_end R ?_)))))
     obtain rfl := some_inj a
     exact k_then ⟨(Q, i64.wrap (i + 1)), ⟨R, R, R, R, R, R, trivial⟩, ⟨G, h, l, z, k, m, j, v⟩, Nat.lt_succ_self _⟩
   refine x_u 14 [(42, undef), (43, undef), (44, undef), (45, undef), (46, undef), (47, undef), (48, undef), (49, undef), (50, undef), (51, undef), (52, undef), (53, undef), (54, .bool false), (55, .bool false)] (x_ek (c_nm [(1, Vl d b e), (2, Vp c 0), (7, Vl t r u), (22, Vl d b e), (23, Vi ((b).length : Int)), (24, Vi i), (55, .bool false)] (fun E => ?_)))
   refine c_false R (c_skip (k_block (k_then (c_plain (x_u 2 [(56, Vi (i64.wrap (i + 1))), (24, Vi (i64.wrap (i + 1)))] (x_end R ?_))))))
   obtain rfl := some_inj a
   exact k_then ⟨(Q, i64.wrap (i + 1)), ⟨R, R, R, R, R, R, trivial⟩, ⟨G, h, l, z, k, m, j, v⟩, Nat.lt_succ_self _⟩
 refine c_exit (k_then_exit ?_)
 obtain rfl := some_inj a
 have F := some_inj G
 subst F
 replace a := aa
 refine k_then_exit (k_block_in (k_then (c_nm [(1, Vl d b e), (2, Vp c 0), (7, Vl t r u)] (fun E => ?_))))
 refine c_sp (x_u 1 [(10, Vi 0)] (x_ek (c_seq (c_sp (x_u 1 [(57, Vl d b e)] (x_len (vs := [Vl d b e]) (Vi ((b).length : Int)) R R R (reads_len tsl22 _ _ _ _ _) (x_u 1 [(59, Vi 0)] (x_ek (c_block ?_)))))))))
 obtain ⟨aL, ag, aC⟩ := bind_some a
 obtain ⟨U, ag⟩ := loop_some ag
 refine c_loop (loop_rule hmx (σ := Nat × Int × Int) (fun A => match A with | (_, B, p) => [(1, Vl d b e), (2, Vp c 0), (7, Vl t r u), (10, Vi B), (57, Vl d b e), (58, Vi ((b).length : Int)), (59, Vi p)]) (fun A q => match A with | (al, B, p) => loopN (leastcode_Bound_L24 f s b r) al (B, p) = some aL ∧ Ev [] C q ∧ MS q [[c], g] ∧ FR C.heap.size [[c]] ∧ SlR (eInt .i64) q (fl [[c], g]) d e b ∧ SlR (eIt4) q (fl [[c], g]) n o f ∧ q.heap[c]? = some (.cells #[Vl n f o, Vi s] 50 (0, 0)) ∧ SlR (eSl (eInt .i64)) q (fl [[c], g]) t u r) (fun A => A.1) (U, 0, 0) ⟨R, R, R, R, R, R, R, trivial⟩ ⟨ag, h, l, z, k, m, j, v⟩ ?_)
 rintro ⟨U, B, p⟩ E bD ⟨O, h, l, z, k, m, j, v⟩
 rcases U with _ | U
 · exact (loopN_zero O).elim
 obtain ⟨bm, a, O⟩ := bind_some O
 refine c_sp (x_u 1 [(60, .bool (decide (p < ((b).length : Int))))] (x_ek (c_nm [(1, Vl d b e), (2, Vp c 0), (7, Vl t r u), (10, Vi B), (57, Vl d b e), (58, Vi ((b).length : Int)), (59, Vi p), (60, .bool (decide (p < ((b).length : Int))))] (fun E => ?_))))
 refine c_seq (c_if (decide (p < ((b).length : Int))) R a (fun a => ?_) (fun a => ?_))
 · refine c_skip (k_then (c_seq (c_block (c_sp (x_u 1 [(61, Vi p)] ?_)))))
   obtain ⟨J, bh, a⟩ := bind_some a
   obtain ⟨aw, bs, a6, aU, w⟩ := reads_index (Mo := []) tsl22 k bh
   obtain rfl := w
   refine x_indexAddr (xv := Vl d b e) (yv := Vi p) (.pointer (some aw)) R R R R a6 (x_load (xv := .pointer (some aw)) (Vi J) R R R (reads_cell0 tcell3 aU (fun _ a => by cases a)) ?_)
   refine x_u 2 [(11, Vi p), (12, Vi J)] (x_ek (c_join (σ := Int) (fun A => match A with | K => [(1, Vl d b e), (2, Vp c 0), (7, Vl t r u), (10, Vi K), (12, Vi J), (57, Vl d b e), (58, Vi ((b).length : Int)), (59, Vi p)]) (fun A q => match A with | K => leastcode_Bound_J28 f s p J K = some bm ∧ Ev [] C q ∧ MS q [[c], g] ∧ FR C.heap.size [[c]] ∧ SlR (eInt .i64) q (fl [[c], g]) d e b ∧ SlR (eIt4) q (fl [[c], g]) n o f ∧ q.heap[c]? = some (.cells #[Vl n f o, Vi s] 50 (0, 0)) ∧ SlR (eSl (eInt .i64)) q (fl [[c], g]) t u r) ?_ ?_))
   · refine c_sp (x_u 2 [(64, Vi p), (65, .bool (decide (p > 0)))] (x_ek (c_if (decide (p > 0)) R a (fun a => ?_) (fun a => ?_))))
     · refine c_plain (x_u 5 [(66, Vi B), (67, Vl t r u), (68, Vl d b e), (69, Vi p), (70, Vi (i64.wrap (p - 1)))] ?_)
       obtain ⟨aI, bi, a⟩ := bind_some a
       obtain ⟨ax, bt, a7, aX, w⟩ := reads_index (Mo := []) tsl22 k bi
       obtain rfl := w
       refine x_indexAddr (xv := Vl d b e) (yv := Vi (i64.wrap (p - 1))) (.pointer (some ax)) R R R R a7 (x_load (xv := .pointer (some ax)) (Vi aI) R R R (reads_cell0 tcell3 aX (fun _ a => by cases a)) ?_)
       obtain ⟨aJ, bj, a⟩ := bind_some a
       obtain ⟨ay, bu, a8, aY, w⟩ := reads_index (Mo := []) tsl57 v bj
       obtain ⟨ap, aB, rfl, bc⟩ := w
       refine x_indexAddr (xv := Vl t r u) (yv := Vi aI) (.pointer (some ay)) R R R R a8 (x_load (xv := .pointer (some ay)) (Vl ap aJ aB) R R R (reads_cell0 tcell22 aY (fun _ a => by cases a)) ?_)
       refine x_u 1 [(75, Vi J)] ?_
       obtain ⟨Y, bk, a⟩ := bind_some a
       obtain ⟨az, bv, a9, aZ, w⟩ := reads_index (Mo := []) tsl22 bc bk
       obtain rfl := w
       refine x_indexAddr (xv := Vl ap aJ aB) (yv := Vi J) (.pointer (some az)) R R R R a9 (x_load (xv := .pointer (some az)) (Vi Y) R R R (reads_cell0 tcell3 aZ (fun _ a => by cases a)) ?_)
       refine x_u 3 [(78, Vi (i64.wrap (Y - 1))), (79, Vi (i64.wrap (B + (i64.wrap (Y - 1))))), (10, Vi (i64.wrap (B + (i64.wrap (Y - 1)))))] (x_end R ?_)
       exact k_then ⟨i64.wrap (B + (i64.wrap (Y - 1))), ⟨R, R, R, R, R, R, R, R, trivial⟩, a, h, l, z, k, m, j, v⟩
     refine c_skip ?_
     exact k_then ⟨B, ⟨R, R, R, R, R, R, R, R, trivial⟩, a, h, l, z, k, m, j, v⟩
   rintro K E X ⟨a, h, l, z, k, m, j, v⟩
   refine c_seq (c_drawn [] [(0, false), (1, false), (2, false), (3, false), (4, false), (5, false), (6, false), (7, false), (8, false), (9, true), (10, false), (11, false), (12, false), (13, false), (14, false)] _ (by kernel_rfl) R ?_)
   have x := Stp.ext (ls := [[c], g]) (Ev.drew X)
   replace k := k.step x
   replace j := (Ev.drew X).box j nn
   replace m := m.step x
   replace v := v.step x
   replace l := l.ev (Ev.drew X)
   replace h := h.ext (Ev.drew X)
   refine x_u 1 [(81, Vi K)] (x_fieldAddr (xv := Vp c 0) (Vp c 0) R R R (reads_field tfld50_0 _ _) (x_load (xv := Vp c 0) (Vl n f o) R R R (reads_box tcell36 j nn 0 _ R) (x_u 1 [(84, Vi J)] ?_)))
   obtain ⟨an, bl, a⟩ := bind_some a
   obtain ⟨Z, bw, ba, a0, w⟩ := reads_index (Mo := []) tsl36 m bl
   obtain ⟨_, _, rfl, rfl, ⟨_, _, rfl, rfl, ⟨_, _, rfl, rfl, rfl⟩⟩⟩ := w
   refine x_indexAddr (xv := Vl n f o) (yv := Vi J) (.pointer (some Z)) R R R R ba (x_fieldAddr (xv := .pointer (some Z)) (.pointer (some (Addr.add Z 2))) R R R (reads_field tfld76_2 _ _) (x_load (xv := .pointer (some (Addr.add Z 2))) (Vi an.2.2.1) R R R (reads_cell tcell3 a0 (fun _ a => by cases a) 2 _ R) ?_))
   refine x_fieldAddr (xv := Vp c 0) (Vp c 1) R R R (reads_field tfld50_1 _ _) (x_load (xv := Vp c 1) (Vi s) R R R (reads_box tcell3 j nn 1 _ R) ?_)
   obtain ⟨y, I, a⟩ := bind_some a
   have H := code_Next_w K an.2.2.1 s _ (X).drew I
   refine x_call 111 #[] #[] [Vi K, Vi an.2.2.1, Vi s] _ R R R R H ?_
   rintro ae bA ⟨rfl, ab⟩
   clear H I
   refine inl1 ?_
   have x := Stp.ext (ls := [[c], g]) ab
   replace k := k.step x
   replace j := ab.box j nn
   replace m := m.step x
   replace v := v.step x
   replace l := l.ev ab
   replace h := h.ext ab
   refine x_u 5 [(80, .tuple #[Vi y.1, Vi y.2]), (91, Vi y.1), (92, Vi y.2), (13, Vi y.1), (14, Vi y.2)] (x_ek (c_nm [(1, Vl d b e), (2, Vp c 0), (7, Vl t r u), (13, Vi y.1), (14, Vi y.2), (57, Vl d b e), (58, Vi ((b).length : Int)), (59, Vi p)] (fun E => ?_)))
   refine c_seq (c_sp (x_u 2 [(93, Vi y.2), (94, .bool (y.2 != 0))] (x_ek (c_if (y.2 != 0) R a (fun a => ?_) (fun a => ?_)))))
   · refine c_sp (x_u 3 [(95, Vi y.2), (4, Vi 0), (5, Vi y.2)] (x_ek (c_ret (k_then_ret (k_block_ret (k_then_ret ?_))))))
     obtain rfl := some_inj a
     have F := some_inj O
     subst F
     replace a := aC
     refine k_then_ret (k_block_ret (k_then_ret (r_ret (r_vals [Vi 0, Vi y.2] ⟨R, R, trivial⟩ ?_))))
     obtain rfl := some_inj a
     exact ⟨R, h⟩
   refine c_skip (k_then (c_plain (x_u 2 [(96, Vi y.1), (10, Vi y.1)] (x_end R (k_block (k_then (c_plain (x_u 2 [(97, Vi (i64.wrap (p + 1))), (59, Vi (i64.wrap (p + 1)))] (x_end R ?_)))))))))
   obtain rfl := some_inj a
   exact k_then ⟨(U, y.1, i64.wrap (p + 1)), ⟨R, R, R, R, R, R, R, trivial⟩, ⟨O, h, l, z, k, m, j, v⟩, Nat.lt_succ_self _⟩
 refine c_exit (k_then_exit ?_)
 obtain rfl := some_inj a
 have F := some_inj O
 subst F
 replace a := aC
 refine k_then_exit (k_block_in (k_then (c_nm [(10, Vi B)] (fun E => ?_))))
 refine c_sp (x_u 3 [(98, Vi B), (4, Vi B), (5, Vi 0)] (x_ek (c_ret (r_ret (r_vals [Vi B, Vi 0] ⟨R, R, trivial⟩ ?_)))))
 obtain rfl := some_inj a
 exact ⟨R, h⟩
end Go.Proofs.YtlejnkhaphlooaaGreat
