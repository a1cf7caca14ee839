
/- Walks, printed by program: each function returns what the partial function of the same name returns. Conditions: those of each theorem. -/
import Derived.Test.YtlejnkhaphlooaaGreatGT
set_option linter.unusedVariables false
set_option linter.unusedSimpArgs false
set_option maxRecDepth 4000
namespace Go.Proofs.YtlejnkhaphlooaaGreat
open Go Go.V Go.Proofs Go.IntKind
def law17_items_L2 (c : List Int) (e : (List (Int × Int × Int × Int)) × Int) : Option (Step ((List (Int × Int × Int × Int)) × Int) (List (Int × Int × Int × Int))) :=
match e with
| (a, b) =>
(if (decide (b < ((c).length : Int))) = true then
((idx c b).bind fun d =>
(if a.length + ([(0, d, 0, 100)] : List (Int × Int × Int × Int)).length ≤ 4294967296 then
some (.next ((a ++ ([(0, d, 0, 100)] : List (Int × Int × Int × Int))), i64.wrap (b + 1)))
else none))
else
some (.done a))
def law17_items (c : List Int) : Option (List (Int × Int × Int × Int)) :=
((loop (law17_items_L2 c) (([] : List (Int × Int × Int × Int)), 0)).bind fun a => match a with
| b => some b)
theorem law17_items_w (n : Option Addr) (o : Nat) (e : List Int) (F : (List (Int × Int × Int × Int))) (h : World) (d : List Nat) (k : MS h [d]) (m : SlR (eInt .i64) h (fl [d]) n o e) (a : law17_items e = some F) : CallVC Tryz.prog 30 [Vl n e o] h fun an r => ∃ (v : Option Addr), ∃ (K : Nat), an = Vl v F K ∧ Ev [] h r ∧ MS r [blk v, d] ∧ FR h.heap.size [blk v] ∧ OwnS (eIt4) 76 r (fl [blk v, d]) v K F := by
 refine calls_vc hmx Tryz.func30 (by kernel_rfl) R (rs := [.tmp 2]) R (by kernel_rfl) (args := [Vl n e o]) R ?_
 have p : Ev [] h h := Ev.refl _ _
 have q : FR h.heap.size [] := FR.nil _
 refine c_sp (x_u 1 [(2, .slice none 0 0)] (x_ek (c_sp (x_u 1 [(3, .slice none 0 0)] (x_ek (c_seq (c_sp (x_u 1 [(6, Vl n e o)] (x_len (vs := [Vl n e o]) (Vi ((e).length : Int)) R R R (reads_len tsl22 _ _ _ _ _) ?_)))))))))
 refine x_u 1 [(8, Vi 0)] (x_ek (c_block ?_))
 have s := Stp.push (ls := [d]) (l := blk none) (Ev.refl [] h) (fun _ a => by cases a) (fun _ a => by cases a)
 replace m := m.step s
 replace k := k.push (l := blk none) (Ev.refl [] _) (fun _ a => by cases a)
 replace q := q.push (l := blk none) (fun _ a => by cases a)
 have ae := OwnS.nil (eIt4) 76 h (fl [blk none, d])
 obtain ⟨X, C, Y⟩ := bind_some a
 obtain ⟨z, C⟩ := loop_some C
 refine c_loop (loop_rule hmx (σ := Nat × (List (Int × Int × Int × Int)) × Int × Option Addr × Nat) (fun A => match A with | (_, g, j, b, i) => [(3, Vl b g i), (6, Vl n e o), (7, Vi ((e).length : Int)), (8, Vi j)]) (fun A r => match A with | (am, g, j, b, i) => loopN (law17_items_L2 e) am (g, j) = some X ∧ Ev [] h r ∧ MS r [blk b, d] ∧ FR h.heap.size [blk b] ∧ OwnS (eIt4) 76 r (fl [blk b, d]) b i g ∧ SlR (eInt .i64) r (fl [blk b, d]) n o e) (fun A => A.1) (z, ([] : List (Int × Int × Int × Int)), 0, none, 0) ⟨R, R, R, R, trivial⟩ ⟨C, p, k, q, ae, m⟩ ?_)
 rintro ⟨z, g, j, b, i⟩ H au ⟨y, p, k, q, u, m⟩
 rcases z with _ | z
 · exact (loopN_zero y).elim
 obtain ⟨ar, a, y⟩ := bind_some y
 refine c_sp (x_u 1 [(9, .bool (decide (j < ((e).length : Int))))] (x_ek (c_nm [(3, Vl b g i), (6, Vl n e o), (7, Vi ((e).length : Int)), (8, Vi j), (9, .bool (decide (j < ((e).length : Int))))] (fun H => ?_))))
 refine c_seq (c_if (decide (j < ((e).length : Int))) R a (fun a => ?_) (fun a => ?_))
 · refine c_skip (k_then (c_seq (c_block (c_sp ?_))))
   obtain ⟨f, ak, a⟩ := bind_some a
   obtain ⟨I, ao, ah, aa, Z⟩ := reads_index (Mo := []) tsl22 m ak
   obtain rfl := Z
   refine x_indexAddr (xv := Vl n e o) (yv := Vi j) (.pointer (some I)) R R R R ah (x_load (xv := .pointer (some I)) (Vi f) R R R (reads_cell0 tcell3 aa (fun _ a => by cases a)) ?_)
   refine x_u 1 [(5, Vi f)] (x_ek (c_plain (x_u 2 [(12, Vl b g i), (13, Vi f)] (x_build (vs := [(1, Vi f), (3, Vi 100)]) (.agg #[Vi 0, Vi f, Vi 0, Vi 100]) R R R (fun _ _ => by kernel_rfl) ?_))))
   refine x_buildSlice (vs := [(0, .agg #[Vi 0, Vi f, Vi 0, Vi 100])]) #[Vi 0, Vi f, Vi 0, Vi 100] 76 R R R (by kernel_rfl) (fun J U af N B aq => ?_)
   refine inl1 ?_
   have Q := k
   have s := Stp.ext (ls := [blk b, d]) B
   replace u := u.step s B nn2
   replace m := m.step s
   replace k := k.ev B
   replace p := p.ext B
   have ai : SlR (eIt4) U (fl [blk b, d]) (Ad J 0) 1 ([(0, f, 0, 100)] : List (Int × Int × Int × Int)) := ro_of_box Q af N R R (cells_at (cs := [Vi 0, Vi f, Vi 0, Vi 100]) (CellsOf.cons (c := [Vi 0, Vi f, Vi 0, Vi 100]) ⟨[Vi 0], [Vi f, Vi 0, Vi 100], R, R, ⟨[Vi f], [Vi 0, Vi 100], R, R, ⟨[Vi 0], [Vi 100], R, R, R⟩⟩⟩ CellsOf.nil))
   clear N Q
   have ac := guard_l a
   replace a := guard_r a
   obtain ⟨t, L, G, ag, D, E, ap, S⟩ := own_appendN tel36 36 u (mem_flat 0 R) ai ac
   refine x_builtin (vs := [Vl b g i, .slice (Ad J 0) (([(0, f, 0, 100)] : List (Int × Int × Int × Int))).length 1]) _ G R R R R (run_value _ _ _ _ ag) (inl1 ?_)
   have s : Stp (fl [blk b, d]) U (fl [blk t, d]) G := Stp.upd 0 D R (fun w x => (E w x).1)
   replace m := m.step s
   replace k : MS G [blk t, d] := k.upd 0 D R E
   have O : FR h.heap.size [blk t] := q.upd 0 R p.size (fun w x => (E w x).1)
   replace p := p.then D (fun w x => .inr (q.at 0 R w x))
   replace q := O
   clear O
   replace u := S (fl [blk t, d]) s.new
   clear S
   refine x_u 1 [(3, .slice t ((g ++ ([(0, f, 0, 100)] : List (Int × Int × Int × Int)))).length L)] (x_end R (k_block (k_then (c_plain (x_u 2 [(17, Vi (i64.wrap (j + 1))), (8, Vi (i64.wrap (j + 1)))] (x_end R ?_))))))
   obtain rfl := some_inj a
   exact k_then ⟨(z, (g ++ ([(0, f, 0, 100)] : List (Int × Int × Int × Int))), i64.wrap (j + 1), t, L), ⟨R, R, R, R, trivial⟩, ⟨y, p, k, q, u, m⟩, Nat.lt_succ_self _⟩
 refine c_exit (k_then_exit ?_)
 obtain rfl := some_inj a
 have al := some_inj y
 subst al
 replace a := Y
 refine k_then_exit (k_block_in (k_then (c_nm [(3, Vl b g i)] (fun H => ?_))))
 refine c_sp (x_u 2 [(18, Vl b g i), (2, Vl b g i)] (x_ek (c_ret (r_ret (r_vals [Vl b g i] ⟨R, trivial⟩ ?_)))))
 obtain rfl := some_inj a
 have ad := k.pick [some 0, some 1] [blk b, d] R
 have aj := pick_sub (ls := [blk b, d]) [some 0, some 1] [blk b, d] R
 have ab := q.pick [some 0] [blk b] R
 exact ⟨b, i, R, p, ad, ab, u.sub aj⟩
end Go.Proofs.YtlejnkhaphlooaaGreat
