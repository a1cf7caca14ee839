
/- Walks, printed by program: each function returns what the partial function of the same name returns. Conditions: those of each theorem. -/
import Derived.Test.YtlejnkhaphlooaaGreatGT
set_option linter.unusedVariables false
set_option linter.unusedSimpArgs false
set_option maxRecDepth 4000
namespace Go.Proofs.YtlejnkhaphlooaaGreat
open Go Go.V Go.Proofs Go.IntKind
def code_in (a : Int) (b : Int) (c : Int) : Option Bool :=
(if (decide (a ≥ b)) = true then
some (decide (a ≤ c))
else
some false)
theorem code_in_w (a : Int) (c : Int) (b : Int) (h : Bool) (e : World) (d : code_in a c b = some h) : CallVC Tryz.prog 112 [Vi a, Vi c, Vi b] e fun j k => j = .bool h ∧ Ev [] e k := by
 refine calls_vc hmx Tryz.func112 (by kernel_rfl) R (rs := [.tmp 6]) R (by kernel_rfl) (args := [Vi a, Vi c, Vi b]) R ?_
 have f : Ev [] e e := Ev.refl _ _
 have m : MS e [[]] := ⟨List.pairwise_singleton _ _, fun n g l i => by simp only [List.mem_singleton] at g; subst g; cases i⟩
 refine c_sp (x_u 1 [(6, .bool false)] (x_ek (c_sp (x_u 4 [(7, Vi a), (8, Vi c), (9, .bool (decide (a ≥ c))), (10, .bool (decide (a ≥ c)))] (x_if 10 (decide (a ≥ c)) R d (fun d => ?_) (fun d => ?_))))))
 · refine x_u 5 [(11, Vi a), (12, Vi b), (13, .bool (decide (a ≤ b))), (14, .bool (decide (a ≤ b))), (6, .bool (decide (a ≤ b)))] (x_ek (c_ret (r_ret (r_vals [.bool (decide (a ≤ b))] ⟨R, trivial⟩ ?_))))
   obtain rfl := some_inj d
   exact ⟨R, f⟩
 refine x_u 5 [(11, undef), (12, undef), (13, undef), (14, .bool false), (6, .bool false)] (x_ek (c_ret (r_ret (r_vals [.bool false] ⟨R, trivial⟩ ?_))))
 obtain rfl := some_inj d
 exact ⟨R, f⟩
def code_form (a : Int) (b : Int) : Option Bool :=
((code_in a 0 12).bind fun c =>
(if c = true then
((code_in b 0 12).bind fun d =>
some d)
else
some false))
theorem code_form_w (c : Int) (d : Int) (k : Bool) (e : World) (a : code_form c d = some k) : CallVC Tryz.prog 113 [Vi c, Vi d] e fun h p => h = .bool k ∧ Ev [] e p := by
 refine calls_vc hmx Tryz.func113 (by kernel_rfl) R (rs := [.tmp 4]) R (by kernel_rfl) (args := [Vi c, Vi d]) R ?_
 have b : Ev [] e e := Ev.refl _ _
 have s : MS e [[]] := ⟨List.pairwise_singleton _ _, fun t j r m => by simp only [List.mem_singleton] at j; subst j; cases m⟩
 refine c_sp (x_u 1 [(4, .bool false)] (x_ek (c_sp (x_u 1 [(5, Vi c)] ?_))))
 obtain ⟨l, g, a⟩ := bind_some a
 have f := code_in_w c 0 12 _ e g
 refine x_call 112 #[] #[] [Vi c, Vi 0, Vi 12] _ R R R R f ?_
 rintro h q ⟨rfl, n⟩
 clear f g
 refine inl1 ?_
 replace b := b.ext n
 refine x_u 1 [(7, .bool l)] (x_if 7 l R a (fun a => ?_) (fun a => ?_))
 · refine x_u 1 [(8, Vi d)] ?_
   obtain ⟨i, g, a⟩ := bind_some a
   have f := code_in_w d 0 12 _ q g
   refine x_call 112 #[] #[] [Vi d, Vi 0, Vi 12] _ R R R R f ?_
   rintro h u ⟨rfl, o⟩
   clear f g
   refine inl1 ?_
   replace b := b.ext o
   refine x_u 2 [(10, .bool i), (4, .bool i)] (x_ek (c_ret (r_ret (r_vals [.bool i] ⟨R, trivial⟩ ?_))))
   obtain rfl := some_inj a
   exact ⟨R, b⟩
 refine x_u 4 [(8, undef), (9, undef), (10, .bool false), (4, .bool false)] (x_ek (c_ret (r_ret (r_vals [.bool false] ⟨R, trivial⟩ ?_))))
 obtain rfl := some_inj a
 exact ⟨R, b⟩
def code_missed (a : Int) : Option Int :=
(if 0 ≤ a then
some (i64.wrap ((i64.wrap (1 * 2 ^ (min (Int.toNat (a)) i64.bits))) - 1))
else none)
theorem code_missed_w (a : Int) (e : Int) (b : World) (c : code_missed a = some e) : CallVC Tryz.prog 114 [Vi a] b fun h i => h = Vi e ∧ Ev [] b i := by
 refine calls_vc hmx Tryz.func114 (by kernel_rfl) R (rs := [.tmp 2]) R (by kernel_rfl) (args := [Vi a]) R ?_
 have g : Ev [] b b := Ev.refl _ _
 have k : MS b [[]] := ⟨List.pairwise_singleton _ _, fun l d j f => by simp only [List.mem_singleton] at d; subst d; cases f⟩
 refine c_sp (x_u 1 [(2, Vi 0)] (x_ek (c_sp (x_u 1 [(3, Vi a)] (x_binop (Vi (i64.wrap (1 * 2 ^ (min (Int.toNat (a)) i64.bits)))) (Vi 1) (Vi a) R R R R (vb_shl (guard_l c)) ?_)))))
 replace c := guard_r c
 refine x_u 2 [(5, Vi (i64.wrap ((i64.wrap (1 * 2 ^ (min (Int.toNat (a)) i64.bits))) - 1))), (2, Vi (i64.wrap ((i64.wrap (1 * 2 ^ (min (Int.toNat (a)) i64.bits))) - 1)))] (x_ek (c_ret (r_ret (r_vals [Vi (i64.wrap ((i64.wrap (1 * 2 ^ (min (Int.toNat (a)) i64.bits))) - 1))] ⟨R, trivial⟩ ?_))))
 obtain rfl := some_inj c
 exact ⟨R, g⟩
def code_ones_L1 (c : Int × Int) : Option (Step (Int × Int) Int) :=
match c with
| (a, b) =>
(if (a != 0) = true then
some (.next (i64.wrap ↑(BitVec.ofInt i64.bits a &&& BitVec.ofInt i64.bits (i64.wrap (a - 1))).toNat, i64.wrap (b + 1)))
else
some (.done b))
def code_ones (c : Int) : Option Int :=
((loop code_ones_L1 (c, 0)).bind fun a => match a with
| b => some b)
theorem code_ones_w (i : Int) (p : Int) (d : World) (c : code_ones i = some p) : CallVC Tryz.prog 115 [Vi i] d fun v j => v = Vi p ∧ Ev [] d j := by
 refine calls_vc hmx Tryz.func115 (by kernel_rfl) R (rs := [.tmp 2]) R (by kernel_rfl) (args := [Vi i]) R ?_
 have h : Ev [] d d := Ev.refl _ _
 have m : MS d [[]] := ⟨List.pairwise_singleton _ _, fun x o w s => by simp only [List.mem_singleton] at o; subst o; cases s⟩
 have l : FR d.heap.size [] := FR.nil _
 refine c_sp (x_u 1 [(2, Vi 0)] (x_ek (c_sp (x_u 1 [(3, Vi 0)] (x_ek (c_seq (c_block ?_)))))))
 obtain ⟨q, k, r⟩ := bind_some c
 obtain ⟨f, k⟩ := loop_some k
 refine c_loop (loop_rule hmx (σ := Nat × Int × Int) (fun g => match g with | (_, a, b) => [(0, Vi a), (3, Vi b)]) (fun g j => match g with | (u, a, b) => loopN code_ones_L1 u (a, b) = some q ∧ Ev [] d j ∧ MS j [[]] ∧ FR d.heap.size []) (fun g => g.1) (f, i, 0) ⟨R, R, trivial⟩ ⟨k, h, m, l⟩ ?_)
 rintro ⟨f, a, b⟩ n z ⟨e, h, m, l⟩
 rcases f with _ | f
 · exact (loopN_zero e).elim
 obtain ⟨y, c, e⟩ := bind_some e
 refine c_seq (c_sp (x_u 2 [(4, Vi a), (5, .bool (a != 0))] (x_ek (c_nm [(0, Vi a), (3, Vi b), (5, .bool (a != 0))] (fun n => ?_)))))
 refine c_if (a != 0) R c (fun c => ?_) (fun c => ?_)
 · refine c_skip (k_then (c_seq (c_block (c_plain (x_u 3 [(10, Vi b), (11, Vi (i64.wrap (b + 1))), (3, Vi (i64.wrap (b + 1)))] (x_end R (k_block (k_then (c_plain ?_)))))))))
   refine x_u 5 [(6, Vi a), (7, Vi a), (8, Vi (i64.wrap (a - 1))), (9, Vi (i64.wrap ↑(BitVec.ofInt i64.bits a &&& BitVec.ofInt i64.bits (i64.wrap (a - 1))).toNat)), (0, Vi (i64.wrap ↑(BitVec.ofInt i64.bits a &&& BitVec.ofInt i64.bits (i64.wrap (a - 1))).toNat))] (x_end R ?_)
   obtain rfl := some_inj c
   exact k_then ⟨(f, i64.wrap ↑(BitVec.ofInt i64.bits a &&& BitVec.ofInt i64.bits (i64.wrap (a - 1))).toNat, i64.wrap (b + 1)), ⟨R, R, trivial⟩, ⟨e, h, m, l⟩, Nat.lt_succ_self _⟩
 refine c_exit (k_then_exit ?_)
 obtain rfl := some_inj c
 have t := some_inj e
 subst t
 replace c := r
 refine k_then_exit (k_block_in (k_then (c_nm [(3, Vi b)] (fun n => ?_))))
 refine c_sp (x_u 2 [(12, Vi b), (2, Vi b)] (x_ek (c_ret (r_ret (r_vals [Vi b] ⟨R, trivial⟩ ?_)))))
 obtain rfl := some_inj c
 exact ⟨R, h⟩
def code_Next_L9 (b : Int) (c : Int) : Option (Step Int (Unit ⊕ Int)) :=
match c with
| a =>
((code_ones a).bind fun d =>
(if (decide (d > b)) = true then
(if (decide ((i64.wrap (a + (i64.wrap ↑(BitVec.ofInt i64.bits a &&& BitVec.ofInt i64.bits (i64.wrap (0 - a))).toNat))) ≥ 4096)) = true then
some (.done (.inl ()))
else
some (.next (i64.wrap (a + (i64.wrap ↑(BitVec.ofInt i64.bits a &&& BitVec.ofInt i64.bits (i64.wrap (0 - a))).toNat)))))
else
some (.done (.inr a))))
def code_Next_J5 (a : Int) (e : Int) (f : Int) : Option (Int × Int) :=
((loop (code_Next_L9 e) f).bind fun d => match d with
| (.inl _) => some (0, 15)
| (.inr b) => (if 0 ≤ a then
((code_missed a).bind fun c =>
(if (decide ((i64.wrap ↑(BitVec.ofInt i64.bits (i64.wrap (b * 2 ^ (min (Int.toNat (a)) i64.bits))) ||| BitVec.ofInt i64.bits c).toNat) < 4096)) = true then
some (i64.wrap ↑(BitVec.ofInt i64.bits (i64.wrap (b * 2 ^ (min (Int.toNat (a)) i64.bits))) ||| BitVec.ofInt i64.bits c).toNat, 0)
else
some (0, 15)))
else none))
def code_Next (b : Int) (a : Int) (c : Int) : Option (Int × Int) :=
((code_form a c).bind fun e =>
(if (!e) = true then
some (0, 2)
else
(if (decide (b < 0)) = true then
some (0, 2)
else
(if (decide (b ≥ 4096)) = true then
some (0, 15)
else
((code_missed a).bind fun d =>
(if (decide (b > d)) = true then
(if 0 ≤ a then
(if 0 ≤ a then
code_Next_J5 a c (Int.fdiv (i64.wrap ((i64.wrap ((i64.wrap (b - d)) + (i64.wrap (1 * 2 ^ (min (Int.toNat (a)) i64.bits))))) - 1)) (2 ^ (min (Int.toNat (a)) i64.bits)))
else none)
else none)
else
code_Next_J5 a c 0))))))
theorem code_Next_w (d : Int) (c : Int) (f : Int) (u : Int × Int) (k : World) (a : code_Next d c f = some u) : CallVC Tryz.prog 111 [Vi d, Vi c, Vi f] k fun t n => t = .tuple #[Vi u.1, Vi u.2] ∧ Ev [] k n := by
 refine calls_vc hmx Tryz.func111 (by kernel_rfl) R (rs := [.tmp 6, .tmp 7]) R (by kernel_rfl) (args := [Vi d, Vi c, Vi f]) R ?_
 have e : Ev [] k k := Ev.refl _ _
 have g : MS k [[]] := ⟨List.pairwise_singleton _ _, fun N E L H => by simp only [List.mem_singleton] at E; subst E; cases H⟩
 have o : FR k.heap.size [] := FR.nil _
 refine c_sp (x_u 2 [(6, Vi 0), (7, Vi 0)] (x_ek (c_seq (c_sp (x_u 2 [(11, Vi c), (12, Vi f)] ?_)))))
 obtain ⟨y, j, a⟩ := bind_some a
 have i := code_form_w c f _ k j
 refine x_call 113 #[] #[] [Vi c, Vi f] _ R R R R i ?_
 rintro t J ⟨rfl, C⟩
 clear i j
 refine inl1 ?_
 replace g := g.ev C
 replace e := e.ext C
 refine x_u 2 [(14, .bool (!y)), (15, .bool (!y))] (x_if 15 (!y) R a (fun a => ?_) (fun a => ?_))
 · refine x_u 3 [(16, undef), (17, undef), (18, .bool true)] (x_ek (c_true R (c_sp (x_u 2 [(6, Vi 0), (7, Vi 2)] (x_ek (c_ret (k_then_ret (r_ret (r_vals [Vi 0, Vi 2] ⟨R, R, trivial⟩ ?_)))))))))
   obtain rfl := some_inj a
   exact ⟨R, e⟩
 refine x_u 3 [(16, Vi d), (17, .bool (decide (d < 0))), (18, .bool (decide (d < 0)))] (x_ek (c_if (decide (d < 0)) R a (fun a => ?_) (fun a => ?_)))
 · refine c_sp (x_u 2 [(6, Vi 0), (7, Vi 2)] (x_ek (c_nm [(6, Vi 0), (7, Vi 2)] (fun q => ?_))))
   refine c_ret (k_then_ret (r_ret (r_vals [Vi 0, Vi 2] ⟨R, R, trivial⟩ ?_)))
   obtain rfl := some_inj a
   exact ⟨R, e⟩
 refine c_skip (k_then (c_seq (c_sp (x_u 2 [(19, Vi d), (20, .bool (decide (d ≥ 4096)))] (x_ek (c_nm [(0, Vi d), (1, Vi c), (2, Vi f), (20, .bool (decide (d ≥ 4096)))] (fun q => ?_)))))))
 refine c_if (decide (d ≥ 4096)) R a (fun a => ?_) (fun a => ?_)
 · refine c_sp (x_u 2 [(6, Vi 0), (7, Vi 15)] (x_ek (c_ret (k_then_ret (r_ret (r_vals [Vi 0, Vi 15] ⟨R, R, trivial⟩ ?_))))))
   obtain rfl := some_inj a
   exact ⟨R, e⟩
 refine c_skip (k_then (c_sp (x_u 1 [(8, Vi 0)] (x_ek (c_join (σ := Int) (fun l => match l with | s => [(1, Vi c), (2, Vi f), (8, Vi s)]) (fun l n => match l with | s => code_Next_J5 c f s = some u ∧ Ev [] k n ∧ MS n [[]] ∧ FR k.heap.size []) ?_ ?_)))))
 · refine c_sp (x_u 1 [(21, Vi c)] ?_)
   obtain ⟨h, j, a⟩ := bind_some a
   have i := code_missed_w c _ J j
   refine x_call 114 #[] #[] [Vi c] _ R R R R i ?_
   rintro t S ⟨rfl, D⟩
   clear i j
   refine inl1 ?_
   replace g := g.ev D
   replace e := e.ext D
   refine x_u 1 [(9, Vi h)] (x_ek (c_sp (x_u 3 [(23, Vi d), (24, Vi h), (25, .bool (decide (d > h)))] (x_ek (c_if (decide (d > h)) R a (fun a => ?_) (fun a => ?_))))))
   · refine c_plain (x_u 4 [(26, Vi d), (27, Vi h), (28, Vi (i64.wrap (d - h))), (29, Vi c)] (x_binop (Vi (i64.wrap (1 * 2 ^ (min (Int.toNat (c)) i64.bits)))) (Vi 1) (Vi c) R R R R (vb_shl (guard_l a)) ?_))
     replace a := guard_r a
     refine x_u 3 [(31, Vi (i64.wrap ((i64.wrap (d - h)) + (i64.wrap (1 * 2 ^ (min (Int.toNat (c)) i64.bits)))))), (32, Vi (i64.wrap ((i64.wrap ((i64.wrap (d - h)) + (i64.wrap (1 * 2 ^ (min (Int.toNat (c)) i64.bits))))) - 1))), (33, Vi c)] (x_binop (Vi (Int.fdiv (i64.wrap ((i64.wrap ((i64.wrap (d - h)) + (i64.wrap (1 * 2 ^ (min (Int.toNat (c)) i64.bits))))) - 1)) (2 ^ (min (Int.toNat (c)) i64.bits)))) (Vi (i64.wrap ((i64.wrap ((i64.wrap (d - h)) + (i64.wrap (1 * 2 ^ (min (Int.toNat (c)) i64.bits))))) - 1))) (Vi c) R R R R (vb_shr (guard_l a)) ?_)
     replace a := guard_r a
     refine x_u 1 [(8, Vi (Int.fdiv (i64.wrap ((i64.wrap ((i64.wrap (d - h)) + (i64.wrap (1 * 2 ^ (min (Int.toNat (c)) i64.bits))))) - 1)) (2 ^ (min (Int.toNat (c)) i64.bits))))] (x_end R ?_)
     exact k_then ⟨Int.fdiv (i64.wrap ((i64.wrap ((i64.wrap (d - h)) + (i64.wrap (1 * 2 ^ (min (Int.toNat (c)) i64.bits))))) - 1)) (2 ^ (min (Int.toNat (c)) i64.bits)), ⟨R, R, R, trivial⟩, a, e, g, o⟩
   refine c_skip ?_
   exact k_then ⟨0, ⟨R, R, R, trivial⟩, a, e, g, o⟩
 rintro s q U ⟨a, e, g, o⟩
 refine c_seq (c_block ?_)
 obtain ⟨G, v, z⟩ := bind_some a
 obtain ⟨r, v⟩ := loop_some v
 refine c_loop (loop_rule hmx (σ := Nat × Int) (fun l => match l with | (_, b) => [(1, Vi c), (2, Vi f), (8, Vi b)]) (fun l n => match l with | (I, b) => loopN (code_Next_L9 f) I b = some G ∧ Ev [] k n ∧ MS n [[]] ∧ FR k.heap.size []) (fun l => l.1) (r, s) ⟨R, R, R, trivial⟩ ⟨v, e, g, o⟩ ?_)
 rintro ⟨r, b⟩ q K ⟨p, e, g, o⟩
 rcases r with _ | r
 · exact (loopN_zero p).elim
 obtain ⟨O, a, p⟩ := bind_some p
 refine c_seq (c_sp (x_u 1 [(35, Vi b)] ?_))
 obtain ⟨x, j, a⟩ := bind_some a
 have i := code_ones_w b _ K j
 refine x_call 115 #[] #[] [Vi b] _ R R R R i ?_
 rintro t F ⟨rfl, A⟩
 clear i j
 refine inl1 ?_
 replace g := g.ev A
 replace e := e.ext A
 refine x_u 2 [(37, Vi f), (38, .bool (decide (x > f)))] (x_ek (c_nm [(1, Vi c), (2, Vi f), (8, Vi b), (38, .bool (decide (x > f)))] (fun q => ?_)))
 refine c_if (decide (x > f)) R a (fun a => ?_) (fun a => ?_)
 · refine c_skip (k_then (c_block (c_sp (x_u 7 [(39, Vi b), (40, Vi b), (41, Vi b), (42, Vi (i64.wrap (0 - b))), (43, Vi (i64.wrap ↑(BitVec.ofInt i64.bits b &&& BitVec.ofInt i64.bits (i64.wrap (0 - b))).toNat)), (44, Vi (i64.wrap (b + (i64.wrap ↑(BitVec.ofInt i64.bits b &&& BitVec.ofInt i64.bits (i64.wrap (0 - b))).toNat)))), (8, Vi (i64.wrap (b + (i64.wrap ↑(BitVec.ofInt i64.bits b &&& BitVec.ofInt i64.bits (i64.wrap (0 - b))).toNat))))] (x_ek (c_sp (x_u 2 [(45, Vi (i64.wrap (b + (i64.wrap ↑(BitVec.ofInt i64.bits b &&& BitVec.ofInt i64.bits (i64.wrap (0 - b))).toNat)))), (46, .bool (decide ((i64.wrap (b + (i64.wrap ↑(BitVec.ofInt i64.bits b &&& BitVec.ofInt i64.bits (i64.wrap (0 - b))).toNat))) ≥ 4096)))] (x_ek (c_if (decide ((i64.wrap (b + (i64.wrap ↑(BitVec.ofInt i64.bits b &&& BitVec.ofInt i64.bits (i64.wrap (0 - b))).toNat))) ≥ 4096)) R a (fun a => ?_) (fun a => ?_))))))))))
   · refine c_sp (x_u 2 [(6, Vi 0), (7, Vi 15)] (x_ek (c_ret (k_block_ret ?_))))
     obtain rfl := some_inj a
     have w := some_inj p
     subst w
     replace a := z
     refine k_then_ret (k_block_ret (k_then_ret (r_ret (r_vals [Vi 0, Vi 15] ⟨R, R, trivial⟩ ?_))))
     obtain rfl := some_inj a
     exact ⟨R, e⟩
   refine c_skip (k_block ?_)
   obtain rfl := some_inj a
   exact k_then ⟨(r, i64.wrap (b + (i64.wrap ↑(BitVec.ofInt i64.bits b &&& BitVec.ofInt i64.bits (i64.wrap (0 - b))).toNat))), ⟨R, R, R, trivial⟩, ⟨p, e, g, o⟩, Nat.lt_succ_self _⟩
 refine c_exit (k_then_exit ?_)
 obtain rfl := some_inj a
 have w := some_inj p
 subst w
 replace a := z
 refine k_then_exit (k_block_in (k_then (c_nm [(1, Vi c), (8, Vi b)] (fun q => ?_))))
 refine c_seq (c_seq (c_drawn [] [(0, false), (1, false), (2, false), (3, false), (4, false), (5, false), (6, false)] _ (by kernel_rfl) R ?_))
 replace e := e.ext (Ev.drew F)
 refine x_u 2 [(47, Vi b), (48, Vi c)] (x_binop (Vi (i64.wrap (b * 2 ^ (min (Int.toNat (c)) i64.bits)))) (Vi b) (Vi c) R R R R (vb_shl (guard_l a)) ?_)
 replace a := guard_r a
 refine x_u 1 [(50, Vi c)] ?_
 obtain ⟨m, j, a⟩ := bind_some a
 have i := code_missed_w c _ (F).drew j
 refine x_call 114 #[] #[] [Vi c] _ R R R R i ?_
 rintro t Q ⟨rfl, B⟩
 clear i j
 refine ⟨.inr B, ?_⟩
 replace e := e.ext B
 refine x_u 2 [(52, Vi (i64.wrap ↑(BitVec.ofInt i64.bits (i64.wrap (b * 2 ^ (min (Int.toNat (c)) i64.bits))) ||| BitVec.ofInt i64.bits m).toNat)), (10, Vi (i64.wrap ↑(BitVec.ofInt i64.bits (i64.wrap (b * 2 ^ (min (Int.toNat (c)) i64.bits))) ||| BitVec.ofInt i64.bits m).toNat))] (x_ek (c_sp (x_u 2 [(53, Vi (i64.wrap ↑(BitVec.ofInt i64.bits (i64.wrap (b * 2 ^ (min (Int.toNat (c)) i64.bits))) ||| BitVec.ofInt i64.bits m).toNat)), (54, .bool (decide ((i64.wrap ↑(BitVec.ofInt i64.bits (i64.wrap (b * 2 ^ (min (Int.toNat (c)) i64.bits))) ||| BitVec.ofInt i64.bits m).toNat) < 4096)))] (x_ek (c_if (decide ((i64.wrap ↑(BitVec.ofInt i64.bits (i64.wrap (b * 2 ^ (min (Int.toNat (c)) i64.bits))) ||| BitVec.ofInt i64.bits m).toNat) < 4096)) R a (fun a => ?_) (fun a => ?_))))))
 · refine c_sp (x_u 3 [(55, Vi (i64.wrap ↑(BitVec.ofInt i64.bits (i64.wrap (b * 2 ^ (min (Int.toNat (c)) i64.bits))) ||| BitVec.ofInt i64.bits m).toNat)), (6, Vi (i64.wrap ↑(BitVec.ofInt i64.bits (i64.wrap (b * 2 ^ (min (Int.toNat (c)) i64.bits))) ||| BitVec.ofInt i64.bits m).toNat)), (7, Vi 0)] (x_ek (c_ret (k_then_ret (r_ret (r_vals [Vi (i64.wrap ↑(BitVec.ofInt i64.bits (i64.wrap (b * 2 ^ (min (Int.toNat (c)) i64.bits))) ||| BitVec.ofInt i64.bits m).toNat), Vi 0] ⟨R, R, trivial⟩ ?_))))))
   obtain rfl := some_inj a
   exact ⟨R, e⟩
 refine c_skip (k_then (c_sp (x_u 2 [(6, Vi 0), (7, Vi 15)] (x_ek (c_ret (r_ret (r_vals [Vi 0, Vi 15] ⟨R, R, trivial⟩ ?_)))))))
 obtain rfl := some_inj a
 exact ⟨R, e⟩
def code_Steps_L4 (c : Int × Int) : Option (Step (Int × Int) Int) :=
match c with
| (a, b) =>
(if (decide (a > 0)) = true then
some (.next (Int.fdiv a (2 ^ (min (Int.toNat (1)) i64.bits)), i64.wrap (b + 1)))
else
some (.done b))
def code_Steps (a : Int) : Option (Int × Int) :=
((code_in a 0 4095).bind fun d =>
(if (!d) = true then
some (0, 2)
else
((loop code_Steps_L4 (a, 0)).bind fun b => match b with
| c => some (c, 0))))
theorem code_Steps_w (f : Int) (n : Int × Int) (d : World) (a : code_Steps f = some n) : CallVC Tryz.prog 81 [Vi f] d fun t k => t = .tuple #[Vi n.1, Vi n.2] ∧ Ev [] d k := by
 refine calls_vc hmx Tryz.func81 (by kernel_rfl) R (rs := [.tmp 2, .tmp 3]) R (by kernel_rfl) (args := [Vi f]) R ?_
 have e : Ev [] d d := Ev.refl _ _
 have g : MS d [[]] := ⟨List.pairwise_singleton _ _, fun B r A x => by simp only [List.mem_singleton] at r; subst r; cases x⟩
 have m : FR d.heap.size [] := FR.nil _
 refine c_sp (x_u 2 [(2, Vi 0), (3, Vi 0)] (x_ek (c_seq (c_sp (x_u 1 [(5, Vi f)] ?_)))))
 obtain ⟨u, s, a⟩ := bind_some a
 have p := code_in_w f 0 4095 _ d s
 refine x_call 112 #[] #[] [Vi f, Vi 0, Vi 4095] _ R R R R p ?_
 rintro t D ⟨rfl, q⟩
 clear p s
 refine inl1 ?_
 replace g := g.ev q
 replace e := e.ext q
 refine x_u 1 [(7, .bool (!u))] (x_ek (c_if (!u) R a (fun a => ?_) (fun a => ?_)))
 · refine c_sp (x_u 2 [(2, Vi 0), (3, Vi 2)] (x_ek (c_ret (k_then_ret (r_ret (r_vals [Vi 0, Vi 2] ⟨R, R, trivial⟩ ?_))))))
   obtain rfl := some_inj a
   exact ⟨R, e⟩
 refine c_skip (k_then (c_sp (x_u 1 [(4, Vi 0)] (x_ek (c_seq (c_block ?_))))))
 obtain ⟨v, l, w⟩ := bind_some a
 obtain ⟨i, l⟩ := loop_some l
 refine c_loop (loop_rule hmx (σ := Nat × Int × Int) (fun j => match j with | (_, b, c) => [(0, Vi b), (4, Vi c)]) (fun j k => match j with | (z, b, c) => loopN code_Steps_L4 z (b, c) = some v ∧ Ev [] d k ∧ MS k [[]] ∧ FR d.heap.size []) (fun j => j.1) (i, f, 0) ⟨R, R, trivial⟩ ⟨l, e, g, m⟩ ?_)
 rintro ⟨i, b, c⟩ o E ⟨h, e, g, m⟩
 rcases i with _ | i
 · exact (loopN_zero h).elim
 obtain ⟨C, a, h⟩ := bind_some h
 refine c_seq (c_sp (x_u 2 [(8, Vi b), (9, .bool (decide (b > 0)))] (x_ek (c_nm [(0, Vi b), (4, Vi c), (9, .bool (decide (b > 0)))] (fun o => ?_)))))
 refine c_if (decide (b > 0)) R a (fun a => ?_) (fun a => ?_)
 · refine c_skip (k_then (c_seq (c_block (c_plain (x_u 3 [(12, Vi c), (13, Vi (i64.wrap (c + 1))), (4, Vi (i64.wrap (c + 1)))] (x_end R (k_block (k_then (c_plain ?_)))))))))
   refine x_u 3 [(10, Vi b), (11, Vi (Int.fdiv b (2 ^ (min (Int.toNat (1)) i64.bits)))), (0, Vi (Int.fdiv b (2 ^ (min (Int.toNat (1)) i64.bits))))] (x_end R ?_)
   obtain rfl := some_inj a
   exact k_then ⟨(i, Int.fdiv b (2 ^ (min (Int.toNat (1)) i64.bits)), i64.wrap (c + 1)), ⟨R, R, trivial⟩, ⟨h, e, g, m⟩, Nat.lt_succ_self _⟩
 refine c_exit (k_then_exit ?_)
 obtain rfl := some_inj a
 have y := some_inj h
 subst y
 replace a := w
 refine k_then_exit (k_block_in (k_then (c_nm [(4, Vi c)] (fun o => ?_))))
 refine c_sp (x_u 3 [(14, Vi c), (2, Vi c), (3, Vi 0)] (x_ek (c_ret (r_ret (r_vals [Vi c, Vi 0] ⟨R, R, trivial⟩ ?_)))))
 obtain rfl := some_inj a
 exact ⟨R, e⟩
def code_Is (b : Int) (a : Int) (c : Int) : Option Bool :=
((code_form a c).bind fun d =>
(if d = true then
((code_in b 0 4095).bind fun e =>
(if e = true then
((code_missed a).bind fun f =>
((code_missed a).bind fun g =>
(if ((i64.wrap ↑(BitVec.ofInt i64.bits b &&& BitVec.ofInt i64.bits f).toNat) == g) = true then
(if 0 ≤ a then
((code_ones (Int.fdiv b (2 ^ (min (Int.toNat (a)) i64.bits)))).bind fun h =>
some (decide (h ≤ c)))
else none)
else
some false)))
else
some false))
else
some false))
theorem code_Is_w (b : Int) (c : Int) (g : Int) (p : Bool) (i : World) (a : code_Is b c g = some p) : CallVC Tryz.prog 85 [Vi b, Vi c, Vi g] i fun h x => h = .bool p ∧ Ev [] i x := by
 refine calls_vc hmx Tryz.func85 (by kernel_rfl) R (rs := [.tmp 6]) R (by kernel_rfl) (args := [Vi b, Vi c, Vi g]) R ?_
 have e : Ev [] i i := Ev.refl _ _
 have D : MS i [[]] := ⟨List.pairwise_singleton _ _, fun E o C r => by simp only [List.mem_singleton] at o; subst o; cases r⟩
 refine c_sp (x_u 1 [(6, .bool false)] (x_ek (c_sp (x_u 2 [(7, Vi c), (8, Vi g)] ?_))))
 obtain ⟨q, f, a⟩ := bind_some a
 have d := code_form_w c g _ i f
 refine x_call 113 #[] #[] [Vi c, Vi g] _ R R R R d ?_
 rintro h y ⟨rfl, t⟩
 clear d f
 refine inl1 ?_
 replace e := e.ext t
 refine x_u 1 [(10, .bool q)] (x_if 10 q R a (fun a => ?_) (fun a => ?_))
 · refine x_u 1 [(11, Vi b)] ?_
   obtain ⟨n, f, a⟩ := bind_some a
   have d := code_in_w b 0 4095 _ y f
   refine x_call 112 #[] #[] [Vi b, Vi 0, Vi 4095] _ R R R R d ?_
   rintro h z ⟨rfl, u⟩
   clear d f
   refine inl1 ?_
   replace e := e.ext u
   refine x_u 2 [(13, .bool n), (14, .bool n)] (x_if 14 n R a (fun a => ?_) (fun a => ?_))
   · refine x_u 2 [(15, Vi b), (16, Vi c)] ?_
     obtain ⟨j, f, a⟩ := bind_some a
     have d := code_missed_w c _ z f
     refine x_call 114 #[] #[] [Vi c] _ R R R R d ?_
     rintro h A ⟨rfl, v⟩
     clear d f
     refine inl1 ?_
     replace e := e.ext v
     refine x_u 2 [(18, Vi (i64.wrap ↑(BitVec.ofInt i64.bits b &&& BitVec.ofInt i64.bits j).toNat)), (19, Vi c)] ?_
     obtain ⟨l, f, a⟩ := bind_some a
     have d := code_missed_w c _ A f
     refine x_call 114 #[] #[] [Vi c] _ R R R R d ?_
     rintro h B ⟨rfl, w⟩
     clear d f
     refine inl1 ?_
     replace e := e.ext w
     refine x_u 3 [(21, .bool ((i64.wrap ↑(BitVec.ofInt i64.bits b &&& BitVec.ofInt i64.bits j).toNat) == l)), (22, .bool ((i64.wrap ↑(BitVec.ofInt i64.bits b &&& BitVec.ofInt i64.bits j).toNat) == l)), (23, .bool ((i64.wrap ↑(BitVec.ofInt i64.bits b &&& BitVec.ofInt i64.bits j).toNat) == l))] (x_if 23 ((i64.wrap ↑(BitVec.ofInt i64.bits b &&& BitVec.ofInt i64.bits j).toNat) == l) R a (fun a => ?_) (fun a => ?_))
     · refine x_u 2 [(24, Vi b), (25, Vi c)] (x_binop (Vi (Int.fdiv b (2 ^ (min (Int.toNat (c)) i64.bits)))) (Vi b) (Vi c) R R R R (vb_shr (guard_l a)) ?_)
       replace a := guard_r a
       obtain ⟨k, f, a⟩ := bind_some a
       have d := code_ones_w (Int.fdiv b (2 ^ (min (Int.toNat (c)) i64.bits))) _ B f
       refine x_call 115 #[] #[] [Vi (Int.fdiv b (2 ^ (min (Int.toNat (c)) i64.bits)))] _ R R R R d ?_
       rintro h F ⟨rfl, s⟩
       clear d f
       refine inl1 ?_
       replace e := e.ext s
       refine x_u 4 [(28, Vi g), (29, .bool (decide (k ≤ g))), (30, .bool (decide (k ≤ g))), (6, .bool (decide (k ≤ g)))] (x_ek (c_nm [(6, .bool (decide (k ≤ g)))] (fun m => ?_)))
       refine c_ret (r_ret (r_vals [.bool (decide (k ≤ g))] ⟨R, trivial⟩ ?_))
       obtain rfl := some_inj a
       exact ⟨R, e⟩
     refine x_u 8 [(24, undef), (25, undef), (26, undef), (27, undef), (28, undef), (29, undef), (30, .bool false), (6, .bool false)] (x_ek (c_nm [(6, .bool false)] (fun m => ?_)))
     refine c_ret (r_ret (r_vals [.bool false] ⟨R, trivial⟩ ?_))
     obtain rfl := some_inj a
     exact ⟨R, e⟩
   refine x_u 17 [(15, undef), (16, undef), (17, undef), (18, undef), (19, undef), (20, undef), (21, undef), (22, .bool false), (23, .bool false), (24, undef), (25, undef), (26, undef), (27, undef), (28, undef), (29, undef), (30, .bool false), (6, .bool false)] (x_ek (c_nm [(6, .bool false)] (fun m => ?_)))
   refine c_ret (r_ret (r_vals [.bool false] ⟨R, trivial⟩ ?_))
   obtain rfl := some_inj a
   exact ⟨R, e⟩
 refine x_u 21 [(11, undef), (12, undef), (13, .bool false), (14, .bool false), (15, undef), (16, undef), (17, undef), (18, undef), (19, undef), (20, undef), (21, undef), (22, .bool false), (23, .bool false), (24, undef), (25, undef), (26, undef), (27, undef), (28, undef), (29, undef), (30, .bool false), (6, .bool false)] (x_ek (c_nm [(6, .bool false)] (fun m => ?_)))
 refine c_ret (r_ret (r_vals [.bool false] ⟨R, trivial⟩ ?_))
 obtain rfl := some_inj a
 exact ⟨R, e⟩
end Go.Proofs.YtlejnkhaphlooaaGreat
