
/- Memory laws for exchanges of elements, whole elements that are written, and slices that are compared with nil. Conditions: those of each theorem. -/
import Derived.Test.YtfhkfjankgikcaaGreatH
set_option linter.unusedSimpArgs false
set_option linter.unusedVariables false
namespace Go.V
open Go
universe u
theorem R {α : Sort u} {a : α} : a = a := rfl
abbrev Vl {α : Type} (a : Option Addr) (d : List α) (c : Nat) : Value := .slice a d.length c
theorem c_if {α : Type} {P : Program} {Q : Exit → Fr → World → Prop} {t : Tmp} {x y : Code} {fr : Fr} {w : World} {A B : Option α} {r : α} (b : Bool) (hb : fr t = .bool b) (h : (if b = true then A else B) = some r)
    (ht : A = some r → vcC P x Q (put fr t (.bool true)) w) (hf : B = some r → vcC P y Q (put fr t (.bool false)) w) : vcC P (.cond (.tmp t) x y) Q fr w := c_cond b hb (fun e => ht (ite_t e h)) (fun e => hf (ite_f e h))
theorem x_if {α : Type} {P : Program} {all : List Oper} {M : List Nat} {Q : Fr → World → Prop} {l : List (Oper × Bool)} {fr : Fr} {w : World} {A B : Option α} {r : α} (d : Nat) (b : Bool) (hb : fr d = .bool b) (h : (if b = true then A else B) = some r)
    (ht : A = some r → vcX P all M Q l (put fr d (.bool true)) w) (hf : B = some r → vcX P all M Q l (put fr d (.bool false)) w) : vcX P all M Q l fr w := x_split d b hb (fun e => ht (ite_t e h)) (fun e => hf (ite_f e h))
theorem x_u {P : Program} {all : List Oper} {M : List Nat} {Q : Fr → World → Prop} {l : List (Oper × Bool)} {fr : Fr} {w : World} (k : Nat) (asg : List (Nat × Value)) (hq : vcX P all M Q (l.drop k) (putL asg fr) w) (h : runP all k l fr = some asg := by kernel_rfl) : vcX P all M Q l fr w := x_pure k asg l fr w h hq
theorem own_storeE {P : Program} {M : List Nat} {α : Type} {e : Enc α} {te T : Nat} {w : World} {g : Nat} {a : Option Addr} {c : Nat} {xs : List α} {i : Int} {x y : α} (ha : a = some ⟨g, 0, none⟩) (o : Nat) (v : Value) (ht : IsCell P te) (h : OwnS e T w M a c xs) (hsub : ∀ b ∈ blk a, b ∈ M) (hx : idx xs i = some x)
    (h1 : v.oneCell' = true) (ho : Nat.blt o e.n = true) (hy : ∀ w M cs, e.R w M cs x → e.R w M (cs.set o v) y) :
    ∃ w', (Instr.storeAt te (.pointer (some ⟨g, i.toNat * e.n + o, none⟩)) v).run P w = .ok () w' ∧ Ev (blk a) w w' ∧ OwnS e T w' M a c (xs.set i.toNat y) := by
  subst ha
  exact own_store o v ht h (hsub g (by simp [blk])) hx h1 ho hy
theorem vb_slnil {P : Program} {t el : TypeId} {xo yo : Operand} (ht : P.underlying t = some (.slice el)) (a : Option Addr) (l c : Nat) : ∀ K : Value → Prop, K (.bool a.isNone) → vcBin P .eql t xo yo (.slice a l c) (.slice none 0 0) K := by
  intro K hK
  refine ⟨_, fun w => ?_, hK⟩
  show Sem.run P (binOp .eql t (.slice a l c) (.slice none 0 0)) w = _
  show Sem.run P (do pure (.bool (← Op.equal t (.slice a l c) (.slice none 0 0))) : Sem Value) w = _
  have h : (Op.equal t (.slice a l c) (.slice none 0 0)).run P w = .ok a.isNone w := by
    unfold Op.equal Op.maxDepth Op.equalIn
    rw [run_bind, run_underlying ht]
    cases a <;> rfl
  rw [run_bind, h]
  rfl
theorem SlR.nil_of {α : Type} {e : Enc α} {w : World} {M : List Nat} {a : Option Addr} {c : Nat} {xs : List α} (h : SlR e w M a c xs) (ha : a.isNone = true) : xs = [] := h.nil (by cases a <;> first | rfl | cases ha)
theorem fl1 {L : List (List Nat)} : ∀ x ∈ fl ([] ++ [fl L]), x ∈ fl L := fl_unfold (P := [])
theorem sub_fold {ls : List (List Nat)} (l : List (Option Nat)) (r : List (List Nat)) (hp : picks ls l = some r) : ∀ x ∈ fl ([] ++ [fl r]), x ∈ fl ls := fun x hx => pick_sub l r hp x (fl1 x hx)
theorem pick_outf {w : World} {ls : List (List Nat)} (h : MS w ls) (i : Nat) {A : List Nat} (hi : ls[i]? = some A) (l : List (Option Nat)) (r : List (List Nat)) (hp : picks ls l = some r)
    (hni : l.all (fun o => match o with | none => true | some j => !(Nat.beq i j)) = true) : ∀ x ∈ A, x ∉ fl ([] ++ [fl r]) := fun x hx h2 => pick_out h i hi l r hp hni x hx (fl1 x h2)
theorem Stp.call0 {w w' : World} (LS res N : List (List Nat)) (he : Ev [] w w') (hfn : FR w.heap.size res) (e : N = res ++ LS) : Stp (fl LS) w (fl N) w' := by
  subst e
  exact Stp.call (LS := LS) (res := res) (par := []) (R := LS) he (fun _ h => by cases h) hfn (NP.nil _ _) (fun _ h => h)
theorem MS.call0 {w w' : World} {LS : List (List Nat)} {M : List Nat} (res N : List (List Nat)) (h : MS w LS) (he : Ev [] w w') (h2 : MS w' (res ++ [M])) (hfn : FR w.heap.size res) (e : N = res ++ LS) : MS w' N := by
  subst e
  exact MS.call (P := []) (R := LS) (res := res) (par := []) h he h2 hfn (NP.nil _ _)
theorem FR.call0 {n : Nat} {w : World} {res fs : List (List Nat)} (N : List (List Nat)) (hs : n ≤ w.heap.size) (h1 : FR w.heap.size res) (h2 : FR n fs) (e : N = res ++ fs) : FR n N := by
  subst e
  intro l hl b hb
  rcases List.mem_append.1 hl with h | h
  · exact Nat.le_trans hs (h1 l h b hb)
  · exact h2 l h b hb
theorem agree_map : ∀ (l : List (Nat × Value)) (fr : Fr), l.map (fun p => fr p.1) = l.map (fun p => p.2) → agree l fr
  | [], _, _ => trivial
  | _ :: l, fr, h => ⟨(List.cons.inj h).1, agree_map l fr (List.cons.inj h).2⟩
theorem c_nm {P : Program} {Q : Exit → Fr → World → Prop} {c : Code} {fr : Fr} {w : World} (live : List (Nat × Value)) (h : ∀ J, vcC P c Q (ofL live J) w) (ha : live.map (fun p => fr p.1) = live.map (fun p => p.2) := by kernel_rfl) : vcC P c Q fr w := c_norm live (agree_map live fr ha) h
theorem MS.pk {w : World} {ls : List (List Nat)} (h : MS w ls) (l : List Nat) (r : List (List Nat)) (hp : (distinct (l.map some), picks ls (l.map some)) = (true, some r)) : MS w r := h.pick (l.map some) r hp
theorem Pk {ls : List (List Nat)} (l : List Nat) (r : List (List Nat)) (hp : picks ls (l.map some) = some r) : ∀ x ∈ fl r, x ∈ fl ls := pick_sub (l.map some) r hp
theorem FR.pk {C : Nat} {ls : List (List Nat)} (h : FR C ls) (l : List Nat) (r : List (List Nat)) (hp : picks ls (l.map some) = some r) : FR C r := h.pick (l.map some) r hp
theorem NP.pk {Mp : List Nat} {N : Nat} {ls : List (List Nat)} (h : NP Mp N ls) (l : List Nat) (r : List (List Nat)) (hp : picks ls (l.map some) = some r) : NP Mp N r := h.pick (l.map some) r hp
theorem Fk {ls : List (List Nat)} (l : List Nat) (r : List (List Nat)) (hp : picks ls (l.map some) = some r) : ∀ x ∈ fl ([] ++ [fl r]), x ∈ fl ls := sub_fold (l.map some) r hp
theorem Po {w : World} {ls : List (List Nat)} (h : MS w ls) (i : Nat) {A : List Nat} (hi : ls[i]? = some A) (l : List Nat) (r : List (List Nat)) (hp : picks ls (l.map some) = some r)
    (hni : (l.map some).all (fun o => match o with | none => true | some j => !(Nat.beq i j)) = true) : ∀ x ∈ A, x ∉ fl ([] ++ [fl r]) := pick_outf h i hi (l.map some) r hp hni
section
variable {P : Program} {all : List Oper} {M : List Nat} {Q : Fr → World → Prop} {dst : Option Tmp} {ty : TypeId} {pos : String} {after : Array Edge} {guard : Option (Nat × Bool)} {al : Bool} {l l' : List (Oper × Bool)} {fr : Fr} {w : World} {t : TypeId}
theorem Yl {x : Operand} (xv v : Value) (h1 : (l', wantedB all ⟨dst, .load t x, ty, pos, after, guard⟩ fr, ev fr x) = ((⟨dst, .load t x, ty, pos, after, guard⟩, al) :: l, some true, xv))
    (hr : Reads P (qm al M) (Instr.loadAt t xv) w v) (h : vcX P all M Q l (puto fr dst v) w) : vcX P all M Q l' fr w := x_load v (congrArg Prod.fst h1) (congrArg (fun p => p.2.1) h1) (congrArg (fun p => p.2.2) h1) hr h
theorem Yf {x : Operand} {i : Nat} (xv v : Value) (h1 : (l', wantedB all ⟨dst, .fieldAddr t x i, ty, pos, after, guard⟩ fr, ev fr x) = ((⟨dst, .fieldAddr t x i, ty, pos, after, guard⟩, al) :: l, some true, xv))
    (hr : Reads P (qm al M) (Instr.fieldAt t xv i) w v) (h : vcX P all M Q l (puto fr dst v) w) : vcX P all M Q l' fr w := x_fieldAddr v (congrArg Prod.fst h1) (congrArg (fun p => p.2.1) h1) (congrArg (fun p => p.2.2) h1) hr h
theorem Yi {x y : Operand} (xv yv v : Value) (h1 : (l', wantedB all ⟨dst, .indexAddr t x y, ty, pos, after, guard⟩ fr, ev fr x, ev fr y) = ((⟨dst, .indexAddr t x y, ty, pos, after, guard⟩, al) :: l, some true, xv, yv))
    (hr : Reads P (qm al M) (Instr.indexAt t xv yv) w v) (h : vcX P all M Q l (puto fr dst v) w) : vcX P all M Q l' fr w := x_indexAddr v (congrArg Prod.fst h1) (congrArg (fun p => p.2.1) h1) (congrArg (fun p => p.2.2.1) h1) (congrArg (fun p => p.2.2.2) h1) hr h
theorem Ys {x y : Operand} (w' : World) (xv yv : Value) (h1 : (l', wantedB all ⟨dst, .store t x y, ty, pos, after, guard⟩ fr, ev fr x, ev fr y) = ((⟨dst, .store t x y, ty, pos, after, guard⟩, al) :: l, some true, xv, yv)) (hr : (Instr.storeAt t xv yv).run P w = .ok () w')
    (h : (al = true ∨ Ev M w w') ∧ vcX P all M Q l (puto fr dst undef) w') : vcX P all M Q l' fr w := x_store w' (congrArg Prod.fst h1) (congrArg (fun p => p.2.1) h1) (congrArg (fun p => p.2.2.1) h1) (congrArg (fun p => p.2.2.2) h1) hr h
theorem Yb {x : Operand} (xv : Value) (h1 : (l', wantedB all ⟨dst, .box t x, ty, pos, after, guard⟩ fr, ev fr x) = ((⟨dst, .box t x, ty, pos, after, guard⟩, al) :: l, some true, xv))
    (h : ∀ b w', b = w.heap.size → w'.heap[b]? = some (.cells xv.cells t (0, 0)) → Ev [] w w' → w'.heap.size = b + 1 → (al = true ∨ Ev M w w') ∧ vcX P all M Q l (puto fr dst (.pointer (some ⟨b, 0, none⟩))) w') : vcX P all M Q l' fr w := x_box (congrArg Prod.fst h1) (congrArg (fun p => p.2.1) h1) (congrArg (fun p => p.2.2) h1) h
theorem Yg {x x2 : Operand} {d2 : Option Tmp} {ty2 : TypeId} {pos2 : String} {after2 : Array Edge} {guard2 : Option (Nat × Bool)} {al2 : Bool} {l1 : List (Oper × Bool)} {t2 T : TypeId} {f : Nat} {cs : Array Value} {fz : Nat × Nat} (b j i : Nat) (v : Value)
    (h1 : (l', wantedB all ⟨dst, .fieldAddr t x f, ty, pos, after, guard⟩ fr, ev fr x) = ((⟨dst, .fieldAddr t x f, ty, pos, after, guard⟩, al) :: l1, some true, Vp b j))
    (h2 : (l1, wantedB all ⟨d2, .load t2 x2, ty2, pos2, after2, guard2⟩ (puto fr dst (Vp b i)), ev (puto fr dst (Vp b i)) x2) = ((⟨d2, .load t2 x2, ty2, pos2, after2, guard2⟩, al2) :: l, some true, Vp b i))
    (hf : Reads P (qm al M) (Instr.fieldAt t (Vp b j) f) w (Vp b i)) (tc : IsCell P t2) (hb : w.heap[b]? = some (.cells cs T fz)) (hm : b ∉ qm al2 M) (hv : cs[i]? = some v) (h : vcX P all M Q l (puto (puto fr dst (Vp b i)) d2 v) w) : vcX P all M Q l' fr w :=
  Yf (Vp b j) (Vp b i) h1 hf (Yl (Vp b i) v h2 (reads_box tc hb hm i v hv) h)
end
abbrev Z0 : Value := .slice none 0 0
abbrev eI : Enc Int := eInt .i64
theorem Sa {P : Program} {t T : TypeId} {w : World} {b : Nat} {cs : Array Value} (vs : List Value) (ht : IsAgg P t vs.length) (h : w.heap[b]? = some (.cells cs T (0, 0))) (hk : Nat.ble (0 + vs.length) cs.size = true) (h1 : vs.all (fun v => v.oneCell') = true)
    (hcs : (cs.toList.take 0 ++ vs ++ cs.toList.drop (0 + vs.length)).toArray = vs.toArray) :
    ∃ w', (Instr.storeAt t (.pointer (some ⟨b, 0, none⟩)) (.agg vs.toArray)).run P w = .ok () w' ∧ w'.heap[b]? = some (.cells vs.toArray T (0, 0)) ∧ Ev [b] w w' := store_boxagg 0 vs vs.toArray ht h hk h1 hcs
abbrev Sj := @some_inj
abbrev Bs := @bind_some
abbrev Kr := @k_then_ret
abbrev Ke := @k_then_exit
abbrev Kt := @k_then
abbrev Kb := @k_block_ret
abbrev Ki := @k_block_in
abbrev Kl := @k_block
abbrev Rf := @reads_field
abbrev Xk := @x_ek
abbrev Pi := @plain_int
abbrev Cs := @c_sp
abbrev Xu := @x_u
abbrev Rb := @reads_box
abbrev Ra := @reads_boxagg
abbrev Rv := @r_vals
abbrev Cq := @c_seq
abbrev Ck := @c_skip
abbrev Ri := @reads_index
abbrev Cp := @c_plain
abbrev Cb := @c_block
abbrev Rc := @reads_cell0
abbrev Cr := @c_ret
abbrev Rr := @r_ret
abbrev I1 := @inl1
abbrev Sb := @store_boxagg
abbrev Rl := @reads_len
abbrev Cn := @c_nm
abbrev Mf := @mem_flat
abbrev Xe := @x_end
abbrev Lz := @loopN_zero
abbrev Xc := @x_call
abbrev Lo := @loop_some
abbrev Lr := @loop_rule
abbrev Cv := @calls_vc
abbrev Ci := @c_if
abbrev Gl := @guard_l
abbrev Gr := @guard_r
abbrev Lv := @loadVar_of_reads
abbrev Ce := @c_exit
abbrev Oi := @own_index
abbrev Xn := @x_len
abbrev Cl := @c_loop
abbrev Pp := @plain_prod
abbrev Xb := @x_buildSlice
abbrev Xa := @x_alloc
abbrev Fu := @fl_unfold
abbrev Xd := @x_build
abbrev Cd := @c_drawn
abbrev Xw := @x_if
theorem T0 : True := True.intro
abbrev Bk := @blk
abbrev U0 := @undef
abbrev Ns := @Nat.lt_succ_self
abbrev Px (g k : Nat) : Value := .pointer (some ⟨g, k, none⟩)
abbrev Bd (p : Prop) [Decidable p] : Value := .bool (decide p)
end Go.V
