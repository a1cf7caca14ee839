
/- Memory laws for exchanges of elements, whole elements that are written, and slices that are compared with nil. Conditions: those of each theorem. -/
import Derived.Test.YtlgdhajakblkaaaGreatDoorH
set_option linter.unusedSimpArgs false
set_option linter.unusedVariables false
namespace Go.V
open Go
universe u
theorem R {α : Sort u} {a : α} : a = a := rfl
abbrev Vl {α : Type} (a : Option Addr) (d : List α) (c : Nat) : Value := .slice a d.length c
theorem c_if {α : Type} {P : Program} {Q : Exit → Fr → World → Prop} {t : Tmp} {x y : Code} {fr : Fr} {w : World} {A B : Option α} {r : α} (b : Bool) (hb : fr t = .bool b) (h : (if b = true then A else B) = some r)
    (ht : A = some r → vcC P x Q (put fr t (.bool true)) w) (hf : B = some r → vcC P y Q (put fr t (.bool false)) w) : vcC P (.cond (.tmp t) x y) Q fr w := c_cond b hb (fun e => ht (ite_t e h)) (fun e => hf (ite_f e h))
theorem x_if {α : Type} {P : Program} {all : List Oper} {M : List Nat} {Q : Fr → World → Prop} {l : List (Oper × Bool)} {fr : Fr} {w : World} {A B : Option α} {r : α} (d : Nat) (b : Bool) (hb : fr d = .bool b) (h : (if b = true then A else B) = some r)
    (ht : A = some r → vcX P all M Q l (put fr d (.bool true)) w) (hf : B = some r → vcX P all M Q l (put fr d (.bool false)) w) : vcX P all M Q l fr w := x_split d b hb (fun e => ht (ite_t e h)) (fun e => hf (ite_f e h))
theorem x_u {P : Program} {all : List Oper} {M : List Nat} {Q : Fr → World → Prop} {l : List (Oper × Bool)} {fr : Fr} {w : World} (k : Nat) (asg : List (Nat × Value)) (hq : vcX P all M Q (l.drop k) (putL asg fr) w) (h : runP all k l fr = some asg := by kernel_rfl) : vcX P all M Q l fr w := x_pure k asg l fr w h hq
theorem idx_set_any {α : Type} {xs : List α} {i : Int} {x : α} (h : idx xs i = some x) (j : Nat) (z : α) : ∃ y, idx (xs.set j z) i = some y := by
  obtain ⟨h0, h1, h2⟩ := idx_some h
  unfold idx
  rw [if_pos h0]
  exact ⟨_, List.getElem?_eq_getElem (by rw [List.length_set]; omega)⟩
theorem own_storeE {P : Program} {M : List Nat} {α : Type} {e : Enc α} {te T : Nat} {w : World} {g : Nat} {a : Option Addr} {c : Nat} {xs : List α} {i : Int} {x y : α} (ha : a = some ⟨g, 0, none⟩) (o : Nat) (v : Value) (ht : IsCell P te) (h : OwnS e T w M a c xs) (hsub : ∀ b ∈ blk a, b ∈ M) (hx : idx xs i = some x)
    (h1 : v.oneCell' = true) (ho : Nat.blt o e.n = true) (hy : ∀ w M cs, e.R w M cs x → e.R w M (cs.set o v) y) :
    ∃ w', (Instr.storeAt te (.pointer (some ⟨g, i.toNat * e.n + o, none⟩)) v).run P w = .ok () w' ∧ Ev (blk a) w w' ∧ OwnS e T w' M a c (xs.set i.toNat y) := by
  subst ha
  exact own_store o v ht h (hsub g (by simp [blk])) hx h1 ho hy
def eqF (d : Nat) (xs ys : Array Value) : List Field → Sem Bool
  | [] => pure true
  | f :: fs => if f.name ≠ "_" then do
      let a ← part f.type xs f.offset
      let b ← part f.type ys f.offset
      let c ← Op.equalIn d f.type a b
      if !c then pure false else eqF d xs ys fs
    else eqF d xs ys fs
theorem run_equal_struct {P : Program} {t : TypeId} {fs : Array Field} (ht : P.underlying t = some (.struct fs)) (hs : P.stoodInHeld t = false) (d : Nat) (xs ys : Array Value) (w : World) :
    (Op.equalIn (d + 1) t (.agg xs) (.agg ys)).run P w = (eqF d xs ys fs.toList).run P w := by
  simp only [Op.equalIn, Sem.run_bind, run_underlying ht, Result.andThen_ok]
  rw [← Array.forIn_toList]
  have e : ∀ w : World, (program).run P w = .ok P w := fun _ => rfl
  simp only [e, Result.andThen_ok, hs, Bool.false_eq_true, if_false, Sem.run_bind]
  generalize fs.toList = L
  induction L generalizing w with
  | nil => simp [eqF]
  | cons f L ih =>
    simp only [List.forIn_cons, eqF]
    by_cases hn : f.name ≠ "_"
    · simp only [if_pos hn, Sem.run_bind]
      generalize (part f.type xs f.offset).run P w = r1
      cases r1 with
      | ok a w1 =>
        simp only [Result.andThen_ok]
        generalize (part f.type ys f.offset).run P w1 = r2
        cases r2 with
        | ok b w2 =>
          simp only [Result.andThen_ok]
          generalize (Op.equalIn d f.type a b).run P w2 = r3
          cases r3 with
          | ok c w3 =>
            simp only [Result.andThen_ok]
            cases c with
            | false => rfl
            | true =>
              simp only [Bool.not_true, Bool.false_eq_true, if_false, Sem.run_pure, Result.andThen_ok]
              exact ih w3
          | _ => rfl
        | _ => rfl
      | _ => rfl
    · simp only [if_neg hn, Sem.run_pure, Result.andThen_ok, Sem.run_bind]
      exact ih w
theorem eqF_cell {P : Program} {d : Nat} {xs ys : Array Value} {f : Field} {fs : List Field} {w : World} {x y : Value} {b r : Bool} (hn : (f.name != "_") = true) (ha : ∀ w, (isAgg f.type).run P w = .ok false w) (hx : xs[f.offset]? = some x) (hy : ys[f.offset]? = some y)
    (h1 : ∀ w, (Op.equalIn d f.type x y).run P w = .ok b w) (h2 : (eqF d xs ys fs).run P w = .ok r w) : (eqF d xs ys (f :: fs)).run P w = .ok (b && r) w := by
  have hn' : f.name ≠ "_" := by simpa using hn
  have p1 : ∀ w, (part f.type xs f.offset).run P w = .ok x w := fun w => by unfold part; simp only [Sem.run_bind, ha, Result.andThen_ok, Bool.false_eq_true, if_false, hx, Sem.run_pure]
  have p2 : ∀ w, (part f.type ys f.offset).run P w = .ok y w := fun w => by unfold part; simp only [Sem.run_bind, ha, Result.andThen_ok, Bool.false_eq_true, if_false, hy, Sem.run_pure]
  simp only [eqF, if_pos hn', Sem.run_bind, p1, p2, h1, Result.andThen_ok]
  cases b with
  | false => rfl
  | true => simp only [Bool.not_true, Bool.false_eq_true, if_false, h2, Bool.true_and]
theorem eqF_nil {P : Program} {d : Nat} {xs ys : Array Value} {w : World} : (eqF d xs ys []).run P w = .ok true w := rfl
theorem eq_int {P : Program} {d : Nat} {t : TypeId} {k : IntKind} (ht : P.underlying t = some (.int k)) (a b : Int) (w : World) : (Op.equalIn (d + 1) t (.int k a) (.int k b)).run P w = .ok (a == b) w := by
  simp only [Op.equalIn, Sem.run_bind, run_underlying ht, Result.andThen_ok, if_true, Sem.run_pure]
theorem eq_str {P : Program} {d : Nat} {t : TypeId} (ht : P.underlying t = some .string) (a b : List UInt8) (w : World) : (Op.equalIn (d + 1) t (.string ⟨⟨a⟩⟩) (.string ⟨⟨b⟩⟩)).run P w = .ok (a == b) w := by
  simp only [Op.equalIn, Sem.run_bind, run_underlying ht, Result.andThen_ok, Sem.run_pure]
  congr 1
  show ((⟨a⟩ : Array UInt8) == ⟨b⟩) = (a == b)
  simp
theorem bin_aggeq {P : Program} {t : TypeId} {xo yo : Operand} {fs : Array Field} (ht : P.underlying t = some (.struct fs)) (hs : P.stoodInHeld t = false) (hg : P.eqGuardType P.depth t = false) {xs ys : Array Value} {b : Bool} (he : ∀ w, (eqF 9999 xs ys fs.toList).run P w = .ok b w) :
    ∀ K : Value → Prop, K (.bool b) → vcBin P .eql t xo yo (.agg xs) (.agg ys) K := by
  intro K hK
  refine ⟨_, fun w => ?_, hK⟩
  have h1 : (eqGuard .eql t xo yo (.agg xs) (.agg ys)).run P w = .ok () w := by
    unfold eqGuard
    simp only [Sem.run_bind]
    show Sem.run P (if (!P.eqGuardType P.depth t) = true then _ else _) w = _
    rw [hg]
    rfl
  rw [run_bind, h1]
  show Sem.run P (do pure (.bool (← Op.equal t (.agg xs) (.agg ys))) : Sem Value) w = _
  have h2 : (Op.equal t (.agg xs) (.agg ys)).run P w = .ok b w := by
    show (Op.equalIn (9999 + 1) t (.agg xs) (.agg ys)).run P w = _
    rw [run_equal_struct ht hs]
    exact he w
  rw [run_bind, h2]
  rfl
theorem reads_aindex {P : Program} {Mo : List Nat} {t el n : Nat} {w : World} (ht : P.underlying t = some (.array n el)) (hc : IsCell P el) {xs : List Int} {i x : Int} {cs : Array Value} (hcs : cs = (xs.map (Value.int .i64)).toArray) (hn : xs.length = n) (hx : idx xs i = some x) :
    Reads P Mo (Instr.index t (.agg cs) (.int .i64 i)) w (.int .i64 x) := by
  intro w' _
  subst hcs
  obtain ⟨h0, h1, h2⟩ := idx_some hx
  have hb : 0 ≤ i ∧ i < (n : Int) := by omega
  have h3 : ((xs.map (Value.int .i64)).toArray)[i.toNat * 1]? = some (.int .i64 x) := by
    rw [Nat.mul_one, List.getElem?_toArray, List.getElem?_map, h2]; rfl
  have e1 : (Instr.index t (.agg (xs.map (Value.int .i64)).toArray) (.int .i64 i)).run P w' = ((do part el (xs.map (Value.int .i64)).toArray (i.toNat * (← sizeOf el))) : Sem Value).run P w' := by
    simp [Instr.index, run_underlying ht, asIntOf, hb, Sem.run_bind, Sem.run_pure]
  rw [e1, Sem.run_bind, (hc w').2]
  simp only [Result.andThen_ok]
  unfold part
  rw [Sem.run_bind, (hc w').1]
  simp only [Result.andThen_ok, h3, Bool.false_eq_true, if_false, Sem.run_pure]
theorem agree_map : ∀ (l : List (Nat × Value)) (fr : Fr), l.map (fun p => fr p.1) = l.map (fun p => p.2) → agree l fr
  | [], _, _ => trivial
  | _ :: l, fr, h => ⟨(List.cons.inj h).1, agree_map l fr (List.cons.inj h).2⟩
theorem c_nm {P : Program} {Q : Exit → Fr → World → Prop} {c : Code} {fr : Fr} {w : World} (live : List (Nat × Value)) (h : ∀ J, vcC P c Q (ofL live J) w) (ha : live.map (fun p => fr p.1) = live.map (fun p => p.2) := by kernel_rfl) : vcC P c Q fr w := c_norm live (agree_map live fr ha) h
theorem MS.pk {w : World} {ls : List (List Nat)} (h : MS w ls) (l : List Nat) (r : List (List Nat)) (hp : (distinct (l.map some), picks ls (l.map some)) = (true, some r)) : MS w r := h.pick (l.map some) r hp
theorem Pk {ls : List (List Nat)} (l : List Nat) (r : List (List Nat)) (hp : picks ls (l.map some) = some r) : ∀ x ∈ fl r, x ∈ fl ls := pick_sub (l.map some) r hp
theorem FR.pk {C : Nat} {ls : List (List Nat)} (h : FR C ls) (l : List Nat) (r : List (List Nat)) (hp : picks ls (l.map some) = some r) : FR C r := h.pick (l.map some) r hp
theorem NP.pk {Mp : List Nat} {N : Nat} {ls : List (List Nat)} (h : NP Mp N ls) (l : List Nat) (r : List (List Nat)) (hp : picks ls (l.map some) = some r) : NP Mp N r := h.pick (l.map some) r hp
section
variable {P : Program} {all : List Oper} {M : List Nat} {Q : Fr → World → Prop} {dst : Option Tmp} {ty : TypeId} {pos : String} {after : Array Edge} {guard : Option (Nat × Bool)} {al : Bool} {l l' : List (Oper × Bool)} {fr : Fr} {w : World} {t : TypeId}
theorem Yl {x : Operand} (xv v : Value) (h1 : (l', wantedB all ⟨dst, .load t x, ty, pos, after, guard⟩ fr, ev fr x) = ((⟨dst, .load t x, ty, pos, after, guard⟩, al) :: l, some true, xv))
    (hr : Reads P (qm al M) (Instr.loadAt t xv) w v) (h : vcX P all M Q l (puto fr dst v) w) : vcX P all M Q l' fr w := x_load v (congrArg Prod.fst h1) (congrArg (fun p => p.2.1) h1) (congrArg (fun p => p.2.2) h1) hr h
theorem Yf {x : Operand} {i : Nat} (xv v : Value) (h1 : (l', wantedB all ⟨dst, .fieldAddr t x i, ty, pos, after, guard⟩ fr, ev fr x) = ((⟨dst, .fieldAddr t x i, ty, pos, after, guard⟩, al) :: l, some true, xv))
    (hr : Alw P (Instr.fieldAt t xv i) v) (h : vcX P all M Q l (puto fr dst v) w) : vcX P all M Q l' fr w := x_fieldAddr v (congrArg Prod.fst h1) (congrArg (fun p => p.2.1) h1) (congrArg (fun p => p.2.2) h1) hr h
theorem Yi {x y : Operand} (xv yv v : Value) (h1 : (l', wantedB all ⟨dst, .indexAddr t x y, ty, pos, after, guard⟩ fr, ev fr x, ev fr y) = ((⟨dst, .indexAddr t x y, ty, pos, after, guard⟩, al) :: l, some true, xv, yv))
    (hr : Reads P (qm al M) (Instr.indexAt t xv yv) w v) (h : vcX P all M Q l (puto fr dst v) w) : vcX P all M Q l' fr w := x_indexAddr v (congrArg Prod.fst h1) (congrArg (fun p => p.2.1) h1) (congrArg (fun p => p.2.2.1) h1) (congrArg (fun p => p.2.2.2) h1) hr h
theorem Ys {x y : Operand} (w' : World) (xv yv : Value) (h1 : (l', wantedB all ⟨dst, .store t x y, ty, pos, after, guard⟩ fr, ev fr x, ev fr y) = ((⟨dst, .store t x y, ty, pos, after, guard⟩, al) :: l, some true, xv, yv)) (hr : (Instr.storeAt t xv yv).run P w = .ok () w')
    (h : (al = true ∨ Ev M w w') ∧ vcX P all M Q l (puto fr dst undef) w') : vcX P all M Q l' fr w := x_store w' (congrArg Prod.fst h1) (congrArg (fun p => p.2.1) h1) (congrArg (fun p => p.2.2.1) h1) (congrArg (fun p => p.2.2.2) h1) hr h
theorem Yb {x : Operand} (xv : Value) (h1 : (l', wantedB all ⟨dst, .box t x, ty, pos, after, guard⟩ fr, ev fr x) = ((⟨dst, .box t x, ty, pos, after, guard⟩, al) :: l, some true, xv))
    (h : ∀ b w', b = w.heap.size → w'.heap[b]? = some (.cells xv.cells t (0, 0)) → Ev [] w w' → w'.heap.size = b + 1 → (al = true ∨ Ev M w w') ∧ vcX P all M Q l (puto fr dst (.pointer (some ⟨b, 0, none⟩))) w') : vcX P all M Q l' fr w := x_box (congrArg Prod.fst h1) (congrArg (fun p => p.2.1) h1) (congrArg (fun p => p.2.2) h1) h
theorem Yg {x x2 : Operand} {d2 : Option Tmp} {ty2 : TypeId} {pos2 : String} {after2 : Array Edge} {guard2 : Option (Nat × Bool)} {al2 : Bool} {l1 : List (Oper × Bool)} {t2 T : TypeId} {f : Nat} {cs : Array Value} {fz : Nat × Nat} (b j i : Nat) (v : Value)
    (h1 : (l', wantedB all ⟨dst, .fieldAddr t x f, ty, pos, after, guard⟩ fr, ev fr x) = ((⟨dst, .fieldAddr t x f, ty, pos, after, guard⟩, al) :: l1, some true, Vp b j))
    (h2 : (l1, wantedB all ⟨d2, .load t2 x2, ty2, pos2, after2, guard2⟩ (puto fr dst (Vp b i)), ev (puto fr dst (Vp b i)) x2) = ((⟨d2, .load t2 x2, ty2, pos2, after2, guard2⟩, al2) :: l, some true, Vp b i))
    (hf : Alw P (Instr.fieldAt t (Vp b j) f) (Vp b i)) (tc : IsCell P t2) (hb : w.heap[b]? = some (.cells cs T fz)) (hm : b ∉ qm al2 M) (hv : cs[i]? = some v) (h : vcX P all M Q l (puto (puto fr dst (Vp b i)) d2 v) w) : vcX P all M Q l' fr w :=
  Yf (Vp b j) (Vp b i) h1 hf (Yl (Vp b i) v h2 (reads_box tc hb hm i v hv) h)
end
abbrev Z0 : Value := .slice none 0 0
abbrev eI : Enc Int := eInt .i64
theorem Sa {P : Program} {t T : TypeId} {w : World} {b : Nat} {cs : Array Value} (vs : List Value) (ht : IsAgg P t vs.length) (h : w.heap[b]? = some (.cells cs T (0, 0))) (hk : Nat.ble (0 + vs.length) cs.size = true) (h1 : vs.all (fun v => v.oneCell') = true)
    (hcs : (cs.toList.take 0 ++ vs ++ cs.toList.drop (0 + vs.length)).toArray = vs.toArray) :
    ∃ w', (Instr.storeAt t (.pointer (some ⟨b, 0, none⟩)) (.agg vs.toArray)).run P w = .ok () w' ∧ w'.heap[b]? = some (.cells vs.toArray T (0, 0)) ∧ Ev [b] w w' := store_boxagg 0 vs vs.toArray ht h hk h1 hcs
abbrev Sj := @some_inj
abbrev Bs := @bind_some
abbrev Kr := @k_then_ret
abbrev Ke := @k_then_exit
abbrev Kt := @k_then
abbrev Kb := @k_block_ret
abbrev Ki := @k_block_in
abbrev Kl := @k_block
abbrev Rf := @reads_field
abbrev Xk := @x_ek
abbrev Pi := @plain_int
abbrev Cs := @c_sp
abbrev Xu := @x_u
abbrev Rb := @reads_box
abbrev Ra := @reads_boxagg
abbrev Rv := @r_vals
abbrev Cq := @c_seq
abbrev Ck := @c_skip
abbrev Cp := @c_plain
abbrev Cb := @c_block
abbrev Cr := @c_ret
abbrev Rr := @r_ret
abbrev I1 := @inl1
abbrev Sb := @store_boxagg
abbrev Cn := @c_nm
abbrev Mf := @mem_flat
abbrev Xe := @x_end
abbrev Lz := @loopN_zero
abbrev Xc := @x_call
abbrev Lo := @loop_some
abbrev Lr := @loop_rule
abbrev Ci := @c_if
abbrev Gl := @guard_l
abbrev Gr := @guard_r
abbrev Lv := @loadVar_of_reads
abbrev Ce := @c_exit
abbrev Oi := @own_index
abbrev Xn := @x_len
abbrev Cl := @c_loop
abbrev Xm := @x_makeSlice
abbrev Xb := @x_buildSlice
abbrev Xa := @x_alloc
abbrev Cd := @c_drawn
abbrev Xw := @x_if
theorem T0 : True := True.intro
abbrev Bk := @blk
abbrev U0 := @undef
abbrev Ns := @Nat.lt_succ_self
abbrev Px (g k : Nat) : Value := .pointer (some ⟨g, k, none⟩)
abbrev Bd (p : Prop) [Decidable p] : Value := .bool (decide p)
end Go.V
