
/- Memory laws for exchanges of elements, whole elements that are written, and slices that are compared with nil. Conditions: those of each theorem. -/
import Derived.Test.YtgeceohdppecgaaH
set_option linter.unusedSimpArgs false
set_option linter.unusedVariables false
namespace Go.V
open Go

abbrev Vl {α : Type} (a : Option Addr) (d : List α) (c : Nat) : Value := .slice a d.length c
theorem c_if {α : Type} {P : Program} {Q : Exit → Fr → World → Prop} {t : Tmp} {x y : Code} {fr : Fr} {w : World} {A B : Option α} {r : α} (b : Bool) (hb : fr t = .bool b) (h : (if b = true then A else B) = some r)
    (ht : A = some r → vcC P x Q (put fr t (.bool true)) w) (hf : B = some r → vcC P y Q (put fr t (.bool false)) w) : vcC P (.cond (.tmp t) x y) Q fr w := c_cond b hb (fun e => ht (ite_t e h)) (fun e => hf (ite_f e h))
theorem x_if {α : Type} {P : Program} {all : List Oper} {M : List Nat} {Q : Fr → World → Prop} {l : List (Oper × Bool)} {fr : Fr} {w : World} {A B : Option α} {r : α} (d : Nat) (b : Bool) (hb : fr d = .bool b) (h : (if b = true then A else B) = some r)
    (ht : A = some r → vcX P all M Q l (put fr d (.bool true)) w) (hf : B = some r → vcX P all M Q l (put fr d (.bool false)) w) : vcX P all M Q l fr w := x_split d b hb (fun e => ht (ite_t e h)) (fun e => hf (ite_f e h))
theorem x_u {P : Program} {all : List Oper} {M : List Nat} {Q : Fr → World → Prop} {l : List (Oper × Bool)} {fr : Fr} {w : World} (k : Nat) (asg : List (Nat × Value)) (hq : vcX P all M Q (l.drop k) (putL asg fr) w) (h : runP all k l fr = some asg := by kernel_rfl) : vcX P all M Q l fr w := x_pure k asg l fr w h hq

theorem idx_set_any {α : Type} {xs : List α} {i : Int} {x : α} (h : idx xs i = some x) (j : Nat) (z : α) : ∃ y, idx (xs.set j z) i = some y := by
  obtain ⟨h0, h1, h2⟩ := idx_some h
  unfold idx
  rw [if_pos h0]
  exact ⟨_, List.getElem?_eq_getElem (by rw [List.length_set]; omega)⟩


theorem own_storeE {P : Program} {M : List Nat} {α : Type} {e : Enc α} {te T : Nat} {w : World} {g : Nat} {a : Option Addr} {c : Nat} {xs : List α} {i : Int} {x y : α} (ha : a = some ⟨g, 0, none⟩) (o : Nat) (v : Value) (ht : IsCell P te) (h : OwnS e T w M a c xs) (hsub : ∀ b ∈ blk a, b ∈ M) (hx : idx xs i = some x)
    (h1 : v.oneCell' = true) (ho : Nat.blt o e.n = true) (hy : ∀ w M cs, e.R w M cs x → e.R w M (cs.set o v) y) :
    ∃ w', (Instr.storeAt te (.pointer (some ⟨g, i.toNat * e.n + o, none⟩)) v).run P w = .ok () w' ∧ Ev (blk a) w w' ∧ OwnS e T w' M a c (xs.set i.toNat y) := by
  subst ha
  exact own_store o v ht h (hsub g (by simp [blk])) hx h1 ho hy

/-- A slice that is compared with nil. -/
theorem vb_slnil {P : Program} {t el : TypeId} {xo yo : Operand} (ht : P.underlying t = some (.slice el)) (a : Option Addr) (l c : Nat) : ∀ K : Value → Prop, K (.bool a.isNone) → vcBin P .eql t xo yo (.slice a l c) (.slice none 0 0) K := by
  intro K hK
  refine ⟨_, fun w => ?_, hK⟩
  show Sem.run P (binOp .eql t (.slice a l c) (.slice none 0 0)) w = _
  show Sem.run P (do pure (.bool (← Op.equal t (.slice a l c) (.slice none 0 0))) : Sem Value) w = _
  have h : (Op.equal t (.slice a l c) (.slice none 0 0)).run P w = .ok a.isNone w := by
    unfold Op.equal Op.maxDepth Op.equalIn
    rw [run_bind, run_underlying ht]
    cases a <;> rfl
  rw [run_bind, h]
  rfl
theorem SlR.nil_of {α : Type} {e : Enc α} {w : World} {M : List Nat} {a : Option Addr} {c : Nat} {xs : List α} (h : SlR e w M a c xs) (ha : a.isNone = true) : xs = [] := h.nil (by cases a <;> first | rfl | cases ha)
/-! ### Equality of structs -/
def eqF (d : Nat) (xs ys : Array Value) : List Field → Sem Bool
  | [] => pure true
  | f :: fs => if f.name ≠ "_" then do
      let a ← part f.type xs f.offset
      let b ← part f.type ys f.offset
      let c ← Op.equalIn d f.type a b
      if !c then pure false else eqF d xs ys fs
    else eqF d xs ys fs
theorem run_equal_struct {P : Program} {t : TypeId} {fs : Array Field} (ht : P.underlying t = some (.struct fs)) (hs : P.stoodInHeld t = false) (d : Nat) (xs ys : Array Value) (w : World) :
    (Op.equalIn (d + 1) t (.agg xs) (.agg ys)).run P w = (eqF d xs ys fs.toList).run P w := by
  simp only [Op.equalIn, Sem.run_bind, run_underlying ht, Result.andThen_ok]
  rw [← Array.forIn_toList]
  have e : ∀ w : World, (program).run P w = .ok P w := fun _ => rfl
  simp only [e, Result.andThen_ok, hs, Bool.false_eq_true, if_false, Sem.run_bind]
  generalize fs.toList = L
  induction L generalizing w with
  | nil => simp [eqF]
  | cons f L ih =>
    simp only [List.forIn_cons, eqF]
    by_cases hn : f.name ≠ "_"
    · simp only [if_pos hn, Sem.run_bind]
      generalize (part f.type xs f.offset).run P w = r1
      cases r1 with
      | ok a w1 =>
        simp only [Result.andThen_ok]
        generalize (part f.type ys f.offset).run P w1 = r2
        cases r2 with
        | ok b w2 =>
          simp only [Result.andThen_ok]
          generalize (Op.equalIn d f.type a b).run P w2 = r3
          cases r3 with
          | ok c w3 =>
            simp only [Result.andThen_ok]
            cases c with
            | false => rfl
            | true =>
              simp only [Bool.not_true, Bool.false_eq_true, if_false, Sem.run_pure, Result.andThen_ok]
              exact ih w3
          | _ => rfl
        | _ => rfl
      | _ => rfl
    · simp only [if_neg hn, Sem.run_pure, Result.andThen_ok, Sem.run_bind]
      exact ih w

/-- One field, of one cell. -/
theorem eqF_cell {P : Program} {d : Nat} {xs ys : Array Value} {f : Field} {fs : List Field} {w : World} {x y : Value} {b r : Bool} (hn : (f.name != "_") = true) (ha : ∀ w, (isAgg f.type).run P w = .ok false w) (hx : xs[f.offset]? = some x) (hy : ys[f.offset]? = some y)
    (h1 : ∀ w, (Op.equalIn d f.type x y).run P w = .ok b w) (h2 : (eqF d xs ys fs).run P w = .ok r w) : (eqF d xs ys (f :: fs)).run P w = .ok (b && r) w := by
  have hn' : f.name ≠ "_" := by simpa using hn
  have p1 : ∀ w, (part f.type xs f.offset).run P w = .ok x w := fun w => by unfold part; simp only [Sem.run_bind, ha, Result.andThen_ok, Bool.false_eq_true, if_false, hx, Sem.run_pure]
  have p2 : ∀ w, (part f.type ys f.offset).run P w = .ok y w := fun w => by unfold part; simp only [Sem.run_bind, ha, Result.andThen_ok, Bool.false_eq_true, if_false, hy, Sem.run_pure]
  simp only [eqF, if_pos hn', Sem.run_bind, p1, p2, h1, Result.andThen_ok]
  cases b with
  | false => rfl
  | true => simp only [Bool.not_true, Bool.false_eq_true, if_false, h2, Bool.true_and]
theorem eqF_nil {P : Program} {d : Nat} {xs ys : Array Value} {w : World} : (eqF d xs ys []).run P w = .ok true w := rfl
theorem eq_int {P : Program} {d : Nat} {t : TypeId} {k : IntKind} (ht : P.underlying t = some (.int k)) (a b : Int) (w : World) : (Op.equalIn (d + 1) t (.int k a) (.int k b)).run P w = .ok (a == b) w := by
  simp only [Op.equalIn, Sem.run_bind, run_underlying ht, Result.andThen_ok, if_true, Sem.run_pure]
theorem eq_bool {P : Program} {d : Nat} {t : TypeId} (ht : P.underlying t = some .bool) (a b : Bool) (w : World) : (Op.equalIn (d + 1) t (.bool a) (.bool b)).run P w = .ok (a == b) w := by
  simp only [Op.equalIn, Sem.run_bind, run_underlying ht, Result.andThen_ok, Sem.run_pure]
theorem bin_aggne {P : Program} {t : TypeId} {xo yo : Operand} {fs : Array Field} (ht : P.underlying t = some (.struct fs)) (hs : P.stoodInHeld t = false) (hg : P.eqGuardType P.depth t = false) {xs ys : Array Value} {b : Bool} (he : ∀ w, (eqF 9999 xs ys fs.toList).run P w = .ok b w) :
    ∀ K : Value → Prop, K (.bool (!b)) → vcBin P .neq t xo yo (.agg xs) (.agg ys) K := by
  intro K hK
  refine ⟨_, fun w => ?_, hK⟩
  have h1 : (eqGuard .neq t xo yo (.agg xs) (.agg ys)).run P w = .ok () w := by
    unfold eqGuard
    simp only [Sem.run_bind]
    show Sem.run P (if (!P.eqGuardType P.depth t) = true then _ else _) w = _
    rw [hg]
    rfl
  rw [run_bind, h1]
  show Sem.run P (do pure (.bool (!(← Op.equal t (.agg xs) (.agg ys)))) : Sem Value) w = _
  have h2 : (Op.equal t (.agg xs) (.agg ys)).run P w = .ok b w := by
    show (Op.equalIn (9999 + 1) t (.agg xs) (.agg ys)).run P w = _
    rw [run_equal_struct ht hs]
    exact he w
  rw [run_bind, h2]
  rfl

/-- The header of a row is read while rows are changed, and a box. -/
theorem RView.loadI2 {P : Program} {α : Type} {e : Enc α} {T te : TypeId} {w : World} {B : List Nat} {a : Option Addr} {d : List (List α)} {g i : Nat} {ai : Option Addr} {ci : Nat} {xs : List α} {k : Nat} (ht : IsCell P te) (h : RView e T w B a d g i ai ci xs) (hm : ∀ b ∈ B, b ∉ [k]) :
    Reads P ([k] ++ innr a B) (Instr.loadAt te (.pointer (some ⟨g, i, none⟩))) w (.slice ai xs.length ci) := by
  have hc : CellsAt w ([k] ++ innr a B) ⟨g, i, none⟩ [.slice ai xs.length ci] := ⟨rfl, fun hx => (List.mem_append.1 hx).elim (hm g h.gB) fun hx => by
    have := (List.mem_filter.1 hx).2
    rw [h.eq] at this
    simp [blk] at this, h.cell.lt, h.cell.at_⟩
  exact reads_cell0 ht hc (fun b hb => hb)
end Go.V
