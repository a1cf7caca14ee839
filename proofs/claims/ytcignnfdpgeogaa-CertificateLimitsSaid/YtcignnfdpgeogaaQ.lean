
/- Memory laws for exchanges of elements, whole elements that are written, and slices that are compared with nil. Conditions: those of each theorem. -/
import Derived.Test.YtcignnfdpgeogaaH
set_option linter.unusedSimpArgs false
set_option linter.unusedVariables false
namespace Go.V
open Go

abbrev Vl {α : Type} (a : Option Addr) (d : List α) (c : Nat) : Value := .slice a d.length c
theorem c_if {α : Type} {P : Program} {Q : Exit → Fr → World → Prop} {t : Tmp} {x y : Code} {fr : Fr} {w : World} {A B : Option α} {r : α} (b : Bool) (hb : fr t = .bool b) (h : (if b = true then A else B) = some r)
    (ht : A = some r → vcC P x Q (put fr t (.bool true)) w) (hf : B = some r → vcC P y Q (put fr t (.bool false)) w) : vcC P (.cond (.tmp t) x y) Q fr w := c_cond b hb (fun e => ht (ite_t e h)) (fun e => hf (ite_f e h))
theorem x_if {α : Type} {P : Program} {all : List Oper} {M : List Nat} {Q : Fr → World → Prop} {l : List (Oper × Bool)} {fr : Fr} {w : World} {A B : Option α} {r : α} (d : Nat) (b : Bool) (hb : fr d = .bool b) (h : (if b = true then A else B) = some r)
    (ht : A = some r → vcX P all M Q l (put fr d (.bool true)) w) (hf : B = some r → vcX P all M Q l (put fr d (.bool false)) w) : vcX P all M Q l fr w := x_split d b hb (fun e => ht (ite_t e h)) (fun e => hf (ite_f e h))
theorem x_u {P : Program} {all : List Oper} {M : List Nat} {Q : Fr → World → Prop} {l : List (Oper × Bool)} {fr : Fr} {w : World} (k : Nat) (asg : List (Nat × Value)) (hq : vcX P all M Q (l.drop k) (putL asg fr) w) (h : runP all k l fr = some asg := by kernel_rfl) : vcX P all M Q l fr w := x_pure k asg l fr w h hq

theorem idx_set_any {α : Type} {xs : List α} {i : Int} {x : α} (h : idx xs i = some x) (j : Nat) (z : α) : ∃ y, idx (xs.set j z) i = some y := by
  obtain ⟨h0, h1, h2⟩ := idx_some h
  unfold idx
  rw [if_pos h0]
  exact ⟨_, List.getElem?_eq_getElem (by rw [List.length_set]; omega)⟩


theorem own_storeE {P : Program} {M : List Nat} {α : Type} {e : Enc α} {te T : Nat} {w : World} {g : Nat} {a : Option Addr} {c : Nat} {xs : List α} {i : Int} {x y : α} (ha : a = some ⟨g, 0, none⟩) (o : Nat) (v : Value) (ht : IsCell P te) (h : OwnS e T w M a c xs) (hsub : ∀ b ∈ blk a, b ∈ M) (hx : idx xs i = some x)
    (h1 : v.oneCell' = true) (ho : Nat.blt o e.n = true) (hy : ∀ w M cs, e.R w M cs x → e.R w M (cs.set o v) y) :
    ∃ w', (Instr.storeAt te (.pointer (some ⟨g, i.toNat * e.n + o, none⟩)) v).run P w = .ok () w' ∧ Ev (blk a) w w' ∧ OwnS e T w' M a c (xs.set i.toNat y) := by
  subst ha
  exact own_store o v ht h (hsub g (by simp [blk])) hx h1 ho hy

/-! ### Equality of structs -/

end Go.V
