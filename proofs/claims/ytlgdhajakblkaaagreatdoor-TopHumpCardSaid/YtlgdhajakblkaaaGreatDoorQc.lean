
/- Steps of all that is known at once: one event of the world moves every fact that it does not touch. Conditions: those of each theorem. -/
import Derived.Test.YtlgdhajakblkaaaGreatDoorMb
set_option linter.unusedSimpArgs false
set_option linter.unusedVariables false
namespace Go.V
open Go
class At (ls : List (List Nat)) (l : List Nat) (i : outParam Nat) : Prop where
  pr : ls[i]? = some l
instance At.s {x l : List Nat} {ls : List (List Nat)} {i : Nat} [h : At ls l i] : At (x :: ls) l (i + 1) := ⟨by simpa using h.pr⟩
instance At.z {l : List Nat} {ls : List (List Nat)} : At (l :: ls) l 0 := ⟨rfl⟩
class App (a b : List (List Nat)) (c : outParam (List (List Nat))) : Prop where
  pr : a ++ b = c
instance App.z {b : List (List Nat)} : App [] b b := ⟨rfl⟩
instance App.s {x : List Nat} {a b c : List (List Nat)} [h : App a b c] : App (x :: a) b (x :: c) := ⟨by rw [List.cons_append, h.pr]⟩
class Pre (a c : List (List Nat)) : Prop where
  pr : ∃ b, a ++ b = c
instance Pre.z {c : List (List Nat)} : Pre [] c := ⟨c, rfl⟩
instance Pre.s {x : List Nat} {a c : List (List Nat)} [h : Pre a c] : Pre (x :: a) (x :: c) := ⟨by obtain ⟨b, h⟩ := h.pr; exact ⟨b, by rw [List.cons_append, h]⟩⟩
class Nth (ls : List (List Nat)) (i : Nat) (x : outParam (List Nat)) : Prop where
  pr : ls[i]? = some x
instance Nth.s {x y : List Nat} {ls : List (List Nat)} {i : Nat} [h : Nth ls i y] : Nth (x :: ls) (i + 1) y := ⟨by simpa using h.pr⟩
instance Nth.d {x0 x1 x2 x3 y : List Nat} {ls : List (List Nat)} {i : Nat} [h : Nth ls i y] : Nth (x0 :: x1 :: x2 :: x3 :: ls) (i + 4) y := ⟨by simpa using h.pr⟩
instance Nth.t {x0 x1 x2 x3 x4 x5 x6 x7 y : List Nat} {ls : List (List Nat)} {i : Nat} [h : Nth ls i y] : Nth (x0 :: x1 :: x2 :: x3 :: x4 :: x5 :: x6 :: x7 :: ls) (i + 8) y := ⟨by simpa using h.pr⟩
instance Nth.z {x : List Nat} {ls : List (List Nat)} : Nth (x :: ls) 0 x := ⟨rfl⟩
class Pks (ls : List (List Nat)) (l : List Nat) (r : outParam (List (List Nat))) : Prop where
  pr : picks ls (l.map some) = some r
instance Pks.z {ls : List (List Nat)} : Pks ls [] [] := ⟨rfl⟩
instance Pks.s {ls : List (List Nat)} {i : Nat} {x : List Nat} {l : List Nat} {r : List (List Nat)} [h1 : Nth ls i x] [h2 : Pks ls l r] : Pks ls (i :: l) (x :: r) := ⟨by
  have h2 := h2.pr
  simp only [List.map_cons, picks, h1.pr, h2, Option.map_some]⟩
class Sat (ls : List (List Nat)) (j : Nat) (B : List Nat) (r : outParam (List (List Nat))) : Prop where
  pr : ls.set j B = r
instance Sat.s {x B : List Nat} {ls r : List (List Nat)} {j : Nat} [h : Sat ls j B r] : Sat (x :: ls) (j + 1) B (x :: r) := ⟨by rw [List.set_cons_succ, h.pr]⟩
instance Sat.z {x B : List Nat} {ls : List (List Nat)} : Sat (x :: ls) 0 B (B :: ls) := ⟨rfl⟩
class Pln {α : Type} (e : Enc α) where
  cf : α → List Value
  ok : ∀ w M x, e.R w M (cf x) x
  pl : e.Plain
  un : ∀ {w M cs x}, e.R w M cs x → cs = cf x
instance Pln.i {k : IntKind} : Pln (eInt k) := ⟨fun x => [.int k x], fun _ _ _ => rfl, plain_int k, id⟩
instance Pln.b : Pln eBool := ⟨fun x => [.bool x], fun _ _ _ => rfl, fun _ _ _ _ _ _ h => h, id⟩
instance Pln.t : Pln eStr := ⟨fun x => [Vs x], fun _ _ _ => rfl, plain_str, id⟩
instance Pln.u : Pln eUnit := ⟨fun _ => [], fun _ _ _ => rfl, fun _ _ _ _ _ _ h => h, id⟩
instance Pln.h : Pln eHdr := ⟨fun h => [.slice h.1 h.2.1 h.2.2], fun _ _ _ => rfl, fun _ _ _ _ _ _ h => h, id⟩
instance Pln.p {α β : Type} {e : Enc α} {f : Enc β} [h : Pln e] [k : Pln f] : Pln (eProd e f) := ⟨fun x => h.cf x.1 ++ k.cf x.2, fun w M x => ⟨_, _, rfl, h.ok w M x.1, k.ok w M x.2⟩, plain_prod h.pl k.pl, fun ⟨_, _, e1, e2, e3⟩ => by rw [e1, h.un e2, k.un e3]⟩
structure Cx (w w' : World) (ls ls' : List (List Nat)) (Mo J : List Nat) : Prop where
  m0 : MS w ls
  st : Stp (fl ls) w (fl ls') w'
  ev : Ev Mo w w'
  ap : ∀ (i : Nat) (A : List Nat), ls[i]? = some A → J.any (Nat.beq i) = false → ∀ x ∈ A, x ∉ Mo
  ms : MS w' ls'
section
variable {w w' : World} {ls ls' : List (List Nat)} {Mo J : List Nat}
theorem Cx.e (h : MS w ls) (e : Ev [] w w') : Cx w w' ls ls [] [] := ⟨h, Stp.ext e, e, fun _ _ _ _ _ _ h => (by cases h), h.ev e⟩
theorem Cx.j (h : MS w ls) (j : Nat) (e : Ev Mo w w') (hj : ls[j]? = some Mo := by rfl) : Cx w w' ls ls Mo [j] :=
  ⟨h, Stp.ev' e (mem_flat j hj), e, fun i A hi hn => h.apart i j hi hj (by simpa using hn), h.ev e⟩
theorem Cx.b {b : Nat} {o : Obj} (h : MS w ls) (e : Ev [] w w') (hq : b = w.heap.size) (hb : w'.heap[b]? = some o) : Cx w w' ls ([b] :: ls) [] [] :=
  ⟨h, Stp.box e hq, e, fun _ _ _ _ _ _ h => (by cases h), h.box e hq hb⟩
theorem Cx.u {A B : List Nat} {ls' : List (List Nat)} (h : MS w ls) (j : Nat) (e : Ev A w w') (hn : ∀ b ∈ B, (b ∈ A ∨ w.heap.size ≤ b) ∧ b < w'.heap.size) [k : Sat ls j B ls'] (hj : ls[j]? = some A := by rfl) : Cx w w' ls ls' A [j] := by
  have k := k.pr
  subst k
  exact ⟨h, Stp.upd j e hj (fun b hb => (hn b hb).1), e, fun i A hi hn => h.apart i j hi hj (by simpa using hn), h.upd j e hj hn⟩
theorem Cx.n (h : MS w ls) : Cx w w ls (blk none :: ls) [] [] :=
  ⟨h, Stp.push (l := blk none) (Ev.refl [] w) (fun _ h => by cases h) (fun _ h => by cases h), Ev.refl _ _, fun _ _ _ _ _ _ h => (by cases h), h.push (l := blk none) (Ev.refl [] _) (fun _ h => by cases h)⟩
theorem Cx.p {l : List Nat} (h : MS w ls) (e : Ev [] w w') (hn : ∀ b ∈ l, w.heap.size ≤ b ∧ b < w'.heap.size) : Cx w w' ls (l :: ls) [] [] :=
  ⟨h, Stp.push e (fun _ h => by cases h) (fun b hb => (hn b hb).1), e, fun _ _ _ _ _ _ h => (by cases h), h.push e hn⟩
theorem Cx.s (h : MS w ls) (l : List Nat) [k : Pks ls l ls'] (hd : distinct (l.map some) = true := by rfl) : Cx w w ls ls' [] [] :=
  ⟨h, Stp.sub w (Pk l ls' k.pr), Ev.refl _ _, fun _ _ _ _ _ _ h => (by cases h), h.pk l ls' (by rw [k.pr, hd])⟩
theorem picks_app {R : List (List Nat)} (p q : List Nat) : ∀ {P : List (List Nat)}, picks ls (p.map some) = some P → picks ls (q.map some) = some R → picks ls ((p ++ q).map some) = some (P ++ R) := by
  induction p with
  | nil => intro P e1 e2; simp only [List.map_nil, picks, Option.some.injEq] at e1; subst e1; exact e2
  | cons i p ih =>
    intro P e1 e2
    simp only [List.map_cons, picks, List.cons_append] at e1 ⊢
    cases h1 : ls[i]? with
    | none => rw [h1] at e1; cases e1
    | some A =>
      rw [h1] at e1
      simp only at e1
      cases h2 : picks ls (p.map some) with
      | none => rw [h2] at e1; cases e1
      | some P' =>
        rw [h2] at e1
        simp only [Option.map_some, Option.some.injEq] at e1
        subst e1
        have := ih h2 e2
        simp only
        rw [this]
        rfl
theorem Kc {P R X : List (List Nat)} (h : MS w ls) (p q : List Nat) [k1 : Pks ls p P] [k2 : Pks ls q R] [k3 : App P [fl R] X] (hd : distinct ((p ++ q).map some) = true := by rfl) : MS w X ∧ ∀ x ∈ fl X, x ∈ fl ls := by
  have e := picks_app p q k1.pr k2.pr
  have k3 := k3.pr
  subst k3
  have hpk := h.pk (p ++ q) (P ++ R) (by rw [e, hd])
  exact ⟨hpk.fold, fun x hx => Pk (p ++ q) (P ++ R) e x (fl_unfold x hx)⟩
theorem Ko {R : List (List Nat)} {B : List Nat} (h : MS w ls) (i : Nat) (q : List Nat) [n : Nth ls i B] [k : Pks ls q R] (hd : (q.any (Nat.beq i)) = false := by rfl) : ∀ x ∈ B, x ∉ fl ([] ++ [fl R]) := fun x hx hx2 =>
  pick_out h i n.pr (q.map some) R k.pr (by
    rw [List.all_eq_true]
    intro o ho
    obtain ⟨j, hj, rfl⟩ := List.mem_map.1 ho
    rw [List.any_eq_false] at hd
    have := hd j hj
    cases hb : Nat.beq i j
    · simp only [hb]; rfl
    · exact absurd hb this) x hx (fl_unfold (P := []) x hx2)
theorem Pks.mem {P : List (List Nat)} {p : List Nat} (k : Pks ls p P) : ∀ A ∈ P, ∃ j ∈ p, ls[j]? = some A := fun A hA => by
  have := k.pr
  clear k
  induction p generalizing P with
  | nil => simp only [List.map_nil, picks, Option.some.injEq] at this; subst this; cases hA
  | cons i p ih =>
    simp only [List.map_cons, picks] at this
    cases h1 : ls[i]? with
    | none => rw [h1] at this; cases this
    | some B =>
      rw [h1] at this
      simp only at this
      cases h2 : picks ls (p.map some) with
      | none => rw [h2] at this; cases this
      | some P' =>
        rw [h2] at this
        simp only [Option.map_some, Option.some.injEq] at this
        subst this
        cases hA with
        | head => exact ⟨i, List.mem_cons_self, h1⟩
        | tail _ hA =>
          obtain ⟨j, hj, h3⟩ := ih hA h2
          exact ⟨j, List.mem_cons_of_mem _ hj, h3⟩
theorem Pks.apart {P : List (List Nat)} {p : List Nat} (k : Pks ls p P) (h : MS w ls) : ∀ (i : Nat) (A : List Nat), ls[i]? = some A → p.any (Nat.beq i) = false → ∀ x ∈ A, x ∉ fl P := fun i A hi hn x hx hx2 => by
  obtain ⟨l, hl, hxl⟩ := (mem_fl _ _).1 hx2
  obtain ⟨j, hj, h3⟩ := k.mem l hl
  refine h.apart i j hi h3 ?_ x hx hxl
  rw [List.any_eq_false] at hn
  have := hn j hj
  cases hb : Nat.beq i j
  · rfl
  · exact absurd hb this
theorem Pks.sub {P : List (List Nat)} {p : List Nat} (k : Pks ls p P) : ∀ x ∈ fl P, x ∈ fl ls := fun x hx => by
  obtain ⟨l, hl, hxl⟩ := (mem_fl _ _).1 hx
  obtain ⟨j, hj, h3⟩ := k.mem l hl
  exact (mem_fl _ _).2 ⟨l, List.mem_of_getElem? h3, hxl⟩
theorem Cx.c0 {P : List (List Nat)} (h : MS w ls) (p : List Nat) (e : Ev Mo w w') [k : Pks ls p P] (hM : Mo = fl P := by rfl) : Cx w w' ls ls Mo p := by
  subst hM
  exact ⟨h, Stp.ev' e k.sub, e, k.apart h, h.ev e⟩
theorem Cx.c {P Y res N : List (List Nat)} (h : MS w ls) (p : List Nat) (e : Ev Mo w w') (h2 : MS w' Y) (hf : FR w.heap.size res) [k1 : Pks ls p P] [k4 : Pre res Y] [k5 : App res ls N] (hM : Mo = fl P := by rfl) : Cx w w' ls N Mo p := by
  subst hM
  have k5 := k5.pr
  subst k5
  obtain ⟨X, k4⟩ := k4.pr
  subst k4
  refine ⟨h, Stp.join e k1.sub hf, e, k1.apart h, ?_⟩
  refine ⟨List.pairwise_append.2 ⟨(List.pairwise_append.1 h2.pd).1, h.pd, fun a ha b hb x hx hx2 => ?_⟩, fun l hl b hb => ?_⟩
  · have := hf a ha x hx
    have := h.lt b hb x hx2
    omega
  · rcases List.mem_append.1 hl with h1 | h1
    · exact h2.lt l (List.mem_append_left _ h1) b hb
    · exact e.lt (h.lt l h1 b hb)
theorem Cx.l {α : Type} {e : Enc α} [k : Pln e] {b : Nat} {cs : Array Value} {T : TypeId} (c : Cx w w' ls ls' Mo J) (hq : b = w.heap.size) (hb : w'.heap[b]? = some (.cells cs T (0, 0))) (n : Nat) (xs : List α) (hls : ls' = ls := by rfl)
    (h : cs.toList = xs.flatMap k.cf := by rfl) (hn : (Nat.ble n 4294967296, xs.length) = (true, n) := by rfl) : SlR e w' (fl ls') (some ⟨b, 0, none⟩) n xs := by
  subst hls
  refine ro_of_box c.m0 hq hb (congrArg Prod.fst hn) (congrArg Prod.snd hn) (fun i x hx => ⟨k.cf x, k.ok _ _ _, fun j v hv => ?_⟩)
  have hl : ∀ y : α, (k.cf y).length = e.n := fun y => e.len (k.ok w [] y)
  rw [← Array.getElem?_toList, h]
  clear h hn
  induction xs generalizing i with
  | nil => cases hx
  | cons y ys ih =>
    rw [List.flatMap_cons]
    cases i with
    | zero =>
      simp only [List.getElem?_cons_zero, Option.some.injEq] at hx
      subst hx
      rw [Nat.zero_mul, Nat.zero_add, List.getElem?_append_left (List.getElem?_eq_some_iff.1 hv).1]
      exact hv
    | succ i =>
      rw [List.getElem?_append_right (by rw [hl, Nat.succ_mul]; omega), hl, show (i + 1) * e.n + j - e.n = i * e.n + j by rw [Nat.succ_mul]; omega]
      exact ih i (by simpa using hx)
end
class Sp (w w' : World) (ls ls' : List (List Nat)) (Mo J : List Nat) (A : Prop) (B : outParam Prop) (c : outParam Bool) : Prop where
  go : c = true → Cx w w' ls ls' Mo J → A → B
section
variable {w w' w0 : World} {ls ls' : List (List Nat)} {Mo J M0 : List Nat} {α K V : Type} {e : Enc α} {a : Option Addr} {c : Nat} {xs : List α} {xss : List (List α)} {T Tr i b : Nat} {B : List Nat} {o : Obj} {sk : Option Nat} {kv : K → Value} {vv : V → Value} {l : List (K × V)} {ev : Enc V}
theorem Cx.ne (h : Cx w w' ls ls' Mo J) {A : List Nat} (hi : ls[i]? = some A) (hc : (!(J.any (Nat.beq i))) = true) : ∀ x ∈ A, x ∉ Mo := h.ap i A hi (by simpa using hc)
instance : Sp w w' ls ls' Mo J (SlR e w (fl ls) a c xs) (SlR e w' (fl ls') a c xs) true := ⟨fun _ h k => k.step h.st⟩
instance [k : At ls [b] i] : Sp w w' ls ls' Mo J (w.heap[b]? = some o) (w'.heap[b]? = some o) (!(J.any (Nat.beq i))) := ⟨fun hc h f => h.ev.box f (h.ne k.pr hc b (List.mem_singleton.2 rfl))⟩
instance [k : At ls (blk a) i] : Sp w w' ls ls' Mo J (OwnS e T w (fl ls) a c xs) (OwnS e T w' (fl ls') a c xs) (!(J.any (Nat.beq i))) := ⟨fun hc h f => f.step h.st h.ev (h.ne k.pr hc)⟩
instance [p : Pln e] [k : At ls B i] : Sp w w' ls ls' Mo J (OwnR e T Tr w B a c xss sk) (OwnR e T Tr w' B a c xss sk) (!(J.any (Nat.beq i))) := ⟨fun hc h f => f.step p.pl h.ev (h.ne k.pr hc)⟩
instance [k : At ls [b] i] : Sp w w' ls ls' Mo J (MapH kv vv w b l) (MapH kv vv w' b l) (!(J.any (Nat.beq i))) := ⟨fun hc h f => f.step h.ev (h.ne k.pr hc b (List.mem_singleton.2 rfl))⟩
instance : Sp w w' ls ls' Mo J (MapR kv ev w (fl ls) b l) (MapR kv ev w' (fl ls') b l) true := ⟨fun _ h k => k.step h.st⟩
instance [k : At ls B i] : Sp w w' ls ls' Mo J (OwnB e T w (fl ls) B a c xs) (OwnB e T w' (fl ls') B a c xs) (!(J.any (Nat.beq i))) := ⟨fun hc h f => f.step h.st h.ev (h.ne k.pr hc)⟩
instance {g j : Nat} {raw : List Value} [k : At ls (blk a) i] : Sp w w' ls ls' Mo J (OwnX e T w (fl ls) a g c xs j raw) (OwnX e T w' (fl ls') a g c xs j raw) (!(J.any (Nat.beq i))) := ⟨fun hc h f => f.step h.st h.ev (h.ne k.pr hc)⟩
instance {m : List (K × List α)} {sk : Option K} [p : Pln e] [k : At ls B i] : Sp w w' ls ls' Mo J (MapO kv e T w B b m sk) (MapO kv e T w' B b m sk) (!(J.any (Nat.beq i))) := ⟨fun hc h f => f.step p.pl h.ev (h.ne k.pr hc)⟩
instance {ad : Addr} {cs : List Value} : Sp w w' ls ls' Mo J (CellsAt w (fl ls) ad cs) (CellsAt w' (fl ls') ad cs) true := ⟨fun _ h k => k.step h.st⟩
instance {g j ci : Nat} {ai : Option Addr} [p : Pln e] [k : At ls B i] : Sp w w' ls ls' Mo J (RView e T w B a xss g j ai ci xs) (RView e T w' B a xss g j ai ci xs) (!(J.any (Nat.beq i))) := ⟨fun hc h f => f.step p.pl h.ev (h.ne k.pr hc)⟩
instance [BEq K] {k : K} {v : Value} : Sp w w' ls ls' [] J (MapK kv w b k v) (MapK kv w' b k v) true := ⟨fun _ h f => f.step h.ev nn⟩
instance : Sp w w' ls ls' Mo J (MS w ls) (MS w' ls') true := ⟨fun _ h _ => h.ms⟩
instance : Sp w w' ls ls' [] J (Ev M0 w0 w) (Ev M0 w0 w') true := ⟨fun _ h k => k.ext h.ev⟩
end
theorem and_l {a b : Bool} (h : (a && b) = true) : a = true := by cases a; exact h; rfl
theorem and_r {a b : Bool} (h : (a && b) = true) : b = true := by cases a; cases h; exact h
theorem E1 {w w' : World} {ls ls' : List (List Nat)} {Mo J : List Nat} {A0 B0 : Prop} {c0 : Bool} (x : Cx w w' ls ls' Mo J) (a0 : A0) [k0 : Sp w w' ls ls' Mo J A0 B0 c0] (h : c0 = true := by rfl) : B0 := k0.go h x a0
theorem E2 {w w' : World} {ls ls' : List (List Nat)} {Mo J : List Nat} {A0 A1 B0 B1 : Prop} {c0 c1 : Bool} (x : Cx w w' ls ls' Mo J) (a0 : A0) (a1 : A1) [k0 : Sp w w' ls ls' Mo J A0 B0 c0] [k1 : Sp w w' ls ls' Mo J A1 B1 c1] (h : (c0 && c1) = true := by rfl) : B0 ∧ B1 := ⟨k0.go (and_l h) x a0, E1 x a1 (h := and_r h)⟩
theorem E3 {w w' : World} {ls ls' : List (List Nat)} {Mo J : List Nat} {A0 A1 A2 B0 B1 B2 : Prop} {c0 c1 c2 : Bool} (x : Cx w w' ls ls' Mo J) (a0 : A0) (a1 : A1) (a2 : A2) [k0 : Sp w w' ls ls' Mo J A0 B0 c0] [k1 : Sp w w' ls ls' Mo J A1 B1 c1] [k2 : Sp w w' ls ls' Mo J A2 B2 c2] (h : (c0 && (c1 && c2)) = true := by rfl) : B0 ∧ B1 ∧ B2 := ⟨k0.go (and_l h) x a0, E2 x a1 a2 (h := and_r h)⟩
theorem E4 {w w' : World} {ls ls' : List (List Nat)} {Mo J : List Nat} {A0 A1 A2 A3 B0 B1 B2 B3 : Prop} {c0 c1 c2 c3 : Bool} (x : Cx w w' ls ls' Mo J) (a0 : A0) (a1 : A1) (a2 : A2) (a3 : A3) [k0 : Sp w w' ls ls' Mo J A0 B0 c0] [k1 : Sp w w' ls ls' Mo J A1 B1 c1] [k2 : Sp w w' ls ls' Mo J A2 B2 c2] [k3 : Sp w w' ls ls' Mo J A3 B3 c3] (h : (c0 && (c1 && (c2 && c3))) = true := by rfl) : B0 ∧ B1 ∧ B2 ∧ B3 := ⟨k0.go (and_l h) x a0, E3 x a1 a2 a3 (h := and_r h)⟩
theorem E5 {w w' : World} {ls ls' : List (List Nat)} {Mo J : List Nat} {A0 A1 A2 A3 A4 B0 B1 B2 B3 B4 : Prop} {c0 c1 c2 c3 c4 : Bool} (x : Cx w w' ls ls' Mo J) (a0 : A0) (a1 : A1) (a2 : A2) (a3 : A3) (a4 : A4) [k0 : Sp w w' ls ls' Mo J A0 B0 c0] [k1 : Sp w w' ls ls' Mo J A1 B1 c1] [k2 : Sp w w' ls ls' Mo J A2 B2 c2] [k3 : Sp w w' ls ls' Mo J A3 B3 c3] [k4 : Sp w w' ls ls' Mo J A4 B4 c4] (h : (c0 && (c1 && (c2 && (c3 && c4)))) = true := by rfl) : B0 ∧ B1 ∧ B2 ∧ B3 ∧ B4 := ⟨k0.go (and_l h) x a0, E4 x a1 a2 a3 a4 (h := and_r h)⟩
theorem E6 {w w' : World} {ls ls' : List (List Nat)} {Mo J : List Nat} {A0 A1 A2 A3 A4 A5 B0 B1 B2 B3 B4 B5 : Prop} {c0 c1 c2 c3 c4 c5 : Bool} (x : Cx w w' ls ls' Mo J) (a0 : A0) (a1 : A1) (a2 : A2) (a3 : A3) (a4 : A4) (a5 : A5) [k0 : Sp w w' ls ls' Mo J A0 B0 c0] [k1 : Sp w w' ls ls' Mo J A1 B1 c1] [k2 : Sp w w' ls ls' Mo J A2 B2 c2] [k3 : Sp w w' ls ls' Mo J A3 B3 c3] [k4 : Sp w w' ls ls' Mo J A4 B4 c4] [k5 : Sp w w' ls ls' Mo J A5 B5 c5] (h : (c0 && (c1 && (c2 && (c3 && (c4 && c5))))) = true := by rfl) : B0 ∧ B1 ∧ B2 ∧ B3 ∧ B4 ∧ B5 := ⟨k0.go (and_l h) x a0, E5 x a1 a2 a3 a4 a5 (h := and_r h)⟩
theorem E7 {w w' : World} {ls ls' : List (List Nat)} {Mo J : List Nat} {A0 A1 A2 A3 A4 A5 A6 B0 B1 B2 B3 B4 B5 B6 : Prop} {c0 c1 c2 c3 c4 c5 c6 : Bool} (x : Cx w w' ls ls' Mo J) (a0 : A0) (a1 : A1) (a2 : A2) (a3 : A3) (a4 : A4) (a5 : A5) (a6 : A6) [k0 : Sp w w' ls ls' Mo J A0 B0 c0] [k1 : Sp w w' ls ls' Mo J A1 B1 c1] [k2 : Sp w w' ls ls' Mo J A2 B2 c2] [k3 : Sp w w' ls ls' Mo J A3 B3 c3] [k4 : Sp w w' ls ls' Mo J A4 B4 c4] [k5 : Sp w w' ls ls' Mo J A5 B5 c5] [k6 : Sp w w' ls ls' Mo J A6 B6 c6] (h : (c0 && (c1 && (c2 && (c3 && (c4 && (c5 && c6)))))) = true := by rfl) : B0 ∧ B1 ∧ B2 ∧ B3 ∧ B4 ∧ B5 ∧ B6 := ⟨k0.go (and_l h) x a0, E6 x a1 a2 a3 a4 a5 a6 (h := and_r h)⟩
theorem E8 {w w' : World} {ls ls' : List (List Nat)} {Mo J : List Nat} {A0 A1 A2 A3 A4 A5 A6 A7 B0 B1 B2 B3 B4 B5 B6 B7 : Prop} {c0 c1 c2 c3 c4 c5 c6 c7 : Bool} (x : Cx w w' ls ls' Mo J) (a0 : A0) (a1 : A1) (a2 : A2) (a3 : A3) (a4 : A4) (a5 : A5) (a6 : A6) (a7 : A7) [k0 : Sp w w' ls ls' Mo J A0 B0 c0] [k1 : Sp w w' ls ls' Mo J A1 B1 c1] [k2 : Sp w w' ls ls' Mo J A2 B2 c2] [k3 : Sp w w' ls ls' Mo J A3 B3 c3] [k4 : Sp w w' ls ls' Mo J A4 B4 c4] [k5 : Sp w w' ls ls' Mo J A5 B5 c5] [k6 : Sp w w' ls ls' Mo J A6 B6 c6] [k7 : Sp w w' ls ls' Mo J A7 B7 c7] (h : (c0 && (c1 && (c2 && (c3 && (c4 && (c5 && (c6 && c7))))))) = true := by rfl) : B0 ∧ B1 ∧ B2 ∧ B3 ∧ B4 ∧ B5 ∧ B6 ∧ B7 := ⟨k0.go (and_l h) x a0, E7 x a1 a2 a3 a4 a5 a6 a7 (h := and_r h)⟩
theorem E9 {w w' : World} {ls ls' : List (List Nat)} {Mo J : List Nat} {A0 A1 A2 A3 A4 A5 A6 A7 A8 B0 B1 B2 B3 B4 B5 B6 B7 B8 : Prop} {c0 c1 c2 c3 c4 c5 c6 c7 c8 : Bool} (x : Cx w w' ls ls' Mo J) (a0 : A0) (a1 : A1) (a2 : A2) (a3 : A3) (a4 : A4) (a5 : A5) (a6 : A6) (a7 : A7) (a8 : A8) [k0 : Sp w w' ls ls' Mo J A0 B0 c0] [k1 : Sp w w' ls ls' Mo J A1 B1 c1] [k2 : Sp w w' ls ls' Mo J A2 B2 c2] [k3 : Sp w w' ls ls' Mo J A3 B3 c3] [k4 : Sp w w' ls ls' Mo J A4 B4 c4] [k5 : Sp w w' ls ls' Mo J A5 B5 c5] [k6 : Sp w w' ls ls' Mo J A6 B6 c6] [k7 : Sp w w' ls ls' Mo J A7 B7 c7] [k8 : Sp w w' ls ls' Mo J A8 B8 c8] (h : (c0 && (c1 && (c2 && (c3 && (c4 && (c5 && (c6 && (c7 && c8)))))))) = true := by rfl) : B0 ∧ B1 ∧ B2 ∧ B3 ∧ B4 ∧ B5 ∧ B6 ∧ B7 ∧ B8 := ⟨k0.go (and_l h) x a0, E8 x a1 a2 a3 a4 a5 a6 a7 a8 (h := and_r h)⟩
theorem E10 {w w' : World} {ls ls' : List (List Nat)} {Mo J : List Nat} {A0 A1 A2 A3 A4 A5 A6 A7 A8 A9 B0 B1 B2 B3 B4 B5 B6 B7 B8 B9 : Prop} {c0 c1 c2 c3 c4 c5 c6 c7 c8 c9 : Bool} (x : Cx w w' ls ls' Mo J) (a0 : A0) (a1 : A1) (a2 : A2) (a3 : A3) (a4 : A4) (a5 : A5) (a6 : A6) (a7 : A7) (a8 : A8) (a9 : A9) [k0 : Sp w w' ls ls' Mo J A0 B0 c0] [k1 : Sp w w' ls ls' Mo J A1 B1 c1] [k2 : Sp w w' ls ls' Mo J A2 B2 c2] [k3 : Sp w w' ls ls' Mo J A3 B3 c3] [k4 : Sp w w' ls ls' Mo J A4 B4 c4] [k5 : Sp w w' ls ls' Mo J A5 B5 c5] [k6 : Sp w w' ls ls' Mo J A6 B6 c6] [k7 : Sp w w' ls ls' Mo J A7 B7 c7] [k8 : Sp w w' ls ls' Mo J A8 B8 c8] [k9 : Sp w w' ls ls' Mo J A9 B9 c9] (h : (c0 && (c1 && (c2 && (c3 && (c4 && (c5 && (c6 && (c7 && (c8 && c9))))))))) = true := by rfl) : B0 ∧ B1 ∧ B2 ∧ B3 ∧ B4 ∧ B5 ∧ B6 ∧ B7 ∧ B8 ∧ B9 := ⟨k0.go (and_l h) x a0, E9 x a1 a2 a3 a4 a5 a6 a7 a8 a9 (h := and_r h)⟩
theorem E11 {w w' : World} {ls ls' : List (List Nat)} {Mo J : List Nat} {A0 A1 A2 A3 A4 A5 A6 A7 A8 A9 A10 B0 B1 B2 B3 B4 B5 B6 B7 B8 B9 B10 : Prop} {c0 c1 c2 c3 c4 c5 c6 c7 c8 c9 c10 : Bool} (x : Cx w w' ls ls' Mo J) (a0 : A0) (a1 : A1) (a2 : A2) (a3 : A3) (a4 : A4) (a5 : A5) (a6 : A6) (a7 : A7) (a8 : A8) (a9 : A9) (a10 : A10) [k0 : Sp w w' ls ls' Mo J A0 B0 c0] [k1 : Sp w w' ls ls' Mo J A1 B1 c1] [k2 : Sp w w' ls ls' Mo J A2 B2 c2] [k3 : Sp w w' ls ls' Mo J A3 B3 c3] [k4 : Sp w w' ls ls' Mo J A4 B4 c4] [k5 : Sp w w' ls ls' Mo J A5 B5 c5] [k6 : Sp w w' ls ls' Mo J A6 B6 c6] [k7 : Sp w w' ls ls' Mo J A7 B7 c7] [k8 : Sp w w' ls ls' Mo J A8 B8 c8] [k9 : Sp w w' ls ls' Mo J A9 B9 c9] [k10 : Sp w w' ls ls' Mo J A10 B10 c10] (h : (c0 && (c1 && (c2 && (c3 && (c4 && (c5 && (c6 && (c7 && (c8 && (c9 && c10)))))))))) = true := by rfl) : B0 ∧ B1 ∧ B2 ∧ B3 ∧ B4 ∧ B5 ∧ B6 ∧ B7 ∧ B8 ∧ B9 ∧ B10 := ⟨k0.go (and_l h) x a0, E10 x a1 a2 a3 a4 a5 a6 a7 a8 a9 a10 (h := and_r h)⟩
theorem Ev.th {M A : List Nat} {w v u : World} {ls : List (List Nat)} (h : Ev M w v) (k : Ev A v u) (f : FR w.heap.size ls) (i : Nat) (hi : ls[i]? = some A := by rfl) : Ev M w u := h.then k (fun b hb => .inr (f.at i hi b hb))
theorem Ev.tv {M A : List Nat} {w v u : World} (h : Ev M w v) (k : Ev A v u) (hm : ∀ b ∈ A, b ∈ M := by intro b hb; simpa using hb) : Ev M w u := h.then k (fun b hb => .inl (hm b hb))
theorem FR.cc {w : World} {M : List Nat} {w0 : World} {res fs N : List (List Nat)} (h2 : FR w0.heap.size fs) (hs : Ev M w0 w) (h1 : FR w.heap.size res) [k : App res fs N] : FR w0.heap.size N := by
  have k := k.pr
  subst k
  exact h2.join h1 hs.size
theorem FR.ux {w0 w w' : World} {M A B : List Nat} {ls r : List (List Nat)} (h : FR w0.heap.size ls) (j : Nat) (hs : Ev M w0 w) (hn : ∀ b ∈ B, (b ∈ A ∨ w.heap.size ≤ b) ∧ b < w'.heap.size) [k : Sat ls j B r] (hj : ls[j]? = some A := by rfl) : FR w0.heap.size r := by
  have k := k.pr
  subst k
  exact h.upd j hj hs.size (fun b hb => (hn b hb).1)
theorem FR.px {C : Nat} {ls r : List (List Nat)} (h : FR C ls) (l : List Nat) [k : Pks ls l r] : FR C r := h.pk l r k.pr
theorem FR.pn {C : Nat} {ls : List (List Nat)} (h : FR C ls) : FR C (blk none :: ls) := h.push (fun _ h => by cases h)
theorem OwnS.pl {α : Type} {e : Enc α} [k : Pln e] {T : Nat} {w : World} {M : List Nat} {ls : List (List Nat)} {a : Option Addr} {c : Nat} {xs : List α} (h : OwnS e T w M a c xs) (m : MS w ls) : OwnS e T w (fl ls) a c xs := OwnS.plain k.pl h
theorem MS.one (w : World) : MS w [[]] := ⟨List.pairwise_singleton _ _, fun l hl b hb => by simp only [List.mem_singleton] at hl; subst hl; cases hb⟩
theorem Ol {α : Type} {e : Enc α} [k : Pln e] {b : Nat} {cs : Array Value} {T : TypeId} {w w' : World} (hq : b = w.heap.size) (hb : w'.heap[b]? = some (.cells cs T (0, 0))) (n : Nat) (xs : List α)
    (h : cs.toList = xs.flatMap k.cf := by rfl) (hn0 : (Nat.ble n 4294967296, xs.length) = (true, n) := by rfl) : ∃ a : Option Addr, a = some ⟨b, 0, none⟩ ∧ (∀ M, OwnS e T w' M a n xs) ∧ ∀ x ∈ blk a, w.heap.size ≤ x ∧ x < w'.heap.size := by
  have hl : ∀ y : α, (k.cf y).length = e.n := fun y => e.len (k.ok w [] y)
  have hx := congrArg Prod.snd hn0
  have hn := Nat.le_of_ble_eq_true (congrArg Prod.fst hn0)
  clear hn0
  simp only at hx hn
  refine ⟨_, rfl, fun M => own_of_box hb (by unfold maxLen; omega) hx ?_ (fun i x hx => ⟨k.cf x, k.ok _ _ _, fun j v hv => ?_⟩), fun x hx => ?_⟩
  · rw [← Array.length_toList, h, ← hx]
    clear h hn hx
    induction xs with
    | nil => simp
    | cons y ys ih => rw [List.flatMap_cons, List.length_append, hl, ih, List.length_cons, Nat.succ_mul]; omega
  · rw [← Array.getElem?_toList, h]
    clear h hn
    rename_i hx0
    clear hx0
    induction xs generalizing i with
    | nil => cases hx
    | cons y ys ih =>
      rw [List.flatMap_cons]
      cases i with
      | zero =>
        simp only [List.getElem?_cons_zero, Option.some.injEq] at hx
        subst hx
        rw [Nat.zero_mul, Nat.zero_add, List.getElem?_append_left (List.getElem?_eq_some_iff.1 hv).1]
        exact hv
      | succ i =>
        rw [List.getElem?_append_right (by rw [hl, Nat.succ_mul]; omega), hl, show (i + 1) * e.n + j - e.n = i * e.n + j by rw [Nat.succ_mul]; omega]
        exact ih i (by simpa using hx)
  · simp only [blk, List.mem_singleton] at hx
    subst hx
    exact ⟨Nat.le_of_eq hq.symm, lt_of_heap hb⟩
def El (P : Program) (t : Nat) {α : Type} (e : Enc α) (w : World) (a : Option Addr) (c : Nat) (xs : List α) : Prop :=
  ∀ {i : Int} {x : α}, idx xs i = some x → ∃ ad cs M M', Reads P [] (Instr.indexAt t (.slice a xs.length c) (.int .i64 i)) w (.pointer (some ad)) ∧ CellsAt w M ad cs ∧ e.R w M' cs x
theorem SlR.el {P : Program} {t T : Nat} {α : Type} {e : Enc α} {w : World} {M : List Nat} {a : Option Addr} {c : Nat} {xs : List α} (h : SlR e w M a c xs) (ht : IsSlice P t T e.n) : El P t e w a c xs := fun {i x} hx =>
  have ⟨ad, cs, h1, h2, h3⟩ := reads_index ht h hx
  ⟨ad, cs, M, M, h1, h2, h3⟩
theorem OwnS.el {P : Program} {t T : Nat} {α : Type} {e : Enc α} {w : World} {M : List Nat} {a : Option Addr} {c : Nat} {xs : List α} (h : OwnS e T w M a c xs) (ht : IsSlice P t T e.n) : El P t e w a c xs := fun {i x} hx =>
  have ⟨g, cs, _, h1, h2, h3⟩ := own_index ht h hx
  ⟨_, cs, [], M, h1, h2, h3⟩
section
variable {P : Program} {all : List Oper} {M : List Nat} {Q : Fr → World → Prop} {dst d2 d3 : Option Tmp} {ty ty2 ty3 : TypeId} {pos pos2 pos3 : String} {after after2 after3 : Array Edge} {guard g2 g3 : Option (Nat × Bool)} {al al2 al3 : Bool} {l l' : List (Oper × Bool)} {fr : Fr} {w : World} {t t2 t3 : TypeId} {x y x2 x3 : Operand}
  {α : Type} {e : Enc α} [k : Pln e] {a : Option Addr} {c : Nat} {xs : List α} {i : Int} {X : α}
theorem Xz {args : Array Operand} {te n m : Nat} (ht : IsSlice P t te n) (h1 : (l', wantedB all ⟨dst, .call ⟨.builtin .len, args, #[t]⟩, ty, pos, after, guard⟩ fr, args.toList.map (ev fr)) = ((⟨dst, .call ⟨.builtin .len, args, #[t]⟩, ty, pos, after, guard⟩, al) :: l, some true, [.slice a m c]))
    (h : vcX P all M Q l (puto fr dst (.int .i64 m)) w) : vcX P all M Q l' fr w := x_len (.int .i64 m) (congrArg Prod.fst h1) (congrArg (fun p => p.2.1) h1) (congrArg (fun p => p.2.2) h1) (reads_len ht _ _ _ _ _) h
theorem Xq {f off : Nat} {v : Value} (hs : El P t e w a c xs) (hf : IsField P t2 f off) (hc : IsCell P t3) (hx : idx xs i = some X) (hv : (k.cf X)[off]? = some v)
    (h1 : ∀ ad : Addr, (l', wantedB all ⟨dst, .indexAddr t x y, ty, pos, after, guard⟩ fr, ev fr x, ev fr y, wantedB all ⟨d2, .fieldAddr t2 x2 f, ty2, pos2, after2, g2⟩ (puto fr dst (.pointer (some ad))), ev (puto fr dst (.pointer (some ad))) x2,
        wantedB all ⟨d3, .load t3 x3, ty3, pos3, after3, g3⟩ (puto (puto fr dst (.pointer (some ad))) d2 (.pointer (some (ad.add off)))), ev (puto (puto fr dst (.pointer (some ad))) d2 (.pointer (some (ad.add off)))) x3, qm al M, qm al3 M)
      = ((⟨dst, .indexAddr t x y, ty, pos, after, guard⟩, al) :: (⟨d2, .fieldAddr t2 x2 f, ty2, pos2, after2, g2⟩, al2) :: (⟨d3, .load t3 x3, ty3, pos3, after3, g3⟩, al3) :: l, some true, .slice a xs.length c, .int .i64 i, some true, .pointer (some ad), some true, .pointer (some (ad.add off)), [], []))
    (h : ∀ ad : Addr, vcX P all M Q l (puto (puto (puto fr dst (.pointer (some ad))) d2 (.pointer (some (ad.add off)))) d3 v) w) : vcX P all M Q l' fr w := by
  obtain ⟨ad, cs, M1, M2, hr, hcs, hR⟩ := hs hx
  have h1 := h1 ad
  simp only [Prod.mk.injEq] at h1
  obtain ⟨q1, q2, q3, q4, q5, q6, q7, q8, q9, q10⟩ := h1
  have hcf := k.un hR
  subst hcf
  exact x_indexAddr _ q1 q2 q3 q4 (by rw [q9]; exact hr) (x_fieldAddr _ rfl q5 q6 (reads_field hf ad) (x_load _ rfl q7 q8 (by rw [q10]; exact reads_cell hc hcs (fun _ h => by cases h) off v hv) (h ad)))
theorem Xq0 {v : Value} (hs : El P t e w a c xs) (hc : IsCell P t3) (hx : idx xs i = some X) (hv : (k.cf X)[0]? = some v)
    (h1 : ∀ ad : Addr, (l', wantedB all ⟨dst, .indexAddr t x y, ty, pos, after, guard⟩ fr, ev fr x, ev fr y, wantedB all ⟨d3, .load t3 x3, ty3, pos3, after3, g3⟩ (puto fr dst (.pointer (some ad))), ev (puto fr dst (.pointer (some ad))) x3, qm al M, qm al3 M)
      = ((⟨dst, .indexAddr t x y, ty, pos, after, guard⟩, al) :: (⟨d3, .load t3 x3, ty3, pos3, after3, g3⟩, al3) :: l, some true, .slice a xs.length c, .int .i64 i, some true, .pointer (some ad), [], []))
    (h : ∀ ad : Addr, vcX P all M Q l (puto (puto fr dst (.pointer (some ad))) d3 v) w) : vcX P all M Q l' fr w := by
  obtain ⟨ad, cs, M1, M2, hr, hcs, hR⟩ := hs hx
  have h1 := h1 ad
  simp only [Prod.mk.injEq] at h1
  obtain ⟨q1, q2, q3, q4, q5, q6, q7, q8⟩ := h1
  have hcf := k.un hR
  subst hcf
  have hz := reads_cell hc hcs (Mo := []) (fun _ h => by cases h) 0 v hv
  rw [Addr.add, if_pos rfl] at hz
  exact x_indexAddr _ q1 q2 q3 q4 (by rw [q7]; exact hr) (x_load _ rfl q5 q6 (by rw [q8]; exact hz) (h ad))
theorem Xqa (vs : List Value) (hs : El P t e w a c xs) (hc : IsAgg P t3 vs.length) (hx : idx xs i = some X) (hv : k.cf X = vs)
    (h1 : ∀ ad : Addr, (l', wantedB all ⟨dst, .indexAddr t x y, ty, pos, after, guard⟩ fr, ev fr x, ev fr y, wantedB all ⟨d3, .load t3 x3, ty3, pos3, after3, g3⟩ (puto fr dst (.pointer (some ad))), ev (puto fr dst (.pointer (some ad))) x3, qm al M, qm al3 M)
      = ((⟨dst, .indexAddr t x y, ty, pos, after, guard⟩, al) :: (⟨d3, .load t3 x3, ty3, pos3, after3, g3⟩, al3) :: l, some true, .slice a xs.length c, .int .i64 i, some true, .pointer (some ad), [], []))
    (h : ∀ ad : Addr, vcX P all M Q l (puto (puto fr dst (.pointer (some ad))) d3 (.agg vs.toArray)) w) : vcX P all M Q l' fr w := by
  subst hv
  obtain ⟨ad, cs, M1, M2, hr, hcs, hR⟩ := hs hx
  have h1 := h1 ad
  simp only [Prod.mk.injEq] at h1
  obtain ⟨q1, q2, q3, q4, q5, q6, q7, q8⟩ := h1
  have hcf := k.un hR
  subst hcf
  exact x_indexAddr _ q1 q2 q3 q4 (by rw [q7]; exact hr) (x_load _ rfl q5 q6 (by rw [q8]; exact reads_agg hc hcs (fun _ h => by cases h)) (h ad))
end
theorem Rz {P : Program} {d : Nat} {R : Value → World → Prop} {fr : Fr} {w : World} (v : Value) (hv : fr d = v) (h : R v w) : retK P [.tmp d] R .ret fr w := r_ret (r_vals [v] ⟨hv, trivial⟩ h)
section
variable {P : Program} {all : List Oper} {M : List Nat} {Q : Fr → World → Prop} {dst : Option Tmp} {ty : TypeId} {pos : String} {after : Array Edge} {guard : Option (Nat × Bool)} {l l' : List (Oper × Bool)} {fr : Fr} {w w' : World} {t : TypeId}
theorem Xv {fo : Operand} {args : Array Operand} {ats : Array TypeId} {g : FuncId} {vs : List Value} {K : Value → World → Prop} (hc : CallVC P g vs w K)
    (h1 : (l', wantedB all ⟨dst, .call ⟨.value fo, args, ats⟩, ty, pos, after, guard⟩ fr, ev fr fo, args.toList.map (ev fr)) = ((⟨dst, .call ⟨.value fo, args, ats⟩, ty, pos, after, guard⟩, true) :: l, some true, .func (.func g) #[] #[], vs))
    (h : ∀ v w', K v w' → vcX P all M Q l (puto fr dst v) w') : vcX P all M Q l' fr w :=
  x_call g #[] #[] vs K (congrArg Prod.fst h1) (congrArg (fun p => p.2.1) h1) (congrArg (fun p => p.2.2.1) h1) (by have := congrArg (fun p => p.2.2.2) h1; simpa using this) hc (fun v w' hk => inl1 (h v w' hk))
theorem Rn {s : Sem Value} {v : Value} (h : s.run P w = .ok v w') : ((do pure (.value (← s)) : Sem Next)).run P w = .ok (.value v) w' := run_value s v w w' h
theorem Xx {b : Builtin} {args : Array Operand} {ats : Array TypeId} {vs : List Value} {v : Value}
    (h1 : (l', wantedB all ⟨dst, .call ⟨.builtin b, args, ats⟩, ty, pos, after, guard⟩ fr, isQuiet (.call ⟨.builtin b, args, ats⟩), args.toList.map (ev fr)) = ((⟨dst, .call ⟨.builtin b, args, ats⟩, ty, pos, after, guard⟩, true) :: l, some true, false, vs))
    (hr : (builtin b ats ty (args.map fun | .const _ => true | _ => false) vs.toArray).run P w = .ok (.value v) w') (h : vcX P all M Q l (puto fr dst v) w') : vcX P all M Q l' fr w :=
  x_builtin v w' (congrArg Prod.fst h1) (congrArg (fun p => p.2.1) h1) (congrArg (fun p => p.2.2.1) h1) (congrArg (fun p => p.2.2.2) h1) hr (inl1 h)
theorem Xh {n : Nat} {ps : Array (Nat × Operand)} {vs : List (Nat × Value)} (cs : Array Value) (e : TypeId)
    (h1 : (l', wantedB all ⟨dst, .buildSlice t n ps, ty, pos, after, guard⟩ fr, (ps.toList.map fun (i, x) => (i, ev fr x))) = ((⟨dst, .buildSlice t n ps, ty, pos, after, guard⟩, true) :: l, some true, vs))
    (h : ∀ b w', b = w.heap.size → w'.heap[b]? = some (.cells cs e (0, 0)) → Ev [] w w' → vcX P all M Q l (puto fr dst (.slice (some ⟨b, 0, none⟩) n n)) w')
    (hr : (Instr.buildSlice t n vs.toArray).run P w = .ok (.slice (some ⟨w.heap.size, 0, none⟩) n n) (w.alloc (.cells cs e (0, 0))) := by kernel_rfl) : vcX P all M Q l' fr w :=
  x_buildSlice cs e (congrArg Prod.fst h1) (congrArg (fun p => p.2.1) h1) (congrArg (fun p => p.2.2) h1) hr (fun b w' a c d _ => inl1 (h b w' a c d))
theorem Xj (cs : Array Value) (h1 : (l', wantedB all ⟨dst, .alloc t, ty, pos, after, guard⟩ fr) = ((⟨dst, .alloc t, ty, pos, after, guard⟩, true) :: l, some true))
    (h : ∀ b w', b = w.heap.size → w'.heap[b]? = some (.cells cs t (0, 0)) → Ev [] w w' → vcX P all M Q l (puto fr dst (.pointer (some ⟨b, 0, none⟩))) w') (hz : (zeroValue t).run P w = .ok (.agg cs) w := by kernel_rfl) : vcX P all M Q l' fr w :=
  x_alloc (congrArg Prod.fst h1) (congrArg Prod.snd h1) hz (fun b w' a c d _ => inl1 (h b w' a c d))
theorem Xo {x : Operand} {cs : Array Value} (h1 : (l', wantedB all ⟨dst, .box t x, ty, pos, after, guard⟩ fr, ev fr x) = ((⟨dst, .box t x, ty, pos, after, guard⟩, true) :: l, some true, .agg cs))
    (h : ∀ b w', b = w.heap.size → w'.heap[b]? = some (.cells cs t (0, 0)) → Ev [] w w' → vcX P all M Q l (puto fr dst (.pointer (some ⟨b, 0, none⟩))) w') : vcX P all M Q l' fr w :=
  x_box (xv := .agg cs) (congrArg Prod.fst h1) (congrArg (fun p => p.2.1) h1) (congrArg (fun p => p.2.2) h1) (fun b w' a c d _ => inl1 (h b w' a c d))
theorem Xp {x y : Operand} {xv yv : Value} (hr : (Instr.storeAt t xv yv).run P w = .ok () w') (h1 : (l', wantedB all ⟨dst, .store t x y, ty, pos, after, guard⟩ fr, ev fr x, ev fr y) = ((⟨dst, .store t x y, ty, pos, after, guard⟩, true) :: l, some true, xv, yv))
    (h : vcX P all M Q l (puto fr dst undef) w') : vcX P all M Q l' fr w := x_store w' (congrArg Prod.fst h1) (congrArg (fun p => p.2.1) h1) (congrArg (fun p => p.2.2.1) h1) (congrArg (fun p => p.2.2.2) h1) hr (inl1 h)
theorem Xg {ps : Array (Nat × Operand)} {vs : List (Nat × Value)} {al : Bool} (v : Value) (h1 : (l', wantedB all ⟨dst, .build t ps, ty, pos, after, guard⟩ fr, (ps.toList.map fun (i, x) => (i, ev fr x))) = ((⟨dst, .build t ps, ty, pos, after, guard⟩, al) :: l, some true, vs))
    (h : vcX P all M Q l (puto fr dst v) w) (hr : Reads P (qm al M) (Instr.build t vs.toArray) w v := by intro _ _; kernel_rfl) : vcX P all M Q l' fr w := x_build v (congrArg Prod.fst h1) (congrArg (fun p => p.2.1) h1) (congrArg (fun p => p.2.2) h1) hr h
end
theorem Cw {P : Program} (hmx : P.follows .mixedOrders = true) {f : FuncId} {fn : Func} {c : Code} {rs : List ResultVar} {args : List Value} {w : World} {R : Value → World → Prop}
    (hf : P.funcs[f]? = some fn) (hb : fn.body = some c) (hrs : fn.results = rs.toArray) (hn : Nat.ble args.length fn.ntmps = true) (h : vcC P c (retK P rs R) (argsFr args) w)
    (hname : (fn.name == "runtime.NumGoroutine") = false := by kernel_rfl) (hok : okC fn.ntmps c = true := by kernel_rfl) : CallVC P f args w R := calls_vc hmx hf hname hb hrs hok hn h
class Vst (l : List Value) (k : Nat) (v : Value) (r : outParam (List Value)) : Prop where
  pr : l.set k v = r
instance Vst.s {x v : Value} {l r : List Value} {k : Nat} [h : Vst l k v r] : Vst (x :: l) (k + 1) v (x :: r) := ⟨by rw [List.set_cons_succ, h.pr]⟩
instance Vst.z {x v : Value} {l : List Value} : Vst (x :: l) 0 v (v :: l) := ⟨rfl⟩
theorem Sx {P : Program} {t T : TypeId} {w : World} {b : Nat} {l r : List Value} (k : Nat) (v : Value) (ht : IsCell P t) (h : w.heap[b]? = some (.cells l.toArray T (0, 0))) [s : Vst l k v r] (hk : (Nat.blt k l.length, v.oneCell') = (true, true) := by rfl) :
    ∃ w', (Instr.storeAt t (.pointer (some ⟨b, k, none⟩)) v).run P w = .ok () w' ∧ w'.heap[b]? = some (.cells r.toArray T (0, 0)) ∧ Ev [b] w w' :=
  store_box k v r.toArray ht h (by simpa using congrArg Prod.fst hk) (congrArg Prod.snd hk) (by rw [← s.pr]; simp)
def Un (a : Nat) : Nat → List (Nat × Value)
  | 0 => []
  | n + 1 => (a, undef) :: Un (a + 1) n
theorem NP.ux {M A B : List Nat} {w0 w w' : World} {M0 : List Nat} {ls r : List (List Nat)} (h : NP M w0.heap.size ls) (j : Nat) (hs : Ev M0 w0 w) (hn : ∀ b ∈ B, (b ∈ A ∨ w.heap.size ≤ b) ∧ b < w'.heap.size) [k : Sat ls j B r] (hj : ls[j]? = some A := by rfl) : NP M w0.heap.size r := by
  have k := k.pr
  subst k
  intro l hl b hb
  rcases List.mem_or_eq_of_mem_set hl with h1 | h1
  · exact h l h1 b hb
  · subst h1
    rcases (hn b hb).1 with h2 | h2
    · exact h A (List.mem_of_getElem? hj) b h2
    · exact .inr (Nat.le_trans hs.size h2)
end Go.V
