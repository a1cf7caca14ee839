
/- What the run by values gives, the model gives: values, memory. No condition. -/
import Derived.Test.YtlgdhajakblkaaaGreatDoorE
import Derived.Deep.AppendSrc
set_option linter.unusedVariables false
set_option linter.unusedSimpArgs false
namespace Go.E
open Go Go.V
def eT : (t : Ty) → Enc t.den
  | .int k => eInt k
  | .bool => eBool
  | .str => eStr
  | .sl t => eSl (eT t)
  | .unit => eUnit
  | .pair a b => eProd (eT a) (eT b)
structure Ren where
  m : Nat → Option (Nat × Nat × Nat)
  ov : Nat → Option (Option Addr × Nat × Nat)
  zw : World
  zM : List Nat
instance : CoeFun Ren (fun _ => Nat → Option (Nat × Nat × Nat)) := ⟨Ren.m⟩
structure Le (p q : Ren) : Prop where
  m : ∀ b x, p b = some x → q b = some x
  o : ∀ b x, p.ov b = some x → q.ov b = some x
  z : Stp p.zM p.zw q.zM q.zw
theorem Stp.trans {M M' M'' : List Nat} {w w' w'' : World} (h : Stp M w M' w') (k : Stp M' w' M'' w'') : Stp M w M'' w'' :=
  ⟨⟨k.ev.os.trans h.ev.os, k.ev.tape.trans h.ev.tape, k.ev.output.trans h.ev.output, Nat.le_trans h.ev.size k.ev.size, fun b hb hm => by
    rw [k.ev.block b (Nat.lt_of_lt_of_le hb h.ev.size) fun h' => (h.new b h').elim hm fun e => by omega]
    exact h.ev.block b hb hm⟩, fun b hb => (k.new b hb).elim (h.new b) fun e => .inr (Nat.le_trans h.ev.size e)⟩
theorem Le.refl (p : Ren) : Le p p := ⟨fun _ _ h => h, fun _ _ h => h, Stp.sub _ fun _ h => h⟩
theorem Le.trans {p q r : Ren} (h : Le p q) (k : Le q r) : Le p r := ⟨fun b x hx => k.m b x (h.m b x hx), fun b x hx => k.o b x (h.o b x hx), Stp.trans h.z k.z⟩
def RC (off n len cap : Nat) : GC → Prop
  | .kn c => cap = c ∧ len ≤ c
  | .op es => off + cap * es = n ∧ len ≤ cap
mutual
def RV (p : Ren) : GV → Value → Prop
  | .bool b, v => v = .bool b
  | .int k n, v => v = .int k n
  | .str s, v => v = Vs s
  | .nilp, v => v = .pointer none
  | .ptr b off, v => ∃ r base n, p b = some (r, base, n) ∧ v = .pointer (some ⟨r, base + off, none⟩)
  | .nils, v => v = .slice none 0 0
  | .sl b off len c, v => ∃ r base n cap, p b = some (r, base, n) ∧ v = .slice (some ⟨r, base + off, none⟩) len cap ∧ RC off n len cap c
  | .sle, v => ∃ a c, v = .slice (some a) 0 c
  | .nilm, v => v = .map none
  | .map b, v => ∃ r, p b = some (r, 0, 0) ∧ v = .map (some r)
  | .nilf, v => v = .nilFunc
  | .func f a c, v => ∃ va vc, v = .func (.func f) va.toArray vc.toArray ∧ RVs p a va ∧ RVs p c vc
  | .agg l, v => ∃ vs, v = .agg vs.toArray ∧ RVs p l vs
  | .tup l, v => ∃ vs, v = .tuple vs.toArray ∧ RVs p l vs
  | .ro t xs, v => (eT (.sl t)).R p.zw p.zM [v] xs
  | .rop l off, v => ∃ ad vs, v = .pointer (some ⟨ad.block, ad.off + off, none⟩) ∧ CellsAt p.zw p.zM ad vs ∧ RVs p l vs
  | .own b, v => ∃ a n c, v = .slice a n c ∧ p.ov b = some (a, n, c)
  | .elp b t i off x, v => ∃ g n c, p.ov b = some (some ⟨g, 0, none⟩, n, c) ∧ i < n ∧ v = .pointer (some ⟨g, i * t.sz + off, none⟩)
def RVs (p : Ren) : List GV → List Value → Prop
  | [], [] => True
  | g :: l, v :: vs => RV p g v ∧ RVs p l vs
  | [], _ :: _ => False
  | _ :: _, [] => False
end
mutual
theorem RV.mono {p q : Ren} (h : Le p q) : ∀ (g : GV) (v : Value), RV p g v → RV q g v
  | .bool _, _, r => r
  | .int _ _, _, r => r
  | .str _, _, r => r
  | .nilp, _, r => r
  | .ptr b off, _, ⟨r, base, n, h1, h2⟩ => ⟨r, base, n, h.m _ _ h1, h2⟩
  | .nils, _, r => r
  | .sl b off len c, _, ⟨r, base, n, cap, h1, h2⟩ => ⟨r, base, n, cap, h.m _ _ h1, h2⟩
  | .sle, _, r => r
  | .nilm, _, r => r
  | .map b, _, ⟨r, h1, h2⟩ => ⟨r, h.m _ _ h1, h2⟩
  | .nilf, _, r => r
  | .func f a c, _, ⟨va, vc, h1, h2, h3⟩ => ⟨va, vc, h1, RVs.mono h a va h2, RVs.mono h c vc h3⟩
  | .agg l, _, ⟨vs, h1, h2⟩ => ⟨vs, h1, RVs.mono h l vs h2⟩
  | .tup l, _, ⟨vs, h1, h2⟩ => ⟨vs, h1, RVs.mono h l vs h2⟩
  | .ro t xs, _, r => (eT (.sl t)).step r h.z
  | .rop l off, _, ⟨ad, vs, h1, h2, h3⟩ => ⟨ad, vs, h1, h2.step h.z, RVs.mono h l vs h3⟩
  | .own b, _, ⟨a, n, c, h1, h2⟩ => ⟨a, n, c, h1, h.o _ _ h2⟩
  | .elp b t i off x, _, ⟨g, n, c, h1, h2⟩ => ⟨g, n, c, h.o _ _ h1, h2⟩
theorem RVs.mono {p q : Ren} (h : Le p q) : ∀ (l : List GV) (vs : List Value), RVs p l vs → RVs q l vs
  | [], [], _ => trivial
  | g :: l, v :: vs, ⟨h1, h2⟩ => ⟨RV.mono h g v h1, RVs.mono h l vs h2⟩
  | [], _ :: _, h => h.elim
  | _ :: _, [], h => h.elim
end
theorem RVs.length {p : Ren} : ∀ {l : List GV} {vs : List Value}, RVs p l vs → vs.length = l.length
  | [], [], _ => rfl
  | g :: l, v :: vs, ⟨h1, h2⟩ => by simp [RVs.length h2]
  | [], _ :: _, h => h.elim
  | _ :: _, [], h => h.elim
theorem RVs.get {p : Ren} : ∀ {l : List GV} {vs : List Value} {i : Nat} {g : GV}, RVs p l vs → l[i]? = some g → ∃ v, vs[i]? = some v ∧ RV p g v
  | g :: l, v :: vs, 0, _, ⟨h1, h2⟩, h => by cases h; exact ⟨v, rfl, h1⟩
  | g :: l, v :: vs, i + 1, _, ⟨h1, h2⟩, h => RVs.get (l := l) (vs := vs) (i := i) h2 (by simpa using h)
  | [], [], _, _, _, h => by cases h
  | [], _ :: _, _, _, h, _ => h.elim
  | _ :: _, [], _, _, h, _ => h.elim
theorem RVs.drop {p : Ren} : ∀ {l : List GV} {vs : List Value} (n : Nat), RVs p l vs → RVs p (l.drop n) (vs.drop n)
  | l, vs, 0, h => h
  | g :: l, v :: vs, n + 1, ⟨h1, h2⟩ => RVs.drop n h2
  | [], [], n + 1, _ => trivial
  | [], _ :: _, _, h => h.elim
  | _ :: _, [], _, h => h.elim
theorem RVs.take {p : Ren} : ∀ {l : List GV} {vs : List Value} (n : Nat), RVs p l vs → RVs p (l.take n) (vs.take n)
  | l, vs, 0, h => trivial
  | g :: l, v :: vs, n + 1, ⟨h1, h2⟩ => ⟨h1, RVs.take n h2⟩
  | [], [], n + 1, _ => trivial
  | [], _ :: _, _, h => h.elim
  | _ :: _, [], _, h => h.elim
theorem RVs.append {p : Ren} : ∀ {l m : List GV} {vs us : List Value}, RVs p l vs → RVs p m us → RVs p (l ++ m) (vs ++ us)
  | [], m, [], us, _, h => h
  | g :: l, m, v :: vs, us, ⟨h1, h2⟩, h => ⟨h1, RVs.append h2 h⟩
  | [], _, _ :: _, _, h, _ => h.elim
  | _ :: _, _, [], _, h, _ => h.elim
theorem RVs.rep {p : Ren} {z : List GV} {zs : List Value} (h : RVs p z zs) : ∀ n, ∃ us, RVs p (rep n z) us ∧ us = (List.replicate n zs).flatten
  | 0 => ⟨[], trivial, rfl⟩
  | n + 1 => let ⟨us, h1, h2⟩ := RVs.rep h n; ⟨zs ++ us, RVs.append h h1, by rw [h2, List.replicate_succ, List.flatten_cons]⟩
theorem RV.ats {p : Ren} {g : GV} {v : Value} (h : RV p g v) : RVs p g.ats v.cells.toList := by
  cases g <;> simp only [RV] at h <;> simp only [GV.ats]
  case agg l => obtain ⟨vs, rfl, h⟩ := h; simpa [Value.cells] using h
  case bool => subst h; exact ⟨rfl, trivial⟩
  case int => subst h; exact ⟨rfl, trivial⟩
  case str => subst h; exact ⟨rfl, trivial⟩
  case nilp => subst h; exact ⟨rfl, trivial⟩
  case ptr => obtain ⟨r, base, n, h1, rfl⟩ := h; exact ⟨⟨r, base, n, h1, rfl⟩, trivial⟩
  case nils => subst h; exact ⟨rfl, trivial⟩
  case sl => obtain ⟨r, base, n, cap, h1, rfl, h2⟩ := h; exact ⟨⟨r, base, n, cap, h1, rfl, h2⟩, trivial⟩
  case sle => obtain ⟨a, c, rfl⟩ := h; exact ⟨⟨a, c, rfl⟩, trivial⟩
  case nilm => subst h; exact ⟨rfl, trivial⟩
  case map => obtain ⟨r, h1, rfl⟩ := h; exact ⟨⟨r, h1, rfl⟩, trivial⟩
  case nilf => subst h; exact ⟨rfl, trivial⟩
  case func => obtain ⟨va, vc, rfl, h1, h2⟩ := h; exact ⟨⟨va, vc, rfl, h1, h2⟩, trivial⟩
  case tup => obtain ⟨vs, rfl, h⟩ := h; exact ⟨⟨vs, rfl, h⟩, trivial⟩
  case ro t xs =>
    obtain ⟨a, c, e, h⟩ := h
    cases e
    exact ⟨⟨a, c, rfl, h⟩, trivial⟩
  case rop => obtain ⟨ad, vs, rfl, h⟩ := h; exact ⟨⟨ad, vs, rfl, h⟩, trivial⟩
  case own => obtain ⟨a, n, c, rfl, h⟩ := h; exact ⟨⟨a, n, c, rfl, h⟩, trivial⟩
  case elp => obtain ⟨g, n, c, h1, h2, rfl⟩ := h; exact ⟨⟨g, n, c, h1, h2, rfl⟩, trivial⟩
theorem RV.cell {p : Ren} {g : GV} {v : Value} (h : RV p g v) (hc : isCellG g = true) : v.oneCell' = true := by
  cases g <;> simp only [RV] at h <;> first
    | (subst h; rfl)
    | (cases hc; done)
    | (obtain ⟨r, base, n, h1, rfl⟩ := h; rfl)
    | (obtain ⟨r, base, n, cap, h1, rfl, h2⟩ := h; rfl)
    | (obtain ⟨a, c, rfl⟩ := h; rfl)
    | (obtain ⟨r, h1, rfl⟩ := h; rfl)
    | (obtain ⟨va, vc, rfl, h1, h2⟩ := h; rfl)
    | (obtain ⟨g, n, c, h1, h2, rfl⟩ := h; rfl)
    | (obtain ⟨ad, vs, rfl, h⟩ := h; rfl)
    | (obtain ⟨a, n, c, rfl, h⟩ := h; rfl)
    | (obtain ⟨a, c, e, h⟩ := h; cases e; rfl)
theorem RVs.cell {p : Ren} : ∀ {l : List GV} {vs : List Value}, RVs p l vs → l.all isCellG = true → ∀ v ∈ vs, v.oneCell' = true
  | [], [], _, _, v, hv => by cases hv
  | g :: l, u :: vs, ⟨h1, h2⟩, h, v, hv => by
    simp only [List.all_cons, Bool.and_eq_true] at h
    rcases List.mem_cons.1 hv with rfl | hv
    · exact h1.cell h.1
    · exact RVs.cell h2 h.2 v hv
  | [], _ :: _, h, _, _, _ => h.elim
  | _ :: _, [], h, _, _, _ => h.elim
theorem ofAt_rv {p : Ren} {v : Value} {g : GV} (h : ofAt v = some g) : RV p g v := by
  unfold ofAt at h
  split at h <;> first | (cases h; done) | (cases h; exact rfl) | skip
  cases h
  exact ⟨[], [], rfl, trivial, trivial⟩
theorem ofAts_rv {p : Ren} : ∀ {l : List Value} {gs : List GV}, ofAts l = some gs → RVs p gs l
  | [], gs, h => by cases h; trivial
  | v :: l, gs, h => by
    unfold ofAts at h
    split at h
    · rename_i g hg
      split at h
      · rename_i r hr
        cases h
        exact ⟨ofAt_rv hg, ofAts_rv hr⟩
      · cases h
    · cases h
theorem ofVal_rv {p : Ren} {v : Value} {g : GV} (h : ofVal v = some g) : RV p g v := by
  unfold ofVal at h
  split at h
  · rename_i cs
    obtain ⟨l, h1, rfl⟩ := Option.map_eq_some_iff.1 h
    exact ⟨cs.toList, by simp, ofAts_rv h1⟩
  · rename_i cs
    obtain ⟨l, h1, rfl⟩ := Option.map_eq_some_iff.1 h
    exact ⟨cs.toList, by simp, ofAts_rv h1⟩
  · exact ofAt_rv h
theorem Tr.get_set {α : Type} : ∀ (n : Nat) (t : Tr α) (k j : Nat) (v : Option α), k + 1 < 2 ^ n → (Tr.set n t k v).get j = if j = k then v else t.get j
  | 0, _, k, _, _, h => by simp at h
  | n + 1, t, k, j, v, h => by
    have h2 : k + 1 < 2 * 2 ^ n := by rw [Nat.pow_succ] at h; omega
    have beq : ∀ a b : Nat, Nat.beq a b = decide (a = b) := fun a b => by
      by_cases e : a = b
      · subst e; simp
      · rw [beq_ne e]; simp [e]
    have e0 : ∀ m : Nat, (Tr.lf : Tr α).get m = none := fun _ => rfl
    have ih := fun t i j => Tr.get_set n t i j v
    cases t with
    | lf =>
      unfold Tr.set
      by_cases hk : k = 0
      · subst hk
        simp only [beq, decide_true]
        unfold Tr.get
        by_cases hj : j = 0
        · simp [beq, hj]
        · simp only [beq, hj, decide_false, if_false]
          split <;> rfl
      · by_cases hp : k % 2 = 1
        · simp only [beq, hk, hp, decide_false, decide_true]
          unfold Tr.get
          by_cases hj : j = 0
          · subst hj; simp [beq, Ne.symm hk]
          · by_cases hq : j % 2 = 1
            · simp only [beq, hj, hq, decide_false, decide_true]
              rw [ih _ _ _ (by omega)]
              by_cases hjk : j = k
              · subst hjk; simp
              · rw [if_neg (by omega), if_neg hjk]; rfl
            · simp only [beq, hj, hq, decide_false]
              rw [if_neg (by intro e; subst e; exact hq hp)]; rfl
        · simp only [beq, hk, hp, decide_false]
          unfold Tr.get
          by_cases hj : j = 0
          · subst hj; simp [beq, Ne.symm hk]
          · by_cases hq : j % 2 = 1
            · simp only [beq, hj, hq, decide_false, decide_true]
              rw [if_neg (by intro e; subst e; exact hp hq)]; rfl
            · simp only [beq, hj, hq, decide_false]
              rw [ih _ _ _ (by omega)]
              by_cases hjk : j = k
              · subst hjk; simp
              · rw [if_neg (by omega), if_neg hjk]; rfl
    | nd o l r =>
      unfold Tr.set
      by_cases hk : k = 0
      · subst hk
        simp only [beq, decide_true]
        conv => lhs; unfold Tr.get
        conv => rhs; unfold Tr.get
        by_cases hj : j = 0
        · simp [beq, hj]
        · simp only [beq, hj, decide_false, if_false]
      · by_cases hp : k % 2 = 1
        · simp only [beq, hk, hp, decide_false, decide_true]
          conv => lhs; unfold Tr.get
          conv => rhs; unfold Tr.get
          by_cases hj : j = 0
          · subst hj; simp [beq, Ne.symm hk]
          · by_cases hq : j % 2 = 1
            · simp only [beq, hj, hq, decide_false, decide_true]
              rw [ih _ _ _ (by omega)]
              by_cases hjk : j = k
              · subst hjk; simp
              · rw [if_neg (by omega), if_neg hjk]
            · simp only [beq, hj, hq, decide_false]
              rw [if_neg (by intro e; subst e; exact hq hp)]
        · simp only [beq, hk, hp, decide_false]
          conv => lhs; unfold Tr.get
          conv => rhs; unfold Tr.get
          by_cases hj : j = 0
          · subst hj; simp [beq, Ne.symm hk]
          · by_cases hq : j % 2 = 1
            · simp only [beq, hj, hq, decide_false, decide_true]
              rw [if_neg (by intro e; subst e; exact hp hq)]
            · simp only [beq, hj, hq, decide_false]
              rw [ih _ _ _ (by omega)]
              by_cases hjk : j = k
              · subst hjk; simp
              · rw [if_neg (by omega), if_neg hjk]
theorem put_spec {S S' : St} {b : Nat} {g : Option GB} (h : S.put b g = some S') : S'.nx = S.nx ∧ S'.df = S.df ∧ ∀ j, S'.h.get j = if j = b then g else S.h.get j := by
  unfold St.put at h
  split at h
  · rename_i hb
    cases h
    have := Nat.le_of_ble_eq_true hb
    exact ⟨rfl, rfl, fun j => Tr.get_set _ _ _ _ _ (by unfold fuelT; unfold lim at this; omega)⟩
  · cases h
theorem put_ow {S S' : St} {b : Nat} {g : Option GB} (h : S.put b g = some S') : S'.ow = S.ow := by
  unfold St.put at h
  split at h
  · cases h; rfl
  · cases h
theorem putG_spec {n : Nat} {f f' : GF} {d : Option Tmp} {v : GV} (h : putG n f d v = some f') : (∀ t, d = some t → t < n) ∧ ∀ t, f'.get t = if d = some t then some v else f.get t := by
  unfold putG at h
  split at h
  · cases h
    exact ⟨fun _ h => (by cases h), fun t => by simp⟩
  · rename_i d
    split at h
    · rename_i h1 h2
      cases h
      have h1 := Nat.le_of_ble_eq_true h1
      have h2 := Nat.le_of_ble_eq_true h2
      refine ⟨fun t h => (by cases h; exact h1), fun t => ?_⟩
      rw [Tr.get_set _ _ _ _ _ (by unfold fuelT; unfold lim at h2; omega)]
      by_cases e : t = d
      · subst e; simp
      · rw [if_neg e, if_neg (by simpa using fun h => e h.symm)]
    · cases h
end Go.E
