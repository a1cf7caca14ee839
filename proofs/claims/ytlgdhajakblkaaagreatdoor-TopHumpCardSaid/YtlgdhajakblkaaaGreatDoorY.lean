
/- What the run by values gives, the model gives: conversions, operators, all operations. No condition. -/
import Derived.Test.YtlgdhajakblkaaaGreatDoorN
set_option linter.unusedVariables false
set_option linter.unusedSimpArgs false
namespace Go.E
open Go Go.V
theorem clear_ok {P : Program} {p : Ren} {S S' : St} {w : World} (h : RH p S w) {t ty : Nat} {x g : GV} {vx : Value} (hc : gClear P t S x = some (g, S')) (hx : RV p x vx) :
    ∃ v w', (Builtin.clear_ #[t] ty #[vx]).run P w = .ok v w' ∧ RV p g v ∧ RH p S' w' ∧ Ch (fun _ => False) p w p w' := by
  have nothing : ∀ {v : Value} {e : Nat}, P.underlying t = some (.slice e) → (v = .slice none 0 0 ∨ ∃ a c, v = .slice (some a) 0 c) → (Builtin.clear_ #[t] ty #[v]).run P w = .ok (.tuple #[]) w := by
    intro v e hu hv
    rcases hv with rfl | ⟨a, c, rfl⟩ <;> simp [Builtin.clear_, run_underlying hu]
  unfold gClear at hc
  split at hc
  · rename_i e es b off len c hel
    obtain ⟨hu, i, hi, hsz, hby⟩ := elB_spec hel
    split at hc
    · rename_i z hz
      split at hc
      · rename_i hzl
        obtain ⟨S1, c1, c2⟩ := Option.map_eq_some_iff.1 hc
        cases c2
        obtain ⟨r, base, k, cap, h1, rfl, h2⟩ := hx
        obtain ⟨i', zv, z1, z2, z3, z4⟩ := zeroB_spec (p := p) hz
        have hr := rep_ok z3 hzl (len := len + 1)
        rw [Array.toArray_toList] at hr
        obtain ⟨w', s1, s2, s3⟩ := h.store (P := P) h1 c1 hr
        refine ⟨.tuple #[], w', ?_, ⟨[], rfl, trivial⟩, s2, s3⟩
        have hzs : zv.cells.size = es := by have := z3.length; rw [Array.length_toList] at this; omega
        have e1 : (Builtin.zeroCells zv.cells (len + 1)).toList = ((Array.range ((len + 1) * es)).map (fun i => zv.cells[i % zv.cells.size]!)).toList := by
          unfold Builtin.zeroCells; rw [hzs]
        rw [← e1] at s1
        unfold Builtin.clear_
        simp only [List.getElem?_toArray, List.getElem?_cons_zero]
        rw [run_bind, run_underlying hu]
        simp only
        rw [run_bind, z4]
        simp only
        rw [run_bind]
        have s1' : (storeCells ⟨r, base + off, none⟩ (Builtin.zeroCells zv.cells len.succ).toList).run P w = .ok () w' := s1
        simp only [s1']
        rfl
      · cases hc
    · cases hc
  · rename_i e es b off c hel
    obtain ⟨hu, _⟩ := elB_spec hel
    cases hc
    obtain ⟨r, base, k, cap, h1, rfl, h2⟩ := hx
    exact ⟨_, w, nothing hu (.inr ⟨_, _, rfl⟩), ⟨[], rfl, trivial⟩, h, Ch.refl _ _ _⟩
  · rename_i q hel
    obtain ⟨e, es⟩ := q
    obtain ⟨hu, _⟩ := elB_spec hel
    cases hc
    exact ⟨_, w, nothing hu (.inr hx), ⟨[], rfl, trivial⟩, h, Ch.refl _ _ _⟩
  · rename_i q hel
    obtain ⟨e, es⟩ := q
    obtain ⟨hu, _⟩ := elB_spec hel
    cases hc
    exact ⟨_, w, nothing hu (.inl hx), ⟨[], rfl, trivial⟩, h, Ch.refl _ _ _⟩
  · cases hc
theorem bytes_ints {p : Ren} : ∀ {l : List GV} {vs : List Value} {bs : List UInt8}, bytesOf l = some bs → RVs p l vs → ∃ ns : List Int, vs = ns.map (Value.int .u8) ∧ ns.map (fun n => UInt8.ofNat n.toNat) = bs
  | [], [], bs, h, _ => by cases h; exact ⟨[], rfl, rfl⟩
  | g :: l, v :: vs, bs, h, ⟨h1, h2⟩ => by
    unfold bytesOf at h
    split at h
    · rename_i b hb
      split at h
      · rename_i r hr
        cases h
        obtain ⟨ns, i1, i2⟩ := bytes_ints hr h2
        unfold byteOf at hb
        split at hb
        · rename_i n
          cases hb
          have h1 : v = .int .u8 n := h1
          exact ⟨n :: ns, by rw [h1, i1]; rfl, by rw [List.map_cons, i2]⟩
        · cases hb
      · cases h
    · cases h
  | [], _ :: _, _, _, h => h.elim
  | _ :: _, [], _, _, h => h.elim
theorem foldl_push : ∀ (ns : List Int) (r : ByteArray), ns.foldl (fun r n => r.push (UInt8.ofNat n.toNat)) r = ⟨r.data ++ (ns.map fun n => UInt8.ofNat n.toNat).toArray⟩
  | [], r => by simp
  | n :: ns, r => by
    rw [List.foldl_cons, foldl_push ns]
    simp [ByteArray.push]
theorem conv_ok {P : Program} {p : Ren} {S S' : St} {w : World} (h : RH p S w) {s d name : Nat} {x g : GV} {vx : Value} (hc : gConv P name s d x S = some (g, S')) (hx : RV p x vx) (hn : Free p name) (hxn : name < S.nx) :
    Giv P (· = name) p w (convert s d vx) g S' := by
  unfold gConv at hc
  split at hc
  · rename_i k1 k k2 n hs hd
    cases hc
    have hx : vx = .int k2 n := hx
    subst hx
    refine Giv.pure h ?_ rfl
    simp [convert, run_underlying hs, run_underlying hd, Conv.intToInt]
  · rename_i l hs hd
    cases hc
    have hx : vx = Vs l := hx
    subst hx
    refine Giv.pure h ?_ rfl
    simp [convert, run_underlying hs, run_underlying hd]
  · rename_i e l hs hd
    split at hc
    · rename_i he
      split at hc
      · obtain ⟨S1, c1, c2⟩ := Option.map_eq_some_iff.1 hc
        cases c2
        have hx : vx = Vs l := hx
        subst hx
        have hr := run_bytes_of_string w s d e ⟨⟨l⟩⟩ hs hd he
        have hge := grownCap_ge w l.length 0 e
        have hsz : (⟨⟨l⟩⟩ : ByteArray).size = l.length := rfl
        have hrow : bytesRow ⟨⟨l⟩⟩ (grownCap w l.length 0 e) = ((l.map fun (b : UInt8) => Value.int .u8 b.toNat) ++ List.replicate (grownCap w l.length 0 e - l.length) (Value.int .u8 0)).toArray := by
          unfold bytesRow
          rw [hsz]
          apply Array.ext'
          simp
        have hv : RVs p (l.map fun (b : UInt8) => GV.int .u8 b.toNat) (l.map fun (b : UInt8) => Value.int .u8 b.toNat) := by
          clear hr hge hsz hrow hc c1 hx
          rename_i hle0
          clear hle0
          induction l with
          | nil => trivial
          | cons b l ih => exact ⟨rfl, ih⟩
        have hlen : ((l.map fun (b : UInt8) => Value.int .u8 b.toNat) ++ List.replicate (grownCap w l.length 0 e - l.length) (Value.int .u8 0)).length = grownCap w l.length 0 e := by simp; omega
        obtain ⟨q1, q2⟩ := h.drew.row (ty := e) (fz := (grownCap w l.length 0 e, grownCap w l.length 0 e + 1)) (List.replicate (grownCap w l.length 0 e - l.length) (Value.int .u8 0)) c1 hn hxn hv (.inr (by rw [hlen]; exact Nat.le_refl _))
        have hsz2 : ((l.map fun (b : UInt8) => Value.int .u8 b.toNat) ++ List.replicate (grownCap w l.length 0 e - l.length) (Value.int .u8 0)).toArray.size = grownCap w l.length 0 e := by rw [List.size_toArray]; exact hlen
        rw [hsz, hrow, hsz2] at hr
        rw [hlen] at q1 q2
        exact ⟨p.set name (w.heap.size, 0, grownCap w l.length 0 e), _, _, hr, ⟨w.heap.size, 0, grownCap w l.length 0 e, grownCap w l.length 0 e, Ren.set_same _ _ _, rfl, by omega, hge⟩, q1, (Ch.drew _ _ _).trans q2⟩
      · cases hc
    · cases hc
  · rename_i e hs hd
    split at hc
    · rename_i he
      cases hc
      have hx : vx = .slice none 0 0 := hx
      subst hx
      refine Giv.pure h ?_ rfl
      rw [run_convert_bytes_string w s d e none 0 0 hs he hd]
      rfl
    · cases hc
  · rename_i e b off n c hs hd
    split at hc
    · rename_i he
      split at hc
      · rename_i l hl
        obtain ⟨bs, c1, c2⟩ := Option.map_eq_some_iff.1 hc
        cases c2
        obtain ⟨r, base, k, cap, h1, rfl, h2⟩ := hx
        unfold cellsAt at hl
        split at hl
        · rename_i cs hg
          obtain ⟨vs, h6, h7, h8⟩ := h.cells h1 hg hl
          obtain ⟨ns, n1, n2⟩ := bytes_ints c1 h6
          subst n1
          refine Giv.pure h ?_ rfl
          rw [run_convert_bytes_string w s d e _ n cap hs he hd]
          have hlc := run_loadCells_list (P := P) w ⟨r, base + off, none⟩ (ns.map (Value.int .u8)) (fun j u hj => CellsAt.get h8 hj)
          rw [h7] at hlc
          rw [run_bytesToString w _ n cap ns hlc, foldl_push, n2]
          simp [Vs]
        · cases hl
      · cases hc
    · cases hc
  · cases hc
theorem backV_ok {p : Ren} {v : Value} {g : GV} (h : backV v = some g) : RV p g v := by
  unfold backV at h
  split at h <;> first | (cases h; rfl) | cases h
theorem strBin_ok {P : Program} {p : Ren} {op : BinOp} {a b : List UInt8} {g : GV} (h : strBin op a b = some g) (w : World) : ∃ v, (Op.stringOp op ⟨⟨a⟩⟩ ⟨⟨b⟩⟩).run P w = .ok v w ∧ RV p g v := by
  have e1 : ∀ l : List UInt8, (⟨⟨l⟩⟩ : ByteArray).toList = l := str_list'
  have e2 : ∀ l : List UInt8, (⟨⟨l⟩⟩ : ByteArray).size = l.length := fun _ => rfl
  unfold strBin at h
  split at h
  · split at h
    · rename_i hl
      cases h
      refine ⟨Vs (a ++ b), ?_, rfl⟩
      unfold Op.stringOp
      simp only [e2]
      rw [if_neg (by show ¬ ((a.length + b.length : Nat) : Int) > 9223372036854775807; omega)]
      show Result.ok (Value.string (⟨⟨a⟩⟩ ++ ⟨⟨b⟩⟩)) w = _
      congr 2
    · cases h
  all_goals first
    | (cases h; done)
    | (cases h; exact ⟨_, by simp only [Op.stringOp, e1]; rfl, rfl⟩)
theorem eqF_ok {P : Program} {p : Ren} {d : Nat} {rec_ : TypeId → GV → GV → Option Bool} {xs ys : List GV} {vxs vys : List Value} (hx : RVs p xs vxs) (hy : RVs p ys vys)
    (ih : ∀ t x y b vx vy w, rec_ t x y = some b → RV p x vx → RV p y vy → (Op.equalIn d t vx vy).run P w = .ok b w) :
    ∀ (fs : List Field) (b : Bool) (w : World), gEqF P rec_ xs ys fs = some b → (Op.eqFields d vxs.toArray vys.toArray fs).run P w = .ok b w
  | [], b, w, h => by cases h; rfl
  | f :: fs, b, w, h => by
    unfold gEqF at h
    split at h
    · cases h
    · rename_i hf
      unfold Op.eqFields
      rw [if_pos hf]
      split at h
      · rename_i x y h1 h2
        obtain ⟨vx, x1, x2⟩ := part_ok h1 hx w
        obtain ⟨vy, y1, y2⟩ := part_ok h2 hy w
        rw [run_bind, x1]
        simp only
        rw [run_bind, y1]
        simp only
        split at h
        · rename_i hr
          rw [run_bind, ih _ _ _ _ _ _ w hr x2 y2]
          simp only [Bool.not_true, Bool.false_eq_true, if_false]
          exact eqF_ok hx hy ih fs b w h
        · rename_i hr
          cases b with
          | true => exact absurd h hr
          | false =>
            rw [run_bind, ih _ _ _ _ _ _ w h x2 y2]
            rfl
      · cases h
theorem eq_ok {P : Program} {p : Ren} : ∀ (k d t : Nat) (x y : GV) (b : Bool) (vx vy : Value) (w : World), k ≤ d → gEq P k t x y = some b → RV p x vx → RV p y vy → (Op.equalIn d t vx vy).run P w = .ok b w
  | 0, d, t, x, y, b, vx, vy, w, hk, h, hx, hy => by cases h
  | k + 1, 0, t, x, y, b, vx, vy, w, hk, h, hx, hy => by omega
  | k + 1, d + 1, t, x, y, b, vx, vy, w, hk, h, hx, hy => by
    unfold gEq at h
    split at h
    · rename_i a c hu
      have hx : vx = .bool a := hx
      have hy : vy = .bool c := hy
      subst hx hy; cases h
      exact run_equalIn_bool w d t a c hu
    · rename_i k0 k1 a k2 c hu
      have hx : vx = .int k1 a := hx
      have hy : vy = .int k2 c := hy
      subst hx hy
      split at h
      · rename_i e; subst e; cases h
        exact run_equalIn_int w d t _ _ a c hu
      · cases h
    · rename_i a c hu
      have hx : vx = Vs a := hx
      have hy : vy = Vs c := hy
      subst hx hy; cases h
      rw [run_equalIn_string w d t _ _ hu, str_list', str_list']
    · rename_i e hu
      have hx : vx = .pointer none := hx
      have hy : vy = .pointer none := hy
      subst hx hy; cases h
      simp [Op.equalIn, run_underlying hu]
    · rename_i e b' off hu
      have hx : vx = .pointer none := hx
      obtain ⟨r, base, n, h1, rfl⟩ := hy
      subst hx; cases h
      simp [Op.equalIn, run_underlying hu]
    · rename_i e b' off hu
      have hy : vy = .pointer none := hy
      obtain ⟨r, base, n, h1, rfl⟩ := hx
      subst hy; cases h
      simp [Op.equalIn, run_underlying hu]
    · rename_i e hu
      have hx : vx = .slice none 0 0 := hx
      have hy : vy = .slice none 0 0 := hy
      subst hx hy; cases h
      simp [Op.equalIn, run_underlying hu]
    · rename_i e b' off n c hu
      have hx : vx = .slice none 0 0 := hx
      obtain ⟨r, base, n', cap, h1, rfl, _⟩ := hy
      subst hx; cases h
      simp [Op.equalIn, run_underlying hu]
    · rename_i e b' off n c hu
      have hy : vy = .slice none 0 0 := hy
      obtain ⟨r, base, n', cap, h1, rfl, _⟩ := hx
      subst hy; cases h
      simp [Op.equalIn, run_underlying hu]
    · rename_i e hu
      have hx : vx = .slice none 0 0 := hx
      obtain ⟨a, c, rfl⟩ := hy
      subst hx; cases h
      simp [Op.equalIn, run_underlying hu]
    · rename_i e hu
      have hy : vy = .slice none 0 0 := hy
      obtain ⟨a, c, rfl⟩ := hx
      subst hy; cases h
      simp [Op.equalIn, run_underlying hu]
    · rename_i k0 e0 hu
      have hx : vx = .map none := hx
      have hy : vy = .map none := hy
      subst hx hy; cases h
      simp [Op.equalIn, run_underlying hu]
    · rename_i k0 e0 m hu
      have hx : vx = .map none := hx
      obtain ⟨r, h1, rfl⟩ := hy
      subst hx; cases h
      simp [Op.equalIn, run_underlying hu]
    · rename_i k0 e0 m hu
      have hy : vy = .map none := hy
      obtain ⟨r, h1, rfl⟩ := hx
      subst hy; cases h
      simp [Op.equalIn, run_underlying hu]
    · rename_i fs xs ys hu
      split at h
      · cases h
      · rename_i hc
        obtain ⟨vxs, rfl, hx⟩ := hx
        obtain ⟨vys, rfl, hy⟩ := hy
        have hfo : P.fieldsOf t = fs := by unfold Program.fieldsOf; rw [hu]
        have hst : P.stoodInHeld t = false := by
          cases hb : P.stoodInHeld t with
          | false => rfl
          | true => exact absurd (.inl hb) hc
        rw [run_equalIn_struct w d t _ _ (by rw [hfo]; exact hu) hst, hfo]
        exact eqF_ok hx hy (fun t x y b vx vy w h1 h2 h3 => eq_ok k d t x y b vx vy w (by omega) h1 h2 h3) _ b w h
    · cases h
end Go.E
