
/- Go's library of text, as contracts: Split, Itoa, Atoi; builders. Conditions: those of each theorem. -/
import Derived.Test.YtlgdhajakblkaaaGreatDoorBd
import Derived.Test.YtlgdhajakblkaaaGreatDoorQc
import Derived.Shelf.Strings.Split
import Derived.Shelf.Strconv.Itoa3
import Derived.Shelf.Strconv.AtoiAll
set_option linter.unusedSimpArgs false
set_option linter.unusedVariables false
namespace Go.Proofs
open Go Go.Shelf Go.RowKit Go.V Go.Sort
variable {P : Program} {ρ : Ren}
abbrev itoaL (n : Int) : List UInt8 := Lib.itoa n
abbrev splitL (s c : List UInt8) : List (List UInt8) := Lib.split s c
structure GL (P : Program) (gm : Nat) (w : World) : Prop where
  tab : Lib.TabIs P w "internal/strconv.uint64pow10" .u64 Lib.pow10Tab
  mx : ∃ m, w.cell? ⟨gm, 0, none⟩ = some (.int .i64 m)
theorem tab_ev {w w' : World} {n : String} {k : IntKind} {zs : List Int} (h : Lib.TabIs P w n k zs) (he : Ev [] w w') : Lib.TabIs P w' n k zs := by
  unfold Lib.TabIs World.var? at *
  cases hg : P.globalNamed n with
  | none => rw [hg] at h; simp at h
  | some g =>
    rw [hg] at h
    simp only [Option.bind_some] at h ⊢
    cases hq : w.heap[g]? with
    | none => rw [hq] at h; simp at h
    | some o => rw [hq] at h; rw [he.box hq nn]; exact h
theorem GL.ev {gm : Nat} {w w' : World} (h : GL P gm w) (he : Ev [] w w') : GL P gm w' := by
  obtain ⟨h1, m, h2⟩ := h
  exact ⟨tab_ev h1 he, m, by rw [he.cell (World.block_lt_of_cell? _ _ h2) nn]; exact h2⟩
abbrev HC (P : Program) (f : FuncId) : Prop := ∃ fn, P.funcs[f]? = some fn ∧ (fn.name == "runtime.NumGoroutine") = false ∧ fn.body.isNone = false
theorem vs_size (s : List UInt8) : (⟨⟨s⟩⟩ : ByteArray).size = s.length := rfl
theorem ba_eta (x : ByteArray) : (⟨⟨x.data.toList⟩⟩ : ByteArray) = x := by cases x; simp
theorem split_w (L : Lays.n146 P ρ) {f : Nat} (hf : ρ.f 146 = f) (hcal : HC P f) (hi9 : (P.info? (ρ.t 9)).map (fun i => (i.zero, i.size, i.bytes)) = some (some (.string ByteArray.empty), 1, 16)) {gm : Nat} (hgm : ρ.g 1 = gm) {w : World} (hG : GL P gm w) {M : List Nat} (hM : ∀ x ∈ M, x < w.heap.size)
    (s sep : List UInt8) (hs : s.length < 4294967281) (h1 : 1 ≤ sep.length) :
    CallVC P f [Vs s, Vs sep] w fun v w' => ∃ a c, v = .slice a (Lib.split s sep).length c ∧ Ev [] w w' ∧ SlR eStr w' M a c (Lib.split s sep) := by
  obtain ⟨m, hm⟩ := hG.mx
  subst hf hgm
  have e : (Lib.splitB ⟨⟨sep⟩⟩ 0 (Lib.countB ⟨⟨s⟩⟩ ⟨⟨sep⟩⟩) ⟨⟨s⟩⟩).map (·.data.toList) = Lib.split s sep := Lib.splitB_data _ _ _ _
  have hlen := Lib.splitB_all ⟨⟨sep⟩⟩ h1 0 _ ⟨⟨s⟩⟩ rfl
  have hl : (Lib.split s sep).length = Lib.countB ⟨⟨s⟩⟩ ⟨⟨sep⟩⟩ + 1 := by rw [← e, List.length_map]; exact hlen
  have hle := Lib.countB_le ⟨⟨sep⟩⟩ h1 s.length ⟨⟨s⟩⟩ (Nat.le_refl _)
  refine ⟨(Any.strings_Split L hi9 ⟨⟨s⟩⟩ ⟨⟨sep⟩⟩ m w hs hm h1).mono ?_, hcal⟩
  rintro e' w' ⟨rfl, rfl⟩
  refine ⟨_, rfl, some ⟨w.heap.size, 0, none⟩, Lib.countB ⟨⟨s⟩⟩ ⟨⟨sep⟩⟩ + 1, by rw [hl], ⟨rfl, rfl, rfl, by simp, fun k hk _ => Lib.alloc_old w _ k hk⟩, by rw [hl]; exact Nat.le_refl _, by rw [vs_size] at hle; unfold maxLen; omega, fun h => (by cases h), fun ad ha _ => ?_⟩
  cases ha
  refine ⟨rfl, fun hx => absurd (hM _ hx) (Nat.lt_irrefl _), by simp, fun i x hx => ⟨[Vs x], rfl, fun k v hv => ?_⟩⟩
  cases k with
  | succ k => simp at hv
  | zero =>
    simp only [List.getElem?_cons_zero, Option.some.injEq] at hv
    subst hv
    rw [box_cell (heap_alloc_new w _)]
    rw [← e, List.getElem?_map] at hx
    cases hb : (Lib.splitB ⟨⟨sep⟩⟩ 0 (Lib.countB ⟨⟨s⟩⟩ ⟨⟨sep⟩⟩) ⟨⟨s⟩⟩)[i]? with
    | none => rw [hb] at hx; cases hx
    | some y =>
      rw [hb] at hx
      simp only [Option.map_some, Option.some.injEq] at hx
      subst hx
      have hy : (Vs y.data.toList) = Value.string y := congrArg Value.string (ba_eta y)
      rw [hy]
      show ((Lib.splitB ⟨⟨sep⟩⟩ 0 (Lib.countB ⟨⟨s⟩⟩ ⟨⟨sep⟩⟩) ⟨⟨s⟩⟩).map Value.string).toArray[0 + (i * 1 + 0)]? = _
      simp [hb]
theorem ev_grow {w : World} (k : Nat) (os : Array Obj) : Ev [] w (grow (w.drewN k) os) :=
  ⟨rfl, rfl, rfl, by simp [grow], fun i hi _ => by rw [heap_grow_old _ _ (by simpa using hi)]; rfl⟩
theorem itoa_w (L : LaysM.n171 P ρ) {f : Nat} (hf : ρ.f 171 = f) (hcal : HC P f) {gm : Nat} {w : World} (hG : GL P gm w) (n : Int) (h0 : -9223372036854775808 ≤ n) (h1 : n ≤ 9223372036854775807) :
    CallVC P f [.int .i64 n] w fun v w' => v = Vs (Lib.itoa n) ∧ Ev [] w w' := by
  subst hf
  refine ⟨(Any.strconv_Itoa L n h0 h1 w hG.tab).mono ?_, hcal⟩
  rintro e w' ⟨rfl, k, os, rfl⟩
  exact ⟨_, rfl, rfl, ev_grow k os⟩
theorem ev_freeze {w w1 : World} (he : Ev [] w w1) {b o n : Nat} (hb : w.heap.size ≤ b) : Ev [] w (w1.freeze ⟨b, o, none⟩ n) := by
  unfold World.freeze
  split
  · exact he
  · refine ⟨he.os, he.tape, he.output, by simpa using he.size, fun k hk hm => ?_⟩
    have : b ≠ k := by omega
    simp only [Array.getElem?_modify, if_neg this]
    exact he.block k hk hm
theorem atoi_w (L : LaysC.n172 P ρ) {f : Nat} (hf : ρ.f 172 = f) (hcal : HC P f) {w : World} (s : List UInt8) (hs : s.length ≤ 9223372036854775806) (n : Int) (h : Lib.atoiAll s = .ok n) :
    CallVC P f [Vs s] w fun v w' => v = .tuple #[.int .i64 n, .nilIface] ∧ Ev [] w w' := by
  subst hf
  refine ⟨(Any.strconv_Atoi_ok L ⟨⟨s⟩⟩ hs n h w).mono ?_, hcal⟩
  rintro e w' ⟨rfl, rfl | ⟨t, rfl⟩⟩
  · exact ⟨_, rfl, rfl, Ev.refl _ _⟩
  · refine ⟨_, rfl, rfl, ?_⟩
    have h1 : Ev [] w (w.drew.alloc (.cells (Lib.bytesCells w (ρ.t 5) t) (ρ.t 5))) := ⟨rfl, rfl, rfl, by simp, fun k hk _ => Lib.alloc_old w.drew _ k hk⟩
    exact ev_freeze h1 (Nat.le_refl _)
theorem ws_w (L : Lays.n166 P ρ) (X : Builder.Extra P ρ) {f T e : Nat} (hf : ρ.f 166 = f) (hT : ρ.t 72 = T) (he : ρ.t 5 = e) (hcal : HC P f) {w : World} {B : List Nat} {b : Nat} {l : List UInt8} (h : BldH T e w B b l) (s : List UInt8) (hlen : l.length + s.length ≤ 140737488355328) :
    CallVC P f [.pointer (some ⟨b, 0, none⟩), Vs s] w fun v w' => v = .tuple #[.int .i64 s.length, .nilIface] ∧ Ev B w w' ∧ ∃ B', (∀ x ∈ B', (x ∈ B ∨ w.heap.size ≤ x) ∧ x < w'.heap.size) ∧ BldH T e w' B' b (l ++ s) := by
  subst hf hT he
  refine ⟨(bld_ws L X h ⟨⟨s⟩⟩ hlen).mono ?_, hcal⟩
  rintro e w' ⟨rfl, h1, h2⟩
  exact ⟨_, rfl, rfl, h1, h2⟩
theorem wb_w (L : Lays.n167 P ρ) (X : Builder.Extra P ρ) {f T e : Nat} (hf : ρ.f 167 = f) (hT : ρ.t 72 = T) (he : ρ.t 5 = e) (hcal : HC P f) {w : World} {B : List Nat} {b : Nat} {l : List UInt8} (h : BldH T e w B b l) (c : Int) (hc : 0 ≤ c ∧ c < 256) (hlen : l.length + 1 ≤ 140737488355328) :
    CallVC P f [.pointer (some ⟨b, 0, none⟩), .int .u8 c] w fun v w' => v = .nilIface ∧ Ev B w w' ∧ ∃ B', (∀ x ∈ B', (x ∈ B ∨ w.heap.size ≤ x) ∧ x < w'.heap.size) ∧ BldH T e w' B' b (l ++ [UInt8.ofNat c.toNat]) := by
  subst hf hT he
  have hcc : ((UInt8.ofNat c.toNat).toNat : Int) = c := by
    have : c.toNat < 256 := by omega
    rw [UInt8.toNat_ofNat', Nat.mod_eq_of_lt (by omega)]
    omega
  have := bld_wb L X h (UInt8.ofNat c.toNat) hlen
  rw [hcc] at this
  refine ⟨this.mono ?_, hcal⟩
  rintro e w' ⟨rfl, h1, h2⟩
  exact ⟨_, rfl, rfl, h1, h2⟩
theorem str_w (L : Lays.n169 P ρ) (X : Builder.Extra P ρ) {f T e : Nat} (hf : ρ.f 169 = f) (hT : ρ.t 72 = T) (he : ρ.t 5 = e) (hcal : HC P f) {w : World} {B : List Nat} {b : Nat} {l : List UInt8} (h : BldH T e w B b l) (h0 : l ≠ []) :
    CallVC P f [.pointer (some ⟨b, 0, none⟩)] w fun v w' => v = Vs l ∧ Ev B w w' := by
  subst hf hT he
  refine ⟨(bld_str L X h h0).mono ?_, hcal⟩
  rintro e w' ⟨rfl, h1⟩
  exact ⟨_, rfl, rfl, h1⟩
def atoiO (s : List UInt8) : Option Int := if s.length ≤ 4294967296 then (match Lib.atoiAll s with | .ok n => some n | _ => none) else none
theorem atoiO_some {s : List UInt8} {n : Int} (h : atoiO s = some n) : s.length ≤ 9223372036854775806 ∧ Lib.atoiAll s = .ok n := by
  unfold atoiO at h
  split at h
  · rename_i hl
    refine ⟨by omega, ?_⟩
    split at h
    · rename_i m hm; rw [hm]; simpa using h
    · cases h
  · cases h
theorem arr4_store {t T : TypeId} {w : World} {b : Nat} {a0 a1 a2 a3 : Int} (i x : Int) (hi : 0 ≤ i ∧ i < (4 : Nat)) (ht : IsCell P t) (h : w.heap[b]? = some (.cells #[.int .i64 a0, .int .i64 a1, .int .i64 a2, .int .i64 a3] T (0, 0))) :
    ∃ w', (Instr.storeAt t (.pointer (some ⟨b, 0 + i.toNat, none⟩)) (.int .i64 x)).run P w = .ok () w' ∧
      w'.heap[b]? = some (.cells #[.int .i64 (if i = 0 then x else a0), .int .i64 (if i = 1 then x else a1), .int .i64 (if i = 2 then x else a2), .int .i64 (if i = 3 then x else a3)] T (0, 0)) ∧ Ev [b] w w' := by
  have h4 : i = 0 ∨ i = 1 ∨ i = 2 ∨ i = 3 := by omega
  rcases h4 with rfl | rfl | rfl | rfl
  · exact store_box 0 (.int .i64 x) _ ht h rfl rfl rfl
  · exact store_box 1 (.int .i64 x) _ ht h rfl rfl rfl
  · exact store_box 2 (.int .i64 x) _ ht h rfl rfl rfl
  · exact store_box 3 (.int .i64 x) _ ht h rfl rfl rfl
instance {w w' : World} {ls ls' : List (List Nat)} {Mo J B : List Nat} {T e b i : Nat} {s : List UInt8} [k : At ls B i] : Sp w w' ls ls' Mo J (BldH T e w B b s) (BldH T e w' B b s) (!(J.any (Nat.beq i))) := ⟨fun hc h f => f.step h.ev (h.ne k.pr hc)⟩
end Go.Proofs
