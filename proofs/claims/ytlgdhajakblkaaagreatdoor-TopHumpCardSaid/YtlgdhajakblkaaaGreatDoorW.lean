
/- More laws of memory: an append to a cut whose capacity ends with it. Conditions: those of each theorem. -/
import Derived.Test.YtlgdhajakblkaaaGreatDoorH
import Derived.ArgAppend
import Derived.Laws.Strings2
import Derived.Laws.Slices
import Derived.Laws.BytesString
import Derived.Laws.IdiomStrings
import Derived.Lib.ConvBytes
set_option linter.unusedSimpArgs false
set_option linter.unusedVariables false
namespace Go.V
open Go
def ofB (l : List Int) : List UInt8 := l.map fun n => UInt8.ofNat n.toNat
def sAt (l : List UInt8) (i : Int) : Option Int := (idx l i).map fun b => (b.toNat : Int)
theorem str_size (l : List UInt8) : (⟨⟨l⟩⟩ : ByteArray).size = l.length := rfl
theorem str_list (l : List UInt8) : (⟨⟨l⟩⟩ : ByteArray).toList = l := by rw [ByteArray.toList_eq]
theorem reads_sindex {P : Program} {Mo : List Nat} {t : Nat} {w : World} {l : List UInt8} {i x : Int} (ht : P.underlying t = some .string) (hx : sAt l i = some x) :
    Reads P Mo (Instr.index t (Vs l) (.int .i64 i)) w (.int .u8 x) := by
  intro w' _
  unfold sAt at hx
  cases hb : idx l i with
  | none => rw [hb] at hx; cases hx
  | some b =>
    rw [hb] at hx
    simp only [Option.map_some, Option.some.injEq] at hx
    subst hx
    obtain ⟨h0, h1, h2⟩ := idx_some hb
    rw [run_index_string w' t _ .i64 i ht, dif_pos ⟨h0, by rw [str_size]; omega⟩]
    have h3 : l[i.toNat]'(by omega) = b := by rw [List.getElem?_eq_getElem (by omega)] at h2; exact Option.some.inj h2
    have h4 : (⟨⟨l⟩⟩ : ByteArray)[i.toNat]'(by rw [str_size]; omega) = b := h3
    rw [h4]
theorem reads_slen {P : Program} {Mo : List Nat} {t ty : Nat} {w : World} (ht : P.underlying t = some .string) (l : List UInt8) :
    Reads P Mo (Builtin.len_ #[t] ty [Vs l].toArray) w (.int .i64 (l.length : Int)) := by
  intro w' _
  exact run_len_string w' t ty _ ht
theorem reads_scut {P : Program} {Mo : List Nat} {t : Nat} {w : World} (ht : P.underlying t = some .string) (l : List UInt8) (lo hi : Option Int)
    (h : 0 ≤ bound lo 0 ∧ bound lo 0 ≤ bound hi l.length ∧ bound hi l.length ≤ l.length) :
    Reads P Mo (Instr.sliceAt t (Vs l) (lo.map (.int .i64 ·)) (hi.map (.int .i64 ·)) none) w (Vs ((l.drop (bound lo 0).toNat).take ((bound hi l.length).toNat - (bound lo 0).toNat))) := by
  intro w' _
  rw [run_sliceAt_string w' t _ _ _ _ ht]
  obtain ⟨q1, q2, q3⟩ := h
  have he : ∀ a b, (⟨⟨l⟩⟩ : ByteArray).extract a b = ⟨⟨(l.drop a).take (b - a)⟩⟩ := fun a b => ByteArray.extract_mk l a b
  cases lo with
  | none =>
    cases hi with
    | none =>
      have := run_slice_string_all (P := P) w' t ⟨⟨l⟩⟩ ht
      rw [he] at this
      exact this
    | some hi =>
      have := run_slice_string_h (P := P) w' t ⟨⟨l⟩⟩ ht .i64 hi (by simpa [bound] using q2) (by simpa only [bound, str_size] using q3)
      rw [he] at this
      exact this
  | some lo =>
    cases hi with
    | none =>
      have := run_slice_string_l (P := P) w' t ⟨⟨l⟩⟩ ht .i64 lo (by simpa only [bound] using q1) (by simpa only [bound, str_size] using q2)
      rw [he] at this
      exact this
    | some hi =>
      have := run_slice_string (P := P) w' t ⟨⟨l⟩⟩ .i64 .i64 lo hi ht (by simpa only [bound] using q1) (by simpa only [bound] using q2) (by simpa only [bound, str_size] using q3)
      rw [he] at this
      exact this
theorem bin_s {P : Program} {op : BinOp} {t : TypeId} {xo yo : Operand} {a b : List UInt8} {v : Value} (h : ∀ w, (Op.stringOp op ⟨⟨a⟩⟩ ⟨⟨b⟩⟩).run P w = .ok v w) (hs : (op matches .shl | .shr) = false) :
    ∀ K : Value → Prop, K v → vcBin P op t xo yo (Vs a) (Vs b) K := by
  intro K hK
  refine ⟨v, fun w => ?_, hK⟩
  have hg : (eqGuard op t xo yo (Vs a) (Vs b)).run P w = .ok () w := by
    unfold eqGuard
    cases op <;> rfl
  rw [run_bind, hg]
  have hb : binOp op t (Vs a) (Vs b) = Op.stringOp op ⟨⟨a⟩⟩ ⟨⟨b⟩⟩ := by
    cases op <;> simp [binOp]
  rw [hb]
  exact h w
theorem bin_sadd {P : Program} {t : TypeId} {xo yo : Operand} {a b : List UInt8} (h : a.length + b.length ≤ 4294967296) : ∀ K : Value → Prop, K (Vs (a ++ b)) → vcBin P .add t xo yo (Vs a) (Vs b) K := by
  refine bin_s (fun w => ?_) rfl
  have h2 : ¬ ((((⟨⟨a⟩⟩ : ByteArray).size + (⟨⟨b⟩⟩ : ByteArray).size : Nat) : Int) > IntKind.i64.max) := by
    rw [str_size, str_size]
    have : IntKind.i64.max = 9223372036854775807 := rfl
    omega
  have e : (⟨⟨a⟩⟩ : ByteArray) ++ ⟨⟨b⟩⟩ = ⟨⟨a ++ b⟩⟩ := by
    apply ByteArray.ext
    simp
  unfold Op.stringOp
  simp only [if_neg h2, e, Sem.run_pure]
theorem bin_seq {P : Program} {t : TypeId} {xo yo : Operand} {a b : List UInt8} : ∀ K : Value → Prop, K (.bool (a == b)) → vcBin P .eql t xo yo (Vs a) (Vs b) K := by
  refine bin_s (fun w => ?_) rfl
  simp only [Op.stringOp, str_list, Sem.run_pure]
theorem bin_sne {P : Program} {t : TypeId} {xo yo : Operand} {a b : List UInt8} : ∀ K : Value → Prop, K (.bool (a != b)) → vcBin P .neq t xo yo (Vs a) (Vs b) K := by
  refine bin_s (fun w => ?_) rfl
  simp only [Op.stringOp, str_list, Sem.run_pure]
  rfl
theorem run_ofB {P : Program} {src dst el : TypeId} (hs : P.underlying src = some (.slice el)) (he : P.underlying el = some (.int .u8)) (hd : P.underlying dst = some .string)
    {w : World} {M : List Nat} {a : Option Addr} {c : Nat} {xs : List Int} (h : SlR (eInt .u8) w M a c xs) :
    (convert src dst (.slice a xs.length c)).run P w = .ok (Vs (ofB xs)) w := by
  rw [run_convert_bytes_string w src dst el a _ c hs he hd]
  have key : ∀ (xs : List Int) (s : ByteArray), xs.foldl (fun r n => r.push (UInt8.ofNat n.toNat)) s = ⟨s.data ++ (ofB xs).toArray⟩ := by
    intro xs
    induction xs with
    | nil => intro s; simp [ofB]
    | cons x xs ih =>
      intro s
      rw [List.foldl_cons, ih]
      simp [ofB, ByteArray.push]
  cases a with
  | none =>
    have := h.nil rfl
    subst this
    rfl
  | some ad =>
    have hl : (loadCells ad xs.length).run P w = .ok (xs.map (Value.int .u8)).toArray w := by
      have := run_loadCells_list (P := P) w ad (xs.map (Value.int .u8)) (fun j v hj => by
        have hj' : j < xs.length := by
          have := (List.getElem?_eq_some_iff.1 hj).1
          simpa using this
        obtain ⟨h1, h2, h3, h4⟩ := h.at_ ad rfl (by omega)
        obtain ⟨cs, h5, h6⟩ := h4 j _ (List.getElem?_eq_getElem hj')
        have h5' : cs = [.int .u8 xs[j]] := h5
        have h7 := h6 0 _ (by rw [h5']; rfl)
        have h8 : (eInt .u8).n = 1 := rfl
        rw [h8, Nat.mul_one, Nat.add_zero] at h7
        rw [addr_add h1, h7]
        rw [List.getElem?_map, List.getElem?_eq_getElem hj'] at hj
        exact hj)
      simpa using this
    rw [run_bytesToString w ad _ c xs hl, key]
    have e0 : ByteArray.empty.data = #[] := rfl
    rw [e0, Array.empty_append]
def OwnM {α : Type} (e : Enc α) (T : TypeId) (w : World) (M : List Nat) (a : Option Addr) (c : Nat) (xs : List α) : Prop :=
  ∃ g cur lo hi, a = some ⟨g, 0, none⟩ ∧ w.heap[g]? = some (.cells cur T (lo, hi)) ∧ cur.size ≤ lo ∧ xs.length ≤ c ∧ c ≤ maxLen ∧ cur.size = c * e.n ∧
    ∀ (i : Nat) (x : α), xs[i]? = some x → ∃ cs, e.R w M cs x ∧ ∀ (k : Nat) (v : Value), cs[k]? = some v → cur[i * e.n + k]? = some v
theorem OwnM.lt {α : Type} {e : Enc α} {T : TypeId} {w : World} {M : List Nat} {a : Option Addr} {c : Nat} {xs : List α} (h : OwnM e T w M a c xs) : ∀ b ∈ blk a, b < w.heap.size := by
  obtain ⟨g, cur, lo, hi, rfl, hg, _⟩ := h
  intro b hb
  simp only [blk, List.mem_singleton] at hb
  subst hb; exact lt_of_heap hg
theorem OwnM.step {α : Type} {e : Enc α} {T : TypeId} {w w' : World} {M M' Mo : List Nat} {a : Option Addr} {c : Nat} {xs : List α} (h : OwnM e T w M a c xs) (hs : Stp M w M' w') (he : Ev Mo w w') (hm : ∀ b ∈ blk a, b ∉ Mo) : OwnM e T w' M' a c xs := by
  obtain ⟨g, cur, lo, hi, rfl, hg, h0, h1, h2, h3, h4⟩ := h
  refine ⟨g, cur, lo, hi, rfl, he.box hg (hm g (by simp [blk])), h0, h1, h2, h3, fun i x hx => ?_⟩
  obtain ⟨cs, h5, h6⟩ := h4 i x hx
  exact ⟨cs, e.step h5 hs, h6⟩
theorem OwnM.sub {α : Type} {e : Enc α} {T : TypeId} {w : World} {M M' : List Nat} {a : Option Addr} {c : Nat} {xs : List α} (h : OwnM e T w M a c xs) (hs : ∀ b ∈ M', b ∈ M) : OwnM e T w M' a c xs :=
  h.step (Stp.sub w hs) (Ev.refl [] w) (fun _ _ h => by cases h)
theorem OwnM.ro {α : Type} {e : Enc α} {T : TypeId} {w : World} {M M' : List Nat} {a : Option Addr} {c : Nat} {xs : List α} (h : OwnM e T w M a c xs) (hM : ∀ b ∈ M', b ∈ M) (hm : ∀ b ∈ blk a, b ∉ M') : SlR e w M' a c xs := by
  obtain ⟨g, cur, lo, hi, rfl, hg, h0, h1, h2, h3, h4⟩ := h
  refine ⟨h1, h2, fun h => (by cases h), fun ad ha _ => ?_⟩
  cases ha
  refine ⟨rfl, hm g (by simp [blk]), lt_of_heap hg, fun i x hx => ?_⟩
  obtain ⟨cs, h5, h6⟩ := h4 i x hx
  refine ⟨cs, e.step h5 (Stp.sub w hM), fun k v hv => ?_⟩
  simp only [Nat.zero_add]
  rw [box_cell hg]; exact h6 k v hv
theorem OwnM.le {α : Type} {e : Enc α} {T : TypeId} {w : World} {M : List Nat} {a : Option Addr} {c : Nat} {xs : List α} (h : OwnM e T w M a c xs) : xs.length ≤ c := by
  obtain ⟨g, cur, lo, hi, _, _, _, h1, _⟩ := h
  exact h1
end Go.V
