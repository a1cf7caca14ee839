
/- More laws of memory: an append to a cut whose capacity ends with it. Conditions: those of each theorem. -/
import Derived.Test.YtlejnkhaphlooaaGreatH
import Derived.ArgAppend
import Derived.Laws.Strings2
import Derived.Laws.Slices
import Derived.Laws.BytesString
import Derived.Laws.IdiomStrings
import Derived.Lib.ConvBytes
set_option linter.unusedSimpArgs false
set_option linter.unusedVariables false
namespace Go.V
open Go
def ofB (l : List Int) : List UInt8 := l.map fun n => UInt8.ofNat n.toNat
def toB (l : List UInt8) : List Int := l.map fun b => (b.toNat : Int)
def sAt (l : List UInt8) (i : Int) : Option Int := (idx l i).map fun b => (b.toNat : Int)
theorem str_size (l : List UInt8) : (⟨⟨l⟩⟩ : ByteArray).size = l.length := rfl
theorem str_list (l : List UInt8) : (⟨⟨l⟩⟩ : ByteArray).toList = l := by rw [ByteArray.toList_eq]
theorem reads_sindex {P : Program} {Mo : List Nat} {t : Nat} {w : World} {l : List UInt8} {i x : Int} (ht : P.underlying t = some .string) (hx : sAt l i = some x) :
    Reads P Mo (Instr.index t (Vs l) (.int .i64 i)) w (.int .u8 x) := by
  intro w' _
  unfold sAt at hx
  cases hb : idx l i with
  | none => rw [hb] at hx; cases hx
  | some b =>
    rw [hb] at hx
    simp only [Option.map_some, Option.some.injEq] at hx
    subst hx
    obtain ⟨h0, h1, h2⟩ := idx_some hb
    rw [run_index_string w' t _ .i64 i ht, dif_pos ⟨h0, by rw [str_size]; omega⟩]
    have h3 : l[i.toNat]'(by omega) = b := by rw [List.getElem?_eq_getElem (by omega)] at h2; exact Option.some.inj h2
    have h4 : (⟨⟨l⟩⟩ : ByteArray)[i.toNat]'(by rw [str_size]; omega) = b := h3
    rw [h4]
theorem reads_slen {P : Program} {Mo : List Nat} {t ty : Nat} {w : World} (ht : P.underlying t = some .string) (l : List UInt8) :
    Reads P Mo (Builtin.len_ #[t] ty [Vs l].toArray) w (.int .i64 (l.length : Int)) := by
  intro w' _
  exact run_len_string w' t ty _ ht
theorem reads_scut {P : Program} {Mo : List Nat} {t : Nat} {w : World} (ht : P.underlying t = some .string) (l : List UInt8) (lo hi : Option Int)
    (h : 0 ≤ bound lo 0 ∧ bound lo 0 ≤ bound hi l.length ∧ bound hi l.length ≤ l.length) :
    Reads P Mo (Instr.sliceAt t (Vs l) (lo.map (.int .i64 ·)) (hi.map (.int .i64 ·)) none) w (Vs ((l.drop (bound lo 0).toNat).take ((bound hi l.length).toNat - (bound lo 0).toNat))) := by
  intro w' _
  rw [run_sliceAt_string w' t _ _ _ _ ht]
  obtain ⟨q1, q2, q3⟩ := h
  have he : ∀ a b, (⟨⟨l⟩⟩ : ByteArray).extract a b = ⟨⟨(l.drop a).take (b - a)⟩⟩ := fun a b => ByteArray.extract_mk l a b
  cases lo with
  | none =>
    cases hi with
    | none =>
      have := run_slice_string_all (P := P) w' t ⟨⟨l⟩⟩ ht
      rw [he] at this
      exact this
    | some hi =>
      have := run_slice_string_h (P := P) w' t ⟨⟨l⟩⟩ ht .i64 hi (by simpa [bound] using q2) (by simpa only [bound, str_size] using q3)
      rw [he] at this
      exact this
  | some lo =>
    cases hi with
    | none =>
      have := run_slice_string_l (P := P) w' t ⟨⟨l⟩⟩ ht .i64 lo (by simpa only [bound] using q1) (by simpa only [bound, str_size] using q2)
      rw [he] at this
      exact this
    | some hi =>
      have := run_slice_string (P := P) w' t ⟨⟨l⟩⟩ .i64 .i64 lo hi ht (by simpa only [bound] using q1) (by simpa only [bound] using q2) (by simpa only [bound, str_size] using q3)
      rw [he] at this
      exact this
theorem bin_s {P : Program} {op : BinOp} {t : TypeId} {xo yo : Operand} {a b : List UInt8} {v : Value} (h : ∀ w, (Op.stringOp op ⟨⟨a⟩⟩ ⟨⟨b⟩⟩).run P w = .ok v w) (hs : (op matches .shl | .shr) = false) :
    ∀ K : Value → Prop, K v → vcBin P op t xo yo (Vs a) (Vs b) K := by
  intro K hK
  refine ⟨v, fun w => ?_, hK⟩
  have hg : (eqGuard op t xo yo (Vs a) (Vs b)).run P w = .ok () w := by
    unfold eqGuard
    cases op <;> rfl
  rw [run_bind, hg]
  have hb : binOp op t (Vs a) (Vs b) = Op.stringOp op ⟨⟨a⟩⟩ ⟨⟨b⟩⟩ := by
    cases op <;> simp [binOp]
  rw [hb]
  exact h w
theorem bin_sadd {P : Program} {t : TypeId} {xo yo : Operand} {a b : List UInt8} (h : a.length + b.length ≤ 4294967296) : ∀ K : Value → Prop, K (Vs (a ++ b)) → vcBin P .add t xo yo (Vs a) (Vs b) K := by
  refine bin_s (fun w => ?_) rfl
  have h2 : ¬ ((((⟨⟨a⟩⟩ : ByteArray).size + (⟨⟨b⟩⟩ : ByteArray).size : Nat) : Int) > IntKind.i64.max) := by
    rw [str_size, str_size]
    have : IntKind.i64.max = 9223372036854775807 := rfl
    omega
  have e : (⟨⟨a⟩⟩ : ByteArray) ++ ⟨⟨b⟩⟩ = ⟨⟨a ++ b⟩⟩ := by
    apply ByteArray.ext
    simp
  unfold Op.stringOp
  simp only [if_neg h2, e, Sem.run_pure]
theorem bin_seq {P : Program} {t : TypeId} {xo yo : Operand} {a b : List UInt8} : ∀ K : Value → Prop, K (.bool (a == b)) → vcBin P .eql t xo yo (Vs a) (Vs b) K := by
  refine bin_s (fun w => ?_) rfl
  simp only [Op.stringOp, str_list, Sem.run_pure]
theorem bin_sne {P : Program} {t : TypeId} {xo yo : Operand} {a b : List UInt8} : ∀ K : Value → Prop, K (.bool (a != b)) → vcBin P .neq t xo yo (Vs a) (Vs b) K := by
  refine bin_s (fun w => ?_) rfl
  simp only [Op.stringOp, str_list, Sem.run_pure]
  rfl
theorem run_ofB {P : Program} {src dst el : TypeId} (hs : P.underlying src = some (.slice el)) (he : P.underlying el = some (.int .u8)) (hd : P.underlying dst = some .string)
    {w : World} {M : List Nat} {a : Option Addr} {c : Nat} {xs : List Int} (h : SlR (eInt .u8) w M a c xs) :
    (convert src dst (.slice a xs.length c)).run P w = .ok (Vs (ofB xs)) w := by
  rw [run_convert_bytes_string w src dst el a _ c hs he hd]
  have key : ∀ (xs : List Int) (s : ByteArray), xs.foldl (fun r n => r.push (UInt8.ofNat n.toNat)) s = ⟨s.data ++ (ofB xs).toArray⟩ := by
    intro xs
    induction xs with
    | nil => intro s; simp [ofB]
    | cons x xs ih =>
      intro s
      rw [List.foldl_cons, ih]
      simp [ofB, ByteArray.push]
  cases a with
  | none =>
    have := h.nil rfl
    subst this
    rfl
  | some ad =>
    have hl : (loadCells ad xs.length).run P w = .ok (xs.map (Value.int .u8)).toArray w := by
      have := run_loadCells_list (P := P) w ad (xs.map (Value.int .u8)) (fun j v hj => by
        have hj' : j < xs.length := by
          have := (List.getElem?_eq_some_iff.1 hj).1
          simpa using this
        obtain ⟨h1, h2, h3, h4⟩ := h.at_ ad rfl (by omega)
        obtain ⟨cs, h5, h6⟩ := h4 j _ (List.getElem?_eq_getElem hj')
        have h5' : cs = [.int .u8 xs[j]] := h5
        have h7 := h6 0 _ (by rw [h5']; rfl)
        have h8 : (eInt .u8).n = 1 := rfl
        rw [h8, Nat.mul_one, Nat.add_zero] at h7
        rw [addr_add h1, h7]
        rw [List.getElem?_map, List.getElem?_eq_getElem hj'] at hj
        exact hj)
      simpa using this
    rw [run_bytesToString w ad _ c xs hl, key]
    have e0 : ByteArray.empty.data = #[] := rfl
    rw [e0, Array.empty_append]
def OwnM {α : Type} (e : Enc α) (T : TypeId) (w : World) (M : List Nat) (a : Option Addr) (c : Nat) (xs : List α) : Prop :=
  ∃ g cur lo hi, a = some ⟨g, 0, none⟩ ∧ w.heap[g]? = some (.cells cur T (lo, hi)) ∧ cur.size ≤ lo ∧ xs.length ≤ c ∧ c ≤ maxLen ∧ cur.size = c * e.n ∧
    ∀ (i : Nat) (x : α), xs[i]? = some x → ∃ cs, e.R w M cs x ∧ ∀ (k : Nat) (v : Value), cs[k]? = some v → cur[i * e.n + k]? = some v
theorem OwnM.lt {α : Type} {e : Enc α} {T : TypeId} {w : World} {M : List Nat} {a : Option Addr} {c : Nat} {xs : List α} (h : OwnM e T w M a c xs) : ∀ b ∈ blk a, b < w.heap.size := by
  obtain ⟨g, cur, lo, hi, rfl, hg, _⟩ := h
  intro b hb
  simp only [blk, List.mem_singleton] at hb
  subst hb; exact lt_of_heap hg
theorem OwnM.step {α : Type} {e : Enc α} {T : TypeId} {w w' : World} {M M' Mo : List Nat} {a : Option Addr} {c : Nat} {xs : List α} (h : OwnM e T w M a c xs) (hs : Stp M w M' w') (he : Ev Mo w w') (hm : ∀ b ∈ blk a, b ∉ Mo) : OwnM e T w' M' a c xs := by
  obtain ⟨g, cur, lo, hi, rfl, hg, h0, h1, h2, h3, h4⟩ := h
  refine ⟨g, cur, lo, hi, rfl, he.box hg (hm g (by simp [blk])), h0, h1, h2, h3, fun i x hx => ?_⟩
  obtain ⟨cs, h5, h6⟩ := h4 i x hx
  exact ⟨cs, e.step h5 hs, h6⟩
theorem OwnM.sub {α : Type} {e : Enc α} {T : TypeId} {w : World} {M M' : List Nat} {a : Option Addr} {c : Nat} {xs : List α} (h : OwnM e T w M a c xs) (hs : ∀ b ∈ M', b ∈ M) : OwnM e T w M' a c xs :=
  h.step (Stp.sub w hs) (Ev.refl [] w) (fun _ _ h => by cases h)
theorem OwnM.ro {α : Type} {e : Enc α} {T : TypeId} {w : World} {M M' : List Nat} {a : Option Addr} {c : Nat} {xs : List α} (h : OwnM e T w M a c xs) (hM : ∀ b ∈ M', b ∈ M) (hm : ∀ b ∈ blk a, b ∉ M') : SlR e w M' a c xs := by
  obtain ⟨g, cur, lo, hi, rfl, hg, h0, h1, h2, h3, h4⟩ := h
  refine ⟨h1, h2, fun h => (by cases h), fun ad ha _ => ?_⟩
  cases ha
  refine ⟨rfl, hm g (by simp [blk]), lt_of_heap hg, fun i x hx => ?_⟩
  obtain ⟨cs, h5, h6⟩ := h4 i x hx
  refine ⟨cs, e.step h5 (Stp.sub w hM), fun k v hv => ?_⟩
  simp only [Nat.zero_add]
  rw [box_cell hg]; exact h6 k v hv
theorem OwnM.le {α : Type} {e : Enc α} {T : TypeId} {w : World} {M : List Nat} {a : Option Addr} {c : Nat} {xs : List α} (h : OwnM e T w M a c xs) : xs.length ≤ c := by
  obtain ⟨g, cur, lo, hi, _, _, _, h1, _⟩ := h
  exact h1
theorem own_indexM {P : Program} {Mo M : List Nat} {α : Type} {e : Enc α} {t T : Nat} {w : World} {a : Option Addr} {c : Nat} {xs : List α} {i : Int} {x : α} (ht : IsSlice P t T e.n) (h : OwnM e T w M a c xs) (hx : idx xs i = some x) :
    ∃ g cs, a = some ⟨g, 0, none⟩ ∧ Reads P Mo (Instr.indexAt t (.slice a xs.length c) (.int .i64 i)) w (.pointer (some ⟨g, i.toNat * e.n, none⟩)) ∧ CellsAt w [] ⟨g, i.toNat * e.n, none⟩ cs ∧ e.R w M cs x := by
  obtain ⟨h0, h1, h2⟩ := idx_some hx
  obtain ⟨g, cur, lo, hi, rfl, hg, _, h3, h4, h5, h6⟩ := h
  obtain ⟨cs, h7, h8⟩ := h6 _ _ h2
  refine ⟨g, cs, rfl, fun w' _ => ?_, ⟨rfl, by simp, lt_of_heap hg, fun k v hv => ?_⟩, h7⟩
  · have hz := ht.2 w'
    simp only [Instr.indexAt, asIntOf, Sem.run_bind, Sem.run_pure, Result.andThen_ok, run_underlying ht.1, h0, h1, and_self, if_true, hz]
    rw [addr_add rfl]
    simp
  · rw [box_cell hg]; exact h8 k v hv
theorem store_boxM {P : Program} {t T : TypeId} {w : World} {b lo hi : Nat} {cs : Array Value} (k : Nat) (v : Value) (cs' : Array Value) (ht : IsCell P t) (h : w.heap[b]? = some (.cells cs T (lo, hi))) (hlo : cs.size ≤ lo) (hk : k < cs.size) (h1 : v.oneCell' = true)
    (hcs : cs.setIfInBounds k v = cs') :
    ∃ w', (Instr.storeAt t (.pointer (some ⟨b, k, none⟩)) v).run P w = .ok () w' ∧ w'.heap[b]? = some (.cells cs' T (lo, hi)) ∧ Ev [b] w w' := by
  refine ⟨w.setRow b cs', ?_, setRow_heap w b cs cs' T (lo, hi) h, Ev.setRow b cs'⟩
  have hc : v.cells = #[v] := by cases v <;> first | rfl | cases h1
  simp only [Instr.storeAt, Instr.sureAddr]
  show (storeVar t ⟨b, k, none⟩ v).run P w = _
  unfold storeVar
  rw [run_bind, (ht w).2]
  simp only [hc]
  rw [if_neg (by simp)]
  have hcell : w.cell? ⟨b, k, none⟩ = some cs[k] := by simp [World.cell?, h, hk]
  have hfro : w.frozen? ⟨b, k, none⟩ = false := by
    have : ¬ lo ≤ k := by omega
    simp [World.frozen?, h, this]
  have := run_storeCells_cells (P := P) b k [v] 0 w (fun j hj => by
    have : j = 0 := by simpa using hj
    subst this
    simp only [Nat.add_zero, hcell, Option.isSome_some]) (fun j hj => by
    have : j = 0 := by simpa using hj
    subst this
    simpa using hfro) (by simpa using h1)
  show (storeCells ⟨b, k, none⟩ [v] 0).run P w = _
  rw [this]
  congr 1
  show w.setCell ⟨b, k + 0, none⟩ v = _
  rw [Nat.add_zero, setCell_eq_setRow w b k cs T (lo, hi) v h, hcs]
theorem own_storeM {P : Program} {M : List Nat} {α : Type} {e : Enc α} {te T : Nat} {w : World} {g : Nat} {c : Nat} {xs : List α} {i : Int} {x y : α} (o : Nat) (v : Value) (ht : IsCell P te) (h : OwnM e T w M (some ⟨g, 0, none⟩) c xs) (hsub : g ∈ M) (hx : idx xs i = some x)
    (h1 : v.oneCell' = true) (ho : Nat.blt o e.n = true) (hy : ∀ w M cs, e.R w M cs x → e.R w M (cs.set o v) y) :
    ∃ w', (Instr.storeAt te (.pointer (some ⟨g, i.toNat * e.n + o, none⟩)) v).run P w = .ok () w' ∧ Ev [g] w w' ∧ OwnM e T w' M (some ⟨g, 0, none⟩) c (xs.set i.toNat y) := by
  obtain ⟨h0, hl, h2⟩ := idx_some hx
  have ho := Nat.le_of_ble_eq_true ho
  obtain ⟨g', cur, lo, hi, hg', hg, hlo, h3, h4, h5, h6⟩ := h
  cases hg'
  have hil : i.toNat < xs.length := by omega
  have hfit : i.toNat * e.n + o < cur.size := by
    rw [h5]
    have : (i.toNat + 1) * e.n ≤ c * e.n := Nat.mul_le_mul_right _ (by omega)
    rw [Nat.add_mul] at this; omega
  obtain ⟨w', hr, hb, hev⟩ := store_boxM (P := P) (i.toNat * e.n + o) v (cur.setIfInBounds (i.toNat * e.n + o) v) ht hg hlo hfit h1 rfl
  refine ⟨w', hr, hev, g, _, lo, hi, rfl, hb, by rw [Array.size_setIfInBounds]; exact hlo, by rw [List.length_set]; exact h3, h4, by rw [Array.size_setIfInBounds]; exact h5, fun j z hz => ?_⟩
  have hst : Stp M w M w' := Stp.same hev (fun b hb => by simp only [List.mem_singleton] at hb; subst hb; exact hsub)
  rw [List.getElem?_set] at hz
  split at hz
  · rename_i hij
    · cases hz
      subst hij
      obtain ⟨cs, h7, h8⟩ := h6 _ _ h2
      refine ⟨cs.set o v, e.step (hy _ _ _ h7) hst, fun k u hu => ?_⟩
      rw [List.getElem?_set] at hu
      rw [Array.getElem?_setIfInBounds]
      split at hu
      · rename_i hok
        subst hok
        split at hu
        · cases hu; rw [if_pos (by omega), if_pos (by omega)]
        · cases hu
      · rename_i hok
        rw [if_neg (by omega)]
        exact h8 k u hu
  · rename_i hij
    obtain ⟨cs, h7, h8⟩ := h6 _ _ hz
    refine ⟨cs, e.step h7 hst, fun k u hu => ?_⟩
    have hk : k < e.n := by rw [← e.len h7]; exact (List.getElem?_eq_some_iff.1 hu).1
    rw [Array.getElem?_setIfInBounds_ne]
    · exact h8 k u hu
    · intro heq
      rcases Nat.lt_or_gt_of_ne hij with hlt | hgt
      · have : (i.toNat + 1) * e.n ≤ j * e.n := Nat.mul_le_mul_right _ hlt
        rw [Nat.add_mul] at this; omega
      · have : (j + 1) * e.n ≤ i.toNat * e.n := Nat.mul_le_mul_right _ hgt
        rw [Nat.add_mul] at this; omega
theorem own_ofS {P : Program} {src dst el : TypeId} (hs : P.underlying src = some .string) (hd : P.underlying dst = some (.slice el)) (he : P.underlying el = some (.int .u8)) (w : World) (l : List UInt8) (hl : l.length ≤ 4294967296) :
    ∃ a c w', (convert src dst (Vs l)).run P w = .ok (.slice a (toB l).length c) w' ∧ Ev [] w w' ∧ (∀ x ∈ blk a, w.heap.size ≤ x ∧ x < w'.heap.size) ∧ (∀ M', OwnM (eInt .u8) el w' M' a c (toB l)) := by
  have hr := Lib.run_convert_string_bytes (P := P) w src dst el ⟨⟨l⟩⟩ hs hd he
  have hge := grownCap_ge w l.length 0 el
  have hsz : (Lib.bytesCells w el ⟨⟨l⟩⟩).size = grownCap w l.length 0 el := by
    simp only [Lib.bytesCells, Array.size_append, Array.size_map, Array.size_replicate, str_size]
    show l.length + (grownCap w l.length 0 el - l.length) = _
    omega
  have hb := Lib.bytesWorld_at_new w el ⟨⟨l⟩⟩
  have hlen : (toB l).length = l.length := by simp [toB]
  refine ⟨some ⟨w.heap.size, 0, none⟩, grownCap w l.length 0 el, Lib.bytesWorld w el ⟨⟨l⟩⟩, by rw [hlen]; exact hr, ⟨rfl, rfl, rfl, ?_, fun k hk _ => Lib.bytesWorld_at_old w el _ k hk⟩, fun x hx => ?_, fun M' => ?_⟩
  · rw [Lib.bytesWorld_size]; omega
  · simp only [blk, List.mem_singleton] at hx
    subst hx
    rw [Lib.bytesWorld_size]; omega
  · refine ⟨w.heap.size, Lib.bytesCells w el ⟨⟨l⟩⟩, _, _, rfl, hb, Nat.le_refl _, by rw [hlen]; exact hge, grownCap_le_maxLen w _ _ el (by unfold maxLen; omega), by rw [hsz]; exact (Nat.mul_one _).symm, fun i x hx => ⟨[.int .u8 x], rfl, fun k v hv => ?_⟩⟩
    cases k with
    | succ k => simp at hv
    | zero =>
      simp only [List.getElem?_cons_zero, Option.some.injEq] at hv
      subst hv
      have hn : (eInt .u8).n = 1 := rfl
      have hi : i < l.length := by
        have := (List.getElem?_eq_some_iff.1 hx).1
        rwa [hlen] at this
      rw [hn, Nat.mul_one, Nat.add_zero]
      unfold toB at hx
      rw [List.getElem?_map, List.getElem?_eq_getElem hi] at hx
      simp only [Option.map_some, Option.some.injEq] at hx
      subst hx
      simp only [Lib.bytesCells]
      rw [Array.getElem?_append_left (by simpa using hi)]
      simp [hi]
end Go.V
