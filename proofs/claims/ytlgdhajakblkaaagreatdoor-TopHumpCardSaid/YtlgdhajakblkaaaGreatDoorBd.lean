
/- A strings.Builder that a function has made itself, as contracts. Conditions: those of each theorem. -/
import Derived.Test.YtlgdhajakblkaaaGreatDoorMb
import Derived.Shelf.Strings.BuilderK
set_option linter.unusedSimpArgs false
set_option linter.unusedVariables false
namespace Go.Proofs
open Go Go.Shelf Go.RowKit Go.V
variable {P : Program} {ρ : Ren}
def BldH (T e : TypeId) (w : World) (B : List Nat) (b : Nat) (s : List UInt8) : Prop :=
  b ∈ B ∧ ∃ p v, (p = .pointer none ∨ p = .pointer (some ⟨b, 0, none⟩)) ∧ w.heap[b]? = some (.cells #[p, v] T (0, 0)) ∧ w.ownsRowF 0 e 1 v s.length (Lib.byteCells s) ∧ v.ownBlock ≠ some b ∧ ∀ g, v.ownBlock = some g → g ∈ B
theorem BldH.lt {T e : TypeId} {w : World} {B : List Nat} {b : Nat} {s : List UInt8} (h : BldH T e w B b s) : b < w.heap.size := by
  obtain ⟨_, p, v, _, hb, _⟩ := h
  exact lt_of_heap hb
theorem BldH.step {T e : TypeId} {w w' : World} {B Mo : List Nat} {b : Nat} {s : List UInt8} (h : BldH T e w B b s) (he : Ev Mo w w') (hm : ∀ x ∈ B, x ∉ Mo) : BldH T e w' B b s := by
  obtain ⟨h1, p, v, hp, hb, ho, hn, hg⟩ := h
  refine ⟨h1, p, v, hp, he.box hb (hm b h1), ⟨ho.1, ?_⟩, hn, hg⟩
  rcases ho.2 with h | ⟨g, cap, cur, fz, rfl, q1, q2, q⟩
  · exact .inl h
  · exact .inr ⟨g, cap, cur, fz, rfl, q1, he.box q2 (hm g (hg g rfl)), q⟩
theorem BldH.at {T e : TypeId} {w : World} {B : List Nat} {b : Nat} {s : List UInt8} (h : BldH T e w B b s) : ∃ p, (p = .pointer none ∨ p = .pointer (some ⟨b, 0, none⟩)) ∧ Lib.BuilderAtF T e 0 b p (Lib.byteCells s) w := by
  obtain ⟨_, p, v, hp, hb, ho, hn, _⟩ := h
  exact ⟨p, hp, Nat.zero_le _, v, hb, by rw [Lib.byteCells_length]; exact ho, hn⟩
theorem BldH.new {T e : TypeId} {w : World} {b : Nat} (h : w.heap[b]? = some (.cells #[.pointer none, .slice none 0 0] T (0, 0))) : BldH T e w [b] b [] :=
  ⟨List.mem_singleton.2 rfl, _, _, .inl rfl, h, World.ownsRowF_nil _ _ _ _, by simp [Value.ownBlock], fun g hg => by simp [Value.ownBlock] at hg⟩
theorem ev_of_grown {w w' : World} {row : Option Nat} {B : List Nat} (h : w.grownBy w' row) (hB : ∀ g, row = some g → g ∈ B) : Ev B w w' :=
  ⟨h.os, h.tape, h.output, h.size, fun k hk hm => h.block k hk fun e => hm (hB k e.symm)⟩
theorem ev_setCell {w : World} {b o : Nat} {v : Value} {B : List Nat} (hb : b ∈ B) : Ev B w (w.setCell ⟨b, o, none⟩ v) :=
  ⟨rfl, rfl, rfl, by simp [World.setCell], fun k hk hm => by
    have : b ≠ k := fun e => hm (e ▸ hb)
    simp [World.setCell, Array.getElem?_modify, this]⟩
theorem bld_check (L : Lays.n240 P ρ) (X : Builder.X72 P ρ) {w : World} {B : List Nat} {b : Nat} {s : List UInt8} (h : BldH (ρ.t 72) (ρ.t 5) w B b s) :
    Calls P (ρ.f 240) #[.pointer (some ⟨b, 0, none⟩)] w fun e w' => e = .returned (.tuple #[]) ∧ Ev B w w' ∧ ∃ v, w'.heap[b]? = some (.cells #[.pointer (some ⟨b, 0, none⟩), v] (ρ.t 72) (0, 0)) ∧ w'.ownsRowF 0 (ρ.t 5) 1 v s.length (Lib.byteCells s) ∧ v.ownBlock ≠ some b ∧ ∀ g, v.ownBlock = some g → g ∈ B := by
  obtain ⟨h1, p, v, hp, hb, ho, hn, hg⟩ := h
  rcases hp with rfl | rfl
  · refine (Any.Builder_copyCheck_fresh L X b w (by rw [Lib.cell_of_heap hb]; rfl) (by simp [World.shape?, hb]) (Lib.frozen_of_heap hb 0)).mono ?_
    rintro e w' ⟨rfl, rfl⟩
    refine ⟨rfl, ev_setCell h1, v, ?_, ?_, hn, hg⟩
    · simp [World.setCell, Array.getElem?_modify, hb]
    · exact ho.kept (row := some b) ⟨rfl, rfl, rfl, by simp [World.setCell], fun k _ hk => Below.heap_setCell _ _ _ _ (fun e => hk (by simp [e]))⟩ (Or.inr hn)
  · refine (Any.Builder_copyCheck_used L X b w (by rw [Lib.cell_of_heap hb]; rfl)).mono ?_
    rintro e w' ⟨rfl, rfl⟩
    exact ⟨rfl, Ev.refl _ _, v, hb, ho, hn, hg⟩
def Wrote (T e : TypeId) (w : World) (B : List Nat) (b : Nat) (s : List UInt8) (w' : World) : Prop :=
  Ev B w w' ∧ ∃ B', (∀ x ∈ B', (x ∈ B ∨ w.heap.size ≤ x) ∧ x < w'.heap.size) ∧ BldH T e w' B' b s
theorem wrote_of {T e : TypeId} {w w1 w2 : World} {B : List Nat} {b : Nat} {t : List UInt8} {v v' : Value} (hTe : T ≠ e) (hB : b ∈ B) (he : Ev B w w1) (hb : w1.heap[b]? = some (.cells #[.pointer (some ⟨b, 0, none⟩), v] T (0, 0)))
    (ho : w2.ownsRowF 0 e 1 v' t.length (Lib.byteCells t)) (hg : w1.grownBy w2 v.ownBlock) (hn : v.ownBlock ≠ some b) (hv : ∀ g, v.ownBlock = some g → g ∈ B) (hv' : ∀ g, v'.ownBlock = some g → v.ownBlock = some g ∨ w1.heap.size ≤ g) :
    Wrote T e w B b t (w2.setCell ⟨b, 1, none⟩ v') := by
  have hb2 : w2.heap[b]? = some (.cells #[.pointer (some ⟨b, 0, none⟩), v] T (0, 0)) := by rw [hg.block b (lt_of_heap hb) (fun e => hn e.symm)]; exact hb
  have e2 : Ev B w1 w2 := ev_of_grown hg hv
  have e3 : Ev B w2 (w2.setCell ⟨b, 1, none⟩ v') := ev_setCell hB
  have hne := Lib.ownBlock_neF ho hb2 hTe
  refine ⟨(he.then e2 (fun b hb => .inl hb)).then e3 (fun b hb => .inl hb), (match v'.ownBlock with | some g => [b, g] | none => [b]), ?_, ?_, _, v', .inr rfl, ?_, ?_, hne, ?_⟩
  · have hs1 := he.size
    have hs2 := hg.size
    have hsz : (w2.setCell ⟨b, 1, none⟩ v').heap.size = w2.heap.size := by simp [World.setCell]
    intro x hx
    cases hq : v'.ownBlock with
    | none =>
      rw [hq] at hx
      simp only [List.mem_singleton] at hx
      subst hx
      exact ⟨.inl hB, by rw [hsz]; exact lt_of_heap hb2⟩
    | some g =>
      rw [hq] at hx
      simp only [List.mem_cons, List.not_mem_nil, or_false] at hx
      rcases hx with rfl | rfl
      · exact ⟨.inl hB, by rw [hsz]; exact lt_of_heap hb2⟩
      · refine ⟨?_, by rw [hsz]; exact (ho.lt _ hq).2⟩
        rcases hv' _ hq with h | h
        · exact .inl (hv _ h)
        · exact .inr (by omega)
  · cases v'.ownBlock <;> simp
  · simp [World.setCell, Array.getElem?_modify, hb2]
  · exact ho.kept (row := some b) ⟨rfl, rfl, rfl, by simp [World.setCell], fun k _ hk => Below.heap_setCell _ _ _ _ (fun e => hk (by simp [e]))⟩ (Or.inr hne)
  · intro g hg
    rw [hg]
    simp
theorem run_append_str (t u ty e : TypeId) (i : TypeInfo) (ht : P.underlying t = some (.slice e)) (hu : P.underlying u = some .string) (hi : P.info? e = some i) (hz : i.zero = some (.int .u8 0)) (hsize : i.size = 1) (hby : i.bytes = 1)
    {w : World} (v : Value) (n : Nat) (xs : List Value) (hown : w.ownsRowF 0 e 1 v n xs) (s : ByteArray) (h63 : n + s.size ≤ maxLen) (hbytes : n + s.size ≤ 140737488355328) :
    ∃ v' w', (Builtin.append_ #[t, u] ty #[v, .string s]).run P w = .ok v' w' ∧ w'.ownsRowF 0 e 1 v' (n + s.size) (xs ++ Lib.strCells s) ∧ w.grownBy w' v.ownBlock ∧ ∀ g, v'.ownBlock = some g → v.ownBlock = some g ∨ w.heap.size ≤ g := by
  obtain ⟨v', w', hr, h2, h3, h4⟩ := Lib.run_append_own_stringF (P := P) w 0 t u ty e i ht hu hi hz hsize hby v n xs hown s h63 hbytes (Nat.zero_le _)
  refine ⟨v', w', hr, h2, h3, fun g hg => ?_⟩
  have hsmall : n + s.size ≤ 9223372036854775807 := by simp only [maxLen] at h63; omega
  have hxl : xs.length = n := by simpa using hown.1
  rcases hown.2 with ⟨rfl, rfl⟩ | ⟨g0, cap, cur, fz, rfl, _, hg0, hfz, hnc, hcm, hcs, htake⟩
  · by_cases hm : s.size = 0
    · rw [h4.2 ⟨rfl, hm⟩] at hg; simp [Value.ownBlock] at hg
    · have := run_append_nil_string (P := P) w t u ty e i (.int .u8 0) ht hu hi hz s (by omega) (by omega) (by rw [hby]; omega)
      rw [this] at hr
      simp only [Result.ok.injEq] at hr
      rw [← hr.1] at hg
      simp only [Value.ownBlock, Option.some.injEq] at hg
      exact .inr (by omega)
  · have hcs' : cur.size = cap := by simpa using hcs
    by_cases hroom : n + s.size ≤ cap
    · have := Lib.run_append_room_stringF (P := P) w t u ty e i ht hu hi hsize g0 n cap cur fz hg0 (by simpa using hfz) s hroom (by omega)
      rw [this] at hr
      simp only [Result.ok.injEq] at hr
      rw [← hr.1] at hg
      exact .inl hg
    · have holds : ∀ j u, xs[j]? = some u → w.cell? ((⟨g0, 0, none⟩ : Addr).add j) = some u := hown.cells (g := g0) rfl
      have := Lib.run_append_grow_string (P := P) w t u ty e i (.int .u8 0) ht hu hi hz ⟨g0, 0, none⟩ n cap xs (by rw [hsize]; simpa using hxl) holds s (by omega) (by omega) (by rw [hby]; exact growslice_fits (by omega) (by omega))
      rw [this] at hr
      simp only [Result.ok.injEq] at hr
      rw [← hr.1] at hg
      simp only [Value.ownBlock, Option.some.injEq] at hg
      exact .inr (by omega)
theorem wpList_append_str {ops : Array Oper} {rest : List Oper} {o : Oper} {a : Act} {w : World} {Q : Exit → Act → World → Prop} (hgd : o.guard = none) (sl x : Operand) (t u : TypeId)
    (ho : o.op = .call { callee := .builtin .append, args := #[sl, x], argTypes := #[t, u] })
    (e : TypeId) (i : TypeInfo) (ht : P.underlying t = some (.slice e)) (hu : P.underlying u = some .string) (hi : P.info? e = some i) (hz : i.zero = some (.int .u8 0)) (hsize : i.size = 1) (hby : i.bytes = 1)
    (v : Value) (n : Nat) (xs : List Value) (hs : a.eval sl = v) (hown : w.ownsRowF 0 e 1 v n xs) (s : ByteArray) (hx : a.eval x = .string s) (h63 : n + s.size ≤ maxLen) (hbytes : n + s.size ≤ 140737488355328)
    (h : ∀ v' w', w'.ownsRowF 0 e 1 v' (n + s.size) (xs ++ Lib.strCells s) → w.grownBy w' v.ownBlock → (∀ g, v'.ownBlock = some g → v.ownBlock = some g ∨ w.heap.size ≤ g) → wpList P ops Q rest (a.put o.dst v') w') : wpList P ops Q (o :: rest) a w := by
  refine wpList_plain hgd fun K hK => ?_
  obtain ⟨v', w', hr, h2, h3, h4⟩ := run_append_str t u o.type e i ht hu hi hz hsize hby v n xs hown s h63 hbytes
  unfold Oper.wp execOp
  simp only [ho, Go.resolve, invoke, builtin, Sem.run_bind, Sem.run_pure, Result.andThen_ok, List.map_toArray, List.map_cons, List.map_nil, hs, hx, hr]
  exact hK _ _ (h v' w' h2 h3 h4)
set_option maxHeartbeats 2000000 in
set_option maxRecDepth 100000 in
theorem bld_ws (L : Lays.n166 P ρ) (X : Builder.Extra P ρ) {w : World} {B : List Nat} {b : Nat} {l : List UInt8} (h : BldH (ρ.t 72) (ρ.t 5) w B b l) (s : ByteArray) (hlen : l.length + s.size ≤ 140737488355328) :
    Calls P (ρ.f 166) #[.pointer (some ⟨b, 0, none⟩), .string s] w fun e w' => e = .returned (.tuple #[.int .i64 s.size, .nilIface]) ∧ Wrote (ρ.t 72) (ρ.t 5) w B b (l ++ s.data.toList) w' := by
  obtain ⟨i0, hi, hz0, hz1, hz2⟩ := info_parts X.infoByte
  have mixed := L.mixed
  have t72 := L.t72; have a72 := L.a72; have z72 := L.z72; have v72 := L.v72; have u72 := run_underlying L.t72
  have t70 := L.t70; have a70 := L.a70; have z70 := L.z70; have v70 := L.v70; have u70 := run_underlying L.t70
  have t37 := L.t37; have a37 := L.a37; have z37 := L.z37; have v37 := L.v37; have u37 := run_underlying L.t37
  have t3 := L.t3; have a3 := L.a3; have z3 := L.z3; have v3 := L.v3; have u3 := run_underlying L.t3
  have t9 := L.t9; have a9 := L.a9; have z9 := L.z9; have v9 := L.v9; have u9 := run_underlying L.t9
  have t4 := L.t4; have a4 := L.a4; have z4 := L.z4; have v4 := L.v4; have u4 := run_underlying L.t4
  have t164 := L.t164; have a164 := L.a164; have z164 := L.z164; have v164 := L.v164; have u164 := run_underlying L.t164
  have t5 := X.t5; have a5 := X.a5; have z5 := X.z5; have v5 := X.v5; have u5 := run_underlying X.t5
  have e240 : ∀ args w, (callFunc (ρ.f 240) args).run P w = .ok (.enter (ρ.f 240) args) w := enters_of L.f240 (by kernel_rfl) rfl
  go_enter L.f166, Body.n166_ntmps ρ
  go_wp2_with (go_at_fn (ρ.f 240); refine (bld_check { L with } X.toX72 h).mono ?_)
  rintro e w1 ⟨rfl, he1, v, hbk, hown, hne, hv⟩
  have c0 : w1.cell? ⟨b, 0, none⟩ = some (.pointer (some ⟨b, 0, none⟩)) := by rw [Lib.cell_of_heap hbk]; rfl
  have c1 : w1.cell? ⟨b, 1, none⟩ = some v := by rw [Lib.cell_of_heap hbk]; rfl
  go_wp2_with (at_builtin; refine wpList_append_str rfl _ _ (ρ.t 37) (ρ.t 9) rfl (ρ.t 5) i0 L.t37 L.t9 hi hz0 hz1 hz2 _ _ _ rfl hown s rfl ?c3 ?c4 ?_)
  case c3 => unfold maxLen; omega
  case c4 => omega
  intro v' w2 hown' hgrow hloc
  have hb2 : w2.heap[b]? = some (.cells #[.pointer (some ⟨b, 0, none⟩), v] (ρ.t 72) (0, 0)) := by
    rw [hgrow.block b (lt_of_heap hbk) (fun e => hne e.symm)]
    exact hbk
  have d0 : w2.cell? ⟨b, 0, none⟩ = some (.pointer (some ⟨b, 0, none⟩)) := by rw [Lib.cell_of_heap hb2]; rfl
  have d1 : w2.cell? ⟨b, 1, none⟩ = some v := by rw [Lib.cell_of_heap hb2]; rfl
  have f1 : w2.frozen? ⟨b, 1, none⟩ = false := Lib.frozen_of_heap hb2 1
  have key := wrote_of (t := l ++ s.data.toList) X.neB5 h.1 he1 hbk (by rw [Lib.byteCells_append, ← Lib.strCells_eq, List.length_append]; exact hown') hgrow hne hv hloc
  obtain ⟨ao, n', cap, rfl⟩ : ∃ ao n' cap, v' = .slice ao n' cap := by
    rcases hown'.2 with ⟨hv, _⟩ | ⟨g, cap, cur, fz, hv, _⟩
    · exact ⟨_, _, _, hv⟩
    · exact ⟨_, _, _, hv⟩
  go_wp2
  go_ret2
  exact ⟨rfl, key⟩
theorem run_append_byte (t ty e : TypeId) (i : TypeInfo) (ht : P.underlying t = some (.slice e)) (hi : P.info? e = some i) (hz : i.zero = some (.int .u8 0)) (hsize : i.size = 1) (hby : i.bytes = 1)
    {w : World} (v : Value) (n : Nat) (xs : List Value) (hown : w.ownsRowF 0 e 1 v n xs) (a : Addr) (c : Int) (hc : w.cell? a = some (.int .u8 c)) (hbytes : n + 1 ≤ 140737488355328) :
    ∃ v' w', (Builtin.append_ #[t, t] ty #[v, .slice (some a) 1 1]).run P w = .ok v' w' ∧ w'.ownsRowF 0 e 1 v' (n + 1) (xs ++ [.int .u8 c]) ∧ w.grownBy w' v.ownBlock ∧ ∀ g, v'.ownBlock = some g → v.ownBlock = some g ∨ w.heap.size ≤ g := by
  have hnews : ∀ (j : Nat) (u : Value), [Value.int .u8 c][j]? = some u → w.cell? (a.add j) = some u := by
    intro j u hj
    match j, hj with
    | 0, hj => simp at hj; subst hj; simpa [Addr.add] using hc
  have hone : ∀ u ∈ [Value.int .u8 c], u.oneCell' = true := by intro u hu; simp at hu; subst hu; rfl
  obtain ⟨v', w', hr, h2, h3, h4⟩ := run_append_ownF (P := P) w 0 t ty e i (.int .u8 0) 1 1 ht hi hz hsize hby rfl (by decide) v n xs hown a 1 1 [.int .u8 c] rfl hnews hone (by unfold maxLen; omega) (by omega) (Nat.zero_le _)
  refine ⟨v', w', hr, h2, h3, fun g hg => ?_⟩
  rcases hown.2 with ⟨rfl, rfl⟩ | ⟨g0, cap, cur, fz, rfl, _, hg0, hfz, hnc, hcm, hcs, htake⟩
  · have := run_append_nil (P := P) w t ty e i (.int .u8 0) ht hi hz a 1 1 [.int .u8 c] (by simp [hsize]) hnews (by omega) (by omega) (by rw [hby]; omega)
    rw [this] at hr
    simp only [Result.ok.injEq] at hr
    rw [← hr.1] at hg
    simp only [Value.ownBlock, Option.some.injEq] at hg
    exact .inr (by omega)
  · by_cases hroom : n + 1 ≤ cap
    · have hcs' : cur.size = cap := by simpa using hcs
      have := run_append_roomF (P := P) w t ty e i ht hi g0 n cap cur fz hg0 (by simpa [hsize] using hfz) a 1 1 [.int .u8 c] (by simp [hsize]) hnews hone hroom (by simp [hsize]; omega)
      rw [this] at hr
      simp only [Result.ok.injEq] at hr
      rw [← hr.1] at hg
      exact .inl hg
    · have holds : ∀ j u, xs[j]? = some u → w.cell? ((⟨g0, 0, none⟩ : Addr).add j) = some u := hown.cells (g := g0) rfl
      have := run_append_grow (P := P) w t ty e i (.int .u8 0) ht hi hz ⟨g0, 0, none⟩ n cap xs (by rw [hsize]; exact hown.1) holds a 1 1 [.int .u8 c] (by simp [hsize]) hnews (by omega) (by omega) (growslice_fits (by omega) (by rw [hby]; omega))
      rw [this] at hr
      simp only [Result.ok.injEq] at hr
      rw [← hr.1] at hg
      simp only [Value.ownBlock, Option.some.injEq] at hg
      exact .inr (by omega)
theorem wpList_append_byte {ops : Array Oper} {rest : List Oper} {o : Oper} {a : Act} {w : World} {Q : Exit → Act → World → Prop} (hgd : o.guard = none) (sl x : Operand) (t : TypeId)
    (ho : o.op = .call { callee := .builtin .append, args := #[sl, x], argTypes := #[t, t] })
    (e : TypeId) (i : TypeInfo) (ht : P.underlying t = some (.slice e)) (hi : P.info? e = some i) (hz : i.zero = some (.int .u8 0)) (hsize : i.size = 1) (hby : i.bytes = 1)
    (v : Value) (n : Nat) (xs : List Value) (hs : a.eval sl = v) (hown : w.ownsRowF 0 e 1 v n xs) (ad : Addr) (c : Int) (hx : a.eval x = .slice (some ad) 1 1) (hc : w.cell? ad = some (.int .u8 c)) (hbytes : n + 1 ≤ 140737488355328)
    (h : ∀ v' w', w'.ownsRowF 0 e 1 v' (n + 1) (xs ++ [.int .u8 c]) → w.grownBy w' v.ownBlock → (∀ g, v'.ownBlock = some g → v.ownBlock = some g ∨ w.heap.size ≤ g) → wpList P ops Q rest (a.put o.dst v') w') : wpList P ops Q (o :: rest) a w := by
  refine wpList_plain hgd fun K hK => ?_
  obtain ⟨v', w', hr, h2, h3, h4⟩ := run_append_byte t o.type e i ht hi hz hsize hby v n xs hown ad c hc hbytes
  unfold Oper.wp execOp
  simp only [ho, Go.resolve, invoke, builtin, Sem.run_bind, Sem.run_pure, Result.andThen_ok, List.map_toArray, List.map_cons, List.map_nil, hs, hx, hr]
  exact hK _ _ (h v' w' h2 h3 h4)
set_option maxHeartbeats 2000000 in
set_option maxRecDepth 100000 in
theorem bld_wb (L : Lays.n167 P ρ) (X : Builder.Extra P ρ) {w : World} {B : List Nat} {b : Nat} {l : List UInt8} (h : BldH (ρ.t 72) (ρ.t 5) w B b l) (c : UInt8) (hlen : l.length + 1 ≤ 140737488355328) :
    Calls P (ρ.f 167) #[.pointer (some ⟨b, 0, none⟩), .int .u8 c.toNat] w fun e w' => e = .returned .nilIface ∧ Wrote (ρ.t 72) (ρ.t 5) w B b (l ++ [c]) w' := by
  obtain ⟨i0, hi, hz0, hz1, hz2⟩ := info_parts X.infoByte
  have mixed := L.mixed
  have t72 := L.t72; have a72 := L.a72; have z72 := L.z72; have v72 := L.v72; have u72 := run_underlying L.t72
  have t70 := L.t70; have a70 := L.a70; have z70 := L.z70; have v70 := L.v70; have u70 := run_underlying L.t70
  have t5 := L.t5; have a5 := L.a5; have z5 := L.z5; have v5 := L.v5; have u5 := run_underlying L.t5
  have t37 := L.t37; have a37 := L.a37; have z37 := L.z37; have v37 := L.v37; have u37 := run_underlying L.t37
  have t9 := L.t9; have a9 := L.a9; have z9 := L.z9; have v9 := L.v9; have u9 := run_underlying L.t9
  have t4 := L.t4; have a4 := L.a4; have z4 := L.z4; have v4 := L.v4; have u4 := run_underlying L.t4
  have t164 := L.t164; have a164 := L.a164; have z164 := L.z164; have v164 := L.v164; have u164 := run_underlying L.t164
  have e240 : ∀ args w, (callFunc (ρ.f 240) args).run P w = .ok (.enter (ρ.f 240) args) w := enters_of L.f240 (by kernel_rfl) rfl
  go_enter L.f167, Body.n167_ntmps ρ
  go_wp2_with (go_at_fn (ρ.f 240); refine (bld_check { L with } X.toX72 h).mono ?_)
  rintro e w1 ⟨rfl, he1, v, hbk, hown, hne, hv⟩
  have c0 : w1.cell? ⟨b, 0, none⟩ = some (.pointer (some ⟨b, 0, none⟩)) := by rw [Lib.cell_of_heap hbk]; rfl
  have c1 : w1.cell? ⟨b, 1, none⟩ = some v := by rw [Lib.cell_of_heap hbk]; rfl
  go_wp2_with (at_builtin; refine wpList_append_byte rfl _ _ (ρ.t 37) rfl (ρ.t 5) i0 L.t37 hi hz0 hz1 hz2 _ _ _ rfl (hown.alloc _) ⟨w1.heap.size, 0, none⟩ c.toNat rfl ?c1 ?c4 ?_)
  case c1 => simp
  case c4 => omega
  intro v' w2 hown' hgrow hloc
  have hlt : b < w1.heap.size := lt_of_heap hbk
  have hbk2 := (Lib.alloc_old w1 (.cells #[.int .u8 c.toNat] (ρ.t 5)) b hlt).trans hbk
  have hb2 : w2.heap[b]? = some (.cells #[.pointer (some ⟨b, 0, none⟩), v] (ρ.t 72) (0, 0)) := by
    rw [hgrow.block b (by simp; omega) (fun e => hne e.symm), Lib.alloc_old w1 _ b hlt]
    exact hbk
  have d0 : w2.cell? ⟨b, 0, none⟩ = some (.pointer (some ⟨b, 0, none⟩)) := by rw [Lib.cell_of_heap hb2]; rfl
  have d1 : w2.cell? ⟨b, 1, none⟩ = some v := by rw [Lib.cell_of_heap hb2]; rfl
  have f1 : w2.frozen? ⟨b, 1, none⟩ = false := Lib.frozen_of_heap hb2 1
  have hal : Ev B w1 (w1.alloc (.cells #[.int .u8 c.toNat] (ρ.t 5))) := ⟨rfl, rfl, rfl, by simp, fun k hk _ => Lib.alloc_old w1 _ k hk⟩
  have key := wrote_of (t := l ++ [c]) X.neB5 h.1 (he1.then hal (fun b hb => .inl hb)) hbk2 (by simpa [Lib.byteCells] using hown') hgrow hne hv (by simpa using hloc)
  obtain ⟨g, cap, rfl⟩ : ∃ g cap, v' = .slice (some ⟨g, 0, none⟩) (l.length + 1) cap := by
    rcases hown'.2 with ⟨_, h0⟩ | ⟨g, cap, cur, fz, hv, _⟩
    · omega
    · exact ⟨g, cap, hv⟩
  go_wp2
  go_ret
  exact ⟨rfl, key⟩
set_option maxHeartbeats 1000000 in
set_option maxRecDepth 100000 in
theorem bld_str (L : Lays.n169 P ρ) (X : Builder.Extra P ρ) {w : World} {B : List Nat} {b : Nat} {l : List UInt8} (h : BldH (ρ.t 72) (ρ.t 5) w B b l) (h0 : l ≠ []) :
    Calls P (ρ.f 169) #[.pointer (some ⟨b, 0, none⟩)] w fun e w' => e = .returned (.string ⟨l.toArray⟩) ∧ Ev B w w' := by
  obtain ⟨h1, p, v, hp, hbk, hown, hne, hv⟩ := h
  have hl0 : l.length ≠ 0 := by simpa using h0
  obtain ⟨g, cap, cur, fz, rfl, hbg, hg, hfz, hnc, hcm, hcs, htake⟩ : ∃ g cap cur fz, v = .slice (some ⟨g, 0, none⟩) l.length cap ∧ 0 ≤ g ∧ w.heap[g]? = some (.cells cur (ρ.t 5) fz) ∧ fz.2 ≤ l.length * 1 ∧ l.length ≤ cap ∧ cap ≤ maxLen ∧ cur.size = cap * 1 ∧ cur.toList.take (l.length * 1) = Lib.byteCells l := by
    rcases hown.2 with ⟨_, hz⟩ | ⟨g, cap, cur, fz, hv, r⟩
    · exact absurd hz hl0
    · exact ⟨g, cap, cur, fz, hv, r⟩
  have c1 : w.drew.cell? ⟨b, 1, none⟩ = some (.slice (some ⟨g, 0, none⟩) l.length cap) := by
    have : w.drew.heap[b]? = some (.cells #[p, .slice (some ⟨g, 0, none⟩) l.length cap] (ρ.t 72) (0, 0)) := hbk
    rw [Lib.cell_of_heap this]; rfl
  have hSD : (Builtin.unsafeSliceData_ #[(ρ.t 37)] (ρ.t 127) #[.slice (some ⟨g, 0, none⟩) l.length cap]).run P w.drew = .ok (.pointer (some ⟨g, 0, none⟩)) w.drew :=
    Lib.run_unsafeSliceData_row _ _ _ _ _ _ (by omega)
  have hUS : (Builtin.unsafeString_ #[(ρ.t 127), (ρ.t 3)] (ρ.t 9) #[.pointer (some ⟨g, 0, none⟩), .int .i64 l.length]).run P w.drew = .ok (.string ⟨l.toArray⟩) (w.drew.freeze ⟨g, 0, none⟩ l.length) := by
    refine Lib.run_unsafeString_row w.drew (ρ.t 127) (ρ.t 3) (ρ.t 9) (ρ.t 5) L.t127 X.cellsByte g cur.size (by have hg' : w.drew.heap[g]? = some (.cells cur (ρ.t 5) fz) := hg; simp [World.shape?, hg']) l h0 (by omega) (by unfold maxLen at hcm; omega) ?_
    intro j x hx
    have := hown.cells (g := g) rfl j (.int .u8 x.toNat) (by simp [Lib.byteCells, hx])
    exact this
  have hgB : g ∈ B := hv g rfl
  have hkeep : Ev B w (w.drew.freeze ⟨g, 0, none⟩ l.length) := by
    unfold World.freeze
    split
    · exact ⟨rfl, rfl, rfl, Nat.le_refl _, fun _ _ _ => rfl⟩
    · refine ⟨rfl, rfl, rfl, by simp, fun k hk hm => ?_⟩
      have : g ≠ k := fun e => hm (e ▸ hgB)
      simp only [Array.getElem?_modify, if_neg this]
      rfl
  have mixed := L.mixed
  have t72 := L.t72; have a72 := L.a72; have z72 := L.z72; have v72 := L.v72; have u72 := run_underlying L.t72
  have t70 := L.t70; have a70 := L.a70; have z70 := L.z70; have v70 := L.v70; have u70 := run_underlying L.t70
  have t37 := L.t37; have a37 := L.a37; have z37 := L.z37; have v37 := L.v37; have u37 := run_underlying L.t37
  have t127 := L.t127; have a127 := L.a127; have z127 := L.z127; have v127 := L.v127; have u127 := run_underlying L.t127
  have t3 := L.t3; have a3 := L.a3; have z3 := L.z3; have v3 := L.v3; have u3 := run_underlying L.t3
  have t9 := L.t9; have a9 := L.a9; have z9 := L.z9; have v9 := L.v9; have u9 := run_underlying L.t9
  have t5 := X.t5; have a5 := X.a5; have z5 := X.z5; have v5 := X.v5; have u5 := run_underlying X.t5
  go_enter L.f169, Body.n169_ntmps ρ
  go_wp2
  go_region_o
  all_goals (go_wp2; go_ret; exact ⟨rfl, hkeep⟩)
end Go.Proofs
