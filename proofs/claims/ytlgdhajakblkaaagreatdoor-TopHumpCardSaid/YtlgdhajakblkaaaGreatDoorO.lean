
/- What the run by values gives, the model gives: maps, append, conversions, operators. No condition. -/
import Derived.Test.YtlgdhajakblkaaaGreatDoorK
set_option linter.unusedVariables false
set_option linter.unusedSimpArgs false
namespace Go.E
open Go Go.V
theorem str_list' (l : List UInt8) : (⟨⟨l⟩⟩ : ByteArray).toList = l := by rw [ByteArray.toList_eq]
theorem keyEq_ok {p : Ren} {d : TypeDesc} {a b : GV} {va vb : Value} {r : Bool} (h : keyEq d a b = some r) (ha : RV p a va) (hb : RV p b vb) : Instr.sameNow d va vb = some r ∧ (r = true → va = vb ∧ Instr.sameBits 10000 va vb = true) := by
  unfold keyEq at h
  split at h
  · have ha : va = .int _ _ := ha
    have hb : vb = .int _ _ := hb
    subst ha hb
    split at h
    · rename_i e
      subst e
      cases h
      refine ⟨by simp [Instr.sameNow], fun h => ?_⟩
      have := eq_of_beq h
      subst this
      exact ⟨rfl, by simp [Instr.sameBits]⟩
    · cases h
  · have ha : va = Vs _ := ha
    have hb : vb = Vs _ := hb
    subst ha hb
    cases h
    rename_i x y
    have e : ((⟨⟨x⟩⟩ : ByteArray) == ⟨⟨y⟩⟩) = (x == y) := by rw [beq_toListBytes, str_list', str_list']
    refine ⟨by simp only [Instr.sameNow, e], fun h => ?_⟩
    have := eq_of_beq h
    subst this
    exact ⟨rfl, by simp only [Instr.sameBits, e, h]⟩
  · have ha : va = .bool _ := ha
    have hb : vb = .bool _ := hb
    subst ha hb
    cases h
    refine ⟨rfl, fun h => ?_⟩
    have := eq_of_beq h
    subst this
    exact ⟨rfl, by simp [Instr.sameBits]⟩
  · cases h
def RF (p : Ren) : Option (Nat × GV) → Option (Nat × Value) → Prop
  | none, none => True
  | some (i, g), some (j, v) => i = j ∧ RV p g v
  | _, _ => False
theorem find_ok {p : Ren} {d : TypeDesc} {k : GV} {vk : Value} (hk : RV p k vk) : ∀ {es : List (GV × GV)} {ents : List MapEntry} {i : Nat} {r : Option (Nat × GV)}, RM p es ents → findG d k es i = some r →
    ∃ r', Instr.findNow d vk ents i = some r' ∧ RF p r r' ∧ ∀ j v, r' = some (j, v) → i ≤ j ∧ ∃ e, ents[j - i]? = some e ∧ e.key = vk ∧ Instr.sameBits 10000 e.key vk = true
  | [], [], i, r, _, h => by cases h; exact ⟨none, rfl, trivial, fun j v h => by cases h⟩
  | (a, v) :: es, e :: ents, i, r, ⟨⟨h1, h2⟩, h3⟩, h => by
    unfold findG at h
    unfold Instr.findNow
    split at h
    · rename_i hq
      cases h
      obtain ⟨q1, q2⟩ := keyEq_ok hq hk h1
      obtain ⟨q3, q4⟩ := q2 rfl
      refine ⟨some (i, e.val), by simp only [q1], ⟨rfl, h2⟩, fun j v' hj => ?_⟩
      cases hj
      refine ⟨Nat.le_refl _, e, by simp, q3.symm, ?_⟩
      rw [← q3] at q4 ⊢
      exact q4
    · rename_i hq
      obtain ⟨q1, q2⟩ := keyEq_ok hq hk h1
      obtain ⟨r', r1, r2, r3⟩ := find_ok hk h3 h
      refine ⟨r', by simp only [q1]; exact r1, r2, fun j v' hj => ?_⟩
      obtain ⟨s1, e', s2, s3⟩ := r3 j v' hj
      refine ⟨by omega, e', ?_, s3⟩
      rw [show j - i = (j - (i + 1)) + 1 by omega, List.getElem?_cons_succ]
      exact s2
    · cases h
  | [], _ :: _, _, _, h, _ => h.elim
  | _ :: _, [], _, _, h, _ => h.elim
theorem checkKey_ok {P : Program} {p : Ren} {kt : Nat} {d : TypeDesc} {k : GV} {vk : Value} {b : Bool} (hu : P.underlying kt = some d) (hd : keyT d = true) (w : World) : (Instr.checkKey b 10000 kt vk).run P w = .ok () w := by
  unfold Instr.checkKey
  rw [run_bind, run_underlying hu]
  cases d <;> first | (cases hd; done) | rfl
theorem findKey_ok {P : Program} {kt : Nat} {d : TypeDesc} {vk : Value} {es : List MapEntry} {r : Option (Nat × Value)} (hu : P.underlying kt = some d) (h : Instr.findNow d vk es 0 = some r) (w : World) : (Instr.findKey kt vk es).run P w = .ok r w := by
  unfold Instr.findKey
  rw [run_bind, run_underlying hu]
  simp only [h]
  rfl
theorem okG_rv {p : Ren} {g : GV} {v : Value} (h : RV p g v) (ok b : Bool) : RV p (okG ok g b) (if ok then .tuple #[v, .bool b] else v) := by
  cases ok
  · exact h
  · exact ⟨[v, .bool b], rfl, h, rfl, trivial⟩
theorem mapOf_ok {p : Ren} {S : St} {w : World} (h : RH p S w) {x : GV} {vx : Value} {es : List (GV × GV)} (hm : mapOf S x = some es) (hx : RV p x vx) :
    ∃ ents : Array MapEntry, RM p es ents.toList ∧ ((vx = .map none ∧ ents = #[]) ∨ ∃ r clock, vx = .map (some r) ∧ w.heap[r]? = some (.map ents clock)) := by
  unfold mapOf at hm
  split at hm
  · cases hm
    exact ⟨#[], trivial, .inl ⟨hx, rfl⟩⟩
  · rename_i b
    split at hm
    · rename_i es' hg
      cases hm
      obtain ⟨r, h1, rfl⟩ := hx
      obtain ⟨ents, clock, h2, h3⟩ := h.at_ b r 0 0 _ h1 hg
      exact ⟨ents, h3, .inr ⟨r, clock, rfl, h2⟩⟩
    · cases hm
  · cases hm
theorem lookup_ok {P : Program} {p : Ren} {S : St} {w : World} (h : RH p S w) {t : Nat} {x i g : GV} {vx vi : Value} {ok : Bool} (hl : gLookup P t S x i ok = some g) (hx : RV p x vx) (hi : RV p i vi) :
    ∃ v, (Instr.lookup t vx vi ok).run P w = .ok v w ∧ RV p g v := by
  unfold gLookup at hl
  split at hl
  · rename_i kt et hu
    split at hl
    · rename_i d hd
      split at hl
      · rename_i es hk hm
        obtain ⟨ents, h1, h2⟩ := mapOf_ok h hm hx
        have go : ∀ r r', findG d i es 0 = some r → Instr.findNow d vi ents.toList 0 = some r' → ∀ v b, ((∃ j, r' = some (j, v)) ∧ b = true ∨ r' = none ∧ b = false ∧ (zeroValue et).run P w = .ok v w) → (Instr.lookup t vx vi ok).run P w = .ok (if ok then .tuple #[v, .bool b] else v) w := by
          intro r r' hr hr' v b hv
          unfold Instr.lookup
          rw [run_bind, run_underlying hu]
          simp only
          rcases h2 with ⟨rfl, rfl⟩ | ⟨q, clock, rfl, h2⟩
          · simp only [pure_bind]
            rw [run_bind, checkKey_ok (p := p) (k := i) hd hk]
            simp only
            rw [run_bind, findKey_ok hd hr']
            rcases hv with ⟨⟨j, rfl⟩, rfl⟩ | ⟨rfl, rfl, hz⟩
            · rfl
            · simp only
              rw [run_bind, hz]
              rfl
          · have hget : (getObj q).run P w = .ok (.map ents clock) w := by simp only [getObj, Sem.run, h2]
            simp only
            rw [run_bind, hget]
            simp only [pure_bind]
            rw [run_bind, checkKey_ok (p := p) (k := i) hd hk]
            simp only
            rw [run_bind, findKey_ok hd hr']
            rcases hv with ⟨⟨j, rfl⟩, rfl⟩ | ⟨rfl, rfl, hz⟩
            · rfl
            · simp only
              rw [run_bind, hz]
              rfl
        split at hl
        · rename_i j v hf
          cases hl
          obtain ⟨r', r1, r2, _⟩ := find_ok hi h1 hf
          cases r' with
          | none => exact r2.elim
          | some q =>
            obtain ⟨j', v'⟩ := q
            exact ⟨_, go _ _ hf r1 v' true (.inl ⟨⟨j', rfl⟩, rfl⟩), okG_rv r2.2 _ _⟩
        · rename_i hf
          split at hl
          · rename_i inf hinf
            split at hl
            · rename_i z hz
              split at hl
              · rename_i gz hgz
                cases hl
                obtain ⟨r', r1, r2, _⟩ := find_ok hi h1 hf
                cases r' with
                | some q => exact r2.elim
                | none =>
                  exact ⟨_, go _ _ hf r1 z false (.inr ⟨rfl, rfl, by simp [zeroValue, typeInfo, hinf, hz]⟩), okG_rv (ofVal_rv hgz) _ _⟩
              · cases hl
            · cases hl
          · cases hl
        · cases hl
      · cases hl
    · cases hl
  · cases hl
theorem RM.setAt {p : Ren} : ∀ {es : List (GV × GV)} {ents : List MapEntry} {i : Nat} {k v : GV} {vk vv : Value}, RM p es ents → RV p k vk → RV p v vv → RM p (setAt es i k v) (ents.modify i fun e => { e with key := vk, val := vv })
  | [], [], i, _, _, _, _, _, _, _ => by cases i <;> trivial
  | (a, b) :: es, e :: ents, 0, _, _, _, _, ⟨_, h⟩, hk, hv => ⟨⟨hk, hv⟩, h⟩
  | (a, b) :: es, e :: ents, i + 1, k, v, vk, vv, ⟨h1, h⟩, hk, hv => by
    have := RM.setAt (i := i) h hk hv
    simp only [List.modify_succ_cons]
    exact ⟨h1, this⟩
  | [], _ :: _, _, _, _, _, _, h, _, _ => h.elim
  | _ :: _, [], _, _, _, _, _, h, _, _ => h.elim
theorem RM.snoc {p : Ren} : ∀ {es : List (GV × GV)} {ents : List MapEntry} {k v : GV} {e : MapEntry}, RM p es ents → RV p k e.key → RV p v e.val → RM p (es ++ [(k, v)]) (ents ++ [e])
  | [], [], _, _, _, _, hk, hv => ⟨⟨hk, hv⟩, trivial⟩
  | (a, b) :: es, e :: ents, _, _, _, ⟨h1, h⟩, hk, hv => ⟨h1, RM.snoc h hk hv⟩
  | [], _ :: _, _, _, _, h, _, _ => h.elim
  | _ :: _, [], _, _, _, h, _, _ => h.elim
theorem mapUpdate_ok {P : Program} {p : Ren} {S S' : St} {w : World} (h : RH p S w) {t : Nat} {m k v : GV} {vm vk vv : Value} (hu : gMapUpd P t S m k v = some S') (hm : RV p m vm) (hk : RV p k vk) (hv : RV p v vv) :
    ∃ w', (Instr.mapUpdate t vm vk vv).run P w = .ok () w' ∧ RH p S' w' ∧ Ch (fun _ => False) p w p w' := by
  unfold gMapUpd at hu
  split at hu
  · rename_i kt et b hut
    split at hu
    · rename_i d es hd hg
      obtain ⟨r, h1, rfl⟩ := hm
      obtain ⟨ents, clock, h2, h3⟩ := h.at_ b r 0 0 _ h1 hg
      have hget : (getObj r).run P w = .ok (.map ents clock) w := by simp only [getObj, Sem.run, h2]
      have hrl : r < w.heap.size := lt_of_heap h2
      have hset : ∀ o, (setObj r o).run P w = .ok () { w with heap := w.heap.setIfInBounds r o } := fun o => by simp only [setObj, Sem.run, h2]
      have fin : ∀ (ents' : Array MapEntry) (clock' : Nat) (es' : List (GV × GV)), S.put b (some (.map es')) = some S' → RM p es' ents'.toList →
          RH p S' { w with heap := w.heap.setIfInBounds r (.map ents' clock') } ∧ Ch (fun _ => False) p w p { w with heap := w.heap.setIfInBounds r (.map ents' clock') } := fun ents' clock' es' hS hr =>
        h.updW h1 (by rw [hg]; simp) hS (by simp) (fun k hk => by simp [Array.getElem?_setIfInBounds_ne (Ne.symm hk)]) rfl rfl rfl ⟨ents', clock', by simp [hrl], hr⟩
      split at hu
      · rename_i i v0 hkt hf
        obtain ⟨r', r1, r2, r3⟩ := find_ok hk h3 hf
        cases r' with
        | none => exact r2.elim
        | some q =>
          obtain ⟨j, v'⟩ := q
          obtain ⟨rfl, _⟩ := r2
          obtain ⟨_, e, e1, e2, e3⟩ := r3 i v' rfl
          simp only [Nat.sub_zero] at e1
          obtain ⟨f1, f2⟩ := fin (ents.modify i fun e => { e with key := vk, val := vv }) clock _ hu (by
            rw [Array.toList_modify]; exact h3.setAt hk hv)
          refine ⟨_, ?_, f1, f2⟩
          unfold Instr.mapUpdate
          rw [run_bind, run_underlying hut]
          simp only
          rw [run_bind, hget]
          simp only
          rw [run_bind, checkKey_ok (p := p) (k := k) hd hkt]
          simp only
          rw [run_bind, findKey_ok hd r1]
          simp only
          have hks : (Instr.keyThatStays (((ents[i]?).map (·.key)).getD vk) vk).run P w = .ok vk w := by
            have : ents[i]? = some e := by rw [← Array.getElem?_toList]; exact e1
            rw [this]
            simp only [Option.map_some, Option.getD_some]
            unfold Instr.keyThatStays
            rw [if_pos e3]
            rfl
          rw [run_bind, hks]
          exact hset _
      · rename_i hkt hf
        obtain ⟨r', r1, r2, r3⟩ := find_ok hk h3 hf
        cases r' with
        | some q => exact r2.elim
        | none =>
          obtain ⟨f1, f2⟩ := fin (ents.push { key := vk, val := vv, born := clock }) (clock + 1) _ hu (by
            rw [Array.toList_push]; exact h3.snoc hk hv)
          refine ⟨_, ?_, f1, f2⟩
          unfold Instr.mapUpdate
          rw [run_bind, run_underlying hut]
          simp only
          rw [run_bind, hget]
          simp only
          rw [run_bind, checkKey_ok (p := p) (k := k) hd hkt]
          simp only
          rw [run_bind, findKey_ok hd r1]
          exact hset _
      · cases hu
    · cases hu
  · cases hu
end Go.E
