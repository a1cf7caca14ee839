
/- What the run by values gives, the model gives: append, conversions, operators. No condition. -/
import Derived.Test.YtlgdhajakblkaaaGreatDoorO
set_option linter.unusedVariables false
set_option linter.unusedSimpArgs false
namespace Go.E
open Go Go.V
theorem CellsAt.get {w : World} {ad : Addr} {vs : List Value} (h : CellsAt w [] ad vs) {j : Nat} {u : Value} (hj : vs[j]? = some u) : w.cell? (ad.add j) = some u := by
  rw [addr_add h.spot]; exact h.at_ j u hj
theorem src_ok {P : Program} {p : Ren} {S : St} {w : World} (h : RH p S w) {es n t2 : Nat} {x : GV} {vx : Value} {new : List GV} {d2 : TypeDesc} (hs : srcG S es x = some (n, new)) (hx : RV p x vx) (hu : P.underlying t2 = some d2) (hd : srcT d2 = true) (hp : 0 < es)
    (hc : new.all isCellG = true) (h1 : ∀ s, x = .str s → es = 1) : ∃ news, RVs p new news ∧ Src P es t2 vx n news w := by
  have hk : (∃ e', P.underlying t2 = some (.slice e')) ∨ P.underlying t2 = some .string := by
    cases d2 <;> first | (cases hd; done) | exact .inl ⟨_, hu⟩ | exact .inr hu
  unfold srcG at hs
  split at hs
  · cases hs
    have hx : vx = .slice none 0 0 := hx
    subst hx
    exact ⟨[], trivial, hk, fun _ => rfl, run_firstCells_none w es 0 0 0, run_firstCells_none w.drew es 0 0 0, by simp, fun _ h => by cases h⟩
  · cases hs
    obtain ⟨a, c, rfl⟩ := hx
    refine ⟨[], trivial, hk, fun _ => rfl, ?_, ?_, by simp, fun _ h => by cases h⟩
    · simp [Builtin.firstCells, loadCells, loadCellsFrom]
    · simp [Builtin.firstCells, loadCells, loadCellsFrom]
  · rename_i b off m c
    obtain ⟨l, h2, h3⟩ := Option.map_eq_some_iff.1 hs
    cases h3
    obtain ⟨r, base, k, cap, h4, rfl, h5⟩ := hx
    unfold cellsAt at h2
    split at h2
    · rename_i cs hg
      obtain ⟨vs, h6, h7, h8⟩ := h.cells h4 hg h2
      refine ⟨vs, h6, hk, fun _ => rfl, run_firstCells_some w es n _ n cap vs h7 (fun j u hj => CellsAt.get h8 hj), run_firstCells_some w.drew es n _ n cap vs h7 (fun j u hj => ?_), h7, h6.cell hc⟩
      have := CellsAt.get h8 hj
      simpa using this
    · cases h2
  · rename_i s
    cases hs
    have hx : vx = Vs s := hx
    subst hx
    have h1 := h1 s rfl
    subst h1
    have hb : byteCells (⟨⟨s⟩⟩ : ByteArray) = s.map fun b => Value.int .u8 b.toNat := rfl
    refine ⟨byteCells ⟨⟨s⟩⟩, ?_, hk, fun _ => rfl, firstCells_string _ _, firstCells_string _ _, ?_, ?_⟩
    · rw [hb]
      clear hb hc hx h1
      induction s with
      | nil => trivial
      | cons b s ih => exact ⟨rfl, ih⟩
    · rw [byteCells_length, Nat.mul_one]; rfl
    · intro u hu
      obtain ⟨_, _, rfl⟩ := List.mem_map.1 hu
      rfl
  · cases hs
theorem zeroCells_len (z : Array Value) (n : Nat) : (Builtin.zeroCells z n).toList.length = n * z.size := by simp [Builtin.zeroCells]
theorem grow_ok {P : Program} {p : Ren} {S S' : St} {w : World} (h : RH p S w) {t t2 ty e es n len cap name : Nat} {i : TypeInfo} {z : Value} {base : Option Addr} {old new : List GV} {olds news : List Value} {vx : Value}
    (ht : P.underlying t = some (.slice e)) (hi : P.info? e = some i) (hz : i.zero = some z) (hsz : i.size = es) (hby : i.bytes ≤ 4096) (hzs : z.cells.size = es) (hold : (Builtin.firstCells es len (.slice base len cap)).run P w.drew = .ok olds.toArray w.drew) (hol : olds.length = len * es) (hov : RVs p old olds)
    (hs : Src P es t2 vx n news w) (hnv : RVs p new news) (hg : cap < len + n) (hm : len ≤ 1000000) (hn : n ≤ 1000000) (hS : newB S name (old ++ new) = some S') (hnm : Free p name) (hx : name < S.nx) :
    Giv P (· = name) p w (Builtin.append_ #[t, t2] ty #[.slice base len cap, vx]) (.sl name 0 (len + n) (.op es)) S' := by
  subst hsz
  have hfit : (len + n) * i.bytes ≤ 140737488355328 := by
    have := Nat.mul_le_mul (show len + n ≤ 2000000 by omega) hby
    omega
  have hr := run_append_grow_src w t t2 ty e i z ht hi hz base len cap olds hold vx n news hs hg (by omega) (growslice_fits hg hfit)
  have hge := grownCap_ge w (len + n) cap e
  obtain ⟨q1, q2⟩ := h.drew.row (ty := e) (fz := (0, 0)) (Builtin.zeroCells z.cells (grownCap w (len + n) cap e - (len + n))).toList hS hnm hx (hov.append hnv) (.inl rfl)
  have e1 : ((olds ++ news).toArray ++ Builtin.zeroCells z.cells (grownCap w (len + n) cap e - (len + n))) = ((olds ++ news) ++ (Builtin.zeroCells z.cells (grownCap w (len + n) cap e - (len + n))).toList).toArray := by
    apply Array.ext'; simp
  rw [e1] at hr
  have hlen : 0 + grownCap w (len + n) cap e * i.size = ((olds ++ news) ++ (Builtin.zeroCells z.cells (grownCap w (len + n) cap e - (len + n))).toList).length := by
    rw [List.length_append, List.length_append, zeroCells_len, hol, hs.newsLen, hzs, ← Nat.add_mul, ← Nat.add_mul, Nat.zero_add]
    congr 1
    omega
  generalize ((olds ++ news) ++ (Builtin.zeroCells z.cells (grownCap w (len + n) cap e - (len + n))).toList) = L at *
  exact ⟨p.set name (w.heap.size, 0, L.length), _, _, hr, ⟨w.heap.size, 0, L.length, _, Ren.set_same _ _ _, rfl, hlen, hge⟩, q1, (Ch.drew _ _ _).trans q2⟩
theorem append_zero {P : Program} {w : World} {t t2 ty e es len cap : Nat} {i : TypeInfo} {base : Option Addr} {news : List Value} {vx : Value} (ht : P.underlying t = some (.slice e)) (hi : P.info? e = some i) (hsz : i.size = es) (hs : Src P es t2 vx 0 news w) (hl : len ≤ cap) :
    (Builtin.append_ #[t, t2] ty #[.slice base len cap, vx]).run P w = .ok (.slice base len cap) w := by
  subst hsz
  have hn : news = [] := List.length_eq_zero_iff.1 (by rw [hs.newsLen]; simp)
  subst hn
  have hc := hs.cells
  rcases hs.kind with ⟨e', hk⟩ | hk <;> cases base <;> simp [Builtin.append_, run_underlying ht, run_underlying hk, sizeOf, typeInfo, hi, hs.len, hl, hc, storeCells]
theorem append_room {P : Program} {w w' : World} {t t2 ty e es len cap n r off : Nat} {i : TypeInfo} {news : List Value} {vx : Value} (ht : P.underlying t = some (.slice e)) (hi : P.info? e = some i) (hsz : i.size = es) (hs : Src P es t2 vx n news w) (hl : len + n ≤ cap)
    (hst : (storeCells ⟨r, off + len * es, none⟩ news).run P w = .ok () w') :
    (Builtin.append_ #[t, t2] ty #[.slice (some ⟨r, off, none⟩) len cap, vx]).run P w = .ok (.slice (some ⟨r, off, none⟩) (len + n) cap) w' := by
  subst hsz
  rcases hs.kind with ⟨e', hk⟩ | hk <;> simp [Builtin.append_, run_underlying ht, run_underlying hk, sizeOf, typeInfo, hi, hs.len, hl, hs.cells, Addr.add_lit, hst]
theorem RH.rename {p : Ren} {S S1 S2 : St} {w : World} (h : RH p S w) {b r base n off name : Nat} {g : GB} {cs' : Array Value} (hp : p b = some (r, base, n)) (hs : S.h.get b ≠ none) (hk : S.put b none = some S1) (hS : S1.put name (some g) = some S2) (hn : Free p name) (hx : name < S.nx)
    (hb : ∀ q, Le p q → RB q (w.setRow r cs') r (base + off) (n - off) g) :
    RH (p.set name (r, base + off, n - off)) S2 (w.setRow r cs') ∧ Ch (· = name) p w (p.set name (r, base + off, n - off)) (w.setRow r cs') := by
  obtain ⟨k1, _, k3⟩ := put_spec hk
  obtain ⟨s1, _, s3⟩ := put_spec hS
  have hle := Ren.set_le (x := (r, base + off, n - off)) hn.1
  have hsz : (w.setRow r cs').heap.size = w.heap.size := by simp [World.setRow]
  have alive : ∀ i, i ≠ name → S2.h.get i ≠ none → i ≠ b ∧ S.h.get i = S2.h.get i := fun i hi h2 => by
    rw [s3, if_neg hi, k3] at h2 ⊢
    by_cases e : i = b
    · rw [if_pos e] at h2; exact absurd rfl h2
    · rw [if_neg e]; exact ⟨e, rfl⟩
  have away : ∀ i x, i ≠ name → p i = some x → S2.h.get i ≠ none → x.1 ≠ r := fun i x hi hpi h2 er => by
    obtain ⟨a1, a2⟩ := alive i hi h2
    exact a1 (h.inj i b x _ hpi hp (by rw [a2]; exact h2) hs er)
  have hev : Ev [r] w (w.setRow r cs') := ⟨rfl, rfl, rfl, Nat.le_of_eq hsz.symm, fun k _ hm => setRow_other w r k cs' (by simpa using hm)⟩
  refine ⟨⟨fun i r' base' n' g' h1 h2 => ?_, fun i j x x' h1 h2 h3 h4 he => ?_, fun i x h1 => ?_, set_fr h.fr (s1.trans k1) hx, ?_⟩,
    ⟨hle, set_new, rfl, rfl, rfl, Nat.le_of_eq hsz.symm, fun k hk ho => setRow_other w r k cs' (fun e => ho (.inl ⟨b, _, hp, e.symm⟩)), fun k hk => ?_⟩⟩
  · by_cases e : i = name
    · subst e
      rw [s3, if_pos rfl] at h2
      cases h2
      rw [Ren.set_same] at h1
      cases h1
      exact hb _ hle
    · rw [Ren.set_ne e] at h1
      have h2' : S2.h.get i ≠ none := by rw [h2]; simp
      exact (h.at_ i r' base' n' g' h1 (by rw [(alive i e h2').2]; exact h2)).mono hle (setRow_other w r r' cs' (away i _ e h1 h2'))
  · by_cases e : i = name
    · by_cases e' : j = name
      · rw [e, e']
      · subst e
        rw [Ren.set_same] at h1
        rw [Ren.set_ne e'] at h2
        cases h1
        exact absurd he.symm (away j _ e' h2 h4)
    · by_cases e' : j = name
      · subst e'
        rw [Ren.set_same] at h2
        rw [Ren.set_ne e] at h1
        cases h2
        exact absurd he (away i _ e h1 h3)
      · rw [Ren.set_ne e] at h1
        rw [Ren.set_ne e'] at h2
        exact h.inj i j x x' h1 h2 (by rw [(alive i e h3).2]; exact h3) (by rw [(alive j e' h4).2]; exact h4) he
  · rw [hsz]
    by_cases e : i = name
    · subst e; rw [Ren.set_same] at h1; cases h1; show r < _; exact h.lt b _ hp
    · rw [Ren.set_ne e] at h1; exact h.lt _ _ h1
  · refine h.ro.next (fun _ _ => by rw [put_ow hS, put_ow hk]) hev (fun k hk => ⟨b, _, hp, hs, (List.mem_singleton.1 hk).symm⟩) fun i x h1 h2 => .inl ?_
    by_cases e : i = name
    · rw [if_pos e] at h1
      cases h1
      exact ⟨b, _, hp, hs, rfl⟩
    · rw [if_neg e] at h1
      exact ⟨i, x, h1, by rw [(alive i e h2).2]; exact h2, rfl⟩
  · rcases set_img k hk with e | e
    · exact .inl e
    · exact .inl (.inl ⟨b, _, hp, e.symm⟩)
theorem list_mid {α : Type} (l us vs : List α) (a : Nat) (ha : a + us.length ≤ l.length) (hu : ∀ j u, us[j]? = some u → l[a + j]? = some u) :
    us ++ vs <+: (l.take (a + us.length) ++ vs ++ l.drop (a + us.length + vs.length)).drop a := by
  have e : l.take (a + us.length) = l.take a ++ us := by
    apply List.ext_getElem?
    intro i
    by_cases h1 : i < a
    · rw [List.getElem?_take, if_pos (by omega), List.getElem?_append_left (by simp; omega), List.getElem?_take, if_pos h1]
    · have hl : (l.take a).length = a := by simp; omega
      rw [List.getElem?_append_right (by omega), hl, List.getElem?_take]
      by_cases h2 : i < a + us.length
      · rw [if_pos h2]
        have h3 : i - a < us.length := by omega
        have := hu (i - a) _ (List.getElem?_eq_getElem h3)
        rw [show a + (i - a) = i by omega] at this
        rw [this, List.getElem?_eq_getElem h3]
      · rw [if_neg h2, List.getElem?_eq_none (by omega)]
  rw [e]
  have hl : (l.take a).length = a := by simp; omega
  refine ⟨l.drop (a + us.length + vs.length), ?_⟩
  simp only [List.append_assoc]
  rw [List.drop_left' hl]
theorem srcG_zero {S : St} {es : Nat} {x : GV} {new : List GV} (h : srcG S es x = some (0, new)) : new = [] := by
  unfold srcG at h
  split at h
  · cases h; rfl
  · cases h; rfl
  · obtain ⟨l, h1, h2⟩ := Option.map_eq_some_iff.1 h
    cases h2
    unfold cellsAt at h1
    split at h1
    · obtain ⟨_, h3⟩ := cut_spec h1
      exact List.length_eq_zero_iff.1 (by omega)
    · cases h1
  · simp only [Option.some.injEq, Prod.mk.injEq, List.length_eq_zero_iff] at h
    obtain ⟨rfl, rfl⟩ := h
    rfl
  · cases h
theorem append_ok {P : Program} {p : Ren} {S S' : St} {w : World} (h : RH p S w) {t t2 ty name : Nat} {s x g : GV} {vs vx : Value} (ha : gAppend P name t t2 S s x = some (g, S')) (hs : RV p s vs) (hx : RV p x vx) (hn : Free p name) (hxn : name < S.nx) :
    Giv P (· = name) p w (Builtin.append_ #[t, t2] ty #[vs, vx]) g S' := by
  unfold gAppend at ha
  split at ha
  · rename_i e es d2 hel hd2
    obtain ⟨hu, i, hi, hsz, hby⟩ := elB_spec hel
    split at ha
    · rename_i z n new hb hz hsrc
      simp only [Bool.and_eq_true] at hb
      obtain ⟨⟨hb1, hb3⟩, hb2⟩ := hb
      have hpos := Nat.le_of_ble_eq_true hb2
      obtain ⟨i', zv, z1, z2, z3, z4⟩ := zeroB_spec (p := p) hz
      have : i' = i := by rw [hi] at z1; cases z1; rfl
      subst this
      split at ha
      · cases ha
      · rename_i hn1
        simp only [Bool.and_eq_true] at hn1
        have hnle := Nat.le_of_ble_eq_true hn1.1
        have hzl := Nat.eq_of_beq_eq_true hn1.2
        have hzs : zv.cells.size = es := by have := z3.length; rw [Array.length_toList] at this; omega
        have hstr : ∀ s, x = .str s → es = 1 := fun s hs => by
          subst hs
          exact Nat.eq_of_beq_eq_true (by simpa [isStr] using hb3)
        have src : ∀ {m : List GV}, m.all isCellG = true → m = new → ∃ news, RVs p new news ∧ Src P es t2 vx n news w := fun hm e => by
          subst e; exact src_ok h hsrc hx hd2 hb1 hpos hm hstr
        split at ha
        · rename_i hn0
          cases ha
          have hn0 := Nat.eq_of_beq_eq_true hn0
          subst hn0
          have hs : vs = .slice none 0 0 := hs
          subst hs
          have hnew : new = [] := srcG_zero hsrc
          subst hnew
          obtain ⟨news, n1, n2⟩ := src (m := []) rfl rfl
          exact Giv.pure h (append_zero hu hi hsz n2 (Nat.le_refl _)) rfl
        · rename_i b off len c hn0
          cases ha
          have hn0 := Nat.eq_of_beq_eq_true hn0
          subst hn0
          obtain ⟨r, base, k, cap, s1, rfl, s2⟩ := hs
          have hnew : new = [] := srcG_zero hsrc
          subst hnew
          obtain ⟨news, n1, n2⟩ := src (m := []) rfl rfl
          refine Giv.pure h (append_zero hu hi hsz n2 ?_) ⟨r, base, k, cap, s1, rfl, s2⟩
          cases c with
          | kn c => obtain ⟨rfl, s2⟩ := s2; exact s2
          | op es => exact s2.2
        · cases ha
        · -- nil grows
          rename_i hn0
          obtain ⟨S1, a1, a2⟩ := Option.map_eq_some_iff.1 ha
          cases a2
          have hs : vs = .slice none 0 0 := hs
          subst hs
          obtain ⟨news, n1, n2⟩ := src (newB_spec a1).1 rfl
          have hnz : n ≠ 0 := fun e => by subst e; simp at hn0
          have := grow_ok (t := t) (ty := ty) (old := []) h hu hi z2 hsz hby hzs (run_firstCells_none w.drew es 0 0 0) (by simp) trivial n2 n1 (by omega) (by omega) hnle a1 hn hxn
          simpa using this
        · -- a known capacity
          rename_i b off len c hn0
          obtain ⟨r, base, k, cap, s1, rfl, rfl, s2⟩ := hs
          split at ha
          · rename_i hc
            simp only [Bool.and_eq_true] at hc
            have hc1 := Nat.le_of_ble_eq_true hc.1
            have hc2 := Nat.le_of_ble_eq_true hc.2
            split at ha
            · rename_i old hold
              obtain ⟨S1, a1, a2⟩ := Option.map_eq_some_iff.1 ha
              cases a2
              have hall := (newB_spec a1).1
              rw [List.all_append, Bool.and_eq_true] at hall
              obtain ⟨news, n1, n2⟩ := src hall.2 rfl
              unfold cellsAt at hold
              split at hold
              · rename_i cs hg
                obtain ⟨olds, o1, o2, o3⟩ := h.cells s1 hg hold
                exact grow_ok (t := t) (ty := ty) h hu hi z2 hsz hby hzs (run_firstCells_some w.drew es len _ len cap olds o2 (fun j u hj => by have := CellsAt.get o3 hj; simpa using this)) o2 o1 n2 n1 hc1 hc2 hnle a1 hn hxn
              · cases hold
            · cases ha
          · cases ha
        · -- an unknown capacity
          rename_i b off len es' hn0
          obtain ⟨r, base, k, cap, s1, rfl, s2, s3⟩ := hs
          split at ha
          · rename_i old hc hold
            simp only [Bool.and_eq_true] at hc
            have hc1 := Nat.eq_of_beq_eq_true hc.1
            have hc2 := Nat.le_of_ble_eq_true hc.2
            subst hc1
            split at ha
            · rename_i S1 hk1
              obtain ⟨S2, a1, a2⟩ := Option.map_eq_some_iff.1 ha
              cases a2
              have hall := (newB_spec a1).1
              rw [List.all_append, Bool.and_eq_true] at hall
              obtain ⟨news, n1, n2⟩ := src hall.2 rfl
              unfold cellsAt at hold
              split at hold
              · rename_i cs hg
                obtain ⟨olds, o1, o2, o3⟩ := h.cells s1 hg hold
                obtain ⟨p1, _, p3⟩ := put_spec hk1
                have h1 := h.kill hk1
                by_cases hroom : len + n ≤ cap
                · -- there is room
                  obtain ⟨cs0, ty0, fz, c1, c2, c3, us, c4, c5⟩ := h.at_ b r base k _ s1 hg
                  have hcap : (len + n) * es ≤ cap * es := Nat.mul_le_mul_right _ hroom
                  rw [Nat.add_mul] at hcap
                  have hnl := n2.newsLen
                  have hst := run_storeCells_fz P r (base + off + len * es) ty0 fz news 0 cs0 w c1 c3 (by omega) n2.one
                  have hrun := append_room (t := t) (ty := ty) (off := base + off) hu hi hsz n2 hroom hst
                  have hmid := list_mid cs0.toList olds news (base + off) (by rw [o2, Array.length_toList]; omega) (fun j u hj => by
                    have := o3.at_ j u hj
                    rw [box_cell c1] at this
                    rw [Array.getElem?_toList]; exact this)
                  rw [o2] at hmid
                  have hlen : (cs0.toList.take (base + off + len * es + 0) ++ news ++ cs0.toList.drop (base + off + len * es + 0 + news.length)).length = cs0.size := by
                    simp only [List.length_append, List.length_take, List.length_drop, Array.length_toList]; omega
                  obtain ⟨q1, q2⟩ := h.rename (off := off) (cs' := (cs0.toList.take (base + off + len * es + 0) ++ news ++ cs0.toList.drop (base + off + len * es + 0 + news.length)).toArray) s1 (by rw [hg]; simp) hk1 (newB_spec a1).2 hn hxn
                    (fun q hq => ⟨_, ty0, fz, setRow_heap w r cs0 _ ty0 fz c1, by rw [List.size_toArray, hlen]; omega, by rw [List.size_toArray, hlen]; exact c3, olds ++ news, (o1.append n1).mono hq, hmid⟩)
                  exact ⟨_, _, _, hrun, ⟨r, base + off, k - off, cap, Ren.set_same _ _ _, rfl, by omega, by omega⟩, q1, q2⟩
                · exact grow_ok (t := t) (ty := ty) h1 hu hi z2 hsz hby hzs (run_firstCells_some w.drew es len _ len cap olds o2 (fun j u hj => by have := CellsAt.get o3 hj; simpa using this)) o2 o1 n2 n1 (by omega) hc2 hnle a1 hn (by omega)
              · cases hold
            · cases ha
          · cases ha
        · cases ha
    · cases ha
  · cases ha
end Go.E
