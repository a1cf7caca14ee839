import Derived.Test.YtlgdhajakblkaaaGreatDoorRows
import Derived.Test.YtlgdhajakblkaaaGreatDoorCards
import Derived.Test.YtlgdhajakblkaaaGreatDoorTie
import Derived.Test.YtlgdhajakblkaaaGreatDoorR
import Derived.Test.YtlgdhajakblkaaaGreatDoorGTopHump
import Derived.Test.YtlgdhajakblkaaaGreatDoorPX0
import Derived.WalkKit
import Derived.ProofKit
import Derived.OpenShut
import Derived.ShutString
import Derived.ChangeOld
import Derived.Below
import Derived.LaidMore
import Derived.Lay
import Derived.MakeChecks
import Derived.SevenTiedAt
import Derived.Lib.LaidTab

/- The law TopHump answers true for every input, and every argument reads afterwards as it read before; the listed tables are tied to the program's text. No condition beyond the card's. (The shape is the kit's shell's; what is read of slices and tables, the walk and the plain law are mine.) -/
namespace Go.Proofs.YtlgdhajakblkaaaGreatDoor.topHump
open Go.V
open Go.ChangeShapes Go.WideShapes Go.ChangeAt Go.RowKit
set_option linter.unusedVariables false
set_option linter.unusedSimpArgs false

theorem own : ownKnob Tryz.prog.godebug = none := by kernel_rfl
theorem laidOut : laidOutB Tryz.prog = true := by kernel_rfl
theorem rd3 : RD Tryz.prog (eInt .i64) 3 (fun (n : Int) => (Lit.int .i64 n).wf = true) := rd_int Tryz.underlying3
theorem rd22 : RD Tryz.prog (eSl (eInt .i64)) 22 (fun (l : List Int) => ∀ y ∈ l, (fun (n : Int) => (Lit.int .i64 n).wf = true) y) := rd_slice Tryz.underlying22 (by kernel_rfl) rfl rd3
theorem tab_third {P : Program} {W : World} {x1 x2 : String × DataW Unit} {n : String} {k : IntKind} {zs : List Int} {r : List (String × DataW Unit)} {g : Nat} {t e m : Nat}
    (hg : P.globalNamed n = some g) (ht : (P.globals[g]?).map (·.type) = some t) (hu : P.underlying t = some (.array m e)) (he : P.underlying e = some (.int k)) (hce : P.cellsOf e = 1) (hct : P.cellsOf t = m)
    {l : List (String × DataW Unit)} (hl : l = x1 :: x2 :: (n, Lib.tabData k zs) :: r) (h : laidMet P l W) : Lib.TabIs P W n k zs := by
  subst hl
  obtain ⟨ps, ⟨g1, t1, c1, u1, p1, q1, _, _, _, _, ⟨g2, t2, c2, u2, p2, q2, _, _, _, _, ⟨g', t', cs, fuel, p, q, hg', ht', hv, hd, _, _⟩, _⟩, _⟩, _⟩ := h
  obtain rfl := Option.some.inj (hg.symm.trans hg')
  obtain rfl := Option.some.inj (ht.symm.trans ht')
  have hcs := Lib.cells_of_tab hu he hce hct hd
  unfold Lib.TabIs
  rw [hv, ← hcs]
theorem int_of_shape {P : Program} {w : World} {g : Nat} {t : TypeId} {k : IntKind} {zero : Array Value} (h : w.ShapedOpen P) (hg : g < P.globals.size)
    (h0 : ((begin P (fun _ _ => 0) default).world.heap[g]?).bind Obj.row? = some (zero, t)) (hz : zero.size = 1)
    (hb : P.buildable t = true) (hc : P.cellTypes P.depth t = some [t]) (hu : P.underlying t = some (.int k)) : ∃ m, w.cell? ⟨g, 0, none⟩ = some (.int k m) := by
  obtain ⟨cs, hh, hsz, hr⟩ := h.1 g zero t hg h0
  obtain ⟨ts, hts, _, hall⟩ := hr hb
  obtain rfl := Option.some.inj (hc.symm.trans hts)
  have h1 : 0 < cs.size := by omega
  obtain ⟨u, hu', hok⟩ := hall 0 cs[0] (by simp [h1])
  obtain rfl : t = u := by simpa using hu'
  have hcell : w.cell? ⟨g, 0, none⟩ = some cs[0] := by simp [World.cell?, hh, h1]
  rw [hcell]
  unfold Cell.ok at hok
  rw [hu] at hok
  cases hv : cs[0] <;> rw [hv] at hok <;> first | (obtain ⟨rfl, _⟩ := hok; exact ⟨_, rfl⟩) | simp at hok
theorem g0 : Tryz.prog.globalNamed "internal/strconv.uint64pow10" = some 0 := by kernel_rfl
theorem gt0 : (Tryz.prog.globals[0]?).map (·.type) = some 219 := by kernel_rfl
theorem c198 : Tryz.prog.cellsOf 198 = 1 := by kernel_rfl
theorem c219 : Tryz.prog.cellsOf 219 = 20 := by kernel_rfl
theorem plain : (Rows.topHumpRow.laid.all fun x => x.2.handleName?.isNone) = true := by kernel_rfl
theorem laid_is : Rows.topHumpRow.laid = ("math/bits.deBruijn32tab", Rows.laid_math_bits_deBruijn32tab) :: ("math/bits.deBruijn64tab", Rows.laid_math_bits_deBruijn64tab) :: ("internal/strconv.uint64pow10", Lib.tabData .u64 Lib.pow10Tab) :: [("unicode/utf8.acceptRanges", Rows.laid_unicode_utf8_acceptRanges), ("strconv.ErrRange", Rows.laid_strconv_ErrRange), ("strconv.ErrSyntax", Rows.laid_strconv_ErrSyntax), ("unicode/utf8.first", Rows.laid_unicode_utf8_first)] := by kernel_rfl
theorem gsz : (decide (1 < Tryz.prog.globals.size)) = true := by kernel_rfl
theorem z1 : ((begin Tryz.prog (fun _ _ => 0) default).world.heap[1]?).bind Obj.row? = some (#[.int .i64 0], 3) := by kernel_rfl
theorem b3 : Tryz.prog.buildable 3 = true := by kernel_rfl
theorem ct3 : Tryz.prog.cellTypes Tryz.prog.depth 3 = some [3] := by kernel_rfl

/-- What the walk asks of the package's variables. -/
theorem gl_of {W : World} (h : laidMetH Tryz.prog Rows.topHumpRow.laid W) (hs : W.ShapedOpen Tryz.prog) : GL Tryz.prog 1 W := by
  have h1 : laidMet Tryz.prog Rows.topHumpRow.laid W := Eq.mp (MakeChecks.laidMetH_plain Tryz.prog Rows.topHumpRow.laid W plain) h
  exact ⟨tab_third g0 gt0 Tryz.underlying219 Tryz.underlying198 c198 c219 laid_is h1, int_of_shape hs (of_decide_eq_true gsz) z1 rfl b3 ct3 Tryz.underlying3⟩

theorem walk (a_p0 : Option Addr) (c_p0 : Nat) (p0 : List Int) (w : World) (hgl : GL Tryz.prog 1 w) (hs_p0 : SlR (eInt .i64) w [] a_p0 c_p0 p0) :
    Calls Tryz.prog 3 #[.slice a_p0 (p0).length c_p0] w fun e w' => e = .returned (.bool true) ∧ Below w.heap.size w w' := by
  have h := top_TopHump_w a_p0 c_p0 p0 true w [] hgl (ms_nil w) hs_p0 (hump_ok p0)
  exact h.run.mono fun e w' ⟨v, he, hv, hev⟩ => ⟨by rw [he, hv], below_of_ev hev⟩


set_option maxRecDepth 100000 in
theorem lifted (os : Os) (started : os.Started) (H : Type) (enc : TypeId × Value → H) :
    ReturnsInHanded {} Tryz.checked os 3 .any (fun w args => (Rows.topHumpSpec.pre enc Tryz.prog Tryz.f3 Rows.topHumpRow.domain false w args ∧ laidMetH Tryz.prog Rows.topHumpRow.laid w) ∧ sizedMet enc Tryz.prog Tryz.f3 (OpenSpec.ofChange Rows.topHumpSpec) false w args)
      (Rows.topHumpSpec.post enc Tryz.prog Tryz.f3 false true false false) := by
  refine returnsInHanded_of_calls (C := Tryz.checked) own started (by kernel_rfl)
    (ChangeSpec.witness_shaped (enc := enc) (C := Tryz.checked) (os := os) (X := fun w _ => laidMetH Tryz.prog Rows.topHumpRow.laid w) false (World.laidAll Tryz.prog os Rows.topHumpRow.laid) #[.slice none 0 0] 8 (World.laidAll_os _ _ _)
      (World.shaped_of_ZipB (by kernel_rfl) (by kernel_rfl)) (by kernel_rfl) (by kernel_rfl) (by kernel_rfl)
      (by rw [MakeChecks.laidMetH_plain _ _ _ plain]; exact laidMet_laidAll _ (by kernel_rfl) (by kernel_rfl))) ?_
  intro w0 tape i _ hsh _ hok hpre _
  obtain ⟨_, _, _, fn, hfn, _, _, _, _, hval0⟩ := hok
  obtain rfl : fn = Tryz.f3 := Option.some.inj (hfn.symm.trans Tryz.func3)
  obtain ⟨⟨⟨ds, gs, before, hw, _⟩, hx⟩, _⟩ := hpre
  have hW := DataW.Whole.of_heap (w' := w0.forCall tape i) (by rfl) hw
  have hx : laidMetH Tryz.prog Rows.topHumpRow.laid (w0.forCall tape i) := hx.of_heap (by rfl)
  have hgl := gl_of hx hsh
  generalize hWW : w0.forCall tape i = W at hW hgl hval0
  generalize i.args = args at hW hval0
  have hval : ∀ (j : Nat) t v, Tryz.f3.params[j]? = some t → args[j]? = some v → Value.okWide Tryz.prog W .any w0.heap.size t v := hval0
  suffices key : Calls Tryz.prog 3 args W fun e W' => ∃ v, e = .returned v ∧ Rows.topHumpSpec.post enc Tryz.prog Tryz.f3 false true false false W args v W' from key.mono fun e W' ⟨v, he, hp⟩ => by
    subst he
    exact ChangeSpec.post_blind hp
  have hW' := hW
  obtain ⟨p, q, hA0, hV, rfl, hfz, hnd⟩ := hW
  have hA : DataW.TrodAll enc Tryz.prog W 0 (fun _ => true) true Tryz.f3.params.toList args.toList ds p := hA0
  rw [Tryz.params3] at hA hval
  obtain ⟨v0, vs0, d0, ds0, P0, Q0, hargs, rfl, rfl, h0, r0⟩ := trodAll_cons hA
  obtain ⟨rfl, rfl, rfl⟩ := trodAll_nil r0
  obtain rfl : args = #[v0] := by cases args; simp_all
  obtain ⟨rfl, rfl⟩ := trodVars_none hV
  have k0 := h0
  have lt0 : ∀ x ∈ P0, x.block < W.heap.size := by obtain ⟨m, hm⟩ := k0; exact DataW.trod_lt m _ _ _ hm
  obtain ⟨a0, len0, cap0, rfl⟩ := okWide_slice Tryz.underlying22 (hval 0 22 v0 rfl rfl)
  obtain ⟨fu0, hf0⟩ := h0
  obtain ⟨x0, hR0, q0⟩ := rd22 _ _ _ _ _ _ _ _ _ hf0
  obtain ⟨a_p0, c_p0, hc0, hs_p0⟩ := hR0
  have hc0' : [Value.slice a0 len0 cap0] = [.slice a_p0 x0.length c_p0] := hc0
  simp only [List.cons.injEq, Value.slice.injEq, and_true] at hc0'
  obtain ⟨rfl, rfl, rfl⟩ := hc0'
  clear hA0 hval0
  refine (walk a0 cap0 x0 W hgl hs_p0).mono fun e W' ⟨he, bel⟩ => ?_
  subst he
  exact ⟨_, rfl, _, _, _, [], _, [], hW', trodAll_mk1 (shut_bool Tryz.underlying4 _), (trodAll_cons_mk (Below.trod laidOut (by kernel_rfl) (of_decide_eq_true (by kernel_rfl)) k0 bel lt0) trodAll_mk0), rfl, bel.frame _, fun h => by cases h⟩

theorem closedI : (Rows.topHumpRow.inPlace == Tryz.pinned.checked.prog.inPlace 3) = true := by kernel_rfl
theorem closedU : (Rows.topHumpRow.unfollowed == Tryz.pinned.checked.prog.unfollowed 3) = true := by kernel_rfl
theorem closedR : (Rows.topHumpRow.recurses == Tryz.pinned.checked.prog.recurses 3) = true := by kernel_rfl
theorem closedN : (Rows.topHumpRow.named == Tryz.pinned.checked.prog.varsNamed 3) = true := by kernel_rfl
theorem closed : joinedFacts Tryz.pinned.checked.prog 3 Tryz.f3 Rows.topHumpSpec Rows.topHumpRow = true := by
  unfold joinedFacts
  rw [closedI, closedU, closedR, closedN]
  kernel_rfl
theorem over : Rows.topHumpRow.holds Tryz.pinned (OpenSpec.ofChange Rows.topHumpSpec) :=
  OpenClaim.holds_of_wide 3 Tryz.f3 rfl rfl rfl rfl rfl rfl rfl ⟨rfl, rfl, rfl, rfl, rfl⟩ rfl rfl rfl rfl rfl (by kernel_rfl) Tryz.func3 closed
    (of_decide_eq_true (by kernel_rfl)) (by unfold Func.isWrapper; first | (rw [if_pos (by decide +kernel)]; kernel_rfl) | (rw [if_neg (by decide +kernel)]; exact ⟨rfl, rfl⟩))
    (fun os started H enc _ => lifted os started H enc)

theorem proved : Rows.TopHumpCardSaid :=
  Claim7.holds_tied_plain_at .later [] [.data, .data, .data, .data, .sentinel, .sentinel, .pinned] true (true, "9cc95fd976fc7bdbdcada6cec8f5ca84eab9fec99bbf7bf2ff101d540fd63fad") true over (fun _ h => by cases h) (by kernel_rfl) (fun _ h => by cases h) topHump_row_tie rfl ⟨rfl, rfl⟩ (by kernel_rfl) rfl
    (fun f fn hf hfn => by
      obtain rfl : f = 3 := Option.some.inj ((show Tryz.prog.funcNamed "humpyard/humpyardtop.TopHump" = some 3 by kernel_rfl).symm.trans hf) |>.symm
      obtain rfl : fn = Tryz.f3 := (Option.some.inj (Tryz.func3.symm.trans hfn)).symm
      exact ⟨by kernel_rfl, fun j t ht => by
        rw [Tryz.params3] at ht
        have hm : t ∈ [22] := by simpa using Array.mem_of_getElem? ht
        have hall : ([22].all fun u => !Tryz.prog.wantsStandIn u) = true := by kernel_rfl
        exact (show Tryz.prog.wantsStandIn t = false by simpa using List.all_eq_true.1 hall t hm)⟩)
    (by kernel_rfl)
#print axioms proved
end Go.Proofs.YtlgdhajakblkaaaGreatDoor.topHump
