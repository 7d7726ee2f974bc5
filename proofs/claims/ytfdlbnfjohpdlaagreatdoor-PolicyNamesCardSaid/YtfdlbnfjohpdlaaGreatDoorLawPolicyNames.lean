/- Proved: rootcellarlaw16.PolicyNames returns true for every input, and the input reads behind the call as it read before. Conditions: none but the statement's own (the tables of unicode/utf8, math/bits and internal/strconv that the row lists are laid as the program's text lays them: the card ties them). -/
-- laid by rowpol.py (this session's own program)
import Derived.Test.YtfdlbnfjohpdlaaGreatDoorRows
import Derived.Test.YtfdlbnfjohpdlaaGreatDoorCards
import Derived.Test.YtfdlbnfjohpdlaaGreatDoorTie
import Derived.Test.YtfdlbnfjohpdlaaGreatDoorLayD
import Derived.Test.YtfdlbnfjohpdlaaGreatDoorLayP
import Derived.Test.YtfdlbnfjohpdlaaGreatDoorPPox0
import Derived.Test.YtfdlbnfjohpdlaaGreatDoorPureNl
import Derived.WalkKit
import Derived.ProofKit
import Derived.OpenShut
import Derived.ShutString
import Derived.ChangeOld
import Derived.Below
import Derived.SizedLaws
import Derived.HandedShaped
import Derived.Deep.SlicePairs
import Derived.LaidMore
import Derived.LaidLaws
import Derived.MakeChecks
import Derived.Lib.LaidIn
import Derived.Lib.LaidU8T
import Derived.SevenTiedAt
import Derived.Stop.Joined
import Derived.LaidSub
namespace Go.Proofs.YtfdlbnfjohpdlaaGreatDoor.policyNames
open Go.ChangeShapes Go.WideShapes Go.ChangeAt Go.RowKit Go.Proofs.YtfdlbnfjohpdlaaGreatDoor.PPo Go.Proofs.YtfdlbnfjohpdlaaGreatDoor.Th Go.Proofs.YtfdlbnfjohpdlaaGreatDoorW.PrintWords
open Go.ChangeMaps (open_string shut_string)
open Go.Shelf Go.Lib
set_option linter.unusedVariables false
theorem own : ownKnob Tryz.prog.godebug = none := by kernel_rfl
theorem laidOut : laidOutB Tryz.prog = true := by kernel_rfl
abbrev laid5 : List (String × DataW Unit) := Rows.policyNamesRow.laid
theorem accE : (Rows.laid_unicode_utf8_acceptRanges : DataW Unit) = Lib.acceptData := by kernel_rfl
theorem firstE : Rows.laid_unicode_utf8_first = Lib.firstData := by kernel_rfl
/-- The witness: the world that holds the input, the tables laid. -/
noncomputable def laidWorld (os : Os) (i : Input) : World :=
  let w0 := World.holding Tryz.prog os i
  let put (h : Array Obj) (g : Nat) (cs : Array Value) : Array Obj := h.modify g fun
    | .cells _ t frozen => .cells cs t frozen
    | o => o
  let h1 := put w0.heap 1 (Lib.firstTab.map fun z => Value.int .u8 z).toArray
  let h2 := put h1 2 ((List.range 16).flatMap fun i => [Value.int .u8 (Lib.accLo i), Value.int .u8 (Lib.accHi i)]).toArray
  let h3 := put h2 3 (([1, 10, 100, 1000, 10000, 100000, 1000000, 10000000, 100000000, 1000000000, 10000000000, 100000000000, 1000000000000, 10000000000000, 100000000000000, 1000000000000000, 10000000000000000, 100000000000000000, 1000000000000000000, 10000000000000000000] : List Int).map fun z => Value.int .u64 z).toArray
  let h4 := put h3 4 (([0, 1, 28, 2, 29, 14, 24, 3, 30, 22, 20, 15, 25, 17, 4, 8, 31, 27, 13, 23, 21, 19, 16, 7, 26, 12, 18, 6, 11, 5, 10, 9] : List Int).map fun z => Value.int .u8 z).toArray
  let h5 := put h4 5 (([0, 1, 56, 2, 57, 49, 28, 3, 61, 58, 42, 50, 38, 29, 17, 4, 62, 47, 59, 36, 45, 43, 51, 22, 53, 39, 33, 30, 24, 18, 12, 5, 63, 55, 48, 27, 60, 41, 37, 16, 46, 35, 44, 21, 52, 32, 23, 11, 54, 26, 40, 15, 34, 20, 31, 10, 25, 14, 19, 9, 13, 8, 7, 6] : List Int).map fun z => Value.int .u8 z).toArray
  { w0 with heap := h5 }
theorem of_laid {W : World} (h : laidMetH Tryz.prog laid5 W) : TabsW W := by
  rw [MakeChecks.laidMetH_plain _ _ _ (by kernel_rfl)] at h
  have h1 := Lib.laidMet.reads h (n := "unicode/utf8.first") (d := Rows.laid_unicode_utf8_first) (.tail _ (.tail _ (.tail _ (.tail _ (.head _)))))
  have h2 := Lib.laidMet.reads h (n := "unicode/utf8.acceptRanges") (d := Rows.laid_unicode_utf8_acceptRanges) (.tail _ (.tail _ (.tail _ (.head _))))
  rw [firstE] at h1
  rw [accE] at h2
  exact utf8Tabs_of_readsT (U8Types.of196 Tryz.layValid) ⟨by kernel_rfl, by kernel_rfl, by kernel_rfl, by kernel_rfl, by kernel_rfl, by kernel_rfl, by kernel_rfl⟩ h1 h2
theorem of_pow {W : World} (h : laidMetH Tryz.prog laid5 W) : PowW W := by
  rw [MakeChecks.laidMetH_plain _ _ _ (by kernel_rfl)] at h
  have h2 := laidMet.filter (fun x => x.1 == "internal/strconv.uint64pow10") h
  have e2 : (laid5.filter fun x => x.1 == "internal/strconv.uint64pow10") = [("internal/strconv.uint64pow10", Lib.tabData .u64 Lib.pow10Tab)] := by kernel_rfl
  rw [e2] at h2
  exact Lib.tabIs_of_head (P := Tryz.prog) (g := 3) (t := 179) (e := 26) (by kernel_rfl) (by kernel_rfl) Tryz.underlying179 Tryz.underlying26 (by kernel_rfl) (by kernel_rfl) h2
theorem laid_met (os : Os) (args : Array Value) : laidMetH Tryz.prog laid5 ((laidWorld os ⟨#[], #[], []⟩).forCall (fun _ _ => 0) ⟨#[], args, []⟩).memory := by
  rw [MakeChecks.laidMetH_plain _ _ _ (by kernel_rfl)]
  exact laidMet_of_run' 8 (by kernel_rfl) (by kernel_rfl)
/-- As returnsInHanded_of_change_and, the world's shape kept (as returnsInHanded_of_change_shaped keeps it). -/
theorem returnsHanded {H : Type} {enc : TypeId × Value → H} {a : Assume} {C : Checked} {os : Os} {f : FuncId} {fn : Func} {s : ChangeSpec} {conds : List PathCond} {apart fresh handsOn again : Bool} {X : World → Array Value → Prop}
    (hX : ∀ (w w' : World) (args : Array Value), w.heap = w'.heap → X w args → X w' args)
    (own : ownKnob C.prog.godebug = none) (started : os.Started) (noInit : C.prog.inits.idxOf? f = none) (hfn : C.prog.funcs[f]? = some fn)
    (witness : ∃ (w : World) (tape : Tape) (i : Input), w.os = os ∧ (w.forCall tape i).Shaped C.prog ∧ i.vars = [] ∧ Input.okWide C.prog (w.forCall tape i) .any w.heap.size f i ∧
      ((s.pre enc C.prog fn conds apart (w.forCall tape i).memory i.args ∧ X (w.forCall tape i).memory i.args) ∧ sizedMet enc C.prog fn (OpenSpec.ofChange s) apart (w.forCall tape i).memory i.args) ∧ a.holds C.prog (lone (Frame.enter C.prog f i.args .normal) [] (w.forCall tape i)))
    (contract : ∀ (W : World) (base : Nat) (args : Array Value) (ds gs : List (DataW H)) (before : List MemPlace),
      (∀ (j : Nat) t v, fn.params[j]? = some t → args[j]? = some v → Value.okWide C.prog W .any base t v) →
      DataW.Whole enc C.prog fn.params.toList s.vars apart W args.toList ds gs before →
      (DataW.weightsEach C.prog (fn.params.toList ++ s.plain.varTypes C.prog) (ds ++ gs)).all (· ≤ reachBytes) = true → X W args → W.ShapedOpen C.prog →
      Calls C.prog f args W fun e W' => ∃ v, e = .returned v ∧ s.post enc C.prog fn apart fresh handsOn again W args v W') :
    ReturnsInHanded a C os f .any (fun w args => (s.pre enc C.prog fn conds apart w args ∧ X w args) ∧ sizedMet enc C.prog fn (OpenSpec.ofChange s) apart w args) (s.post enc C.prog fn apart fresh handsOn again) := by
  refine returnsInHanded_of_calls own started noInit witness ?_
  intro w tape i _ hsh _ hok hpre _
  obtain ⟨_, _, _, fn', hfn', _, _, _, _, hval⟩ := hok
  have e : fn' = fn := Option.some.inj (hfn'.symm.trans hfn)
  subst e
  obtain ⟨⟨⟨ds, gs, before, hw, _⟩, hx⟩, hz⟩ := hpre
  have hw' := DataW.Whole.of_heap (w' := w.forCall tape i) (by rfl) hw
  refine (contract (w.forCall tape i) w.heap.size i.args ds gs before hval hw' (hz.weights hw) (hX _ _ _ (by rfl) hx) hsh).mono fun e W' ⟨v, he, hp⟩ => ?_
  subst he
  exact ChangeSpec.post_blind hp
theorem trod_str {H : Type} {enc : TypeId × Value → H} {P : Program} {W : World} {base : Nat} {sp : Nat → Bool} {held : Bool} {fuel : Nat} {t : TypeId} {cs : List Value} {x : DataW H × List MemPlace} (ht : P.underlying t = some .string) (h : DataW.trod enc P W base sp held fuel t cs = some x) : ∃ s : ByteArray, cs = [.string s] ∧ x = (.lit (.string s.data.toList), []) ∧ s.size ≤ maxLen := by
  obtain ⟨s, h1, h2, h3⟩ := DataW.trod_string ht h
  exact ⟨s, h1, h2, h3⟩
theorem u64_wf {n : Int} (h : (Lit.int .u64 n).wf = true) : 0 ≤ n ∧ n < 18446744073709551616 := by
  simp only [Lit.wf, IntKind.min, IntKind.max, IntKind.signed, IntKind.bits, Bool.and_eq_true, decide_eq_true_eq, Bool.false_eq_true, if_false] at h
  omega
set_option maxRecDepth 100000 in
theorem open_pol {H : Type} {enc : TypeId × Value → H} {W : World} {sp : Nat → Bool} {fuel : Nat} {cs : List Value} {x : DataW H × List MemPlace} (hl : cs.length = 4) (h : DataW.trod enc Tryz.prog W 0 sp true fuel 23 cs = some x) : ∃ n0 n1 n2 n3 : Int, cs = [.int .i64 n0, .int .i64 n1, .int .i64 n2, .int .i64 n3] ∧ (Lit.int .i64 n0).wf = true ∧ (Lit.int .i64 n1).wf = true ∧ (Lit.int .i64 n2).wf = true ∧ (Lit.int .i64 n3).wf = true := by
  obtain ⟨xs, m, rfl, _, _, hxl, hf⟩ := DataW.trod_struct Tryz.underlying23 h
  match xs, hxl, cs, hl with
  | [y0, y1, y2, y3], _, [v0, v1, v2, v3], _ =>
    have g0 : DataW.trod enc Tryz.prog W 0 sp true m 3 (([v0, v1, v2, v3].drop 0).take (Tryz.prog.cellsOf 3)) = [y0, y1, y2, y3][0]? := hf 0 _ rfl
    have c0 : Tryz.prog.cellsOf 3 = 1 := by kernel_rfl
    rw [c0] at g0
    have t0 : DataW.trod enc Tryz.prog W 0 sp true m 3 [v0] = some y0 := g0
    have g1 : DataW.trod enc Tryz.prog W 0 sp true m 3 (([v0, v1, v2, v3].drop 1).take (Tryz.prog.cellsOf 3)) = [y0, y1, y2, y3][1]? := hf 1 _ rfl
    have c1 : Tryz.prog.cellsOf 3 = 1 := by kernel_rfl
    rw [c1] at g1
    have t1 : DataW.trod enc Tryz.prog W 0 sp true m 3 [v1] = some y1 := g1
    have g2 : DataW.trod enc Tryz.prog W 0 sp true m 3 (([v0, v1, v2, v3].drop 2).take (Tryz.prog.cellsOf 3)) = [y0, y1, y2, y3][2]? := hf 2 _ rfl
    have c2 : Tryz.prog.cellsOf 3 = 1 := by kernel_rfl
    rw [c2] at g2
    have t2 : DataW.trod enc Tryz.prog W 0 sp true m 3 [v2] = some y2 := g2
    have g3 : DataW.trod enc Tryz.prog W 0 sp true m 3 (([v0, v1, v2, v3].drop 3).take (Tryz.prog.cellsOf 3)) = [y0, y1, y2, y3][3]? := hf 3 _ rfl
    have c3 : Tryz.prog.cellsOf 3 = 1 := by kernel_rfl
    rw [c3] at g3
    have t3 : DataW.trod enc Tryz.prog W 0 sp true m 3 [v3] = some y3 := g3
    obtain ⟨n0, e0, _, w0⟩ := DataW.trod_int Tryz.underlying3 t0
    simp only [List.cons.injEq, and_true] at e0
    subst e0
    obtain ⟨n1, e1, _, w1⟩ := DataW.trod_int Tryz.underlying3 t1
    simp only [List.cons.injEq, and_true] at e1
    subst e1
    obtain ⟨n2, e2, _, w2⟩ := DataW.trod_int Tryz.underlying3 t2
    simp only [List.cons.injEq, and_true] at e2
    subst e2
    obtain ⟨n3, e3, _, w3⟩ := DataW.trod_int Tryz.underlying3 t3
    simp only [List.cons.injEq, and_true] at e3
    subst e3
    exact ⟨n0, n1, n2, n3, rfl, w0, w1, w2, w3⟩
set_option maxRecDepth 100000 in
set_option maxHeartbeats 2000000 in
theorem lifted (os : Os) (started : os.Started) (H : Type) (enc : TypeId × Value → H) :
    ReturnsInHanded {} Tryz.checked os 7 .any (fun w args => (Rows.policyNamesSpec.pre enc Tryz.prog Tryz.f7 [] false w args ∧ laidMetH Tryz.prog laid5 w) ∧ sizedMet enc Tryz.prog Tryz.f7 (OpenSpec.ofChange Rows.policyNamesSpec) false w args) (Rows.policyNamesSpec.post enc Tryz.prog Tryz.f7 false true false false) := by
  refine returnsHanded (C := Tryz.checked) (X := fun w _ => laidMetH Tryz.prog laid5 w) (fun _ _ _ hh h => h.of_heap hh) own started (by kernel_rfl) Tryz.func7
    (ChangeSpec.witness_shaped (enc := enc) (C := Tryz.checked) (os := os) (X := fun w _ => laidMetH Tryz.prog laid5 w) false (laidWorld os ⟨#[], #[], []⟩) #[.agg #[.int .i64 0, .int .i64 0, .int .i64 0, .int .i64 0], .int .i64 0] 8 rfl (World.shaped_of_RefB (by kernel_rfl) (by kernel_rfl)) (by kernel_rfl) (by kernel_rfl) (by kernel_rfl) (laid_met os _)) ?_
  intro W base args ds gs before hval0 hW hsz0 hL hsh
  have ht : TabsW W := of_laid hL
  have hm : MaxW W := Tryz.laySplit.s1_3 W hsh
  have hpw : PowW W := of_pow hL
  have hsz : (DataW.weightsEach Tryz.prog (Tryz.f7.params.toList ++ Rows.policyNamesSpec.plain.varTypes Tryz.prog) (ds ++ gs)).all (· ≤ reachBytes) = true := hsz0
  have hval : ∀ (j : Nat) t v, Tryz.f7.params[j]? = some t → args[j]? = some v → Value.okWide Tryz.prog W .any base t v := hval0
  have hW' := hW
  obtain ⟨p, q, hA0, hV, rfl, hfz, hnd⟩ := hW
  have hA : DataW.TrodAll enc Tryz.prog W 0 (fun _ => true) true Tryz.f7.params.toList args.toList ds p := hA0
  rw [Tryz.params7] at hA hval hsz
  obtain ⟨v0, vs0, d0, ds0, p0, q0, hargs, rfl, rfl, h0, r0⟩ := trodAll_cons hA
  obtain ⟨v1, vs1, d1, ds1, p1, q1, rfl, rfl, rfl, h1, r1⟩ := trodAll_cons r0
  obtain ⟨rfl, rfl, rfl⟩ := trodAll_nil r1
  obtain rfl : args = #[v0, v1] := by cases args; simp_all
  obtain ⟨rfl, rfl⟩ := trodVars_none hV
  obtain ⟨cs0, rfl, hz0⟩ := okWide_struct Tryz.underlying23 (hval 0 23 v0 rfl rfl)
  have k0 := h0
  have lt0 : ∀ x ∈ p0, x.block < W.heap.size := by obtain ⟨m, hm⟩ := k0; exact DataW.trod_lt m _ _ _ hm
  obtain ⟨m0_0, m0_1, m0_2, m0_3, hcs0, w0⟩ : ∃ n0 n1 n2 n3 : Int, cs0.toList = [.int .i64 n0, .int .i64 n1, .int .i64 n2, .int .i64 n3] ∧ (Lit.int .i64 n0).wf = true ∧ (Lit.int .i64 n1).wf = true ∧ (Lit.int .i64 n2).wf = true ∧ (Lit.int .i64 n3).wf = true := by
    obtain ⟨fuel, hf⟩ := h0
    exact open_pol (by rw [Array.length_toList, hz0]; kernel_rfl) hf
  obtain rfl : cs0 = #[.int .i64 m0_0, .int .i64 m0_1, .int .i64 m0_2, .int .i64 m0_3] := by rw [← Array.toArray_toList (xs := cs0), hcs0]
  obtain ⟨a1, rfl, rfl, rfl, w1⟩ := open_int Tryz.underlying3 (hval 1 3 v1 rfl rfl) h1
  clear hA0 hval0 hsz0 hsz
  refine (PolicyNames_walk m0_0 m0_1 m0_2 m0_3 a1 W  ht hm hpw  ).mono fun e W' ⟨he, bel⟩ => ?_
  subst he
  exact ⟨_, rfl, _, _, _, [], _, [], hW', trodAll_mk1 (shut_bool Tryz.underlying4 _), (trodAll_cons_mk (Below.trod laidOut (by kernel_rfl) (of_decide_eq_true (by kernel_rfl)) k0 bel lt0) (trodAll_cons_mk (shut_int Tryz.underlying3 w1) trodAll_mk0)), rfl, bel.frame _, fun h => by cases h⟩
theorem over : Rows.policyNamesRow.holds Tryz.pinned (OpenSpec.ofChange Rows.policyNamesSpec) :=
  OpenClaim.holds_of_wide 7 Tryz.f7 rfl rfl rfl rfl rfl rfl rfl ⟨rfl, rfl, rfl, rfl, rfl⟩ rfl rfl rfl rfl rfl (by kernel_rfl) Tryz.func7 (by kernel_rfl)
    (of_decide_eq_true (by kernel_rfl)) (by unfold Func.isWrapper; first | (rw [if_pos (by decide +kernel)]; kernel_rfl) | (rw [if_neg (by decide +kernel)]; exact ⟨rfl, rfl⟩))
    (fun os started H enc _ => lifted os started H enc)
theorem proved : Rows.PolicyNamesSaid := over
/-- The tied card. -/
theorem card : Rows.PolicyNamesCardSaid :=
  Claim7.holds_tied_plain_at .later [] [.data, .data, .data, .data, .pinned] true (true, "3f4bdcf052c03d7c0b4f82c20745eeff6bfd656f7d139071a0ab752b6278a599") false
    proved (fun _ h => by cases h) (by kernel_rfl) (fun _ h => by cases h) policyNames_row_tie rfl ⟨rfl, rfl⟩ (by kernel_rfl) rfl
    (fun f fn hf hfn => by
      obtain rfl : f = 7 := Option.some.inj ((show Tryz.prog.funcNamed "rootcellar/rootcellarlaw16.PolicyNames" = some 7 by kernel_rfl).symm.trans hf) |>.symm
      obtain rfl : fn = Tryz.f7 := (Option.some.inj (Tryz.func7.symm.trans hfn)).symm
      exact ⟨by kernel_rfl, fun j t ht => by
        rw [Tryz.params7] at ht
        rcases j with _ | j
        · obtain rfl : t = 23 := by simpa using ht.symm
          kernel_rfl
        rcases j with _ | j
        · obtain rfl : t = 3 := by simpa using ht.symm
          kernel_rfl
        simp at ht⟩)
    (by kernel_rfl)
#print axioms card
end Go.Proofs.YtfdlbnfjohpdlaaGreatDoor.policyNames
namespace Go.Proofs.YtfdlbnfjohpdlaaGreatDoor
/-- The card, under a short name, for the claim. -/
theorem policyNames_holds : Rows.PolicyNamesCardSaid := policyNames.card
end Go.Proofs.YtfdlbnfjohpdlaaGreatDoor
