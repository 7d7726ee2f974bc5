/- Proved: rootcellarlaw8.VolMany returns true for every input, and the input reads behind the call as it read before. Conditions: none but the statement's own (the two tables of unicode/utf8 are laid as the program's text lays them: the card ties them). -/
-- laid by rowcard.py (this session's own program)
import Derived.Test.YtcclaidbikjhiaaGreatDoorRows
import Derived.Test.YtcclaidbikjhiaaGreatDoorCards
import Derived.Test.YtcclaidbikjhiaaGreatDoorTie
import Derived.Test.YtcclaidbikjhiaaGreatDoorLayD
import Derived.Test.YtcclaidbikjhiaaGreatDoorPVox0
import Derived.Test.YtcclaidbikjhiaaGreatDoorPureVmy
import Derived.WalkKit
import Derived.ProofKit
import Derived.OpenShut
import Derived.ShutString
import Derived.ChangeOld
import Derived.Below
import Derived.SizedLaws
import Derived.Deep.SlicePairs
import Derived.LaidMore
import Derived.LaidLaws
import Derived.MakeChecks
import Derived.Lib.LaidIn
import Derived.Lib.LaidU8T
import Derived.SevenTiedAt
import Derived.Stop.Joined
namespace Go.Proofs.YtcclaidbikjhiaaGreatDoor.volMany
open Go.ChangeShapes Go.WideShapes Go.ChangeAt Go.RowKit Go.Proofs.YtcclaidbikjhiaaGreatDoor.PVo Go.Proofs.YtcclaidbikjhiaaGreatDoor.Th Go.Proofs.YtcclaidbikjhiaaGreatDoorW.PrintWords
open Go.ChangeMaps (open_string shut_string)
open Go.Shelf Go.Lib
set_option linter.unusedVariables false
theorem own : ownKnob Tryz.prog.godebug = none := by kernel_rfl
theorem laidOut : laidOutB Tryz.prog = true := by kernel_rfl
abbrev laid2 : List (String × DataW Unit) := Rows.volManyRow.laid
theorem accE : (Rows.laid_unicode_utf8_acceptRanges : DataW Unit) = Lib.acceptData := by kernel_rfl
theorem firstE : Rows.laid_unicode_utf8_first = Lib.firstData := by kernel_rfl
/-- The witness: the world that holds the input, the two tables laid. -/
noncomputable def laidWorld (os : Os) (i : Input) : World :=
  let w0 := World.holding Tryz.prog os i
  let put (h : Array Obj) (g : Nat) (cs : Array Value) : Array Obj := h.modify g fun
    | .cells _ t frozen => .cells cs t frozen
    | o => o
  let h1 := put w0.heap 0 (Lib.firstTab.map fun z => Value.int .u8 z).toArray
  let h2 := put h1 1 ((List.range 16).flatMap fun i => [Value.int .u8 (Lib.accLo i), Value.int .u8 (Lib.accHi i)]).toArray
  { w0 with heap := h2 }
theorem of_laid {W : World} (h : laidMetH Tryz.prog laid2 W) : TabsW W := by
  rw [MakeChecks.laidMetH_plain _ _ _ (by kernel_rfl)] at h
  have h1 := Lib.laidMet.reads h (n := "unicode/utf8.first") (d := Rows.laid_unicode_utf8_first) (.tail _ (.head _))
  have h2 := Lib.laidMet.reads h (n := "unicode/utf8.acceptRanges") (d := Rows.laid_unicode_utf8_acceptRanges) (.head _)
  rw [firstE] at h1
  rw [accE] at h2
  exact utf8Tabs_of_readsT (U8Types.of196 Tryz.layValid) ⟨by kernel_rfl, by kernel_rfl, by kernel_rfl, by kernel_rfl, by kernel_rfl, by kernel_rfl, by kernel_rfl⟩ h1 h2
theorem laid_met (os : Os) (args : Array Value) : laidMetH Tryz.prog laid2 ((laidWorld os ⟨#[], #[], []⟩).forCall (fun _ _ => 0) ⟨#[], args, []⟩).memory := by
  rw [MakeChecks.laidMetH_plain _ _ _ (by kernel_rfl)]
  exact laidMet_of_run' 8 (by kernel_rfl) (by kernel_rfl)
theorem i64_wf {n : Int} (h : (Lit.int .i64 n).wf = true) : -9223372036854775808 ≤ n ∧ n < 9223372036854775808 := by
  simp only [Lit.wf, IntKind.min, IntKind.max, IntKind.signed, IntKind.bits, Bool.and_eq_true, decide_eq_true_eq, if_true] at h
  omega
theorem trod_str {H : Type} {enc : TypeId × Value → H} {P : Program} {W : World} {base : Nat} {sp : Nat → Bool} {held : Bool} {fuel : Nat} {t : TypeId} {cs : List Value} {x : DataW H × List MemPlace} (ht : P.underlying t = some .string) (h : DataW.trod enc P W base sp held fuel t cs = some x) : ∃ s : ByteArray, cs = [.string s] ∧ x = (.lit (.string s.data.toList), []) ∧ s.size ≤ maxLen := by
  obtain ⟨s, h1, h2, h3⟩ := DataW.trod_string ht h
  exact ⟨s, h1, h2, h3⟩
set_option maxRecDepth 100000 in
set_option maxHeartbeats 2000000 in
theorem lifted (os : Os) (started : os.Started) (H : Type) (enc : TypeId × Value → H) :
    ReturnsInHanded {} Tryz.checked os 4 .any (fun w args => (Rows.volManySpec.pre enc Tryz.prog Tryz.f4 [] false w args ∧ laidMetH Tryz.prog laid2 w) ∧ sizedMet enc Tryz.prog Tryz.f4 (OpenSpec.ofChange Rows.volManySpec) false w args) (Rows.volManySpec.post enc Tryz.prog Tryz.f4 false true false false) := by
  refine returnsInHanded_of_change_and (C := Tryz.checked) (X := fun w _ => laidMetH Tryz.prog laid2 w) (fun _ _ _ hh h => h.of_heap hh) own started (by kernel_rfl) Tryz.func4
    (ChangeSpec.witness_shaped (enc := enc) (C := Tryz.checked) (os := os) (X := fun w _ => laidMetH Tryz.prog laid2 w) false (laidWorld os ⟨#[], #[], []⟩) #[.int .i64 0, .int .i64 0] 8 rfl (World.shaped_of_RefB (by kernel_rfl) (by kernel_rfl)) (by kernel_rfl) (by kernel_rfl) (by kernel_rfl) (laid_met os _)) ?_
  intro W base args ds gs before hval0 hW hcnd hsz0 hL _
  have ht : TabsW W := of_laid hL
  have hsz : (DataW.weightsEach Tryz.prog (Tryz.f4.params.toList ++ Rows.volManySpec.plain.varTypes Tryz.prog) (ds ++ gs)).all (· ≤ reachBytes) = true := hsz0
  have hval : ∀ (j : Nat) t v, Tryz.f4.params[j]? = some t → args[j]? = some v → Value.okWide Tryz.prog W .any base t v := hval0
  have hW' := hW
  obtain ⟨p, q, hA0, hV, rfl, hfz, hnd⟩ := hW
  have hA : DataW.TrodAll enc Tryz.prog W 0 (fun _ => true) true Tryz.f4.params.toList args.toList ds p := hA0
  rw [Tryz.params4] at hA hval hsz
  obtain ⟨v0, vs0, d0, ds0, p0, q0, hargs, rfl, rfl, h0, r0⟩ := trodAll_cons hA
  obtain ⟨v1, vs1, d1, ds1, p1, q1, rfl, rfl, rfl, h1, r1⟩ := trodAll_cons r0
  obtain ⟨rfl, rfl, rfl⟩ := trodAll_nil r1
  obtain rfl : args = #[v0, v1] := by cases args; simp_all
  obtain ⟨rfl, rfl⟩ := trodVars_none hV
  obtain ⟨a0, rfl, rfl, rfl, w0⟩ := open_int Tryz.underlying3 (hval 0 3 v0 rfl rfl) h0
  obtain ⟨a1, rfl, rfl, rfl, w1⟩ := open_int Tryz.underlying3 (hval 1 3 v1 rfl rfl) h1
  clear hA0 hval0 hsz0 hsz
  have hwk := VolMany_walk a0 a1 W ht (i64_wf w0) (i64_wf w1)
  refine hwk.mono fun e W' ⟨he, bel⟩ => ?_
  subst he
  exact ⟨_, rfl, _, _, _, [], _, [], hW', trodAll_mk1 (shut_bool Tryz.underlying4 _), (trodAll_cons_mk (shut_int Tryz.underlying3 w0) (trodAll_cons_mk (shut_int Tryz.underlying3 w1) trodAll_mk0)), rfl, bel.frame _, fun h => by cases h⟩
theorem over : Rows.volManyRow.holds Tryz.pinned (OpenSpec.ofChange Rows.volManySpec) :=
  OpenClaim.holds_of_wide 4 Tryz.f4 rfl rfl rfl rfl rfl rfl rfl ⟨rfl, rfl, rfl, rfl, rfl⟩ rfl rfl rfl rfl rfl (by kernel_rfl) Tryz.func4 (by kernel_rfl)
    (of_decide_eq_true (by kernel_rfl)) (by unfold Func.isWrapper; first | (rw [if_pos (by decide +kernel)]; kernel_rfl) | (rw [if_neg (by decide +kernel)]; exact ⟨rfl, rfl⟩))
    (fun os started H enc _ => lifted os started H enc)
theorem proved : Rows.VolManySaid := over
/-- The tied card. -/
theorem card : Rows.VolManyCardSaid :=
  Claim7.holds_tied_plain_at .later [] [.data, .pinned] true (true, "a4558a24cbb33948f2c867f108d5d8f92f0cc0ef74cff0baba3a1d02e45b63ce") false
    proved (fun _ h => by cases h) (by kernel_rfl) (fun _ h => by cases h) volMany_row_tie rfl ⟨rfl, rfl⟩ (by kernel_rfl) rfl
    (fun f fn hf hfn => by
      obtain rfl : f = 4 := Option.some.inj ((show Tryz.prog.funcNamed "rootcellar/rootcellarlaw8.VolMany" = some 4 by kernel_rfl).symm.trans hf) |>.symm
      obtain rfl : fn = Tryz.f4 := (Option.some.inj (Tryz.func4.symm.trans hfn)).symm
      exact ⟨by kernel_rfl, fun j t ht => by
        rw [Tryz.params4] at ht
        rcases j with _ | j
        · obtain rfl : t = 3 := by simpa using ht.symm
          kernel_rfl
        rcases j with _ | j
        · obtain rfl : t = 3 := by simpa using ht.symm
          kernel_rfl
        simp at ht⟩)
    (by kernel_rfl)
#print axioms card
end Go.Proofs.YtcclaidbikjhiaaGreatDoor.volMany
namespace Go.Proofs.YtcclaidbikjhiaaGreatDoor
/-- The card, under a short name, for the claim. -/
theorem volMany_holds : Rows.VolManyCardSaid := volMany.card
end Go.Proofs.YtcclaidbikjhiaaGreatDoor
