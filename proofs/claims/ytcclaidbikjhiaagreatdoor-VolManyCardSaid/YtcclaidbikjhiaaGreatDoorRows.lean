/-
  NARROWER THAN 'FOR EVERY INPUT', by the rows' own cells (each row's printed sentence says how): VolTwo: laid · VolMany: laid · VolReads: laid · VolWhole: laid · VolMounts: laid · VolSpace: laid · VolPlays: laid.
  DERIVED. THE GIVEN ROWS OF THIS SEAT. 7 by the template 'for every input the law returns true; each argument reads behind the call as it read before'; 0 by the template 'total and deterministic' (their statements: YtcclaidbikjhiaaGreatDoorTotals.lean).
  GIVEN WITH THE SEED: the statements are not yours to turn. If you find one false, say at which input.
  Laid BY PROGRAM, IN A SANDBOX (cutbox-rows.mjs): the forced cells as the released guide's own fill.sh prints them over the translation 73f8f6eab11e2129… (all of the seat's roots in one cut). By AI agents, Wed Nov 11 2026. No macro, syntax, notation, axiom, sorry.
-/
import Derived.Test.YtcclaidbikjhiaaGreatDoorChecked
import GoSem.PinnedTables
import GoSem.Claim
import GoSem.ClaimJoined
import GoSem.ClaimMapViews
import Derived.JoinedTies
import Derived.KernelRfl
namespace Go.Proofs.YtcclaidbikjhiaaGreatDoor
/- THE CELL 'sum', in the pinned program and in every row, IS THE sha256 OF THE DUMP (.gsa) THAT YtcclaidbikjhiaaGreatDoorProg.lean LOADS. Nothing in Lean hashes anything: it is a label: what it is worth is what the hold of that sum in a sandbox is worth. -/
noncomputable def Tryz.pinned : Pinned := { name := "ytcclaidbikjhiaagreatdoor", sum := "73f8f6eab11e2129bb829dc71ae5b256d237a0e33c56d77f4cd769d6b0491795", checked := Tryz.checked }
namespace Rows
def none {H : Type} : Left H := { results := [], args := [] }

/- WHAT THE LISTED PACKAGE-LEVEL VARIABLES READ AS WHEN THE CALL BEGINS. Each datum BY PROGRAM (the guide's laid-datum.mjs) off the statement by which the dump's own 'gosem.cut.vars' lays the variable. In a bare row this is a premise. The card (YtcclaidbikjhiaaGreatDoorCards.lean) ties it to the program's text. -/
def laid_unicode_utf8_acceptRanges {H : Type} : DataW H := .agg [.agg [.lit (.int .u8 128), .lit (.int .u8 191)], .agg [.lit (.int .u8 160), .lit (.int .u8 191)], .agg [.lit (.int .u8 128), .lit (.int .u8 159)], .agg [.lit (.int .u8 144), .lit (.int .u8 191)], .agg [.lit (.int .u8 128), .lit (.int .u8 143)], .agg [.lit (.int .u8 0), .lit (.int .u8 0)], .agg [.lit (.int .u8 0), .lit (.int .u8 0)], .agg [.lit (.int .u8 0), .lit (.int .u8 0)], .agg [.lit (.int .u8 0), .lit (.int .u8 0)], .agg [.lit (.int .u8 0), .lit (.int .u8 0)], .agg [.lit (.int .u8 0), .lit (.int .u8 0)], .agg [.lit (.int .u8 0), .lit (.int .u8 0)], .agg [.lit (.int .u8 0), .lit (.int .u8 0)], .agg [.lit (.int .u8 0), .lit (.int .u8 0)], .agg [.lit (.int .u8 0), .lit (.int .u8 0)], .agg [.lit (.int .u8 0), .lit (.int .u8 0)]]
/-- One of Go's own tables, pinned by name: the form's constant. -/
def laid_unicode_utf8_first : DataW Unit := Go.Pinned.utf8First

/-- 'rootcellarlaw8.VolTwo': WHATEVER THE INPUT: true; the input reads as it did. -/
def volTwoSpec : ChangeSpec := { name := "volTwo", fn := fun _ => fun
  | [d1, d2, d3, d4] => { results := [.lit (.bool true)], args := [d1, d2, d3, d4] }
  | _ => none }
def volTwoRow : OpenClaim := { program := "ytcclaidbikjhiaagreatdoor", sum := "73f8f6eab11e2129bb829dc71ae5b256d237a0e33c56d77f4cd769d6b0491795", func := "rootcellar/rootcellarlaw8.VolTwo", spec := "volTwo", inPlace := ["internal/abi.NoEscape", "internal/bytealg.MakeNoZero", "slices.overlaps[rootcellar/dir.File]", "slices.overlaps[rootcellar/api.Span]", "internal/bytealg.IndexByteString", "internal/bytealg.IndexString"], unfollowed := true, recurses := true, named := ["unicode/utf8.first", "unicode/utf8.acceptRanges", "internal/bytealg.MaxLen"], apart := false, laid := [("unicode/utf8.acceptRanges", laid_unicode_utf8_acceptRanges), ("unicode/utf8.first", laid_unicode_utf8_first)] }
def VolTwoSaid : Prop := volTwoRow.holds Tryz.pinned (OpenSpec.ofChange volTwoSpec)

/-- ITS FALSE NEIGHBOUR: 'it returns false'. Refute it at one input. -/
def volTwoWrong : ChangeSpec := { name := "volTwo", fn := fun _ => fun
  | [d1, d2, d3, d4] => { results := [.lit (.bool false)], args := [d1, d2, d3, d4] }
  | _ => none }
def VolTwoWrongFalsely : Prop := volTwoRow.holds Tryz.pinned (OpenSpec.ofChange volTwoWrong)

/-- 'rootcellarlaw8.VolMany': WHATEVER THE INPUT: true; the input reads as it did. -/
def volManySpec : ChangeSpec := { name := "volMany", fn := fun _ => fun
  | [d1, d2] => { results := [.lit (.bool true)], args := [d1, d2] }
  | _ => none }
def volManyRow : OpenClaim := { program := "ytcclaidbikjhiaagreatdoor", sum := "73f8f6eab11e2129bb829dc71ae5b256d237a0e33c56d77f4cd769d6b0491795", func := "rootcellar/rootcellarlaw8.VolMany", spec := "volMany", inPlace := ["internal/abi.NoEscape", "internal/bytealg.MakeNoZero", "slices.overlaps[rootcellar/dir.File]", "slices.overlaps[rootcellar/api.Span]", "internal/bytealg.IndexByteString", "internal/bytealg.IndexString"], unfollowed := true, recurses := true, named := ["unicode/utf8.first", "unicode/utf8.acceptRanges", "internal/bytealg.MaxLen"], apart := false, laid := [("unicode/utf8.acceptRanges", laid_unicode_utf8_acceptRanges), ("unicode/utf8.first", laid_unicode_utf8_first)] }
def VolManySaid : Prop := volManyRow.holds Tryz.pinned (OpenSpec.ofChange volManySpec)

/-- ITS FALSE NEIGHBOUR: 'it returns false'. Refute it at one input. -/
def volManyWrong : ChangeSpec := { name := "volMany", fn := fun _ => fun
  | [d1, d2] => { results := [.lit (.bool false)], args := [d1, d2] }
  | _ => none }
def VolManyWrongFalsely : Prop := volManyRow.holds Tryz.pinned (OpenSpec.ofChange volManyWrong)

/-- 'rootcellarlaw8.VolReads': WHATEVER THE INPUT: true; the input reads as it did. -/
def volReadsSpec : ChangeSpec := { name := "volReads", fn := fun _ => fun
  | [d1, d2, d3] => { results := [.lit (.bool true)], args := [d1, d2, d3] }
  | _ => none }
def volReadsRow : OpenClaim := { program := "ytcclaidbikjhiaagreatdoor", sum := "73f8f6eab11e2129bb829dc71ae5b256d237a0e33c56d77f4cd769d6b0491795", func := "rootcellar/rootcellarlaw8.VolReads", spec := "volReads", inPlace := ["internal/abi.NoEscape", "internal/bytealg.MakeNoZero", "slices.overlaps[rootcellar/dir.File]", "slices.overlaps[rootcellar/api.Span]", "internal/bytealg.IndexByteString", "internal/bytealg.IndexString"], unfollowed := true, recurses := true, named := ["unicode/utf8.first", "unicode/utf8.acceptRanges", "internal/bytealg.MaxLen"], apart := false, laid := [("unicode/utf8.acceptRanges", laid_unicode_utf8_acceptRanges), ("unicode/utf8.first", laid_unicode_utf8_first)] }
def VolReadsSaid : Prop := volReadsRow.holds Tryz.pinned (OpenSpec.ofChange volReadsSpec)

/-- ITS FALSE NEIGHBOUR: 'it returns false'. Refute it at one input. -/
def volReadsWrong : ChangeSpec := { name := "volReads", fn := fun _ => fun
  | [d1, d2, d3] => { results := [.lit (.bool false)], args := [d1, d2, d3] }
  | _ => none }
def VolReadsWrongFalsely : Prop := volReadsRow.holds Tryz.pinned (OpenSpec.ofChange volReadsWrong)

/-- 'rootcellarlaw8.VolWhole': WHATEVER THE INPUT: true; the input reads as it did. -/
def volWholeSpec : ChangeSpec := { name := "volWhole", fn := fun _ => fun
  | [d1, d2, d3, d4] => { results := [.lit (.bool true)], args := [d1, d2, d3, d4] }
  | _ => none }
def volWholeRow : OpenClaim := { program := "ytcclaidbikjhiaagreatdoor", sum := "73f8f6eab11e2129bb829dc71ae5b256d237a0e33c56d77f4cd769d6b0491795", func := "rootcellar/rootcellarlaw8.VolWhole", spec := "volWhole", inPlace := ["internal/abi.NoEscape", "internal/bytealg.MakeNoZero", "slices.overlaps[rootcellar/dir.File]", "slices.overlaps[rootcellar/api.Span]", "internal/bytealg.IndexByteString", "internal/bytealg.IndexString"], unfollowed := true, recurses := true, named := ["unicode/utf8.first", "unicode/utf8.acceptRanges", "internal/bytealg.MaxLen"], apart := false, laid := [("unicode/utf8.acceptRanges", laid_unicode_utf8_acceptRanges), ("unicode/utf8.first", laid_unicode_utf8_first)] }
def VolWholeSaid : Prop := volWholeRow.holds Tryz.pinned (OpenSpec.ofChange volWholeSpec)

/-- ITS FALSE NEIGHBOUR: 'it returns false'. Refute it at one input. -/
def volWholeWrong : ChangeSpec := { name := "volWhole", fn := fun _ => fun
  | [d1, d2, d3, d4] => { results := [.lit (.bool false)], args := [d1, d2, d3, d4] }
  | _ => none }
def VolWholeWrongFalsely : Prop := volWholeRow.holds Tryz.pinned (OpenSpec.ofChange volWholeWrong)

/-- 'rootcellarlaw8.VolMounts': WHATEVER THE INPUT: true; the input reads as it did. -/
def volMountsSpec : ChangeSpec := { name := "volMounts", fn := fun _ => fun
  | [d1, d2] => { results := [.lit (.bool true)], args := [d1, d2] }
  | _ => none }
def volMountsRow : OpenClaim := { program := "ytcclaidbikjhiaagreatdoor", sum := "73f8f6eab11e2129bb829dc71ae5b256d237a0e33c56d77f4cd769d6b0491795", func := "rootcellar/rootcellarlaw8.VolMounts", spec := "volMounts", inPlace := ["internal/abi.NoEscape", "internal/bytealg.MakeNoZero", "slices.overlaps[rootcellar/dir.File]", "slices.overlaps[rootcellar/api.Span]", "internal/bytealg.IndexByteString", "internal/bytealg.IndexString"], unfollowed := true, recurses := true, named := ["unicode/utf8.first", "unicode/utf8.acceptRanges", "internal/bytealg.MaxLen"], apart := false, laid := [("unicode/utf8.acceptRanges", laid_unicode_utf8_acceptRanges), ("unicode/utf8.first", laid_unicode_utf8_first)] }
def VolMountsSaid : Prop := volMountsRow.holds Tryz.pinned (OpenSpec.ofChange volMountsSpec)

/-- ITS FALSE NEIGHBOUR: 'it returns false'. Refute it at one input. -/
def volMountsWrong : ChangeSpec := { name := "volMounts", fn := fun _ => fun
  | [d1, d2] => { results := [.lit (.bool false)], args := [d1, d2] }
  | _ => none }
def VolMountsWrongFalsely : Prop := volMountsRow.holds Tryz.pinned (OpenSpec.ofChange volMountsWrong)

/-- 'rootcellarlaw8.VolSpace': WHATEVER THE INPUT: true; the input reads as it did. -/
def volSpaceSpec : ChangeSpec := { name := "volSpace", fn := fun _ => fun
  | [d] => { results := [.lit (.bool true)], args := [d] }
  | _ => none }
def volSpaceRow : OpenClaim := { program := "ytcclaidbikjhiaagreatdoor", sum := "73f8f6eab11e2129bb829dc71ae5b256d237a0e33c56d77f4cd769d6b0491795", func := "rootcellar/rootcellarlaw8.VolSpace", spec := "volSpace", inPlace := ["internal/abi.NoEscape", "internal/bytealg.MakeNoZero", "slices.overlaps[rootcellar/dir.File]", "slices.overlaps[rootcellar/api.Span]", "internal/bytealg.IndexByteString", "internal/bytealg.IndexString"], unfollowed := true, recurses := true, named := ["unicode/utf8.first", "unicode/utf8.acceptRanges", "internal/bytealg.MaxLen"], apart := false, laid := [("unicode/utf8.acceptRanges", laid_unicode_utf8_acceptRanges), ("unicode/utf8.first", laid_unicode_utf8_first)] }
def VolSpaceSaid : Prop := volSpaceRow.holds Tryz.pinned (OpenSpec.ofChange volSpaceSpec)

/-- ITS FALSE NEIGHBOUR: 'it returns false'. Refute it at one input. -/
def volSpaceWrong : ChangeSpec := { name := "volSpace", fn := fun _ => fun
  | [d] => { results := [.lit (.bool false)], args := [d] }
  | _ => none }
def VolSpaceWrongFalsely : Prop := volSpaceRow.holds Tryz.pinned (OpenSpec.ofChange volSpaceWrong)

/-- 'rootcellarlaw8.VolPlays': WHATEVER THE INPUT: true; the input reads as it did. -/
def volPlaysSpec : ChangeSpec := { name := "volPlays", fn := fun _ => fun
  | [d1, d2] => { results := [.lit (.bool true)], args := [d1, d2] }
  | _ => none }
def volPlaysRow : OpenClaim := { program := "ytcclaidbikjhiaagreatdoor", sum := "73f8f6eab11e2129bb829dc71ae5b256d237a0e33c56d77f4cd769d6b0491795", func := "rootcellar/rootcellarlaw8.VolPlays", spec := "volPlays", inPlace := ["internal/abi.NoEscape", "internal/bytealg.MakeNoZero", "slices.overlaps[rootcellar/dir.File]", "slices.overlaps[rootcellar/api.Span]", "internal/bytealg.IndexByteString", "internal/bytealg.IndexString"], unfollowed := true, recurses := true, named := ["unicode/utf8.first", "unicode/utf8.acceptRanges", "internal/bytealg.MaxLen"], apart := false, laid := [("unicode/utf8.acceptRanges", laid_unicode_utf8_acceptRanges), ("unicode/utf8.first", laid_unicode_utf8_first)] }
def VolPlaysSaid : Prop := volPlaysRow.holds Tryz.pinned (OpenSpec.ofChange volPlaysSpec)

/-- ITS FALSE NEIGHBOUR: 'it returns false'. Refute it at one input. -/
def volPlaysWrong : ChangeSpec := { name := "volPlays", fn := fun _ => fun
  | [d1, d2] => { results := [.lit (.bool false)], args := [d1, d2] }
  | _ => none }
def VolPlaysWrongFalsely : Prop := volPlaysRow.holds Tryz.pinned (OpenSpec.ofChange volPlaysWrong)

/- THE SECOND FORM. 'bulk': how many values and letters a reading holds, each counted each time it is reached (what is shared counts as often as it is met; a slice's spare places count too). A statement '..UptoSaid' is the law's where the arguments, and the package variables that the reading takes, are together of bulk at most 1048576: NARROWER than '..Said'. Prove '..Said' where nothing that the law and all that it calls make is longer than what came in: it says more and counts as full. Else prove '..UptoSaid'. A law counts once. -/
mutual
def uptoBulk {H : Type} : DataW H → Nat
  | .lit (.string bytes) => bytes.length + 1
  | .lit _ => 1
  | .nil => 1
  | .ptr d => uptoBulk d + 1
  | .slice elems spare => uptoBulkAll elems + uptoBulkAll spare + 1
  | .agg parts => uptoBulkAll parts + 1
  | .iface _ d => uptoBulk d + 1
  | .map entries => uptoBulkEntries entries + 1
  | .held _ => 1
def uptoBulkAll {H : Type} : List (DataW H) → Nat
  | [] => 0
  | d :: r => uptoBulk d + uptoBulkAll r
def uptoBulkEntries {H : Type} : List (Lit × DataW H) → Nat
  | [] => 0
  | x :: r => uptoBulkEntry x + uptoBulkEntries r
def uptoBulkEntry {H : Type} : Lit × DataW H → Nat
  | (.string bytes, d) => bytes.length + uptoBulk d + 1
  | (_, d) => uptoBulk d + 1
 end
def uptoSmall : (H : Type) → List (DataW H) → Bool := fun _ ds => decide (uptoBulkAll ds ≤ 1048576)
def OpenSpec.upto (s : _root_.Go.ChangeSpec) : _root_.Go.OpenSpec := { _root_.Go.OpenSpec.ofChange s with cond := some uptoSmall }

/-- 'rootcellarlaw8.VolTwo', WHERE WHAT IT READS IS OF BULK AT MOST 1048576: true; the input reads as it did. -/
def volTwoUptoRow : OpenClaim := { program := "ytcclaidbikjhiaagreatdoor", sum := "73f8f6eab11e2129bb829dc71ae5b256d237a0e33c56d77f4cd769d6b0491795", func := "rootcellar/rootcellarlaw8.VolTwo", spec := "volTwo", inPlace := ["internal/abi.NoEscape", "internal/bytealg.MakeNoZero", "slices.overlaps[rootcellar/dir.File]", "slices.overlaps[rootcellar/api.Span]", "internal/bytealg.IndexByteString", "internal/bytealg.IndexString"], unfollowed := true, recurses := true, named := ["unicode/utf8.first", "unicode/utf8.acceptRanges", "internal/bytealg.MaxLen"], apart := false, laid := [("unicode/utf8.acceptRanges", laid_unicode_utf8_acceptRanges), ("unicode/utf8.first", laid_unicode_utf8_first)], narrowed := true }
def VolTwoUptoSaid : Prop := volTwoUptoRow.holds Tryz.pinned (OpenSpec.upto volTwoSpec)

/-- 'rootcellarlaw8.VolMany', WHERE WHAT IT READS IS OF BULK AT MOST 1048576: true; the input reads as it did. -/
def volManyUptoRow : OpenClaim := { program := "ytcclaidbikjhiaagreatdoor", sum := "73f8f6eab11e2129bb829dc71ae5b256d237a0e33c56d77f4cd769d6b0491795", func := "rootcellar/rootcellarlaw8.VolMany", spec := "volMany", inPlace := ["internal/abi.NoEscape", "internal/bytealg.MakeNoZero", "slices.overlaps[rootcellar/dir.File]", "slices.overlaps[rootcellar/api.Span]", "internal/bytealg.IndexByteString", "internal/bytealg.IndexString"], unfollowed := true, recurses := true, named := ["unicode/utf8.first", "unicode/utf8.acceptRanges", "internal/bytealg.MaxLen"], apart := false, laid := [("unicode/utf8.acceptRanges", laid_unicode_utf8_acceptRanges), ("unicode/utf8.first", laid_unicode_utf8_first)], narrowed := true }
def VolManyUptoSaid : Prop := volManyUptoRow.holds Tryz.pinned (OpenSpec.upto volManySpec)

/-- 'rootcellarlaw8.VolReads', WHERE WHAT IT READS IS OF BULK AT MOST 1048576: true; the input reads as it did. -/
def volReadsUptoRow : OpenClaim := { program := "ytcclaidbikjhiaagreatdoor", sum := "73f8f6eab11e2129bb829dc71ae5b256d237a0e33c56d77f4cd769d6b0491795", func := "rootcellar/rootcellarlaw8.VolReads", spec := "volReads", inPlace := ["internal/abi.NoEscape", "internal/bytealg.MakeNoZero", "slices.overlaps[rootcellar/dir.File]", "slices.overlaps[rootcellar/api.Span]", "internal/bytealg.IndexByteString", "internal/bytealg.IndexString"], unfollowed := true, recurses := true, named := ["unicode/utf8.first", "unicode/utf8.acceptRanges", "internal/bytealg.MaxLen"], apart := false, laid := [("unicode/utf8.acceptRanges", laid_unicode_utf8_acceptRanges), ("unicode/utf8.first", laid_unicode_utf8_first)], narrowed := true }
def VolReadsUptoSaid : Prop := volReadsUptoRow.holds Tryz.pinned (OpenSpec.upto volReadsSpec)

/-- 'rootcellarlaw8.VolWhole', WHERE WHAT IT READS IS OF BULK AT MOST 1048576: true; the input reads as it did. -/
def volWholeUptoRow : OpenClaim := { program := "ytcclaidbikjhiaagreatdoor", sum := "73f8f6eab11e2129bb829dc71ae5b256d237a0e33c56d77f4cd769d6b0491795", func := "rootcellar/rootcellarlaw8.VolWhole", spec := "volWhole", inPlace := ["internal/abi.NoEscape", "internal/bytealg.MakeNoZero", "slices.overlaps[rootcellar/dir.File]", "slices.overlaps[rootcellar/api.Span]", "internal/bytealg.IndexByteString", "internal/bytealg.IndexString"], unfollowed := true, recurses := true, named := ["unicode/utf8.first", "unicode/utf8.acceptRanges", "internal/bytealg.MaxLen"], apart := false, laid := [("unicode/utf8.acceptRanges", laid_unicode_utf8_acceptRanges), ("unicode/utf8.first", laid_unicode_utf8_first)], narrowed := true }
def VolWholeUptoSaid : Prop := volWholeUptoRow.holds Tryz.pinned (OpenSpec.upto volWholeSpec)

/-- 'rootcellarlaw8.VolMounts', WHERE WHAT IT READS IS OF BULK AT MOST 1048576: true; the input reads as it did. -/
def volMountsUptoRow : OpenClaim := { program := "ytcclaidbikjhiaagreatdoor", sum := "73f8f6eab11e2129bb829dc71ae5b256d237a0e33c56d77f4cd769d6b0491795", func := "rootcellar/rootcellarlaw8.VolMounts", spec := "volMounts", inPlace := ["internal/abi.NoEscape", "internal/bytealg.MakeNoZero", "slices.overlaps[rootcellar/dir.File]", "slices.overlaps[rootcellar/api.Span]", "internal/bytealg.IndexByteString", "internal/bytealg.IndexString"], unfollowed := true, recurses := true, named := ["unicode/utf8.first", "unicode/utf8.acceptRanges", "internal/bytealg.MaxLen"], apart := false, laid := [("unicode/utf8.acceptRanges", laid_unicode_utf8_acceptRanges), ("unicode/utf8.first", laid_unicode_utf8_first)], narrowed := true }
def VolMountsUptoSaid : Prop := volMountsUptoRow.holds Tryz.pinned (OpenSpec.upto volMountsSpec)

/-- 'rootcellarlaw8.VolSpace', WHERE WHAT IT READS IS OF BULK AT MOST 1048576: true; the input reads as it did. -/
def volSpaceUptoRow : OpenClaim := { program := "ytcclaidbikjhiaagreatdoor", sum := "73f8f6eab11e2129bb829dc71ae5b256d237a0e33c56d77f4cd769d6b0491795", func := "rootcellar/rootcellarlaw8.VolSpace", spec := "volSpace", inPlace := ["internal/abi.NoEscape", "internal/bytealg.MakeNoZero", "slices.overlaps[rootcellar/dir.File]", "slices.overlaps[rootcellar/api.Span]", "internal/bytealg.IndexByteString", "internal/bytealg.IndexString"], unfollowed := true, recurses := true, named := ["unicode/utf8.first", "unicode/utf8.acceptRanges", "internal/bytealg.MaxLen"], apart := false, laid := [("unicode/utf8.acceptRanges", laid_unicode_utf8_acceptRanges), ("unicode/utf8.first", laid_unicode_utf8_first)], narrowed := true }
def VolSpaceUptoSaid : Prop := volSpaceUptoRow.holds Tryz.pinned (OpenSpec.upto volSpaceSpec)

/-- 'rootcellarlaw8.VolPlays', WHERE WHAT IT READS IS OF BULK AT MOST 1048576: true; the input reads as it did. -/
def volPlaysUptoRow : OpenClaim := { program := "ytcclaidbikjhiaagreatdoor", sum := "73f8f6eab11e2129bb829dc71ae5b256d237a0e33c56d77f4cd769d6b0491795", func := "rootcellar/rootcellarlaw8.VolPlays", spec := "volPlays", inPlace := ["internal/abi.NoEscape", "internal/bytealg.MakeNoZero", "slices.overlaps[rootcellar/dir.File]", "slices.overlaps[rootcellar/api.Span]", "internal/bytealg.IndexByteString", "internal/bytealg.IndexString"], unfollowed := true, recurses := true, named := ["unicode/utf8.first", "unicode/utf8.acceptRanges", "internal/bytealg.MaxLen"], apart := false, laid := [("unicode/utf8.acceptRanges", laid_unicode_utf8_acceptRanges), ("unicode/utf8.first", laid_unicode_utf8_first)], narrowed := true }
def VolPlaysUptoSaid : Prop := volPlaysUptoRow.holds Tryz.pinned (OpenSpec.upto volPlaysSpec)

end Rows
end Go.Proofs.YtcclaidbikjhiaaGreatDoor
