/-
  NARROWER THAN 'FOR EVERY INPUT', by the rows' own cells (each row's printed sentence says how): DirTakes: laid · DirBack: laid · DirTurned: laid · DirFiles: laid · DirKeeps: laid · DirUses: laid · DirPuts: laid.
  DERIVED. THE GIVEN ROWS OF THIS SEAT. 7 by the template 'for every input the law returns true; each argument reads behind the call as it read before'; 0 by the template 'total and deterministic' (their statements: YtppbcankhkgpfaaDoorTotals.lean).
  GIVEN WITH THE SEED: the statements are not yours to turn. If you find one false, say at which input.
  Laid BY PROGRAM, IN A SANDBOX (cutbox-rows.mjs): the forced cells as the released guide's own fill.sh prints them over the translation 127fd196e98cde0c… (all of the seat's roots in one cut). By AI agents, Wed Nov 11 2026. No macro, syntax, notation, axiom, sorry.
-/
import Derived.Test.YtppbcankhkgpfaaDoorChecked
import GoSem.PinnedTables
import GoSem.Claim
import GoSem.ClaimJoined
import GoSem.ClaimMapViews
import Derived.JoinedTies
import Derived.KernelRfl
namespace Go.Proofs.YtppbcankhkgpfaaDoor
/- THE CELL 'sum', in the pinned program and in every row, IS THE sha256 OF THE DUMP (.gsa) THAT YtppbcankhkgpfaaDoorProg.lean LOADS. Nothing in Lean hashes anything: it is a label: what it is worth is what the hold of that sum in a sandbox is worth. -/
noncomputable def Tryd.pinned : Pinned := { name := "ytppbcankhkgpfaadoor", sum := "127fd196e98cde0c12f4072ea13f2dd2fa71554cf4ed99073ddb98fb51082974", checked := Tryd.checked }
namespace Rows
def none {H : Type} : Left H := { results := [], args := [] }

/- WHAT THE LISTED PACKAGE-LEVEL VARIABLES READ AS WHEN THE CALL BEGINS. Each datum BY PROGRAM (the guide's laid-datum.mjs) off the statement by which the dump's own 'gosem.cut.vars' lays the variable. In a bare row this is a premise. The card (YtppbcankhkgpfaaDoorCards.lean) ties it to the program's text. -/
def laid_unicode_utf8_acceptRanges {H : Type} : DataW H := .agg [.agg [.lit (.int .u8 128), .lit (.int .u8 191)], .agg [.lit (.int .u8 160), .lit (.int .u8 191)], .agg [.lit (.int .u8 128), .lit (.int .u8 159)], .agg [.lit (.int .u8 144), .lit (.int .u8 191)], .agg [.lit (.int .u8 128), .lit (.int .u8 143)], .agg [.lit (.int .u8 0), .lit (.int .u8 0)], .agg [.lit (.int .u8 0), .lit (.int .u8 0)], .agg [.lit (.int .u8 0), .lit (.int .u8 0)], .agg [.lit (.int .u8 0), .lit (.int .u8 0)], .agg [.lit (.int .u8 0), .lit (.int .u8 0)], .agg [.lit (.int .u8 0), .lit (.int .u8 0)], .agg [.lit (.int .u8 0), .lit (.int .u8 0)], .agg [.lit (.int .u8 0), .lit (.int .u8 0)], .agg [.lit (.int .u8 0), .lit (.int .u8 0)], .agg [.lit (.int .u8 0), .lit (.int .u8 0)], .agg [.lit (.int .u8 0), .lit (.int .u8 0)]]
/-- One of Go's own tables, pinned by name: the form's constant. -/
def laid_unicode_utf8_first : DataW Unit := Go.Pinned.utf8First

/-- 'rootcellarlaw7.DirTakes': WHATEVER THE INPUT: true; the input reads as it did. -/
def dirTakesSpec : ChangeSpec := { name := "dirTakes", fn := fun _ => fun
  | [d1, d2] => { results := [.lit (.bool true)], args := [d1, d2] }
  | _ => none }
def dirTakesRow : OpenClaim := { program := "ytppbcankhkgpfaadoor", sum := "127fd196e98cde0c12f4072ea13f2dd2fa71554cf4ed99073ddb98fb51082974", func := "rootcellar/rootcellarlaw7.DirTakes", spec := "dirTakes", inPlace := ["internal/abi.NoEscape"], unfollowed := true, recurses := true, named := ["unicode/utf8.first", "unicode/utf8.acceptRanges"], apart := false, laid := [("unicode/utf8.acceptRanges", laid_unicode_utf8_acceptRanges), ("unicode/utf8.first", laid_unicode_utf8_first)] }
def DirTakesSaid : Prop := dirTakesRow.holds Tryd.pinned (OpenSpec.ofChange dirTakesSpec)

/-- ITS FALSE NEIGHBOUR: 'it returns false'. Refute it at one input. -/
def dirTakesWrong : ChangeSpec := { name := "dirTakes", fn := fun _ => fun
  | [d1, d2] => { results := [.lit (.bool false)], args := [d1, d2] }
  | _ => none }
def DirTakesWrongFalsely : Prop := dirTakesRow.holds Tryd.pinned (OpenSpec.ofChange dirTakesWrong)

/-- 'rootcellarlaw7.DirBack': WHATEVER THE INPUT: true; the input reads as it did. -/
def dirBackSpec : ChangeSpec := { name := "dirBack", fn := fun _ => fun
  | [d1, d2] => { results := [.lit (.bool true)], args := [d1, d2] }
  | _ => none }
def dirBackRow : OpenClaim := { program := "ytppbcankhkgpfaadoor", sum := "127fd196e98cde0c12f4072ea13f2dd2fa71554cf4ed99073ddb98fb51082974", func := "rootcellar/rootcellarlaw7.DirBack", spec := "dirBack", inPlace := ["internal/abi.NoEscape"], unfollowed := true, recurses := true, named := ["unicode/utf8.first", "unicode/utf8.acceptRanges"], apart := false, laid := [("unicode/utf8.acceptRanges", laid_unicode_utf8_acceptRanges), ("unicode/utf8.first", laid_unicode_utf8_first)] }
def DirBackSaid : Prop := dirBackRow.holds Tryd.pinned (OpenSpec.ofChange dirBackSpec)

/-- ITS FALSE NEIGHBOUR: 'it returns false'. Refute it at one input. -/
def dirBackWrong : ChangeSpec := { name := "dirBack", fn := fun _ => fun
  | [d1, d2] => { results := [.lit (.bool false)], args := [d1, d2] }
  | _ => none }
def DirBackWrongFalsely : Prop := dirBackRow.holds Tryd.pinned (OpenSpec.ofChange dirBackWrong)

/-- 'rootcellarlaw7.DirTurned': WHATEVER THE INPUT: true; the input reads as it did. -/
def dirTurnedSpec : ChangeSpec := { name := "dirTurned", fn := fun _ => fun
  | [d1, d2, d3, d4] => { results := [.lit (.bool true)], args := [d1, d2, d3, d4] }
  | _ => none }
def dirTurnedRow : OpenClaim := { program := "ytppbcankhkgpfaadoor", sum := "127fd196e98cde0c12f4072ea13f2dd2fa71554cf4ed99073ddb98fb51082974", func := "rootcellar/rootcellarlaw7.DirTurned", spec := "dirTurned", inPlace := ["internal/abi.NoEscape"], unfollowed := true, recurses := true, named := ["unicode/utf8.first", "unicode/utf8.acceptRanges"], apart := false, laid := [("unicode/utf8.acceptRanges", laid_unicode_utf8_acceptRanges), ("unicode/utf8.first", laid_unicode_utf8_first)] }
def DirTurnedSaid : Prop := dirTurnedRow.holds Tryd.pinned (OpenSpec.ofChange dirTurnedSpec)

/-- ITS FALSE NEIGHBOUR: 'it returns false'. Refute it at one input. -/
def dirTurnedWrong : ChangeSpec := { name := "dirTurned", fn := fun _ => fun
  | [d1, d2, d3, d4] => { results := [.lit (.bool false)], args := [d1, d2, d3, d4] }
  | _ => none }
def DirTurnedWrongFalsely : Prop := dirTurnedRow.holds Tryd.pinned (OpenSpec.ofChange dirTurnedWrong)

/-- 'rootcellarlaw7.DirFiles': WHATEVER THE INPUT: true; the input reads as it did. -/
def dirFilesSpec : ChangeSpec := { name := "dirFiles", fn := fun _ => fun
  | [d1, d2, d3] => { results := [.lit (.bool true)], args := [d1, d2, d3] }
  | _ => none }
def dirFilesRow : OpenClaim := { program := "ytppbcankhkgpfaadoor", sum := "127fd196e98cde0c12f4072ea13f2dd2fa71554cf4ed99073ddb98fb51082974", func := "rootcellar/rootcellarlaw7.DirFiles", spec := "dirFiles", inPlace := ["internal/abi.NoEscape", "slices.overlaps[rootcellar/dir.File]"], unfollowed := true, recurses := true, named := ["unicode/utf8.first", "unicode/utf8.acceptRanges"], apart := false, laid := [("unicode/utf8.acceptRanges", laid_unicode_utf8_acceptRanges), ("unicode/utf8.first", laid_unicode_utf8_first)] }
def DirFilesSaid : Prop := dirFilesRow.holds Tryd.pinned (OpenSpec.ofChange dirFilesSpec)

/-- ITS FALSE NEIGHBOUR: 'it returns false'. Refute it at one input. -/
def dirFilesWrong : ChangeSpec := { name := "dirFiles", fn := fun _ => fun
  | [d1, d2, d3] => { results := [.lit (.bool false)], args := [d1, d2, d3] }
  | _ => none }
def DirFilesWrongFalsely : Prop := dirFilesRow.holds Tryd.pinned (OpenSpec.ofChange dirFilesWrong)

/-- 'rootcellarlaw7.DirKeeps': WHATEVER THE INPUT: true; the input reads as it did. -/
def dirKeepsSpec : ChangeSpec := { name := "dirKeeps", fn := fun _ => fun
  | [d1, d2] => { results := [.lit (.bool true)], args := [d1, d2] }
  | _ => none }
def dirKeepsRow : OpenClaim := { program := "ytppbcankhkgpfaadoor", sum := "127fd196e98cde0c12f4072ea13f2dd2fa71554cf4ed99073ddb98fb51082974", func := "rootcellar/rootcellarlaw7.DirKeeps", spec := "dirKeeps", inPlace := ["internal/abi.NoEscape", "slices.overlaps[rootcellar/dir.File]"], unfollowed := true, recurses := true, named := ["unicode/utf8.first", "unicode/utf8.acceptRanges"], apart := false, laid := [("unicode/utf8.acceptRanges", laid_unicode_utf8_acceptRanges), ("unicode/utf8.first", laid_unicode_utf8_first)] }
def DirKeepsSaid : Prop := dirKeepsRow.holds Tryd.pinned (OpenSpec.ofChange dirKeepsSpec)

/-- ITS FALSE NEIGHBOUR: 'it returns false'. Refute it at one input. -/
def dirKeepsWrong : ChangeSpec := { name := "dirKeeps", fn := fun _ => fun
  | [d1, d2] => { results := [.lit (.bool false)], args := [d1, d2] }
  | _ => none }
def DirKeepsWrongFalsely : Prop := dirKeepsRow.holds Tryd.pinned (OpenSpec.ofChange dirKeepsWrong)

/-- 'rootcellarlaw7.DirUses': WHATEVER THE INPUT: true; the input reads as it did. -/
def dirUsesSpec : ChangeSpec := { name := "dirUses", fn := fun _ => fun
  | [d1, d2] => { results := [.lit (.bool true)], args := [d1, d2] }
  | _ => none }
def dirUsesRow : OpenClaim := { program := "ytppbcankhkgpfaadoor", sum := "127fd196e98cde0c12f4072ea13f2dd2fa71554cf4ed99073ddb98fb51082974", func := "rootcellar/rootcellarlaw7.DirUses", spec := "dirUses", inPlace := ["internal/abi.NoEscape", "slices.overlaps[rootcellar/dir.File]"], unfollowed := true, recurses := true, named := ["unicode/utf8.first", "unicode/utf8.acceptRanges"], apart := false, laid := [("unicode/utf8.acceptRanges", laid_unicode_utf8_acceptRanges), ("unicode/utf8.first", laid_unicode_utf8_first)] }
def DirUsesSaid : Prop := dirUsesRow.holds Tryd.pinned (OpenSpec.ofChange dirUsesSpec)

/-- ITS FALSE NEIGHBOUR: 'it returns false'. Refute it at one input. -/
def dirUsesWrong : ChangeSpec := { name := "dirUses", fn := fun _ => fun
  | [d1, d2] => { results := [.lit (.bool false)], args := [d1, d2] }
  | _ => none }
def DirUsesWrongFalsely : Prop := dirUsesRow.holds Tryd.pinned (OpenSpec.ofChange dirUsesWrong)

/-- 'rootcellarlaw7.DirPuts': WHATEVER THE INPUT: true; the input reads as it did. -/
def dirPutsSpec : ChangeSpec := { name := "dirPuts", fn := fun _ => fun
  | [d1, d2, d3] => { results := [.lit (.bool true)], args := [d1, d2, d3] }
  | _ => none }
def dirPutsRow : OpenClaim := { program := "ytppbcankhkgpfaadoor", sum := "127fd196e98cde0c12f4072ea13f2dd2fa71554cf4ed99073ddb98fb51082974", func := "rootcellar/rootcellarlaw7.DirPuts", spec := "dirPuts", inPlace := ["internal/abi.NoEscape"], unfollowed := true, recurses := true, named := ["unicode/utf8.first", "unicode/utf8.acceptRanges"], apart := false, laid := [("unicode/utf8.acceptRanges", laid_unicode_utf8_acceptRanges), ("unicode/utf8.first", laid_unicode_utf8_first)] }
def DirPutsSaid : Prop := dirPutsRow.holds Tryd.pinned (OpenSpec.ofChange dirPutsSpec)

/-- ITS FALSE NEIGHBOUR: 'it returns false'. Refute it at one input. -/
def dirPutsWrong : ChangeSpec := { name := "dirPuts", fn := fun _ => fun
  | [d1, d2, d3] => { results := [.lit (.bool false)], args := [d1, d2, d3] }
  | _ => none }
def DirPutsWrongFalsely : Prop := dirPutsRow.holds Tryd.pinned (OpenSpec.ofChange dirPutsWrong)

/- THE SECOND FORM. 'bulk': how many values and letters a reading holds, each counted each time it is reached (what is shared counts as often as it is met; a slice's spare places count too). A statement '..UptoSaid' is the law's where the arguments, and the package variables that the reading takes, are together of bulk at most 1048576: NARROWER than '..Said'. Prove '..Said' where nothing that the law and all that it calls make is longer than what came in: it says more and counts as full. Else prove '..UptoSaid'. A law counts once. -/
mutual
def uptoBulk {H : Type} : DataW H → Nat
  | .lit (.string bytes) => bytes.length + 1
  | .lit _ => 1
  | .nil => 1
  | .ptr d => uptoBulk d + 1
  | .slice elems spare => uptoBulkAll elems + uptoBulkAll spare + 1
  | .agg parts => uptoBulkAll parts + 1
  | .iface _ d => uptoBulk d + 1
  | .map entries => uptoBulkEntries entries + 1
  | .held _ => 1
def uptoBulkAll {H : Type} : List (DataW H) → Nat
  | [] => 0
  | d :: r => uptoBulk d + uptoBulkAll r
def uptoBulkEntries {H : Type} : List (Lit × DataW H) → Nat
  | [] => 0
  | x :: r => uptoBulkEntry x + uptoBulkEntries r
def uptoBulkEntry {H : Type} : Lit × DataW H → Nat
  | (.string bytes, d) => bytes.length + uptoBulk d + 1
  | (_, d) => uptoBulk d + 1
 end
def uptoSmall : (H : Type) → List (DataW H) → Bool := fun _ ds => decide (uptoBulkAll ds ≤ 1048576)
def OpenSpec.upto (s : _root_.Go.ChangeSpec) : _root_.Go.OpenSpec := { _root_.Go.OpenSpec.ofChange s with cond := some uptoSmall }

/-- 'rootcellarlaw7.DirTakes', WHERE WHAT IT READS IS OF BULK AT MOST 1048576: true; the input reads as it did. -/
def dirTakesUptoRow : OpenClaim := { program := "ytppbcankhkgpfaadoor", sum := "127fd196e98cde0c12f4072ea13f2dd2fa71554cf4ed99073ddb98fb51082974", func := "rootcellar/rootcellarlaw7.DirTakes", spec := "dirTakes", inPlace := ["internal/abi.NoEscape"], unfollowed := true, recurses := true, named := ["unicode/utf8.first", "unicode/utf8.acceptRanges"], apart := false, laid := [("unicode/utf8.acceptRanges", laid_unicode_utf8_acceptRanges), ("unicode/utf8.first", laid_unicode_utf8_first)], narrowed := true }
def DirTakesUptoSaid : Prop := dirTakesUptoRow.holds Tryd.pinned (OpenSpec.upto dirTakesSpec)

/-- 'rootcellarlaw7.DirBack', WHERE WHAT IT READS IS OF BULK AT MOST 1048576: true; the input reads as it did. -/
def dirBackUptoRow : OpenClaim := { program := "ytppbcankhkgpfaadoor", sum := "127fd196e98cde0c12f4072ea13f2dd2fa71554cf4ed99073ddb98fb51082974", func := "rootcellar/rootcellarlaw7.DirBack", spec := "dirBack", inPlace := ["internal/abi.NoEscape"], unfollowed := true, recurses := true, named := ["unicode/utf8.first", "unicode/utf8.acceptRanges"], apart := false, laid := [("unicode/utf8.acceptRanges", laid_unicode_utf8_acceptRanges), ("unicode/utf8.first", laid_unicode_utf8_first)], narrowed := true }
def DirBackUptoSaid : Prop := dirBackUptoRow.holds Tryd.pinned (OpenSpec.upto dirBackSpec)

/-- 'rootcellarlaw7.DirTurned', WHERE WHAT IT READS IS OF BULK AT MOST 1048576: true; the input reads as it did. -/
def dirTurnedUptoRow : OpenClaim := { program := "ytppbcankhkgpfaadoor", sum := "127fd196e98cde0c12f4072ea13f2dd2fa71554cf4ed99073ddb98fb51082974", func := "rootcellar/rootcellarlaw7.DirTurned", spec := "dirTurned", inPlace := ["internal/abi.NoEscape"], unfollowed := true, recurses := true, named := ["unicode/utf8.first", "unicode/utf8.acceptRanges"], apart := false, laid := [("unicode/utf8.acceptRanges", laid_unicode_utf8_acceptRanges), ("unicode/utf8.first", laid_unicode_utf8_first)], narrowed := true }
def DirTurnedUptoSaid : Prop := dirTurnedUptoRow.holds Tryd.pinned (OpenSpec.upto dirTurnedSpec)

/-- 'rootcellarlaw7.DirFiles', WHERE WHAT IT READS IS OF BULK AT MOST 1048576: true; the input reads as it did. -/
def dirFilesUptoRow : OpenClaim := { program := "ytppbcankhkgpfaadoor", sum := "127fd196e98cde0c12f4072ea13f2dd2fa71554cf4ed99073ddb98fb51082974", func := "rootcellar/rootcellarlaw7.DirFiles", spec := "dirFiles", inPlace := ["internal/abi.NoEscape", "slices.overlaps[rootcellar/dir.File]"], unfollowed := true, recurses := true, named := ["unicode/utf8.first", "unicode/utf8.acceptRanges"], apart := false, laid := [("unicode/utf8.acceptRanges", laid_unicode_utf8_acceptRanges), ("unicode/utf8.first", laid_unicode_utf8_first)], narrowed := true }
def DirFilesUptoSaid : Prop := dirFilesUptoRow.holds Tryd.pinned (OpenSpec.upto dirFilesSpec)

/-- 'rootcellarlaw7.DirKeeps', WHERE WHAT IT READS IS OF BULK AT MOST 1048576: true; the input reads as it did. -/
def dirKeepsUptoRow : OpenClaim := { program := "ytppbcankhkgpfaadoor", sum := "127fd196e98cde0c12f4072ea13f2dd2fa71554cf4ed99073ddb98fb51082974", func := "rootcellar/rootcellarlaw7.DirKeeps", spec := "dirKeeps", inPlace := ["internal/abi.NoEscape", "slices.overlaps[rootcellar/dir.File]"], unfollowed := true, recurses := true, named := ["unicode/utf8.first", "unicode/utf8.acceptRanges"], apart := false, laid := [("unicode/utf8.acceptRanges", laid_unicode_utf8_acceptRanges), ("unicode/utf8.first", laid_unicode_utf8_first)], narrowed := true }
def DirKeepsUptoSaid : Prop := dirKeepsUptoRow.holds Tryd.pinned (OpenSpec.upto dirKeepsSpec)

/-- 'rootcellarlaw7.DirUses', WHERE WHAT IT READS IS OF BULK AT MOST 1048576: true; the input reads as it did. -/
def dirUsesUptoRow : OpenClaim := { program := "ytppbcankhkgpfaadoor", sum := "127fd196e98cde0c12f4072ea13f2dd2fa71554cf4ed99073ddb98fb51082974", func := "rootcellar/rootcellarlaw7.DirUses", spec := "dirUses", inPlace := ["internal/abi.NoEscape", "slices.overlaps[rootcellar/dir.File]"], unfollowed := true, recurses := true, named := ["unicode/utf8.first", "unicode/utf8.acceptRanges"], apart := false, laid := [("unicode/utf8.acceptRanges", laid_unicode_utf8_acceptRanges), ("unicode/utf8.first", laid_unicode_utf8_first)], narrowed := true }
def DirUsesUptoSaid : Prop := dirUsesUptoRow.holds Tryd.pinned (OpenSpec.upto dirUsesSpec)

/-- 'rootcellarlaw7.DirPuts', WHERE WHAT IT READS IS OF BULK AT MOST 1048576: true; the input reads as it did. -/
def dirPutsUptoRow : OpenClaim := { program := "ytppbcankhkgpfaadoor", sum := "127fd196e98cde0c12f4072ea13f2dd2fa71554cf4ed99073ddb98fb51082974", func := "rootcellar/rootcellarlaw7.DirPuts", spec := "dirPuts", inPlace := ["internal/abi.NoEscape"], unfollowed := true, recurses := true, named := ["unicode/utf8.first", "unicode/utf8.acceptRanges"], apart := false, laid := [("unicode/utf8.acceptRanges", laid_unicode_utf8_acceptRanges), ("unicode/utf8.first", laid_unicode_utf8_first)], narrowed := true }
def DirPutsUptoSaid : Prop := dirPutsUptoRow.holds Tryd.pinned (OpenSpec.upto dirPutsSpec)

end Rows
end Go.Proofs.YtppbcankhkgpfaaDoor
