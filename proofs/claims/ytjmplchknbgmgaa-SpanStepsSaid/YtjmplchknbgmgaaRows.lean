/-
  No cell of these rows narrows 'for every input' (looked for: loops, veiled, ifaces, maps, wideKeys, modest, calm, conditions, laid).
  DERIVED. THE GIVEN ROWS OF THIS SEAT. 6 by the template 'for every input the law returns true; each argument reads behind the call as it read before'; 0 by the template 'total and deterministic' (their statements: YtjmplchknbgmgaaTotals.lean).
  GIVEN WITH THE SEED: the statements are not yours to turn. If you find one false, say at which input.
  Laid BY PROGRAM, IN A SANDBOX (cutbox-rows.mjs): the forced cells as the released guide's own fill.sh prints them over the translation 580968a0c0d1caa6… (all of the seat's roots in one cut). By AI agents, Wed Nov 11 2026. No macro, syntax, notation, axiom, sorry.
-/
import Derived.Test.YtjmplchknbgmgaaChecked
import GoSem.Claim
import GoSem.ClaimJoined
import GoSem.ClaimMapViews
import Derived.JoinedTies
import Derived.KernelRfl
namespace Go.Proofs.Ytjmplchknbgmgaa
/- THE CELL 'sum', in the pinned program and in every row, IS THE sha256 OF THE DUMP (.gsa) THAT YtjmplchknbgmgaaProg.lean LOADS. Nothing in Lean hashes anything: it is a label: what it is worth is what the hold of that sum in a sandbox is worth. -/
noncomputable def Try.pinned : Pinned := { name := "ytjmplchknbgmgaa", sum := "580968a0c0d1caa62eedc8beb0f0a44e192945badd56b6bf2f0accdf8a4f9e9f", checked := Try.checked }
namespace Rows
def none {H : Type} : Left H := { results := [], args := [] }

/-- 'rootcellarlaw5.SpanTakes': WHATEVER THE INPUT: true; the input reads as it did. -/
def spanTakesSpec : ChangeSpec := { name := "spanTakes", fn := fun _ => fun
  | [d1, d2, d3] => { results := [.lit (.bool true)], args := [d1, d2, d3] }
  | _ => none }
def spanTakesRow : OpenClaim := { program := "ytjmplchknbgmgaa", sum := "580968a0c0d1caa62eedc8beb0f0a44e192945badd56b6bf2f0accdf8a4f9e9f", func := "rootcellar/rootcellarlaw5.SpanTakes", spec := "spanTakes", unfollowed := true, recurses := true, apart := false }
def SpanTakesSaid : Prop := spanTakesRow.holds Try.pinned (OpenSpec.ofChange spanTakesSpec)

/-- ITS FALSE NEIGHBOUR: 'it returns false'. Refute it at one input. -/
def spanTakesWrong : ChangeSpec := { name := "spanTakes", fn := fun _ => fun
  | [d1, d2, d3] => { results := [.lit (.bool false)], args := [d1, d2, d3] }
  | _ => none }
def SpanTakesWrongFalsely : Prop := spanTakesRow.holds Try.pinned (OpenSpec.ofChange spanTakesWrong)

/-- 'rootcellarlaw5.SpanOrder': WHATEVER THE INPUT: true; the input reads as it did. -/
def spanOrderSpec : ChangeSpec := { name := "spanOrder", fn := fun _ => fun
  | [d1, d2, d3, d4] => { results := [.lit (.bool true)], args := [d1, d2, d3, d4] }
  | _ => none }
def spanOrderRow : OpenClaim := { program := "ytjmplchknbgmgaa", sum := "580968a0c0d1caa62eedc8beb0f0a44e192945badd56b6bf2f0accdf8a4f9e9f", func := "rootcellar/rootcellarlaw5.SpanOrder", spec := "spanOrder", unfollowed := true, recurses := true, apart := false }
def SpanOrderSaid : Prop := spanOrderRow.holds Try.pinned (OpenSpec.ofChange spanOrderSpec)

/-- ITS FALSE NEIGHBOUR: 'it returns false'. Refute it at one input. -/
def spanOrderWrong : ChangeSpec := { name := "spanOrder", fn := fun _ => fun
  | [d1, d2, d3, d4] => { results := [.lit (.bool false)], args := [d1, d2, d3, d4] }
  | _ => none }
def SpanOrderWrongFalsely : Prop := spanOrderRow.holds Try.pinned (OpenSpec.ofChange spanOrderWrong)

/-- 'rootcellarlaw5.SpanSteps': WHATEVER THE INPUT: true; the input reads as it did. -/
def spanStepsSpec : ChangeSpec := { name := "spanSteps", fn := fun _ => fun
  | [d1, d2, d3, d4] => { results := [.lit (.bool true)], args := [d1, d2, d3, d4] }
  | _ => none }
def spanStepsRow : OpenClaim := { program := "ytjmplchknbgmgaa", sum := "580968a0c0d1caa62eedc8beb0f0a44e192945badd56b6bf2f0accdf8a4f9e9f", func := "rootcellar/rootcellarlaw5.SpanSteps", spec := "spanSteps", unfollowed := true, recurses := true, apart := false }
def SpanStepsSaid : Prop := spanStepsRow.holds Try.pinned (OpenSpec.ofChange spanStepsSpec)

/-- ITS FALSE NEIGHBOUR: 'it returns false'. Refute it at one input. -/
def spanStepsWrong : ChangeSpec := { name := "spanSteps", fn := fun _ => fun
  | [d1, d2, d3, d4] => { results := [.lit (.bool false)], args := [d1, d2, d3, d4] }
  | _ => none }
def SpanStepsWrongFalsely : Prop := spanStepsRow.holds Try.pinned (OpenSpec.ofChange spanStepsWrong)

/-- 'rootcellarlaw5.SpanParts': WHATEVER THE INPUT: true; the input reads as it did. -/
def spanPartsSpec : ChangeSpec := { name := "spanParts", fn := fun _ => fun
  | [d1, d2, d3] => { results := [.lit (.bool true)], args := [d1, d2, d3] }
  | _ => none }
def spanPartsRow : OpenClaim := { program := "ytjmplchknbgmgaa", sum := "580968a0c0d1caa62eedc8beb0f0a44e192945badd56b6bf2f0accdf8a4f9e9f", func := "rootcellar/rootcellarlaw5.SpanParts", spec := "spanParts", unfollowed := true, recurses := true, apart := false }
def SpanPartsSaid : Prop := spanPartsRow.holds Try.pinned (OpenSpec.ofChange spanPartsSpec)

/-- ITS FALSE NEIGHBOUR: 'it returns false'. Refute it at one input. -/
def spanPartsWrong : ChangeSpec := { name := "spanParts", fn := fun _ => fun
  | [d1, d2, d3] => { results := [.lit (.bool false)], args := [d1, d2, d3] }
  | _ => none }
def SpanPartsWrongFalsely : Prop := spanPartsRow.holds Try.pinned (OpenSpec.ofChange spanPartsWrong)

/-- 'rootcellarlaw5.SpanRows': WHATEVER THE INPUT: true; the input reads as it did. -/
def spanRowsSpec : ChangeSpec := { name := "spanRows", fn := fun _ => fun
  | [d1, d2, d3] => { results := [.lit (.bool true)], args := [d1, d2, d3] }
  | _ => none }
def spanRowsRow : OpenClaim := { program := "ytjmplchknbgmgaa", sum := "580968a0c0d1caa62eedc8beb0f0a44e192945badd56b6bf2f0accdf8a4f9e9f", func := "rootcellar/rootcellarlaw5.SpanRows", spec := "spanRows", unfollowed := true, recurses := true, apart := false }
def SpanRowsSaid : Prop := spanRowsRow.holds Try.pinned (OpenSpec.ofChange spanRowsSpec)

/-- ITS FALSE NEIGHBOUR: 'it returns false'. Refute it at one input. -/
def spanRowsWrong : ChangeSpec := { name := "spanRows", fn := fun _ => fun
  | [d1, d2, d3] => { results := [.lit (.bool false)], args := [d1, d2, d3] }
  | _ => none }
def SpanRowsWrongFalsely : Prop := spanRowsRow.holds Try.pinned (OpenSpec.ofChange spanRowsWrong)

/-- 'rootcellarlaw5.SpanTurns': WHATEVER THE INPUT: true; the input reads as it did. -/
def spanTurnsSpec : ChangeSpec := { name := "spanTurns", fn := fun _ => fun
  | [d1, d2] => { results := [.lit (.bool true)], args := [d1, d2] }
  | _ => none }
def spanTurnsRow : OpenClaim := { program := "ytjmplchknbgmgaa", sum := "580968a0c0d1caa62eedc8beb0f0a44e192945badd56b6bf2f0accdf8a4f9e9f", func := "rootcellar/rootcellarlaw5.SpanTurns", spec := "spanTurns", unfollowed := true, recurses := true, apart := false }
def SpanTurnsSaid : Prop := spanTurnsRow.holds Try.pinned (OpenSpec.ofChange spanTurnsSpec)

/-- ITS FALSE NEIGHBOUR: 'it returns false'. Refute it at one input. -/
def spanTurnsWrong : ChangeSpec := { name := "spanTurns", fn := fun _ => fun
  | [d1, d2] => { results := [.lit (.bool false)], args := [d1, d2] }
  | _ => none }
def SpanTurnsWrongFalsely : Prop := spanTurnsRow.holds Try.pinned (OpenSpec.ofChange spanTurnsWrong)

/- THE SECOND FORM. 'bulk': how many values and letters a reading holds, each counted each time it is reached (what is shared counts as often as it is met; a slice's spare places count too). A statement '..UptoSaid' is the law's where the arguments, and the package variables that the reading takes, are together of bulk at most 1048576: NARROWER than '..Said'. Prove '..Said' where nothing that the law and all that it calls make is longer than what came in: it says more and counts as full. Else prove '..UptoSaid'. A law counts once. -/
mutual
def uptoBulk {H : Type} : DataW H → Nat
  | .lit (.string bytes) => bytes.length + 1
  | .lit _ => 1
  | .nil => 1
  | .ptr d => uptoBulk d + 1
  | .slice elems spare => uptoBulkAll elems + uptoBulkAll spare + 1
  | .agg parts => uptoBulkAll parts + 1
  | .iface _ d => uptoBulk d + 1
  | .map entries => uptoBulkEntries entries + 1
  | .held _ => 1
def uptoBulkAll {H : Type} : List (DataW H) → Nat
  | [] => 0
  | d :: r => uptoBulk d + uptoBulkAll r
def uptoBulkEntries {H : Type} : List (Lit × DataW H) → Nat
  | [] => 0
  | x :: r => uptoBulkEntry x + uptoBulkEntries r
def uptoBulkEntry {H : Type} : Lit × DataW H → Nat
  | (.string bytes, d) => bytes.length + uptoBulk d + 1
  | (_, d) => uptoBulk d + 1
 end
def uptoSmall : (H : Type) → List (DataW H) → Bool := fun _ ds => decide (uptoBulkAll ds ≤ 1048576)
def OpenSpec.upto (s : _root_.Go.ChangeSpec) : _root_.Go.OpenSpec := { _root_.Go.OpenSpec.ofChange s with cond := some uptoSmall }

/-- 'rootcellarlaw5.SpanTakes', WHERE WHAT IT READS IS OF BULK AT MOST 1048576: true; the input reads as it did. -/
def spanTakesUptoRow : OpenClaim := { program := "ytjmplchknbgmgaa", sum := "580968a0c0d1caa62eedc8beb0f0a44e192945badd56b6bf2f0accdf8a4f9e9f", func := "rootcellar/rootcellarlaw5.SpanTakes", spec := "spanTakes", unfollowed := true, recurses := true, apart := false, narrowed := true }
def SpanTakesUptoSaid : Prop := spanTakesUptoRow.holds Try.pinned (OpenSpec.upto spanTakesSpec)

/-- 'rootcellarlaw5.SpanOrder', WHERE WHAT IT READS IS OF BULK AT MOST 1048576: true; the input reads as it did. -/
def spanOrderUptoRow : OpenClaim := { program := "ytjmplchknbgmgaa", sum := "580968a0c0d1caa62eedc8beb0f0a44e192945badd56b6bf2f0accdf8a4f9e9f", func := "rootcellar/rootcellarlaw5.SpanOrder", spec := "spanOrder", unfollowed := true, recurses := true, apart := false, narrowed := true }
def SpanOrderUptoSaid : Prop := spanOrderUptoRow.holds Try.pinned (OpenSpec.upto spanOrderSpec)

/-- 'rootcellarlaw5.SpanSteps', WHERE WHAT IT READS IS OF BULK AT MOST 1048576: true; the input reads as it did. -/
def spanStepsUptoRow : OpenClaim := { program := "ytjmplchknbgmgaa", sum := "580968a0c0d1caa62eedc8beb0f0a44e192945badd56b6bf2f0accdf8a4f9e9f", func := "rootcellar/rootcellarlaw5.SpanSteps", spec := "spanSteps", unfollowed := true, recurses := true, apart := false, narrowed := true }
def SpanStepsUptoSaid : Prop := spanStepsUptoRow.holds Try.pinned (OpenSpec.upto spanStepsSpec)

/-- 'rootcellarlaw5.SpanParts', WHERE WHAT IT READS IS OF BULK AT MOST 1048576: true; the input reads as it did. -/
def spanPartsUptoRow : OpenClaim := { program := "ytjmplchknbgmgaa", sum := "580968a0c0d1caa62eedc8beb0f0a44e192945badd56b6bf2f0accdf8a4f9e9f", func := "rootcellar/rootcellarlaw5.SpanParts", spec := "spanParts", unfollowed := true, recurses := true, apart := false, narrowed := true }
def SpanPartsUptoSaid : Prop := spanPartsUptoRow.holds Try.pinned (OpenSpec.upto spanPartsSpec)

/-- 'rootcellarlaw5.SpanRows', WHERE WHAT IT READS IS OF BULK AT MOST 1048576: true; the input reads as it did. -/
def spanRowsUptoRow : OpenClaim := { program := "ytjmplchknbgmgaa", sum := "580968a0c0d1caa62eedc8beb0f0a44e192945badd56b6bf2f0accdf8a4f9e9f", func := "rootcellar/rootcellarlaw5.SpanRows", spec := "spanRows", unfollowed := true, recurses := true, apart := false, narrowed := true }
def SpanRowsUptoSaid : Prop := spanRowsUptoRow.holds Try.pinned (OpenSpec.upto spanRowsSpec)

/-- 'rootcellarlaw5.SpanTurns', WHERE WHAT IT READS IS OF BULK AT MOST 1048576: true; the input reads as it did. -/
def spanTurnsUptoRow : OpenClaim := { program := "ytjmplchknbgmgaa", sum := "580968a0c0d1caa62eedc8beb0f0a44e192945badd56b6bf2f0accdf8a4f9e9f", func := "rootcellar/rootcellarlaw5.SpanTurns", spec := "spanTurns", unfollowed := true, recurses := true, apart := false, narrowed := true }
def SpanTurnsUptoSaid : Prop := spanTurnsUptoRow.holds Try.pinned (OpenSpec.upto spanTurnsSpec)

end Rows
end Go.Proofs.Ytjmplchknbgmgaa
