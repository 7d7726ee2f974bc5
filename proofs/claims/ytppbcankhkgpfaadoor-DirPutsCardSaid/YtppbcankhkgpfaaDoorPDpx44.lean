-- laid by gprint.py (this session's own program) out of the translation: Lean checks it
import Derived.Test.YtppbcankhkgpfaaDoorPDpx0
import Derived.Test.YtppbcankhkgpfaaDoorPDpx41
--compressed
namespace Go.Proofs.YtppbcankhkgpfaaDoor.PDp
open Go.RowKit Go.Proofs.YtppbcankhkgpfaaDoorW.PrintWords Go.Proofs.YtppbcankhkgpfaaDoorW.PrintLast Go.Proofs.YtppbcankhkgpfaaDoorW.PrintMore
attribute [local go_sem] max2_int min2_int max_two min_two max_three min_three max_four min_four   -- for this text's walks alone
attribute [local go_sem high] hw_str_leq hw_str_gtr
set_option linter.unusedVariables false
set_option linter.unusedSimpArgs false
mutual
def rootcellarlaw7_same.l0 : Nat → List (S43) → List (S45) → Int → Option (Bool)
 | 0, _, _, _ => none
 | k + 1, x0, x1, x5 => if x5 < (x0.length : Int) then (if 0 ≤ x5 then (if x5 < (x1.length : Int) then (if ((rd_T43 x0 x5).f0).toList = ((rd_T45 x1 x5).f0).toList then (if ((rd_T43 x0 x5).f1) = ((rd_T45 x1 x5).f1) then ((rootcellarlaw7_sameSpans.f k ((rd_T43 x0 x5).f2) ((rd_T45 x1 x5).f2)).bind fun t352 => (rootcellarlaw7_same.j1 k x0 x1 x5 (!t352))) else (rootcellarlaw7_same.j1 k x0 x1 x5 true)) else (rootcellarlaw7_same.j1 k x0 x1 x5 true)) else (none)) else (none)) else (some true)
def rootcellarlaw7_same.j1 : Nat → List (S43) → List (S45) → Int → Bool → Option (Bool)
 | 0, _, _, _, _ => none
 | k + 1, x0, x1, x5, x54 => if x54 = true then (some false) else (rootcellarlaw7_same.l0 k x0 x1 (wrap64 (x5 + 1)))
end
def rootcellarlaw7_same.f (k : Nat) (l0 : List (S43)) (l1 : List (S45)) : Option (Bool) := if (l0.length : Int) = (l1.length : Int) then (rootcellarlaw7_same.l0 k l0 l1 0) else (some false)
end Go.Proofs.YtppbcankhkgpfaaDoor.PDp
