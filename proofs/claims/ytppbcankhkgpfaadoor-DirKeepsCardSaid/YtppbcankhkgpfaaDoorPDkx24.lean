-- laid by gprint.py (this session's own program) out of the translation: Lean checks it
import Derived.Test.YtppbcankhkgpfaaDoorPDkx0
import Derived.Test.YtppbcankhkgpfaaDoorPDkx4
import Derived.Test.YtppbcankhkgpfaaDoorPDkx23
--compressed
namespace Go.Proofs.YtppbcankhkgpfaaDoor.PDk
open Go.RowKit Go.Proofs.YtppbcankhkgpfaaDoorW.PrintWords Go.Proofs.YtppbcankhkgpfaaDoorW.PrintLast Go.Proofs.YtppbcankhkgpfaaDoorW.PrintMore
attribute [local go_sem] max2_int min2_int max_two min_two max_three min_three max_four min_four   -- for this text's walks alone
attribute [local go_sem high] hw_str_leq hw_str_gtr
set_option linter.unusedVariables false
set_option linter.unusedSimpArgs false
attribute [local go_sem high] eqA64
mutual
def rootcellarref5_Right.j0 : Nat → List (S64) → List (S64) → Bool → Option (Bool)
 | 0, _, _, _ => none
 | k + 1, x0, x5, x22 => if x22 = true then (some false) else (rootcellarref5_Right.l0 k x0 x5 0)
def rootcellarref5_Right.l0 : Nat → List (S64) → List (S64) → Int → Option (Bool)
 | 0, _, _, _ => none
 | k + 1, x0, x5, x7 => if x7 < (x0.length : Int) then (if 0 ≤ x7 then (if x7 < (x5.length : Int) then (if (!(((rd_T64 x0 x7).f0) == ((rd_T64 x5 x7).f0)) || (!(((rd_T64 x0 x7).f1) == ((rd_T64 x5 x7).f1)))) = true then (some false) else (rootcellarref5_Right.l0 k x0 x5 (wrap64 (x7 + 1)))) else (none)) else (none)) else (some true)
end
def rootcellarref5_Right.f (k : Nat) (l0 : List (S64)) (a1 : Int) : Option (Bool) := (rootcellarref5_Norm.f k l0 a1).bind fun bt229 => (if bt229.2 = 0 then (rootcellarref5_Right.j0 k l0 bt229.1 ((bt229.1.length : Int) != (l0.length : Int))) else (rootcellarref5_Right.j0 k l0 bt229.1 true))
def rootcellarref5_Total.l0 : Nat → List (S64) → Int → Int → Option (Int)
 | 0, _, _, _ => none
 | k + 1, x0, x3, x4 => if x4 < (x0.length : Int) then (if 0 ≤ x4 then (rootcellarref5_Total.l0 k x0 (wrap64 (x3 + (mx ((rd_T64 x0 x4).f1) 0))) (wrap64 (x4 + 1))) else (none)) else (some x3)
def rootcellarref5_Total.f (k : Nat) (l0 : List (S64)) : Option (Int) := rootcellarref5_Total.l0 k l0 0 0
def rootcellarref6_Need.f (a0 : Int) : Option (Int) := if (Int.tmod a0 64) > 0 then (some (wrap64 ((wrap64 (Int.tdiv a0 64)) + 1))) else (some (wrap64 (Int.tdiv a0 64)))
end Go.Proofs.YtppbcankhkgpfaaDoor.PDk
