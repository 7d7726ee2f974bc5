-- laid by gprint.py (this session's own program) out of the translation: Lean checks it
import Derived.Test.YtppbcankhkgpfaaDoorPDkx0
import Derived.Test.YtppbcankhkgpfaaDoorPDkx22
import Derived.Test.YtppbcankhkgpfaaDoorPDkx24
--compressed
namespace Go.Proofs.YtppbcankhkgpfaaDoor.PDk
open Go.RowKit Go.Proofs.YtppbcankhkgpfaaDoorW.PrintWords Go.Proofs.YtppbcankhkgpfaaDoorW.PrintLast Go.Proofs.YtppbcankhkgpfaaDoorW.PrintMore
attribute [local go_sem] max2_int min2_int max_two min_two max_three min_three max_four min_four   -- for this text's walks alone
attribute [local go_sem high] hw_str_leq hw_str_gtr
set_option linter.unusedVariables false
set_option linter.unusedSimpArgs false
def rootcellarref7_well.f (k : Nat) (a0_0 : ByteArray) (a0_1 : Int) (l0_2 : List (S64)) : Option (Bool) := (rootcellarref1_Right.f k a0_0).bind fun t237 => ((rootcellarref5_Right.f k l0_2 8192).bind fun t238 => (if t237 = true then (if t238 = true then (if a0_1 ≥ 0 then (if a0_1 ≤ 20000 then (if (l0_2.length : Int) ≤ 200 then ((rootcellarref5_Total.f k l0_2).bind fun t239 => ((rootcellarref6_Need.f a0_1).bind fun t240 => (some (t239 == t240)))) else (some false)) else (some false)) else (some false)) else (some false)) else (some false)))
end Go.Proofs.YtppbcankhkgpfaaDoor.PDk
