-- laid by gprint.py (this session's own program) out of the translation: Lean checks it
import Derived.Test.YtppbcankhkgpfaaDoorPDpx0
import Derived.Test.YtppbcankhkgpfaaDoorPDpx28
import Derived.Test.YtppbcankhkgpfaaDoorPDpx41
import Derived.Test.YtppbcankhkgpfaaDoorPDpx42
--compressed
namespace Go.Proofs.YtppbcankhkgpfaaDoor.PDp
open Go.RowKit Go.Proofs.YtppbcankhkgpfaaDoorW.PrintWords Go.Proofs.YtppbcankhkgpfaaDoorW.PrintLast Go.Proofs.YtppbcankhkgpfaaDoorW.PrintMore
attribute [local go_sem] max2_int min2_int max_two min_two max_three min_three max_four min_four   -- for this text's walks alone
attribute [local go_sem high] hw_str_leq hw_str_gtr
set_option linter.unusedVariables false
set_option linter.unusedSimpArgs false
mutual
def rootcellarref7_Take.l0 : Nat → ByteArray → Int → List (S45) → Int → ByteArray → Bool → Option ((List (S45)) × Int)
 | 0, _, _, _, _, _, _ => none
 | k + 1, x0, x7, x8, x9, x316000, x316001 => if x9 < x7 then (rootcellarref7_Take.j1 k x0 x7 x8 x9 (!x316001) x316000 x316001) else (rootcellarref7_Take.j1 k x0 x7 x8 x9 false x316000 x316001)
def rootcellarref7_Take.j1 : Nat → ByteArray → Int → List (S45) → Int → Bool → ByteArray → Bool → Option ((List (S45)) × Int)
 | 0, _, _, _, _, _, _, _ => none
 | k + 1, x0, x7, x8, x9, x40, x316000, x316001 => if x40 = true then ((rootcellarref2_Reader_Number.f k x316000 x316001 1).bind fun bt319 => ((rootcellarref2_Reader_Text.f k bt319.2.1 bt319.2.2 (wrap64 (bt319.1))).bind fun bt322 => ((rootcellarref2_Reader_Number.f k bt322.2.1 bt322.2.2 4).bind fun bt326 => ((rootcellarref2_Reader_Number.f k bt326.2.1 bt326.2.2 1).bind fun bt329 => (rootcellarref7_Take.l1 k x0 x7 x8 x9 (wrap64 (bt329.1)) 0 bt329.2.1 bt329.2.2 bt322.1 (wrap64 (bt326.1)) ([] : List (S64))))))) else ((rootcellarref7_Put.f k x8).bind fun bt344 => (if x316001 = true then (rootcellarref7_Take.j4 k x8 true) else (if bt344.2 = 0 then (rootcellarref7_Take.j4 k x8 (bt344.1.toList != x0.toList)) else (rootcellarref7_Take.j4 k x8 true))))
def rootcellarref7_Take.l1 : Nat → ByteArray → Int → List (S45) → Int → Int → Int → ByteArray → Bool → ByteArray → Int → List (S64) → Option ((List (S45)) × Int)
 | 0, _, _, _, _, _, _, _, _, _, _, _ => none
 | k + 1, x0, x7, x8, x9, x12, x13, x316000, x316001, x326000, x326001, x326002 => if x13 < x12 then (rootcellarref7_Take.j3 k x0 x7 x8 x9 x12 x13 (!x316001) x316000 x316001 x326000 x326001 x326002) else (rootcellarref7_Take.j3 k x0 x7 x8 x9 x12 x13 false x316000 x316001 x326000 x326001 x326002)
def rootcellarref7_Take.j3 : Nat → ByteArray → Int → List (S45) → Int → Int → Int → Bool → ByteArray → Bool → ByteArray → Int → List (S64) → Option ((List (S45)) × Int)
 | 0, _, _, _, _, _, _, _, _, _, _, _, _ => none
 | k + 1, x0, x7, x8, x9, x12, x13, x66, x316000, x316001, x326000, x326001, x326002 => if x66 = true then ((rootcellarref2_Reader_Number.f k x316000 x316001 2).bind fun bt335 => ((rootcellarref2_Reader_Number.f k bt335.2.1 bt335.2.2 2).bind fun bt338 => (if x326002.length < 8796093022208 then (rootcellarref7_Take.l1 k x0 x7 x8 x9 x12 (wrap64 (x13 + 1)) bt338.2.1 bt338.2.2 x326000 x326001 (x326002 ++ [(⟨wrap64 (bt335.1), wrap64 (bt338.1)⟩ : S64)])) else (none)))) else (if x8.length < 2932031007402 then (rootcellarref7_Take.l0 k x0 x7 (x8 ++ [(⟨x326000, x326001, x326002⟩ : S45)]) (wrap64 (x9 + 1)) x316000 x316001) else (none))
def rootcellarref7_Take.j4 : Nat → List (S45) → Bool → Option ((List (S45)) × Int)
 | 0, _, _ => none
 | k + 1, x8, x103 => if x103 = true then (some (([] : List (S45)), 2)) else (some (x8, 0))
end
def rootcellarref7_Take.f (k : Nat) (a0 : ByteArray) : Option ((List (S45)) × Int) := (rootcellarref3_Take.f k a0).bind fun bt313 => (if bt313.2 = 0 then ((rootcellarref2_Reader_Number.f k bt313.1 false 1).bind fun bt316 => (rootcellarref7_Take.l0 k a0 (wrap64 (bt316.1)) ([] : List (S45)) 0 bt316.2.1 bt316.2.2)) else (some (([] : List (S45)), bt313.2)))
end Go.Proofs.YtppbcankhkgpfaaDoor.PDp
