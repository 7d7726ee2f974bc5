-- laid by gprint.py (this session's own program) out of the translation: Lean checks it
import Derived.Test.YtppbcankhkgpfaaDoorPDkx0
import Derived.Test.YtppbcankhkgpfaaDoorPDkx21
--compressed
namespace Go.Proofs.YtppbcankhkgpfaaDoor.PDk
open Go.RowKit Go.Proofs.YtppbcankhkgpfaaDoorW.PrintWords Go.Proofs.YtppbcankhkgpfaaDoorW.PrintLast Go.Proofs.YtppbcankhkgpfaaDoorW.PrintMore
attribute [local go_sem] max2_int min2_int max_two min_two max_three min_three max_four min_four   -- for this text's walks alone
attribute [local go_sem high] hw_str_leq hw_str_gtr
set_option linter.unusedVariables false
set_option linter.unusedSimpArgs false
def rootcellarref1_Valid.l0 : Nat → ByteArray → Option (Bool)
 | 0, _ => none
 | k + 1, x0 => if x0.toList = ([] : List UInt8) then (some true) else ((rootcellarref1_Rune.f k x0).bind fun bt195 => (if bt195.1 < 0 then (some false) else (if 0 ≤ bt195.2 then (if bt195.2 ≤ (x0.size : Int) then (rootcellarref1_Valid.l0 k (x0.extract (bt195.2 : Int).toNat x0.size)) else (none)) else (none))))
def rootcellarref1_Valid.f (k : Nat) (a0 : ByteArray) : Option (Bool) := rootcellarref1_Valid.l0 k a0
def rootcellarref1_Count.l0 : Nat → ByteArray → Int → Option (Int)
 | 0, _, _ => none
 | k + 1, x0, x3 => if x0.toList = ([] : List UInt8) then (some x3) else ((rootcellarref1_Rune.f k x0).bind fun bt197 => (if 0 ≤ bt197.2 then (if bt197.2 ≤ (x0.size : Int) then (rootcellarref1_Count.l0 k (x0.extract (bt197.2 : Int).toNat x0.size) (wrap64 (x3 + 1))) else (none)) else (none)))
def rootcellarref1_Count.f (k : Nat) (a0 : ByteArray) : Option (Int) := rootcellarref1_Count.l0 k a0 0
mutual
def rootcellarref1_Right.j0 : Nat → ByteArray → Bool → Option (Bool)
 | 0, _, _ => none
 | k + 1, x0, x30 => if x30 = true then (some false) else (rootcellarref1_Right.l0 k x0 0)
def rootcellarref1_Right.l0 : Nat → ByteArray → Int → Option (Bool)
 | 0, _, _ => none
 | k + 1, x0, x4 => if x4 < (x0.size : Int) then (if 0 ≤ x4 then (if (bt x0 x4) < 32 then (some false) else (if (bt x0 x4) = 127 then (some false) else (rootcellarref1_Right.l0 k x0 (wrap64 (x4 + 1))))) else (none)) else (some true)
end
def rootcellarref1_Right.f (k : Nat) (a0 : ByteArray) : Option (Bool) := (rootcellarref1_Valid.f k a0).bind fun t199 => (if t199 = true then (if a0.toList = ([] : List UInt8) then (rootcellarref1_Right.j0 k a0 true) else ((rootcellarref1_Count.f k a0).bind fun t200 => (if t200 > 24 then (rootcellarref1_Right.j0 k a0 true) else (if 0 < (a0.size : Int) then (if (bt a0 0) = 32 then (rootcellarref1_Right.j0 k a0 true) else (if 0 ≤ (wrap64 ((a0.size : Int) - 1)) then (if (wrap64 ((a0.size : Int) - 1)) < (a0.size : Int) then (rootcellarref1_Right.j0 k a0 ((bt a0 (wrap64 ((a0.size : Int) - 1))) == 32)) else (none)) else (none))) else (none))))) else (rootcellarref1_Right.j0 k a0 true))
def rootcellarref5_inside.f (a0_0 : Int) (a0_1 : Int) (a1 : Int) : Option (Bool) := if a0_1 ≥ 1 then (if a0_0 ≥ 0 then (if a0_0 < a1 then (some (decide (a0_1 ≤ (wrap64 (a1 - a0_0))))) else (some false)) else (some false)) else (some false)
end Go.Proofs.YtppbcankhkgpfaaDoor.PDk
