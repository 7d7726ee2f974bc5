import Derived.Test.YtppbcankhkgpfaaDoorPDkx0
import Derived.Test.YtppbcankhkgpfaaDoorPDkx25
import Derived.Test.YtppbcankhkgpfaaDoorPDkx20
--compressed
namespace Go.Proofs.YtppbcankhkgpfaaDoor.PDk
open Go.RowKit Go.Proofs.YtppbcankhkgpfaaDoorW.PrintWords Go.Proofs.YtppbcankhkgpfaaDoorW.PrintLast Go.Proofs.YtppbcankhkgpfaaDoorW.PrintMore
attribute [local go_sem] max2_int min2_int max_two min_two max_three min_three max_four min_four   -- for this text's walks alone
attribute [local go_sem high] hw_str_leq hw_str_gtr
set_option linter.unusedVariables false
set_option linter.unusedSimpArgs false
mutual
def rootcellarref7_Is.l0 : Nat → List (S45) → Int → Option (Bool)
 | 0, _, _ => none
 | k + 1, x0, x3 => if x3 < (x0.length : Int) then (if 0 ≤ x3 then ((rootcellarref7_well.f k ((rd_T45 x0 x3).f0) ((rd_T45 x0 x3).f1) ((rd_T45 x0 x3).f2)).bind fun t242 => (if t242 = true then (if x3 > 0 then (if 0 ≤ (wrap64 (x3 - 1)) then (if (wrap64 (x3 - 1)) < (x0.length : Int) then (rootcellarref7_Is.j1 k x0 x3 (!(Op.bytesLess (((rd_T45 x0 (wrap64 (x3 - 1))).f0).toList) (((rd_T45 x0 x3).f0).toList)))) else (none)) else (none)) else (rootcellarref7_Is.j1 k x0 x3 false)) else (rootcellarref7_Is.j1 k x0 x3 true))) else (none)) else (some (decide ((x0.length : Int) ≤ 120)))
def rootcellarref7_Is.j1 : Nat → List (S45) → Int → Bool → Option (Bool)
 | 0, _, _, _ => none
 | k + 1, x0, x3, x35 => if x35 = true then (some false) else (rootcellarref7_Is.l0 k x0 (wrap64 (x3 + 1)))
end
def rootcellarref7_Is.f (k : Nat) (l0 : List (S45)) : Option (Bool) := rootcellarref7_Is.l0 k l0 0
end Go.Proofs.YtppbcankhkgpfaaDoor.PDk
namespace Go.Proofs.YtppbcankhkgpfaaDoor.PDk
open Go.RowKit Go.Proofs.YtppbcankhkgpfaaDoorW.PrintWords Go.Proofs.YtppbcankhkgpfaaDoorW.PrintLast Go.Proofs.YtppbcankhkgpfaaDoorW.PrintMore
attribute [local go_sem] max2_int min2_int max_two min_two max_three min_three max_four min_four   -- for this text's walks alone
attribute [local go_sem high] hw_str_leq hw_str_gtr
set_option linter.unusedVariables false
set_option linter.unusedSimpArgs false
mutual
def rootcellarref7_Put.l0 : Nat → List (S45) → ByteArray → Int → Option (ByteArray × Int)
 | 0, _, _, _ => none
 | k + 1, x0, x5, x6 => if x6 < (x0.length : Int) then (if 0 ≤ x6 then ((rootcellarref2_Put.f k (IntKind.u64.wrap ((((rd_T45 x0 x6).f0).size : Int))) 1).bind fun t250 => (if x5.size + t250.size ≤ 9223372036854775807 then (if (x5 ++ t250).size + ((rd_T45 x0 x6).f0).size ≤ 9223372036854775807 then ((rootcellarref2_Put.f k (IntKind.u64.wrap ((rd_T45 x0 x6).f1)) 4).bind fun t251 => (if ((x5 ++ t250) ++ ((rd_T45 x0 x6).f0)).size + t251.size ≤ 9223372036854775807 then ((rootcellarref2_Put.f k (IntKind.u64.wrap ((((rd_T45 x0 x6).f2).length : Int))) 1).bind fun t252 => (if (((x5 ++ t250) ++ ((rd_T45 x0 x6).f0)) ++ t251).size + t252.size ≤ 9223372036854775807 then (rootcellarref7_Put.l1 k x0 ((((x5 ++ t250) ++ ((rd_T45 x0 x6).f0)) ++ t251) ++ t252) x6 0 ((rd_T45 x0 x6).f0) ((rd_T45 x0 x6).f1) ((rd_T45 x0 x6).f2)) else (none))) else (none))) else (none)) else (none))) else (none)) else ((rootcellarref3_Put.f k x5).bind fun t247 => (some (t247, 0)))
def rootcellarref7_Put.l1 : Nat → List (S45) → ByteArray → Int → Int → ByteArray → Int → List (S64) → Option (ByteArray × Int)
 | 0, _, _, _, _, _, _, _ => none
 | k + 1, x0, x5, x6, x8, x250000, x250001, x250002 => if x8 < (x250002.length : Int) then (if 0 ≤ x8 then ((rootcellarref2_Put.f k (IntKind.u64.wrap ((rd_T64 x250002 x8).f0)) 2).bind fun t254 => (if x5.size + t254.size ≤ 9223372036854775807 then ((rootcellarref2_Put.f k (IntKind.u64.wrap ((rd_T64 x250002 x8).f1)) 2).bind fun t256 => (if (x5 ++ t254).size + t256.size ≤ 9223372036854775807 then (rootcellarref7_Put.l1 k x0 ((x5 ++ t254) ++ t256) x6 (wrap64 (x8 + 1)) x250000 x250001 x250002) else (none))) else (none))) else (none)) else (rootcellarref7_Put.l0 k x0 x5 (wrap64 (x6 + 1)))
end
def rootcellarref7_Put.f (k : Nat) (l0 : List (S45)) : Option (ByteArray × Int) := (rootcellarref7_Is.f k l0).bind fun t245 => (if t245 = true then ((rootcellarref2_Put.f k (IntKind.u64.wrap ((l0.length : Int))) 1).bind fun t246 => (rootcellarref7_Put.l0 k l0 t246 0)) else (some ((⟨#[]⟩ : ByteArray), 1)))
def rootcellarref3_Take.f (k : Nat) (a0 : ByteArray) : Option (ByteArray × Int) := if (a0.size : Int) < 4 then (some ((⟨#[]⟩ : ByteArray), 10)) else (if 0 ≤ (wrap64 ((a0.size : Int) - 4)) then (if (wrap64 ((a0.size : Int) - 4)) ≤ (a0.size : Int) then ((rootcellarref3_Put.f k (a0.extract 0 ((wrap64 ((a0.size : Int) - 4)) : Int).toNat)).bind fun t257 => (if t257.toList = a0.toList then (some (a0.extract 0 ((wrap64 ((a0.size : Int) - 4)) : Int).toNat, 0)) else (some ((⟨#[]⟩ : ByteArray), 9)))) else (none)) else (none))
end Go.Proofs.YtppbcankhkgpfaaDoor.PDk
