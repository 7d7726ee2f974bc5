-- laid by gprint.py (this session's own program) out of the translation: Lean checks it
import Derived.Test.YtppbcankhkgpfaaDoorPDkx0
import Derived.Test.YtppbcankhkgpfaaDoorPDkx22
--compressed
namespace Go.Proofs.YtppbcankhkgpfaaDoor.PDk
open Go.RowKit Go.Proofs.YtppbcankhkgpfaaDoorW.PrintWords Go.Proofs.YtppbcankhkgpfaaDoorW.PrintLast Go.Proofs.YtppbcankhkgpfaaDoorW.PrintMore
attribute [local go_sem] max2_int min2_int max_two min_two max_three min_three max_four min_four   -- for this text's walks alone
attribute [local go_sem high] hw_str_leq hw_str_gtr
set_option linter.unusedVariables false
set_option linter.unusedSimpArgs false
mutual
def rootcellarref5_marks.j0 : Nat → List (S64) → Int → Bool → Option (List Bool × Int)
 | 0, _, _, _ => none
 | k + 1, x0, x1, x15 => if x15 = true then (some (([] : List Bool), 11)) else (rootcellarref5_marks.l0 k x0 x1 0)
def rootcellarref5_marks.l0 : Nat → List (S64) → Int → Int → Option (List Bool × Int)
 | 0, _, _, _ => none
 | k + 1, x0, x1, x6 => if x6 < (x0.length : Int) then (if 0 ≤ x6 then ((rootcellarref5_inside.f ((rd_T64 x0 x6).f0) ((rd_T64 x0 x6).f1) x1).bind fun t203 => (if t203 = true then (rootcellarref5_marks.l0 k x0 x1 (wrap64 (x6 + 1))) else (some (([] : List Bool), 11)))) else (none)) else (if 0 ≤ x1 then (if (x1 : Int).toNat ≤ 281474976710656 then (rootcellarref5_marks.l1 k x0 (List.replicate (x1 : Int).toNat false) 0) else (none)) else (none))
def rootcellarref5_marks.l1 : Nat → List (S64) → List Bool → Int → Option (List Bool × Int)
 | 0, _, _, _ => none
 | k + 1, x0, x7, x8 => if x8 < (x0.length : Int) then (if 0 ≤ x8 then (rootcellarref5_marks.l2 k x0 x7 x8 ((rd_T64 x0 x8).f0)) else (none)) else (some (x7, 0))
def rootcellarref5_marks.l2 : Nat → List (S64) → List Bool → Int → Int → Option (List Bool × Int)
 | 0, _, _, _, _ => none
 | k + 1, x0, x7, x8, x9 => if 0 ≤ x8 then (if x8 < (x0.length : Int) then (if x9 < (wrap64 (((rd_T64 x0 x8).f0) + ((rd_T64 x0 x8).f1))) then (if 0 ≤ x9 then (if x9 < (x7.length : Int) then (if rdOf false x7 x9 = true then (some (([] : List Bool), 5)) else (rootcellarref5_marks.l2 k x0 (x7.set (x9 : Int).toNat true) x8 (wrap64 (x9 + 1)))) else (none)) else (none)) else (rootcellarref5_marks.l1 k x0 x7 (wrap64 (x8 + 1)))) else (none)) else (none)
end
def rootcellarref5_marks.f (k : Nat) (l0 : List (S64)) (a1 : Int) : Option (List Bool × Int) := if a1 < 1 then (rootcellarref5_marks.j0 k l0 a1 true) else (rootcellarref5_marks.j0 k l0 a1 (decide (a1 > 8192)))
def rootcellarref5_row.l0 : Nat → List Bool → List (S64) → Int → Option ((List (S64)))
 | 0, _, _, _ => none
 | k + 1, x0, x3, x4 => if x4 < (x0.length : Int) then (if 0 ≤ x4 then (if rdOf false x0 x4 = true then (if x4 > 0 then (if 0 ≤ (wrap64 (x4 - 1)) then (if (wrap64 (x4 - 1)) < (x0.length : Int) then (if rdOf false x0 (wrap64 (x4 - 1)) = true then (if 0 ≤ (wrap64 ((x3.length : Int) - 1)) then (if (wrap64 ((x3.length : Int) - 1)) < (x3.length : Int) then (rootcellarref5_row.l0 k x0 (x3.set ((wrap64 ((x3.length : Int) - 1)) : Int).toNat (⟨(rd_T64 x3 (wrap64 ((x3.length : Int) - 1))).f0, wrap64 (((rd_T64 x3 (wrap64 ((x3.length : Int) - 1))).f1) + 1)⟩ : S64)) (wrap64 (x4 + 1))) else (none)) else (none)) else (if x3.length < 8796093022208 then (rootcellarref5_row.l0 k x0 (x3 ++ [(⟨x4, 1⟩ : S64)]) (wrap64 (x4 + 1))) else (none))) else (none)) else (none)) else (if x3.length < 8796093022208 then (rootcellarref5_row.l0 k x0 (x3 ++ [(⟨x4, 1⟩ : S64)]) (wrap64 (x4 + 1))) else (none))) else (rootcellarref5_row.l0 k x0 x3 (wrap64 (x4 + 1)))) else (none)) else (some x3)
def rootcellarref5_row.f (k : Nat) (l0 : List Bool) : Option ((List (S64))) := rootcellarref5_row.l0 k l0 ([] : List (S64)) 0
def rootcellarref5_Norm.f (k : Nat) (l0 : List (S64)) (a1 : Int) : Option ((List (S64)) × Int) := (rootcellarref5_marks.f k l0 a1).bind fun bt222 => (if bt222.2 = 0 then ((rootcellarref5_row.f k bt222.1).bind fun t226 => (some (t226, 0))) else (some (([] : List (S64)), bt222.2)))
end Go.Proofs.YtppbcankhkgpfaaDoor.PDk
