-- laid by gprint.py (this session's own program) out of the translation: Lean checks it
import Derived.Test.YtfdlbnfjohpdlaaGreatDoorPPox0
--compressed
namespace Go.Proofs.YtfdlbnfjohpdlaaGreatDoor.PPo
open Go.RowKit Go.Proofs.YtfdlbnfjohpdlaaGreatDoorW.PrintWords Go.Proofs.YtfdlbnfjohpdlaaGreatDoorW.PrintLast Go.Proofs.YtfdlbnfjohpdlaaGreatDoorW.PrintMore
attribute [local go_sem] max2_int min2_int max_two min_two max_three min_three max_four min_four   -- for this text's walks alone
attribute [local go_sem high] hw_str_leq hw_str_gtr
set_option linter.unusedVariables false
set_option linter.unusedSimpArgs false
def rootcellarlaw16_newest.l0 : Nat → Int → Int → Int → List (S31) → Int → Int → Int → Option (Int)
 | 0, _, _, _, _, _, _, _ => none
 | k + 1, x3, x4, x5, x371000, x371001, x371002, x371003 => if x5 < (x371000.length : Int) then (if 0 ≤ x5 then (if ((rd_T31 x371000 x5).f3) ≥ x4 then (rootcellarlaw16_newest.l0 k ((rd_T31 x371000 x5).f0) ((rd_T31 x371000 x5).f3) (wrap64 (x5 + 1)) x371000 x371001 x371002 x371003) else (rootcellarlaw16_newest.l0 k x3 x4 (wrap64 (x5 + 1)) x371000 x371001 x371002 x371003)) else (none)) else (some x3)
def rootcellarlaw16_newest.f (k : Nat) (l0_0 : List (S31)) (a0_1 : Int) (a0_2 : Int) (a0_3 : Int) : Option (Int) := rootcellarlaw16_newest.l0 k 0 0 1 l0_0 a0_1 a0_2 a0_3
end Go.Proofs.YtfdlbnfjohpdlaaGreatDoor.PPo
