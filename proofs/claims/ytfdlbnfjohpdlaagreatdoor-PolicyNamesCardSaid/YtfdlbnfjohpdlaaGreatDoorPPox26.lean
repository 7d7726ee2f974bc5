-- laid by gprint.py (this session's own program) out of the translation: Lean checks it
import Derived.Test.YtfdlbnfjohpdlaaGreatDoorPPox0
import Derived.Test.YtfdlbnfjohpdlaaGreatDoorPPox25
--compressed
namespace Go.Proofs.YtfdlbnfjohpdlaaGreatDoor.PPo
open Go.RowKit Go.Proofs.YtfdlbnfjohpdlaaGreatDoorW.PrintWords Go.Proofs.YtfdlbnfjohpdlaaGreatDoorW.PrintLast Go.Proofs.YtfdlbnfjohpdlaaGreatDoorW.PrintMore
attribute [local go_sem] max2_int min2_int max_two min_two max_three min_three max_four min_four   -- for this text's walks alone
attribute [local go_sem high] hw_str_leq hw_str_gtr
set_option linter.unusedVariables false
set_option linter.unusedSimpArgs false
-- NOT PRINTED: function 139 (abi_NoEscape)
-- NOT PRINTED: function 117 (strings_Builder_copyCheck)
-- NOT PRINTED: function 140 (bytealg_MakeNoZero)
-- NOT PRINTED: function 118 (strings_Builder_grow)
-- NOT PRINTED: function 79 (strings_Builder_Grow)
-- NOT PRINTED: function 80 (strings_Builder_WriteString)
-- NOT PRINTED: function 81 (strings_Builder_String)
-- NOT PRINTED: function 59 (strings_Join)
-- NOT PRINTED: function 31 (policy_Print)
end Go.Proofs.YtfdlbnfjohpdlaaGreatDoor.PPo
