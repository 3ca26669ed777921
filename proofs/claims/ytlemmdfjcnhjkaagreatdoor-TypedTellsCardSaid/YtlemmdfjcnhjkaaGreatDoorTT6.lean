-- Written by drive.py of this claim's own session, by way of the kit's print. Lean checks it.
import Derived.Test.YtlemmdfjcnhjkaaGreatDoorTT1
import Derived.Test.YtlemmdfjcnhjkaaGreatDoorTT2
namespace Go.Proofs.YtlemmdfjcnhjkaaGreatDoor.P
open Go.RowKit Go.Proofs.YtlemmdfjcnhjkaaGreatDoorW.PrintWords Go.Proofs.YtlemmdfjcnhjkaaGreatDoorW.PrintLast Go.Proofs.YtlemmdfjcnhjkaaGreatDoorW.PrintMore
attribute [local go_sem] max2_int min2_int max_two min_two max_three min_three max_four min_four   -- for this text's walks alone
set_option linter.unusedVariables false
set_option linter.unusedSimpArgs false

/-! ### mould_Reverse: function 35 -/
def mould_Reverse.T4 : Bool × List (List Nat × List Nat) := (true, [([], []), ([0], [0]), ([1], [1]), ([], []), ([3], [3]), ([4, 2], [4]), ([2, 5], [2, 5]), ([6, 5, 0, 1, 2, 3, 4, 5, 6], [6]), ([7, 0, 1, 2, 3, 4, 5, 6, 7], [])])
def mould_Reverse.B4 : List Nat := [0, 1, 3, 0, 8, 31, 63, 127, 255]
theorem mould_Reverse.tab4 : rtab .any (opsOf Tryz.f35 4) = mould_Reverse.T4 := by kernel_rfl
theorem mould_Reverse.bits4 : waitsOk mould_Reverse.T4.2 mould_Reverse.B4 = true := by kernel_rfl

end Go.Proofs.YtlemmdfjcnhjkaaGreatDoor.P
