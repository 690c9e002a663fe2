/- What the rows of this claim use, out of the texts of this work (PD15). No condition beyond those that each statement names. -/
import Derived.Test.YtenbkljgmgdegaaQbPOx0
import Derived.Test.YtenbkljgmgdegaaQbPD0
import Derived.Test.YtenbkljgmgdegaaQbPOx9
import Derived.Test.YtenbkljgmgdegaaQbPD11
namespace Go.Proofs.Ytenbkljgmgdegaa.PO
open Go.RowKit Go.Proofs.YtenbkljgmgdegaaW.PrintWords Go.Proofs.YtenbkljgmgdegaaW.PrintLast Go.Proofs.YtenbkljgmgdegaaW.PrintMore
attribute [local go_sem] max2_int min2_int max_two min_two max_three min_three max_four min_four   -- for this text's walks alone
set_option linter.unusedVariables false
set_option linter.unusedSimpArgs false
def pannierref08_dot.T1 : Bool × List (List Nat × List Nat) := (true, [([], []), ([], []), ([1], [1]), ([0, 2], [0, 2]), ([], []), ([4], [4]), ([5], [5]), ([3, 6, 3], [3, 6]), ([7, 7, 0, 1, 2, 3, 4, 5, 6, 7], [7])])
def pannierref08_dot.B1 : List Nat := [0, 0, 2, 7, 0, 16, 48, 127, 255]
theorem pannierref08_dot.tab1 : rtab .any (opsOf Try.f95 1) = pannierref08_dot.T1 := by kernel_rfl
theorem pannierref08_dot.bits1 : waitsOk pannierref08_dot.T1.2 pannierref08_dot.B1 = true := by kernel_rfl
end Go.Proofs.Ytenbkljgmgdegaa.PO
