/- What the rows of this claim use, out of the texts of this work (OW). No condition beyond those that each statement names. -/
import Derived.Test.YtenbkljgmgdegaaQiOT
import Derived.Test.YtenbkljgmgdegaaQiOH
namespace Go.Proofs.Ytenbkljgmgdegaa.PO
open Go.RowKit Go.Proofs.YtenbkljgmgdegaaW.PrintWords Go.Proofs.YtenbkljgmgdegaaW.PrintLast Go.Proofs.YtenbkljgmgdegaaW.PrintMore Go.Proofs.Ytenbkljgmgdegaa.XW
open Go.Proofs.Ytenbkljgmgdegaa.XRange Go.Proofs.Ytenbkljgmgdegaa.XMap Go.Proofs.Ytenbkljgmgdegaa.XSeq
set_option linter.unusedVariables false
set_option linter.unusedSimpArgs false
theorem right_sizes {v : List S34} (h : rightS v = true) : sizes 64 v := fun x hx => by
  have := rises_dot v _ (rightS_le h).2 x hx
  unfold dotOk isNameB at this
  simp only [Bool.and_eq_true, decide_eq_true_eq] at this
  omega
theorem dot_size {n : ByteArray} {d : Int} (h : dotOk ⟨n, d⟩ = true) : n.size ≤ 64 := by
  unfold dotOk isNameB at h
  simp only [Bool.and_eq_true, decide_eq_true_eq] at h
  omega
end Go.Proofs.Ytenbkljgmgdegaa.PO
