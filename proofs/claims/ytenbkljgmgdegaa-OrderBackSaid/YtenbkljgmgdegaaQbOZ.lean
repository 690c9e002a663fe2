/- What the rows of this claim use, out of the texts of this work (OZ). No condition beyond those that each statement names. -/
import Derived.Test.YtenbkljgmgdegaaQbOR
import Derived.Test.YtenbkljgmgdegaaQbOA
import Derived.Test.YtenbkljgmgdegaaQbPOx0
import Derived.Test.YtenbkljgmgdegaaQbPOx9
import Derived.Test.YtenbkljgmgdegaaQbPOx1
import Derived.Test.YtenbkljgmgdegaaQbOC
import Derived.Test.YtenbkljgmgdegaaQbPOx6
import Derived.Test.YtenbkljgmgdegaaQbPOx11
import Derived.Test.YtenbkljgmgdegaaQbX
namespace Go.Proofs.Ytenbkljgmgdegaa.PO
open Go.RowKit Go.Proofs.YtenbkljgmgdegaaW.PrintWords Go.Proofs.YtenbkljgmgdegaaW.PrintLast Go.Proofs.YtenbkljgmgdegaaW.PrintMore Go.Proofs.Ytenbkljgmgdegaa.XW
open Go.Proofs.Ytenbkljgmgdegaa.XRange Go.Proofs.Ytenbkljgmgdegaa.XMap Go.Proofs.Ytenbkljgmgdegaa.XSeq
set_option linter.unusedVariables false
set_option linter.unusedSimpArgs false
def RefS (w0 : World) (S : Nat → Prop) (g : Nat) (a : AP) (w : World) : Prop := (∃ vl vk vw, RefAt w0 S w g vl vk vw a) ∧ S g ∧ (∀ k, S k → k < w.heap.size) ∧ InvA a
theorem RefS.keeps {w0 : World} {S M : Nat → Prop} {g : Nat} {a : AP} {w w1 : World} (h : RefS w0 S g a w) (hk : Keeps M w w1) (hd : ∀ k, S k → ¬ M k) : RefS w0 S g a w1 := by
  obtain ⟨⟨vl, vk, vw, h1⟩, h2, h3, h4⟩ := h
  exact ⟨⟨vl, vk, vw, h1.move (fun k hkS hlt => hk.block k hlt (hd k (by rcases hkS with rfl | h; exact h2; exact h)))⟩, h2, fun k hS => Nat.lt_of_lt_of_le (h3 k hS) hk.size, h4⟩
theorem RefS.below {w0 : World} {S : Nat → Prop} {g : Nat} {a : AP} {w w1 : World} (h : RefS w0 S g a w) (hb : Below w.heap.size w w1) : RefS w0 S g a w1 := h.keeps (Keeps.of_below hb) (fun _ _ f => f)
end Go.Proofs.Ytenbkljgmgdegaa.PO
