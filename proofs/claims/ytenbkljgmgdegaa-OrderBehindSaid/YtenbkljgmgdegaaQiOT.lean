/- What the rows of this claim use, out of the texts of this work (OT). No condition beyond those that each statement names. -/
import Derived.Test.YtenbkljgmgdegaaQiOG
import Derived.Test.YtenbkljgmgdegaaQiOF
namespace Go.Proofs.Ytenbkljgmgdegaa.PO
open Go.RowKit Go.Proofs.YtenbkljgmgdegaaW.PrintWords Go.Proofs.YtenbkljgmgdegaaW.PrintLast Go.Proofs.YtenbkljgmgdegaaW.PrintMore Go.Proofs.Ytenbkljgmgdegaa.XW
open Go.Proofs.Ytenbkljgmgdegaa.XRange Go.Proofs.Ytenbkljgmgdegaa.XMap Go.Proofs.Ytenbkljgmgdegaa.XSeq
set_option linter.unusedVariables false
set_option linter.unusedSimpArgs false
structure OpAt (w : World) (p : Addr) (x : S36) (A2 : Option Addr) (c2 : Nat) (A7 : Option Addr) (c7 : Nat) : Prop where
  e0 : w.cell? p = some (.string x.f0.f0)
  e1 : w.cell? ⟨p.block, p.off + 1, none⟩ = some (.int .i64 x.f0.f1)
  e2 : w.cell? ⟨p.block, p.off + 2, none⟩ = some (.slice A2 x.f1.length c2)
  e3 : w.cell? ⟨p.block, p.off + 3, none⟩ = some (.string x.f2)
  e4 : w.cell? ⟨p.block, p.off + 4, none⟩ = some (.int .i64 x.f3)
  e5 : w.cell? ⟨p.block, p.off + 5, none⟩ = some (.string x.f4)
  e6 : w.cell? ⟨p.block, p.off + 6, none⟩ = some (.int .i64 x.f5)
  e7 : w.cell? ⟨p.block, p.off + 7, none⟩ = some (.slice A7 x.f6.length c7)
  l2 : x.f1.length ≤ c2
  g2 : Kd.C k34 w A2 x.f1.length x.f1
  l7 : x.f6.length ≤ c7
  g7 : Kd.C k34 w A7 x.f6.length x.f6
theorem opAt {w : World} {A : Option Addr} {n : Nat} {xs : List S36} (h : Kd.C k36 w A n xs) (i : Nat) (h1 : i < n) : ∃ ad A2 c2 A7 c7, A = some ad ∧ OpAt w (ad.add (i * 8)) (rd_T36 xs i) A2 c2 A7 c7 := by
  obtain ⟨ad, A2, c2, A7, c7, e, x0, x1, x2, x3, x4, x5, x6, x7, l2, g2, l7, g7⟩ := at_T36 h (i : Int) (by omega) (by omega)
  exact ⟨ad, A2, c2, A7, c7, e, ⟨x0, x1, x2, x3, x4, x5, x6, x7, l2, g2, l7, g7⟩⟩
theorem rightS_big (l : List S36) (h : ∀ x ∈ l, rightO x = true) : ∀ x ∈ l, x.f1.length ≤ 128 ∧ x.f6.length ≤ 128 := fun x hx => by
  have := rightO_parts (h x hx)
  omega
end Go.Proofs.Ytenbkljgmgdegaa.PO
