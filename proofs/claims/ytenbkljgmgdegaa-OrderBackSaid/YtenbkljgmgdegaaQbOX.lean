/- What the rows of this claim use, out of the texts of this work (OX). No condition beyond those that each statement names. -/
import Derived.Test.YtenbkljgmgdegaaQbOT
namespace Go.Proofs.Ytenbkljgmgdegaa.PO
open Go.RowKit Go.Proofs.YtenbkljgmgdegaaW.PrintWords Go.Proofs.YtenbkljgmgdegaaW.PrintLast Go.Proofs.YtenbkljgmgdegaaW.PrintMore Go.Proofs.Ytenbkljgmgdegaa.XW
open Go.Proofs.Ytenbkljgmgdegaa.XRange Go.Proofs.Ytenbkljgmgdegaa.XMap Go.Proofs.Ytenbkljgmgdegaa.XSeq
set_option linter.unusedVariables false
set_option linter.unusedSimpArgs false
def kAt (w0 : World) : Kd S36 where
  sz := 8
  E := []
  K := fun _ x cs => k36.K w0 x cs
  M := fun _ _ _ x cs => k36.K w0 x cs
  K_len := k36.K_len
  K_one := k36.K_one
  K_below := fun _ h => h
  K_of_M := fun h => h
  M_mono := fun _ h => h
  M_bound := fun h => h
  M_move := fun _ h => h
  M_lower := fun _ h => h
structure OpAt0 (w0 w : World) (p : Addr) (x : S36) (A2 : Option Addr) (c2 : Nat) (A7 : Option Addr) (c7 : Nat) : Prop where
  e0 : w.cell? p = some (.string x.f0.f0)
  e1 : w.cell? ⟨p.block, p.off + 1, none⟩ = some (.int .i64 x.f0.f1)
  e2 : w.cell? ⟨p.block, p.off + 2, none⟩ = some (.slice A2 x.f1.length c2)
  e3 : w.cell? ⟨p.block, p.off + 3, none⟩ = some (.string x.f2)
  e4 : w.cell? ⟨p.block, p.off + 4, none⟩ = some (.int .i64 x.f3)
  e5 : w.cell? ⟨p.block, p.off + 5, none⟩ = some (.string x.f4)
  e6 : w.cell? ⟨p.block, p.off + 6, none⟩ = some (.int .i64 x.f5)
  e7 : w.cell? ⟨p.block, p.off + 7, none⟩ = some (.slice A7 x.f6.length c7)
  l2 : x.f1.length ≤ c2
  g2 : Kd.C k34 w0 A2 x.f1.length x.f1
  l7 : x.f6.length ≤ c7
  g7 : Kd.C k34 w0 A7 x.f6.length x.f6
theorem OpAt.below {w w1 : World} {p : Addr} {x : S36} {A2 A7 : Option Addr} {c2 c7 : Nat} (h : OpAt w p x A2 c2 A7 c7) (hb : Below w.heap.size w w1) : OpAt w1 p x A2 c2 A7 c7 := by
  have st : ∀ {q : Addr} {u : Value}, w.cell? q = some u → w1.cell? q = some u := fun hq => (hb.cell (World.block_lt_of_cell? w _ hq)).trans hq
  exact ⟨st h.e0, st h.e1, st h.e2, st h.e3, st h.e4, st h.e5, st h.e6, st h.e7, h.l2, Kd.C_below h.g2 hb, h.l7, Kd.C_below h.g7 hb⟩
end Go.Proofs.Ytenbkljgmgdegaa.PO
