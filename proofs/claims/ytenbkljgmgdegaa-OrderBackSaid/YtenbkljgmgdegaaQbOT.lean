/- What the rows of this claim use, out of the texts of this work (OT). No condition beyond those that each statement names. -/
import Derived.Test.YtenbkljgmgdegaaQbOC
import Derived.Test.YtenbkljgmgdegaaQbPOx0
import Derived.Test.YtenbkljgmgdegaaQbPOx1
import Derived.Test.YtenbkljgmgdegaaQbPOx9
import Derived.Test.YtenbkljgmgdegaaQbPOx6
import Derived.Test.YtenbkljgmgdegaaQbOF
namespace Go.Proofs.Ytenbkljgmgdegaa.PO
open Go.RowKit Go.Proofs.YtenbkljgmgdegaaW.PrintWords Go.Proofs.YtenbkljgmgdegaaW.PrintLast Go.Proofs.YtenbkljgmgdegaaW.PrintMore Go.Proofs.Ytenbkljgmgdegaa.XW
open Go.Proofs.Ytenbkljgmgdegaa.XRange Go.Proofs.Ytenbkljgmgdegaa.XMap Go.Proofs.Ytenbkljgmgdegaa.XSeq
set_option linter.unusedVariables false
set_option linter.unusedSimpArgs false
structure OpAt (w : World) (p : Addr) (x : S36) (A2 : Option Addr) (c2 : Nat) (A7 : Option Addr) (c7 : Nat) : Prop where
  e0 : w.cell? p = some (.string x.f0.f0)
  e1 : w.cell? ⟨p.block, p.off + 1, none⟩ = some (.int .i64 x.f0.f1)
  e2 : w.cell? ⟨p.block, p.off + 2, none⟩ = some (.slice A2 x.f1.length c2)
  e3 : w.cell? ⟨p.block, p.off + 3, none⟩ = some (.string x.f2)
  e4 : w.cell? ⟨p.block, p.off + 4, none⟩ = some (.int .i64 x.f3)
  e5 : w.cell? ⟨p.block, p.off + 5, none⟩ = some (.string x.f4)
  e6 : w.cell? ⟨p.block, p.off + 6, none⟩ = some (.int .i64 x.f5)
  e7 : w.cell? ⟨p.block, p.off + 7, none⟩ = some (.slice A7 x.f6.length c7)
  l2 : x.f1.length ≤ c2
  g2 : Kd.C k34 w A2 x.f1.length x.f1
  l7 : x.f6.length ≤ c7
  g7 : Kd.C k34 w A7 x.f6.length x.f6
theorem R_apart {α : Type} {d : Kd α} {e base : Nat} {ok M : Nat → Prop} {w w1 : World} {v : Value} {xs : List α} (h : d.R e w base ok v xs) (hk : Keeps M w w1) (hm : ∀ k, M k → k < base) : d.R e w1 base ok v xs :=
  Kd.R_mono (Kd.R_step (Kd.R_bound h) (fun k hk' hlt => hk.block k hlt (fun hM => by have := hm k hM; have := hk'.2.1; omega))) (fun _ hk' => hk'.1)
end Go.Proofs.Ytenbkljgmgdegaa.PO
