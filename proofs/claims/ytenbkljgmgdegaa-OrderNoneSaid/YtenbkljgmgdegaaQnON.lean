/- What the rows of this claim use, out of the texts of this work (YtenbkljgmgdegaaON). No condition beyond those that each statement names. -/
import Derived.Test.YtenbkljgmgdegaaQnOF
namespace Go.Proofs.Ytenbkljgmgdegaa.PO
open Go.RowKit Go.Proofs.YtenbkljgmgdegaaW.PrintWords Go.Proofs.YtenbkljgmgdegaaW.PrintLast Go.Proofs.YtenbkljgmgdegaaW.PrintMore Go.Proofs.Ytenbkljgmgdegaa.XW
open Go.Proofs.Ytenbkljgmgdegaa.XRange Go.Proofs.Ytenbkljgmgdegaa.XMap Go.Proofs.Ytenbkljgmgdegaa.XSeq
set_option linter.unusedVariables false
set_option linter.unusedSimpArgs false
theorem orderNone_calls (w : World) (x : S36) (A1 : Option Addr) (c1 : Nat) (A6 : Option Addr) (c6 : Nat) (l1 : x.f1.length ≤ c1) (g1 : Kd.C k34 w A1 x.f1.length x.f1) (l6 : x.f6.length ≤ c6) (g6 : Kd.C k34 w A6 x.f6.length x.f6) (_ : WfOp x) :
    Calls Try.prog 6 #[.agg #[.string x.f0.f0, .int .i64 x.f0.f1, .slice A1 x.f1.length c1, .string x.f2, .int .i64 x.f3, .string x.f4, .int .i64 x.f5, .slice A6 x.f6.length c6]] w fun e w' => e = .returned (.bool true) ∧ Below w.heap.size w w' := by
  clear l1 g1 l6 g6
  obtain ⟨N, hN⟩ : ∃ N, w.heap.size = N := ⟨_, rfl⟩
  go_enter Try.func6, Try.ntmps6
  go_wp2_with fail
  refine (shown_calls _).mono ?_
  rintro e w1 ⟨rfl, hb1⟩
  have BK := blk_below (World.alloc_heap_new w (.cells #[.string x.f0.f0, .int .i64 x.f0.f1, .slice A1 x.f1.length c1, .string x.f2, .int .i64 x.f3, .string x.f4, .int .i64 x.f5, .slice A6 x.f6.length c6] 36)) hb1
  have HB1 := Aside0.mk (show Below w.heap.size w w1 from ((Below.refl _ w).alloc (Nat.le_refl _) _).trans (hb1.mono (by simp)))
  rw [hN] at BK
  have BK' := Aside0.mk BK
  have e0 : w1.cell? ⟨N, 0, none⟩ = some (.string x.f0.f0) := (blk_cell BK 0).trans rfl
  have e1 : w1.cell? ⟨N, 1, none⟩ = some (.int .i64 x.f0.f1) := (blk_cell BK 1).trans rfl
  have e2 : w1.cell? ⟨N, 2, none⟩ = some (.slice A1 x.f1.length c1) := (blk_cell BK 2).trans rfl
  have e3 : w1.cell? ⟨N, 3, none⟩ = some (.string x.f2) := (blk_cell BK 3).trans rfl
  have e4 : w1.cell? ⟨N, 4, none⟩ = some (.int .i64 x.f3) := (blk_cell BK 4).trans rfl
  have e5 : w1.cell? ⟨N, 5, none⟩ = some (.string x.f4) := (blk_cell BK 5).trans rfl
  have e6 : w1.cell? ⟨N, 6, none⟩ = some (.int .i64 x.f5) := (blk_cell BK 6).trans rfl
  have e7 : w1.cell? ⟨N, 7, none⟩ = some (.slice A6 x.f6.length c6) := (blk_cell BK 7).trans rfl
  try rw [hN]
  clear hb1 BK
  go_wp2_with fail
  refine (put_nil _ _).mono ?_
  rintro e w2 ⟨rfl, hb2⟩
  have f2 : w2.cell? ⟨N, 2, none⟩ = some (.slice A1 x.f1.length c1) := (blk_cell (blk_below BK'.out hb2) 2).trans rfl
  have HB2 := Aside0.mk (show Below w.heap.size w w2 from HB1.out.trans (hb2.mono HB1.out.size))
  clear hb2 e0 e1 e2 e3 e4 e5 e6 e7
  go_wp2_with fail
  refine (behind_nil _ _).mono ?_
  rintro e w3 ⟨rfl, rfl⟩
  clear f2
  go_wp2_with fail
  refine (known_nil _).mono ?_
  rintro e w3 ⟨rfl, rfl⟩
  go_wp2_with fail
  refine (ops_nil _).mono ?_
  rintro e w3 ⟨rfl, rfl⟩
  go_wp2_with fail
  refine (waits_nil _).mono ?_
  rintro e w3 ⟨rfl, rfl⟩
  go_wp2
  go_ret
  exact ⟨rfl, HB2.out⟩
end Go.Proofs.Ytenbkljgmgdegaa.PO
