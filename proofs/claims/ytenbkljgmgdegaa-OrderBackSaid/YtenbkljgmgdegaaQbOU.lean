/- What the rows of this claim use, out of the texts of this work (OU). No condition beyond those that each statement names. -/
import Derived.Test.YtenbkljgmgdegaaQbOV
import Derived.Test.YtenbkljgmgdegaaQbPOx6
namespace Go.Proofs.Ytenbkljgmgdegaa.PO
open Go.RowKit Go.Proofs.YtenbkljgmgdegaaW.PrintWords Go.Proofs.YtenbkljgmgdegaaW.PrintLast Go.Proofs.YtenbkljgmgdegaaW.PrintMore Go.Proofs.Ytenbkljgmgdegaa.XW
set_option linter.unusedVariables false
set_option linter.unusedSimpArgs false
def sameO (x y : S36) : Bool := rightO x && rightO y && decide (x = y)
theorem sameO_of {x y : S36} (hx : rightO x = true) (hy : rightO y = true) : sameO x y = decide (x = y) := by unfold sameO; rw [hx, hy]; rfl
set_option maxHeartbeats 8000000 in
set_option maxRecDepth 100000 in
theorem sameO_calls (x y : S36) (A2 : Option Addr) (c2 : Nat) (A7 : Option Addr) (c7 : Nat) (B2 : Option Addr) (d2 : Nat) (B7 : Option Addr) (d7 : Nat) (w : World) (l2 : x.f1.length ≤ c2) (g2 : Kd.C k34 w A2 x.f1.length x.f1) (l7 : x.f6.length ≤ c7) (g7 : Kd.C k34 w A7 x.f6.length x.f6)
    (m2 : y.f1.length ≤ d2) (h2 : Kd.C k34 w B2 y.f1.length y.f1) (m7 : y.f6.length ≤ d7) (h7 : Kd.C k34 w B7 y.f6.length y.f6) :
    Calls Try.prog 30 #[.agg #[.string x.f0.f0, .int .i64 x.f0.f1, .slice A2 x.f1.length c2, .string x.f2, .int .i64 x.f3, .string x.f4, .int .i64 x.f5, .slice A7 x.f6.length c7], .agg #[.string y.f0.f0, .int .i64 y.f0.f1, .slice B2 y.f1.length d2, .string y.f2, .int .i64 y.f3, .string y.f4, .int .i64 y.f5, .slice B7 y.f6.length d7]] w
      fun e w' => e = .returned (.bool (sameO x y)) ∧ Below w.heap.size w w' := by
  have HL2 := Aside0.mk l2
  have HL7 := Aside0.mk l7
  have HM2 := Aside0.mk m2
  have HM7 := Aside0.mk m7
  have HG2 := Aside0.mk g2
  have HG7 := Aside0.mk g7
  have HH2 := Aside0.mk h2
  have HH7 := Aside0.mk h7
  have hE := equalO_f x y g2.2.1 g7.2.1 (x.f1.length + x.f6.length + 1) (by omega) (by omega)
  have HE := Aside0.mk hE
  obtain ⟨N, hN⟩ : ∃ N, w.heap.size = N := ⟨_, rfl⟩
  clear l2 l7 m2 m7 g2 g7 h2 h7 hE
  go_enter Try.func30, Try.ntmps30
  go_wp2_with fail
  obtain ⟨w1, hw1⟩ : ∃ w1, (w.alloc (.cells #[.string x.f0.f0, .int .i64 x.f0.f1, .slice A2 x.f1.length c2, .string x.f2, .int .i64 x.f3, .string x.f4, .int .i64 x.f5, .slice A7 x.f6.length c7] 36)).alloc (.cells #[.string y.f0.f0, .int .i64 y.f0.f1, .slice B2 y.f1.length d2, .string y.f2, .int .i64 y.f3, .string y.f4, .int .i64 y.f5, .slice B7 y.f6.length d7] 36) = w1 := ⟨_, rfl⟩
  have hb1 : Below w.heap.size w w1 := by rw [← hw1]; exact ((Below.refl _ w).alloc (Nat.le_refl _) _).alloc (by simp) _
  have k1 : w1.heap[N]? = some (.cells #[.string x.f0.f0, .int .i64 x.f0.f1, .slice A2 x.f1.length c2, .string x.f2, .int .i64 x.f3, .string x.f4, .int .i64 x.f5, .slice A7 x.f6.length c7] 36 (0, 0)) := by rw [← hw1, ← hN]; exact blk_alloc (World.alloc_heap_new w _) _
  have k2 : w1.heap[N + 1]? = some (.cells #[.string y.f0.f0, .int .i64 y.f0.f1, .slice B2 y.f1.length d2, .string y.f2, .int .i64 y.f3, .string y.f4, .int .i64 y.f5, .slice B7 y.f6.length d7] 36 (0, 0)) := by
    rw [← hw1, ← hN]; have := World.alloc_heap_new (w.alloc (.cells #[.string x.f0.f0, .int .i64 x.f0.f1, .slice A2 x.f1.length c2, .string x.f2, .int .i64 x.f3, .string x.f4, .int .i64 x.f5, .slice A7 x.f6.length c7] 36)) (.cells #[.string y.f0.f0, .int .i64 y.f0.f1, .slice B2 y.f1.length d2, .string y.f2, .int .i64 y.f3, .string y.f4, .int .i64 y.f5, .slice B7 y.f6.length d7] 36); rwa [World.size_alloc] at this
  first | rw [hw1] | (rw [hN] at hw1; rw [hw1]) | skip
  have HB1 := Aside0.mk hb1
  have K1 := Aside0.mk k1
  have K2 := Aside0.mk k2
  clear hw1 hb1 k1 k2
  refine (orderRight_calls x A2 c2 A7 c7 w1 HL2.out (Kd.C_below HG2.out HB1.out) HL7.out (Kd.C_below HG7.out HB1.out)).mono ?_
  rintro e w2 ⟨rfl, hb2⟩
  have HB2 := Aside0.mk (show Below w.heap.size w w2 from HB1.out.trans (hb2.mono HB1.out.size))
  have K12 := Aside0.mk (blk_below K1.out hb2)
  have K22 := Aside0.mk (blk_below K2.out hb2)
  clear hb2 K1 K2 HB1
  obtain ⟨b1, hb1⟩ : ∃ b, rightO x = b := ⟨_, rfl⟩
  have HO1 := Aside0.mk hb1
  rw [hb1]
  clear hb1
  cases b1 with
  | false =>
    go_wp2
    go_ret
    exact ⟨by unfold sameO; rw [HO1.out]; rfl, by first | exact HB2.out | (rw [← hN]; exact HB2.out)⟩
  | true =>
    have f0 := (blk_cell K22.out 0).trans rfl
    have f1 := (blk_cell K22.out 1).trans rfl
    have f2 := (blk_cell K22.out 2).trans rfl
    have f3 := (blk_cell K22.out 3).trans rfl
    have f4 := (blk_cell K22.out 4).trans rfl
    have f5 := (blk_cell K22.out 5).trans rfl
    have f6 := (blk_cell K22.out 6).trans rfl
    have f7 := (blk_cell K22.out 7).trans rfl
    go_wp2_with fail
    refine (orderRight_calls y B2 d2 B7 d7 w2 HM2.out (Kd.C_below HH2.out HB2.out) HM7.out (Kd.C_below HH7.out HB2.out)).mono ?_
    rintro e w3 ⟨rfl, hb3⟩
    have HB3 := Aside0.mk (show Below w.heap.size w w3 from HB2.out.trans (hb3.mono HB2.out.size))
    have K13 := Aside0.mk (blk_below K12.out hb3)
    have K23 := Aside0.mk (blk_below K22.out hb3)
    clear hb3 K12 K22 HB2 f0 f1 f2 f3 f4 f5 f6 f7
    obtain ⟨b2, hb2⟩ : ∃ b, rightO y = b := ⟨_, rfl⟩
    have HO2 := Aside0.mk hb2
    rw [hb2]
    clear hb2
    cases b2 with
    | false =>
      go_wp2
      go_ret
      exact ⟨by unfold sameO; rw [HO1.out, HO2.out]; rfl, by first | exact HB3.out | (rw [← hN]; exact HB3.out)⟩
    | true =>
      have e0 := (blk_cell K13.out 0).trans rfl
      have e1 := (blk_cell K13.out 1).trans rfl
      have e2 := (blk_cell K13.out 2).trans rfl
      have e3 := (blk_cell K13.out 3).trans rfl
      have e4 := (blk_cell K13.out 4).trans rfl
      have e5 := (blk_cell K13.out 5).trans rfl
      have e6 := (blk_cell K13.out 6).trans rfl
      have e7 := (blk_cell K13.out 7).trans rfl
      have f0 := (blk_cell K23.out 0).trans rfl
      have f1 := (blk_cell K23.out 1).trans rfl
      have f2 := (blk_cell K23.out 2).trans rfl
      have f3 := (blk_cell K23.out 3).trans rfl
      have f4 := (blk_cell K23.out 4).trans rfl
      have f5 := (blk_cell K23.out 5).trans rfl
      have f6 := (blk_cell K23.out 6).trans rfl
      have f7 := (blk_cell K23.out 7).trans rfl
      go_wp2_with fail
      refine (order_equal.calls (x.f1.length + x.f6.length + 1) x.f0.f0 x.f0.f1 A2 c2 x.f1 x.f2 x.f3 x.f4 x.f5 A7 c7 x.f6 y.f0.f0 y.f0.f1 B2 d2 y.f1 y.f2 y.f3 y.f4 y.f5 B7 d7 y.f6 _ w3 (Kd.C_below HG2.out HB3.out) HL2.out (Kd.C_below HG7.out HB3.out) HL7.out (Kd.C_below HH2.out HB3.out) HM2.out (Kd.C_below HH7.out HB3.out) HM7.out HE.out).mono ?_
      rintro e w4 ⟨rfl, hb4⟩
      have HB4 := Aside0.mk (show Below w.heap.size w w4 from by first | exact HB3.out.trans (hb4.mono HB3.out.size) | exact HB3.out.trans (hb4.below.mono HB3.out.size))
      clear hb4 e0 e1 e2 e3 e4 e5 e6 e7 f0 f1 f2 f3 f4 f5 f6 f7
      have HS := Aside0.mk (sameO_of HO1.out HO2.out)
      go_wp2
      go_ret
      exact ⟨by rw [HS.out]; rfl, by first | exact HB4.out | (rw [← hN]; exact HB4.out)⟩
end Go.Proofs.Ytenbkljgmgdegaa.PO
