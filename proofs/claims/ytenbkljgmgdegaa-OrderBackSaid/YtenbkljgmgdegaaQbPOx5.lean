/- What the rows of this claim use, out of the texts of this work (POx5). No condition beyond those that each statement names. -/
import Derived.Test.YtenbkljgmgdegaaQbPOx0
import Derived.Test.YtenbkljgmgdegaaQbPOx2
import Derived.Test.YtenbkljgmgdegaaQbPOx3
import Derived.Test.YtenbkljgmgdegaaQbPOx4
namespace Go.Proofs.Ytenbkljgmgdegaa.PO
open Go.RowKit Go.Proofs.YtenbkljgmgdegaaW.PrintWords Go.Proofs.YtenbkljgmgdegaaW.PrintLast Go.Proofs.YtenbkljgmgdegaaW.PrintMore
attribute [local go_sem] max2_int min2_int max_two min_two max_three min_three max_four min_four   -- for this text's walks alone
set_option linter.unusedVariables false
set_option linter.unusedSimpArgs false
mutual
def order_Right.j0 : Nat → Bool → ByteArray → Int → List (S34) → ByteArray → Int → ByteArray → Int → List (S34) → Option (Bool)
  | 0, _, _, _, _, _, _, _, _, _ => none
  | k + 1, x48, x127000, x127001, x127002, x127003, x127004, x127005, x127006, x127007 => if x48 = true then (some false) else (order_Right.l0 k x127007 (x127007.length : Int) 0 x127000 x127001 x127002 x127003 x127004 x127005 x127006 x127007)
def order_Right.l0 : Nat → List (S34) → Int → Int → ByteArray → Int → List (S34) → ByteArray → Int → ByteArray → Int → List (S34) → Option (Bool)
  | 0, _, _, _, _, _, _, _, _, _, _, _ => none
  | k + 1, x50, x51, x52, x127000, x127001, x127002, x127003, x127004, x127005, x127006, x127007 => if x52 < x51 then (if 0 ≤ x52 then (if x52 < (x50.length : Int) then ((vector_Has.f k x127002 ((rd_T34 x50 x52).f0) ((rd_T34 x50 x52).f1)).bind fun t137 => (if t137 = true then (if x52 > 0 then (if 0 ≤ (wrap64 (x52 - 1)) then (if (wrap64 (x52 - 1)) < (x127007.length : Int) then ((order_stands.f k ((rd_T34 x127007 (wrap64 (x52 - 1))).f0) ((rd_T34 x127007 (wrap64 (x52 - 1))).f1) ((rd_T34 x50 x52).f0) ((rd_T34 x50 x52).f1)).bind fun t139 => (if t139 ≥ 0 then (some false) else (order_Right.l0 k x50 x51 (wrap64 (x52 + 1)) x127000 x127001 x127002 x127003 x127004 x127005 x127006 x127007))) else (none)) else (none)) else (order_Right.l0 k x50 x51 (wrap64 (x52 + 1)) x127000 x127001 x127002 x127003 x127004 x127005 x127006 x127007)) else (some false))) else (none)) else (none)) else (if x127004 = 1 then (if (x127007.length : Int) = 0 then (if x127006 ≥ 1 then (some (decide (x127006 ≤ 9999))) else (some false)) else (some false)) else (if x127004 = 2 then (if x127006 ≥ 1 then (some (decide (x127006 ≤ 9999))) else (some false)) else (if x127004 = 3 then (some (x127006 == 0)) else (some false))))
end
def order_Right.f (k : Nat) (a0_0 : ByteArray) (a0_1 : Int) (l0_2 : List (S34)) (a0_3 : ByteArray) (a0_4 : Int) (a0_5 : ByteArray) (a0_6 : Int) (l0_7 : List (S34)) : Option (Bool) := (vector_Right.f k (([(⟨a0_0, a0_1⟩ : S34)] : List (S34)))).bind fun t130 => (if t130 = true then ((vector_Right.f k l0_2).bind fun t131 => (if t131 = true then ((vector_At.f k l0_2 a0_0).bind fun t132 => (if t132 = (wrap64 (a0_1 - 1)) then ((order_isText.f a0_3).bind fun t133 => (if t133 = true then ((order_isText.f a0_5).bind fun t134 => (if t134 = true then (order_Right.j0 k (decide ((l0_7.length : Int) > 128)) a0_0 a0_1 l0_2 a0_3 a0_4 a0_5 a0_6 l0_7) else (order_Right.j0 k true a0_0 a0_1 l0_2 a0_3 a0_4 a0_5 a0_6 l0_7))) else (order_Right.j0 k true a0_0 a0_1 l0_2 a0_3 a0_4 a0_5 a0_6 l0_7))) else (order_Right.j0 k true a0_0 a0_1 l0_2 a0_3 a0_4 a0_5 a0_6 l0_7))) else (order_Right.j0 k true a0_0 a0_1 l0_2 a0_3 a0_4 a0_5 a0_6 l0_7))) else (order_Right.j0 k true a0_0 a0_1 l0_2 a0_3 a0_4 a0_5 a0_6 l0_7))
theorem order_Right.mono_l : ∀ k, (∀ y0 y1 y2 y3 y4 y5 y6 y7 y8, LeO (order_Right.j0 k y0 y1 y2 y3 y4 y5 y6 y7 y8) (order_Right.j0 (k + 1) y0 y1 y2 y3 y4 y5 y6 y7 y8)) ∧ (∀ y0 y1 y2 y3 y4 y5 y6 y7 y8 y9 y10, LeO (order_Right.l0 k y0 y1 y2 y3 y4 y5 y6 y7 y8 y9 y10) (order_Right.l0 (k + 1) y0 y1 y2 y3 y4 y5 y6 y7 y8 y9 y10))
  | 0 => ⟨fun _ _ _ _ _ _ _ _ _ r h => by simp [order_Right.j0] at h, fun _ _ _ _ _ _ _ _ _ _ _ r h => by simp [order_Right.l0] at h⟩
  | k + 1 => by
    obtain ⟨ih0, ih1⟩ := order_Right.mono_l k
    refine ⟨?_, ?_⟩
    · intro y0 y1 y2 y3 y4 y5 y6 y7 y8
      unfold order_Right.j0
      repeat' first
      | (with_reducible exact ih0 _ _ _ _ _ _ _ _ _)
      | (with_reducible exact ih1 _ _ _ _ _ _ _ _ _ _ _)
      | (with_reducible exact order_stands.mono _ _ _ _ _)
      | (with_reducible exact vector_At.mono _ _ _)
      | (with_reducible exact vector_Has.mono _ _ _ _)
      | (with_reducible exact vector_Right.mono _ _)
      | (with_reducible exact LeO.refl _)
      | (with_reducible exact LeO.none _)
      | (with_reducible refine LeO.ite ?_ ?_)
      | (with_reducible refine LeO.bind ?_ (fun _ => ?_))
      | exact ih0 _ _ _ _ _ _ _ _ _
      | exact ih1 _ _ _ _ _ _ _ _ _ _ _
      | exact order_stands.mono _ _ _ _ _
      | exact vector_At.mono _ _ _
      | exact vector_Has.mono _ _ _ _
      | exact vector_Right.mono _ _
      | exact LeO.none _
      | refine LeO.ite ?_ ?_
      | refine LeO.bind ?_ (fun _ => ?_)
    · intro y0 y1 y2 y3 y4 y5 y6 y7 y8 y9 y10
      unfold order_Right.l0
      repeat' first
      | (with_reducible exact ih0 _ _ _ _ _ _ _ _ _)
      | (with_reducible exact ih1 _ _ _ _ _ _ _ _ _ _ _)
      | (with_reducible exact order_stands.mono _ _ _ _ _)
      | (with_reducible exact vector_At.mono _ _ _)
      | (with_reducible exact vector_Has.mono _ _ _ _)
      | (with_reducible exact vector_Right.mono _ _)
      | (with_reducible exact LeO.refl _)
      | (with_reducible exact LeO.none _)
      | (with_reducible refine LeO.ite ?_ ?_)
      | (with_reducible refine LeO.bind ?_ (fun _ => ?_))
      | exact ih0 _ _ _ _ _ _ _ _ _
      | exact ih1 _ _ _ _ _ _ _ _ _ _ _
      | exact order_stands.mono _ _ _ _ _
      | exact vector_At.mono _ _ _
      | exact vector_Has.mono _ _ _ _
      | exact vector_Right.mono _ _
      | exact LeO.none _
      | refine LeO.ite ?_ ?_
      | refine LeO.bind ?_ (fun _ => ?_)
theorem order_Right.mono : ∀ a0 a1 a2 a3 a4 a5 a6 a7 k, LeO (order_Right.f k a0 a1 a2 a3 a4 a5 a6 a7) (order_Right.f (k + 1) a0 a1 a2 a3 a4 a5 a6 a7) := by
  intro a0 a1 a2 a3 a4 a5 a6 a7 k
  obtain ⟨ih0, ih1⟩ := order_Right.mono_l k
  unfold order_Right.f
  repeat' first
      | (with_reducible exact ih0 _ _ _ _ _ _ _ _ _)
      | (with_reducible exact ih1 _ _ _ _ _ _ _ _ _ _ _)
      | (with_reducible exact order_stands.mono _ _ _ _ _)
      | (with_reducible exact vector_At.mono _ _ _)
      | (with_reducible exact vector_Has.mono _ _ _ _)
      | (with_reducible exact vector_Right.mono _ _)
      | (with_reducible exact LeO.refl _)
      | (with_reducible exact LeO.none _)
      | (with_reducible refine LeO.ite ?_ ?_)
      | (with_reducible refine LeO.bind ?_ (fun _ => ?_))
      | exact ih0 _ _ _ _ _ _ _ _ _
      | exact ih1 _ _ _ _ _ _ _ _ _ _ _
      | exact order_stands.mono _ _ _ _ _
      | exact vector_At.mono _ _ _
      | exact vector_Has.mono _ _ _ _
      | exact vector_Right.mono _ _
      | exact LeO.none _
      | refine LeO.ite ?_ ?_
      | refine LeO.bind ?_ (fun _ => ?_)
def order_Right.T7 : Bool × List (List Nat × List Nat) := (true, [([], []), ([0], [0]), ([], []), ([1, 2], [1, 2]), ([3], [3]), ([4, 3], [4]), ([5], [5]), ([6, 5], [5, 6]), ([7, 5, 5], [5, 7]), ([8], [8]), ([9, 8], [8, 9]), ([8], [8]), ([11, 8], [8, 11]), ([10, 12, 8], [8, 10, 12]), ([13, 8], [8, 13]), ([8], [8]), ([14, 15, 8, 8], [8, 14, 15]), ([16, 8], [8, 16]), ([8, 17, 5], [5, 8, 17]), ([5, 18], [5, 18])])
def order_Right.B7 : List Nat := [0, 1, 0, 7, 15, 31, 63, 127, 255, 511, 1023, 511, 2559, 8191, 16383, 511, 65535, 131071, 262143, 524287]
theorem order_Right.tab7 : rtab .any (opsOf Try.f45 7) = order_Right.T7 := by kernel_rfl
theorem order_Right.bits7 : waitsOk order_Right.T7.2 order_Right.B7 = true := by kernel_rfl
end Go.Proofs.Ytenbkljgmgdegaa.PO
