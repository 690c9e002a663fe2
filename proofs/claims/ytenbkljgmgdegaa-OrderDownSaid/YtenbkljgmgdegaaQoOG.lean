/- What the rows of this claim use, out of the texts of this work (OG). No condition beyond those that each statement names. -/
import Derived.Test.YtenbkljgmgdegaaQoOC
import Derived.Test.YtenbkljgmgdegaaQoPOx12
import Derived.Test.YtenbkljgmgdegaaQoPOx14
namespace Go.Proofs.Ytenbkljgmgdegaa.PO
open Go.RowKit Go.Proofs.YtenbkljgmgdegaaW.PrintWords Go.Proofs.YtenbkljgmgdegaaW.PrintLast Go.Proofs.YtenbkljgmgdegaaW.PrintMore Go.Proofs.Ytenbkljgmgdegaa.XW
set_option linter.unusedVariables false
set_option linter.unusedSimpArgs false
theorem inj_l (x y : ByteArray) : (x.toList = y.toList) ↔ x = y := ⟨bytes_inj, fun h => by rw [h]⟩
theorem inj_b (x y : ByteArray) : (x.toList == y.toList) = decide (x = y) := by rw [Bool.eq_iff_iff]; simp [inj_l]
theorem refSame_l0 (a b : List S34) (hl : a.length = b.length) (ha : a.length ≤ 9223372036854775807) : ∀ (k i : Nat), i ≤ a.length → a.length - i < k →
    pannierref07_Same.l0 k a b (i : Int) = some (decide (a.drop i = b.drop i))
  | 0, i, _, h => by omega
  | k + 1, i, hi, h => by
    unfold pannierref07_Same.l0
    by_cases hlt : i < a.length
    · rw [if_pos (by omega), if_pos (by omega), if_pos (by omega), rd_drop a i hlt, rd_drop b i (by omega)]
      have ih := refSame_l0 a b hl ha k (i + 1) (by omega) (by omega)
      rw [wrap_succ hlt ha, ih]
      obtain ⟨x0, x1⟩ := rd_T34 a i
      obtain ⟨y0, y1⟩ := rd_T34 b i
      simp only [inj_b]
      by_cases e0 : x0 = y0
      · by_cases e1 : x1 = y1
        · subst e0; subst e1; simp
        · simp [e1]
      · simp [e0]
    · rw [if_neg (by omega), List.drop_eq_nil_of_le (by omega), List.drop_eq_nil_of_le (by omega)]
      simp
theorem refSame_f (a b : List S34) (ha : a.length ≤ 9223372036854775807) (k : Nat) (hk : a.length < k) : pannierref07_Same.f k a b = some (decide (a = b)) := by
  unfold pannierref07_Same.f
  by_cases hl : a.length = b.length
  · have := refSame_l0 a b hl ha k 0 (by omega) (by omega)
    rw [if_pos (by omega), show (0 : Int) = ((0 : Nat) : Int) from rfl, this]; simp
  · rw [if_neg (by omega)]
    have : ¬ a = b := fun h => hl (by rw [h])
    simp [this]
theorem rd_drop36 (l : List S36) (i : Nat) (h : i < l.length) : l.drop i = rd_T36 l i :: l.drop (i + 1) := by
  rw [List.drop_eq_getElem_cons h, rd_T36]
  congr 1
  simp [List.getD, h]
theorem rd_mem36 (l : List S36) (i : Nat) (h : i < l.length) : rd_T36 l i ∈ l := by
  unfold rd_T36
  rw [Int.toNat_natCast]
  exact getD_mem h
end Go.Proofs.Ytenbkljgmgdegaa.PO
