/- What the laws of joins and of meets share: the merge's length, names that rise, two vectors that are the same. No condition. -/
import Derived.Test.YtnnlpelogabokaaPure2
import Derived.Test.YtnnlpelogabokaaPVx8
namespace Go.Proofs.Ytnnlpelogabokaa.PV
open Go.RowKit Go.Proofs.YtnnlpelogabokaaW.PrintWords Go.Proofs.YtnnlpelogabokaaW.PrintLast Go.Proofs.YtnnlpelogabokaaW.PrintMore Go.Proofs.Ytnnlpelogabokaa.XW

theorem mrg_len (a b : List S35) : (mrg a b).length ≤ a.length + b.length := by
  induction a, b using mrg.induct with
  | case1 => simp [mrg]
  | case2 y b ih => rw [mrg_y]; simp only [List.length_cons, List.length_nil] at ih ⊢; omega
  | case3 x a ih => rw [mrg_x]; simp only [List.length_cons, List.length_nil] at ih ⊢; omega
  | case4 x a y b h ih => rw [mrg_xy, if_pos h]; simp only [List.length_cons] at ih ⊢; omega
  | case5 x a y b h h2 ih => rw [mrg_xy, if_neg h, if_pos h2]; simp only [List.length_cons] at ih ⊢; omega
  | case6 x a y b h h2 ih => rw [mrg_xy, if_neg h, if_neg h2]; simp only [List.length_cons] at ih ⊢; omega

/-- Every name of l is behind 'was'. -/
def above (was : ByteArray) (l : List S35) : Prop := ∀ x, x ∈ l → Op.bytesLess was.toList x.f0.toList = true
theorem rises_above : ∀ (l : List S35) (was : ByteArray), rises was l = true → above was l
  | [], _, _ => fun x hx => by cases hx
  | y :: l, was, h => fun x hx => by
    simp only [rises, Bool.and_eq_true] at h
    rcases List.mem_cons.1 hx with rfl | hx
    · exact h.1.2
    · exact bl_trans _ _ _ h.1.2 (rises_above l y.f0 h.2 x hx)
theorem rises_low (l : List S35) (was low : ByteArray) (h : rises was l = true) (hl : above low l) : rises low l = true := by
  cases l with
  | nil => rfl
  | cons x l =>
    simp only [rises, Bool.and_eq_true] at h ⊢
    exact ⟨⟨h.1.1, hl x (by simp)⟩, h.2⟩
theorem rises_tail {x : S35} {l : List S35} {was : ByteArray} (h : rises was (x :: l) = true) : rises x.f0 l = true := by
  simp only [rises, Bool.and_eq_true] at h; exact h.2
theorem rises_pos {l : List S35} {was : ByteArray} : ∀ {x : S35}, rises was l = true → x ∈ l → 1 ≤ x.f1 ∧ x.f1 ≤ 4611686018427387904 := by
  induction l generalizing was with
  | nil => intro x _ hx; cases hx
  | cons y l ih =>
    intro x h hx
    simp only [rises, dotOk, Bool.and_eq_true, decide_eq_true_eq] at h
    rcases List.mem_cons.1 hx with rfl | hx
    · exact ⟨h.1.1.1.2, h.1.1.2⟩
    · exact ih h.2 hx
theorem atS_above {n : ByteArray} {l : List S35} (h : above n l) : atS n l = 0 := by
  refine atS_none n l (fun q hq he => ?_)
  have := h (l.getD q z35) (by rw [show l.getD q z35 = l[q] by simp [List.getD, hq]]; exact List.getElem_mem hq)
  rw [he, bl_irr] at this
  cases this
theorem atS_skip {n : ByteArray} {x : S35} {l : List S35} (h : Op.bytesLess x.f0.toList n.toList = true) : atS n (x :: l) = atS n l := by
  rw [atS, if_neg (fun e => by rw [e, bl_irr] at h; cases h)]

/-! ### the same -/
theorem same_l0 (a : List S35) (ha : a.length ≤ 9223372036854775807) : ∀ (k i : Nat), i ≤ a.length → a.length - i < k → pannierref07_Same.l0 k a a (i : Int) = some true
  | 0, i, _, h => by omega
  | k + 1, i, hi, h => by
    unfold pannierref07_Same.l0
    by_cases hlt : i < a.length
    · rw [if_pos (by omega), if_pos (by omega), if_pos (by omega), wrap_succ hlt ha, same_l0 a ha k (i + 1) (by omega) (by omega), if_neg (by simp)]
    · rw [if_neg (by omega)]
theorem same_f (a : List S35) (ha : a.length ≤ 9223372036854775807) (k : Nat) (hk : a.length < k) : pannierref07_Same.f k a a = some true := by
  unfold pannierref07_Same.f
  rw [if_pos rfl, show (0 : Int) = ((0 : Nat) : Int) from rfl, same_l0 a ha k 0 (by omega) (by omega)]
end Go.Proofs.Ytnnlpelogabokaa.PV
