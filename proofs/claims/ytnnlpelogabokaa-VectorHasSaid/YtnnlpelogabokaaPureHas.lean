/- pannierlaw07.VectorHas' walk answers true: the plain law. No condition but the sizes that a machine has. -/
import Derived.Test.YtnnlpelogabokaaPure2
import Derived.Test.YtnnlpelogabokaaPVx10
namespace Go.Proofs.Ytnnlpelogabokaa.PV
open Go.RowKit Go.Proofs.YtnnlpelogabokaaW.PrintWords Go.Proofs.YtnnlpelogabokaaW.PrintLast Go.Proofs.YtnnlpelogabokaaW.PrintMore Go.Proofs.Ytnnlpelogabokaa.XW

theorem at_l0 (n : ByteArray) (l : List S35) (hl : l.length ≤ 9223372036854775807) : ∀ (k i : Nat), i ≤ l.length → l.length - i < k →
    vector_At.l0 k n l (l.length : Int) (i : Int) = some (atS n (l.drop i))
  | 0, i, _, h => by omega
  | k + 1, i, hi, h => by
    unfold vector_At.l0
    by_cases hlt : i < l.length
    · rw [if_pos (by omega), if_pos (by omega), if_pos (by omega), rd_drop l i hlt, atS]
      have ih := at_l0 n l hl k (i + 1) (by omega) (by omega)
      rw [wrap_succ hlt hl, ih]
      split <;> rfl
    · rw [if_neg (by omega), List.drop_eq_nil_of_le (by omega)]
      rfl
theorem at_f (n : ByteArray) (l : List S35) (hl : l.length ≤ 9223372036854775807) (k : Nat) (hk : l.length < k) : vector_At.f k l n = some (atS n l) := by
  unfold vector_At.f
  rw [show (0 : Int) = ((0 : Nat) : Int) from rfl, at_l0 n l hl k 0 (by omega) (by omega)]
  simp
theorem refHas_f (l : List S35) (hl : l.length ≤ 9223372036854775807) (m : Nat) (hm : m ≤ 9223372036854775807) (hz : sizes m l) (n : ByteArray) (hn : n.size ≤ m) (d : Int) (k : Nat) (hk : l.length + m + 2 < k) : pannierref07_Has.f k l n d = some (hasS l n d) := by
  unfold pannierref07_Has.f hasS
  rw [refRight_f l hl m hm hz k hk, Option.bind_some, refDot_f n (by omega) d k (by omega), Option.bind_some, refAt_f n l hl k (by omega), Option.bind_some]
  cases rightS l <;> cases dotOk ⟨n, d⟩ <;> simp
/-- The law of what one has. -/
theorem VectorHas_pure (l : List S35) (hl : l.length ≤ 9223372036854775807) (hz : ∀ a, a ∈ l → a.f0.size ≤ maxLen) (n : ByteArray) (d : Int) (hn : n.size ≤ maxLen) : ∃ k, pannierlaw07_VectorHas.f k l n d = some true := by
  obtain ⟨m, hm, hz', hn'⟩ : ∃ m, m = 9223372036854775807 ∧ sizes m l ∧ n.size ≤ m := ⟨maxLen, rfl, hz, hn⟩
  obtain ⟨k, hk⟩ : ∃ k, l.length + m + 2 < k := ⟨_, Nat.lt_succ_self _⟩
  refine ⟨k, ?_⟩
  have e1 := shown_f k (by omega)
  have e2 := refName_f n (by omega) k (by omega)
  have e3 := right_f l (by omega) k (by omega)
  have e4 := refRight_f l (by omega) m (by omega) hz' k (by omega)
  have e5 := at_f n l (by omega) k (by omega)
  have e6 := refAt_f n l (by omega) k (by omega)
  have e7 := has_f l (by omega) n d k (by omega)
  have e8 := refHas_f l (by omega) m (by omega) hz' n hn' d k (by omega)
  have e9 : vector_IsName.f n = some (isNameB n) := rfl
  clear hk hm hz' hn'
  unfold pannierlaw07_VectorHas.f
  simp only [e1, e2, e3, e4, e5, e6, e7, e8, e9, Option.bind_some, if_true, beq_self_eq_true]
end Go.Proofs.Ytnnlpelogabokaa.PV
