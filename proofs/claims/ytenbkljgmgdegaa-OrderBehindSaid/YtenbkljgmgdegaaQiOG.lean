/- What the rows of this claim use, out of the texts of this work (OG). No condition beyond those that each statement names. -/
import Derived.Test.YtenbkljgmgdegaaQiOC
import Derived.Test.YtenbkljgmgdegaaQiPOx12
import Derived.Test.YtenbkljgmgdegaaQiPOx14
namespace Go.Proofs.Ytenbkljgmgdegaa.PO
open Go.RowKit Go.Proofs.YtenbkljgmgdegaaW.PrintWords Go.Proofs.YtenbkljgmgdegaaW.PrintLast Go.Proofs.YtenbkljgmgdegaaW.PrintMore Go.Proofs.Ytenbkljgmgdegaa.XW
set_option linter.unusedVariables false
set_option linter.unusedSimpArgs false
theorem inj_l (x y : ByteArray) : (x.toList = y.toList) ↔ x = y := ⟨bytes_inj, fun h => by rw [h]⟩
theorem inj_b (x y : ByteArray) : (x.toList == y.toList) = decide (x = y) := by rw [Bool.eq_iff_iff]; simp [inj_l]
theorem refSame_l0 (a b : List S34) (hl : a.length = b.length) (ha : a.length ≤ 9223372036854775807) : ∀ (k i : Nat), i ≤ a.length → a.length - i < k →
    pannierref07_Same.l0 k a b (i : Int) = some (decide (a.drop i = b.drop i))
  | 0, i, _, h => by omega
  | k + 1, i, hi, h => by
    unfold pannierref07_Same.l0
    by_cases hlt : i < a.length
    · rw [if_pos (by omega), if_pos (by omega), if_pos (by omega), rd_drop a i hlt, rd_drop b i (by omega)]
      have ih := refSame_l0 a b hl ha k (i + 1) (by omega) (by omega)
      rw [wrap_succ hlt ha, ih]
      obtain ⟨x0, x1⟩ := rd_T34 a i
      obtain ⟨y0, y1⟩ := rd_T34 b i
      simp only [inj_b]
      by_cases e0 : x0 = y0
      · by_cases e1 : x1 = y1
        · subst e0; subst e1; simp
        · simp [e1]
      · simp [e0]
    · rw [if_neg (by omega), List.drop_eq_nil_of_le (by omega), List.drop_eq_nil_of_le (by omega)]
      simp
theorem refSame_f (a b : List S34) (ha : a.length ≤ 9223372036854775807) (k : Nat) (hk : a.length < k) : pannierref07_Same.f k a b = some (decide (a = b)) := by
  unfold pannierref07_Same.f
  by_cases hl : a.length = b.length
  · have := refSame_l0 a b hl ha k 0 (by omega) (by omega)
    rw [if_pos (by omega), show (0 : Int) = ((0 : Nat) : Int) from rfl, this]; simp
  · rw [if_neg (by omega)]
    have : ¬ a = b := fun h => hl (by rw [h])
    simp [this]
theorem refEqual_f (a b : S36) (h1 : a.f1.length ≤ 9223372036854775807) (h6 : a.f6.length ≤ 9223372036854775807) (k : Nat) (hk1 : a.f1.length < k) (hk6 : a.f6.length < k) :
    pannierref08_Equal.f k a.f0.f0 a.f0.f1 a.f1 a.f2 a.f3 a.f4 a.f5 a.f6 b.f0.f0 b.f0.f1 b.f1 b.f2 b.f3 b.f4 b.f5 b.f6 = some (decide (a = b)) := by
  unfold pannierref08_Equal.f
  rw [refSame_f _ _ h1 k hk1, refSame_f _ _ h6 k hk6]
  obtain ⟨⟨a00, a01⟩, a1, a2, a3, a4, a5, a6⟩ := a
  obtain ⟨⟨b00, b01⟩, b1, b2, b3, b4, b5, b6⟩ := b
  simp only [inj_l, inj_b, Option.bind_some, S36.mk.injEq, S34.mk.injEq]
  by_cases c0 : a00 = b00 <;> by_cases c1 : a01 = b01 <;> by_cases c2 : a2 = b2 <;> by_cases c3 : a3 = b3 <;> by_cases c4 : a4 = b4 <;> by_cases c5 : a5 = b5 <;> by_cases c6 : a1 = b1 <;> by_cases c7 : a6 = b6 <;> simp [c0, c1, c2, c3, c4, c5, c6, c7]
theorem rd_drop36 (l : List S36) (i : Nat) (h : i < l.length) : l.drop i = rd_T36 l i :: l.drop (i + 1) := by
  rw [List.drop_eq_getElem_cons h, rd_T36]
  congr 1
  simp [List.getD, h]
theorem rd_mem36 (l : List S36) (i : Nat) (h : i < l.length) : rd_T36 l i ∈ l := by
  unfold rd_T36
  rw [Int.toNat_natCast]
  exact getD_mem h
theorem sameOps_l0 (a b : List S36) (hl : a.length = b.length) (ha : a.length ≤ 9223372036854775807) (M : Nat) (hM : M ≤ 9223372036854775807) (hs : ∀ x ∈ a, x.f1.length ≤ M ∧ x.f6.length ≤ M) : ∀ (k i : Nat), i ≤ a.length → a.length - i + M < k →
    pannierref08_SameOps.l0 k a b (i : Int) = some (decide (a.drop i = b.drop i))
  | 0, i, _, h => by omega
  | k + 1, i, hi, h => by
    unfold pannierref08_SameOps.l0
    by_cases hlt : i < a.length
    · have hx := hs _ (rd_mem36 a i hlt)
      have ih := sameOps_l0 a b hl ha M hM hs k (i + 1) (by omega) (by omega)
      rw [if_pos (by omega), if_pos (by omega), if_pos (by omega), rd_drop36 a i hlt, rd_drop36 b i (by omega), refEqual_f _ _ (by omega) (by omega) k (by omega) (by omega), Option.bind_some, wrap_succ hlt ha, ih]
      by_cases e : rd_T36 a i = rd_T36 b i
      · simp [e]
      · simp [e]
    · rw [if_neg (by omega), List.drop_eq_nil_of_le (by omega), List.drop_eq_nil_of_le (by omega)]
      simp
theorem sameOps_f (a b : List S36) (ha : a.length ≤ 9223372036854775807) (M : Nat) (hM : M ≤ 9223372036854775807) (hs : ∀ x ∈ a, x.f1.length ≤ M ∧ x.f6.length ≤ M) (k : Nat) (hk : a.length + M < k) : pannierref08_SameOps.f k a b = some (decide (a = b)) := by
  unfold pannierref08_SameOps.f
  by_cases hl : a.length = b.length
  · have := sameOps_l0 a b hl ha M hM hs k 0 (by omega) (by omega)
    rw [if_pos (by omega), show (0 : Int) = ((0 : Nat) : Int) from rfl, this]; simp
  · rw [if_neg (by omega)]
    have : ¬ a = b := fun h => hl (by rw [h])
    simp [this]
def runA (l : List S36) : AP := l.foldl (fun s x => (putA s x).2) ⟨[], [], []⟩
theorem runA_snoc (l : List S36) (i : Nat) (h : i < l.length) : runA (l.take (i + 1)) = (putA (runA (l.take i)) (rd_T36 l i)).2 := by
  unfold runA
  rw [List.take_succ_eq_append_getElem h, List.foldl_append]
  show (putA _ l[i]).2 = _
  congr 2
  unfold rd_T36
  simp [List.getD, h]
theorem runA_inv : ∀ (l : List S36), InvA (runA l) ∧ (runA l).L.length ≤ 257 * l.length := by
  intro l
  have : ∀ (l : List S36) (s : AP), InvA s → InvA (l.foldl (fun s x => (putA s x).2) s) ∧ (l.foldl (fun s x => (putA s x).2) s).L.length ≤ s.L.length + 257 * l.length := by
    intro l
    induction l with
    | nil => intro s h; exact ⟨h, by simp⟩
    | cons x l ih =>
      intro s h
      obtain ⟨h1, h2⟩ := putA_inv h x
      obtain ⟨h3, h4⟩ := ih _ h1
      refine ⟨h3, ?_⟩
      simp only [List.foldl_cons, List.length_cons]
      omega
  obtain ⟨h1, h2⟩ := this l _ invA_new
  exact ⟨h1, by simpa [runA] using h2⟩
end Go.Proofs.Ytenbkljgmgdegaa.PO
