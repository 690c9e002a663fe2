/- A number's bytes: the program and the reference lay the same. No condition but the sizes that a machine has. -/
import Derived.Test.YtnnlpelogabokaaPBNum
namespace Go.Proofs.Ytnnlpelogabokaa.PB
open Go.RowKit Go.Proofs.YtnnlpelogabokaaW.PrintWords Go.Proofs.YtnnlpelogabokaaW.PrintLast Go.Proofs.YtnnlpelogabokaaW.PrintMore Go.Proofs.Ytnnlpelogabokaa.XW

theorem w_id {u : Int} (h : -9223372036854775808 ≤ u ∧ u ≤ 9223372036854775807) : wrap64 u = u := by unfold wrap64; omega
def pw (j : Nat) : Int := 2 ^ j
theorem shr64 (n : Int) (j : Nat) (h : j ≤ 64) : shr .u64 n (j : Int) = n / 2 ^ j := by
  unfold shr
  rw [show min ((j : Int).toNat) (IntKind.bits .u64) = j from by rw [Int.toNat_natCast]; exact Nat.min_eq_left h]

/-- What the reference's loop finds. -/
theorem follow_step (n : Int) (k : Nat) (i : Nat) (p : Int) (hi : i < 8) (hp : (2 : Int) ^ (7 * i + 7) = p) (hp0 : 0 < p) (h0 : 0 ≤ n) : pannierref02_follow.l0 (k + 1) n (i : Int) = if p ≤ n then pannierref02_follow.l0 k n ((i + 1 : Nat) : Int) else some (i : Int) := by
  have e1 : wrap64 (7 + wrap64 (7 * (i : Int))) = ((7 * i + 7 : Nat) : Int) := by
    rw [w_id (u := 7 * (i : Int)) (by omega), w_id (by omega)]
    omega
  have e2 : wrap64 ((i : Int) + 1) = ((i + 1 : Nat) : Int) := by rw [w_id (by omega)]; omega
  rw [pannierref02_follow.l0, if_pos (by omega), e1, if_pos (by omega), shr64 n _ (by omega), hp, e2]
  by_cases h : p ≤ n
  · rw [if_pos h, if_pos]
    have h1 : p * 1 ≤ n := by omega
    have h2 := (Int.le_ediv_iff_mul_le hp0).2 (show 1 * p ≤ n by omega)
    omega
  · rw [if_neg h, if_neg]
    rw [Int.ediv_eq_zero_of_lt h0 (by omega)]
    decide
theorem follow_end (n : Int) (k : Nat) : pannierref02_follow.l0 (k + 1) n ((8 : Nat) : Int) = some 8 := by
  rw [pannierref02_follow.l0, if_neg (by decide)]
  rfl
theorem follow_f (n : Int) (h0 : 0 ≤ n) (k : Nat) (hk : 9 ≤ k) : pannierref02_follow.f k n = some (exN n) := by
  obtain ⟨k, rfl⟩ : ∃ m, k = m + 9 := ⟨k - 9, by omega⟩
  unfold pannierref02_follow.f
  show pannierref02_follow.l0 (k + 9) n ((0 : Nat) : Int) = _
  rw [follow_step n (k + 8) 0 128 (by omega) (by simp) (by omega) h0]
  by_cases c0 : 128 ≤ n
  case neg => rw [if_neg c0, ex_0 (by omega)]; rfl
  rw [if_pos c0]
  rw [follow_step n (k + 7) 1 16384 (by omega) (by simp) (by omega) h0]
  by_cases c1 : 16384 ≤ n
  case neg => rw [if_neg c1, ex_1 (by omega) (by omega)]; rfl
  rw [if_pos c1]
  rw [follow_step n (k + 6) 2 2097152 (by omega) (by simp) (by omega) h0]
  by_cases c2 : 2097152 ≤ n
  case neg => rw [if_neg c2, ex_2 (by omega) (by omega)]; rfl
  rw [if_pos c2]
  rw [follow_step n (k + 5) 3 268435456 (by omega) (by simp) (by omega) h0]
  by_cases c3 : 268435456 ≤ n
  case neg => rw [if_neg c3, ex_3 (by omega) (by omega)]; rfl
  rw [if_pos c3]
  rw [follow_step n (k + 4) 4 34359738368 (by omega) (by simp) (by omega) h0]
  by_cases c4 : 34359738368 ≤ n
  case neg => rw [if_neg c4, ex_4 (by omega) (by omega)]; rfl
  rw [if_pos c4]
  rw [follow_step n (k + 3) 5 4398046511104 (by omega) (by simp) (by omega) h0]
  by_cases c5 : 4398046511104 ≤ n
  case neg => rw [if_neg c5, ex_5 (by omega) (by omega)]; rfl
  rw [if_pos c5]
  rw [follow_step n (k + 2) 6 562949953421312 (by omega) (by simp) (by omega) h0]
  by_cases c6 : 562949953421312 ≤ n
  case neg => rw [if_neg c6, ex_6 (by omega) (by omega)]; rfl
  rw [if_pos c6]
  rw [follow_step n (k + 1) 7 72057594037927936 (by omega) (by simp) (by omega) h0]
  by_cases c7 : 72057594037927936 ≤ n
  case neg => rw [if_neg c7, ex_7 (by omega) (by omega)]; rfl
  rw [if_pos c7]
  rw [follow_end, ex_8 (by omega)]

/-! ### the bytes -/
def gB (n : Int) (j : Nat) : Int := shr .u64 n (8 * (j : Int)) % 256
def tailB (n : Int) : Nat → List Int
  | 0 => []
  | j + 1 => gB n j :: tailB n j
theorem tailB_len (n : Int) : ∀ j, (tailB n j).length = j
  | 0 => rfl
  | j + 1 => by simp [tailB, tailB_len n j]
def onesV : Nat → Int
  | 0 => 0 | 1 => 128 | 2 => 192 | 3 => 224 | 4 => 240 | 5 => 248 | 6 => 252 | 7 => 254 | _ => 255
theorem ones_shl : ∀ t : Nat, t ≤ 8 → shl .u8 255 (8 - (t : Int)) = onesV t := by decide
theorem ones_step : ∀ i : Nat, i < 8 → Go.bits .or .u8 (onesV i) (shr .u8 128 (i : Int)) = onesV (i + 1) := by decide
def encN (n : Int) : List Int := (if exN n < 8 then Go.bits .or .u8 (onesV (exN n).toNat) (gB n (exN n).toNat) else onesV (exN n).toNat) :: tailB n (exN n).toNat
theorem encN_len (n : Int) : (encN n).length ≤ 9 := by
  have := exN_range n
  simp only [encN, List.length_cons, tailB_len]
  omega

theorem num_l0 (n t : Int) (ht : t ≤ 8) : ∀ (k j : Nat) (out : List Int), (j : Int) ≤ t → j < k → out.length + j < 140737488355328 → wire_Number.l0 k n t out t (t - (j : Int)) = some (out ++ tailB n j)
  | 0, j, out, _, h, _ => by omega
  | k + 1, 0, out, hj, h, hl => by
    rw [wire_Number.l0, if_neg (by omega)]
    simp [tailB]
  | k + 1, j + 1, out, hj, h, hl => by
    have e1 : wrap64 (8 * wrap64 (wrap64 (t - 1) - (t - ((j + 1 : Nat) : Int)))) = 8 * (j : Int) := by
      rw [w_id (u := t - 1) (by omega), w_id (u := t - 1 - (t - ((j + 1 : Nat) : Int))) (by omega), w_id (by omega)]
      omega
    have e2 : wrap64 (t - ((j + 1 : Nat) : Int) + 1) = t - (j : Int) := by rw [w_id (by omega)]; omega
    rw [wire_Number.l0, if_pos (by omega), e1, if_pos (by omega), if_pos (by omega), e2, num_l0 n t ht k j _ (by omega) (by omega) (by simp; omega)]
    simp [tailB, gB]
theorem num_l1 (n : Int) : ∀ (k j : Nat) (out : List Int), j ≤ 8 → j < k → out.length + j < 140737488355328 → pannierref02_Number.l1 k n out ((j : Int) - 1) = some (out ++ tailB n j)
  | 0, j, out, _, h, _ => by omega
  | k + 1, 0, out, hj, h, hl => by
    rw [pannierref02_Number.l1, if_neg (by omega)]
    simp [tailB]
  | k + 1, j + 1, out, hj, h, hl => by
    have e0 : ((j + 1 : Nat) : Int) - 1 = (j : Int) := by omega
    have e1 : wrap64 (8 * (j : Int)) = 8 * (j : Int) := w_id (by omega)
    have e2 : wrap64 ((j : Int) - 1) = (j : Int) - 1 := w_id (by omega)
    rw [e0, pannierref02_Number.l1, if_pos (by omega), e1, if_pos (by omega), if_pos (by omega), e2, num_l1 n k j _ (by omega) (by omega) (by simp; omega)]
    simp [tailB, gB]
theorem number_f (n : Int) (h0 : 0 ≤ n) (h1 : n < 18446744073709551616) (b : List Int) (hb : b.length ≤ 140737488355300) (k : Nat) (hk : 20 ≤ k) : wire_Number.f k b n = some (b ++ encN n) := by
  obtain ⟨k, rfl⟩ : ∃ m, k = m + 1 := ⟨k - 1, by omega⟩
  have hr := exN_range n
  obtain ⟨t, ht⟩ : ∃ t : Nat, exN n = (t : Int) := ⟨(exN n).toNat, by omega⟩
  have e1 : wrap64 (8 - exN n) = 8 - (t : Int) := by rw [w_id (by omega), ht]
  have e2 : wrap64 (8 * exN n) = 8 * (t : Int) := by rw [w_id (by omega), ht]
  have hj : ∀ f0 : Int, wire_Number.j0 (k + 1) b n (exN n) f0 = some (b ++ f0 :: tailB n t) := fun f0 => by
    rw [wire_Number.j0]
    unfold slices_Clone_byte_byte.f
    rw [if_pos (by omega), Option.bind_some, if_pos (by omega)]
    have := num_l0 n (t : Int) (by omega) k t (b ++ [f0]) (by omega) (by omega) (by simp; omega)
    rw [Int.sub_self] at this
    rw [ht, this]
    simp
  unfold wire_Number.f
  rw [extra_f n h0 h1 _ (by omega), Option.bind_some, if_pos (by omega), e1, e2, ones_shl t (by omega)]
  unfold encN
  rw [show (exN n).toNat = t by omega]
  by_cases h8 : exN n < 8
  · rw [if_pos h8, if_pos h8, if_pos (by omega), hj]
    rfl
  · rw [if_neg h8, if_neg h8, hj]
theorem ref_l0 (n : Int) (t : Nat) (ht : t ≤ 8) (b : List Int) (hb : b.length ≤ 140737488355300) : ∀ (k i : Nat), i ≤ t → t - i + 12 < k →
    pannierref02_Number.l0 k n b (t : Int) (onesV i) (i : Int) = some (b ++ (if t < 8 then Go.bits .or .u8 (onesV t) (gB n t) else onesV t) :: tailB n t)
  | 0, i, _, h => by omega
  | k + 1, i, hi, h => by
    have hj : ∀ f0 : Int, pannierref02_Number.j1 k n b (t : Int) f0 = some (b ++ f0 :: tailB n t) := fun f0 => by
      obtain ⟨k, rfl⟩ : ∃ m, k = m + 1 := ⟨k - 1, by omega⟩
      have := num_l1 n k t (b ++ [f0]) (by omega) (by omega) (by simp; omega)
      rw [pannierref02_Number.j1, if_pos (by omega), w_id (by omega), this]
      simp
    rw [pannierref02_Number.l0]
    by_cases hlt : i < t
    · have e2 : wrap64 ((i : Int) + 1) = ((i + 1 : Nat) : Int) := by rw [w_id (by omega)]; omega
      rw [if_pos (by omega), if_pos (by omega), ones_step i (by omega), e2, ref_l0 n t ht b hb k (i + 1) (by omega) (by omega)]
    · obtain rfl : i = t := by omega
      have e2 : wrap64 (8 * (i : Int)) = 8 * (i : Int) := w_id (by omega)
      rw [if_neg (by omega), e2]
      by_cases h8 : i < 8
      · rw [if_pos (by omega), if_pos (by omega), hj, if_pos h8]
        rfl
      · rw [if_neg (by omega), hj, if_neg h8]
theorem refNumber_f (n : Int) (h0 : 0 ≤ n) (b : List Int) (hb : b.length ≤ 140737488355300) (k : Nat) (hk : 40 ≤ k) : pannierref02_Number.f k b n = some (b ++ encN n) := by
  have hr := exN_range n
  obtain ⟨t, ht⟩ : ∃ t : Nat, exN n = (t : Int) := ⟨(exN n).toNat, by omega⟩
  have e1 : wrap64 ((b.length : Int) + 9) = (b.length : Int) + 9 := w_id (by omega)
  unfold pannierref02_Number.f
  rw [e1, if_pos (by omega), if_pos (by omega), Option.bind_some, if_pos (by simp; omega), follow_f n h0 k (by omega), Option.bind_some, ht]
  have := ref_l0 n t (by omega) b hb k 0 (by omega) (by omega)
  simp only [List.nil_append]
  refine this.trans ?_
  unfold encN
  rw [ht, Int.toNat_natCast]
  congr 2
  by_cases h8 : t < 8
  · rw [if_pos h8, if_pos (by omega)]
  · rw [if_neg h8, if_neg (by omega)]
end Go.Proofs.Ytnnlpelogabokaa.PB
