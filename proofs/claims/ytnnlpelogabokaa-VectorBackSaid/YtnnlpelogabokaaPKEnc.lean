/- A number's bytes: the program and the reference lay the same. No condition but the sizes that a machine has. -/
import Derived.Test.YtnnlpelogabokaaPKNum
namespace Go.Proofs.Ytnnlpelogabokaa.PK
open Go.RowKit Go.Proofs.YtnnlpelogabokaaW.PrintWords Go.Proofs.YtnnlpelogabokaaW.PrintLast Go.Proofs.YtnnlpelogabokaaW.PrintMore Go.Proofs.Ytnnlpelogabokaa.XW

theorem w_id {u : Int} (h : -9223372036854775808 ≤ u ∧ u ≤ 9223372036854775807) : wrap64 u = u := by unfold wrap64; omega
def pw (j : Nat) : Int := 2 ^ j
theorem shr64 (n : Int) (j : Nat) (h : j ≤ 64) : shr .u64 n (j : Int) = n / 2 ^ j := by
  unfold shr
  rw [show min ((j : Int).toNat) (IntKind.bits .u64) = j from by rw [Int.toNat_natCast]; exact Nat.min_eq_left h]

/-! ### the bytes -/
def gB (n : Int) (j : Nat) : Int := shr .u64 n (8 * (j : Int)) % 256
def tailB (n : Int) : Nat → List Int
  | 0 => []
  | j + 1 => gB n j :: tailB n j
theorem tailB_len (n : Int) : ∀ j, (tailB n j).length = j
  | 0 => rfl
  | j + 1 => by simp [tailB, tailB_len n j]
def onesV : Nat → Int
  | 0 => 0 | 1 => 128 | 2 => 192 | 3 => 224 | 4 => 240 | 5 => 248 | 6 => 252 | 7 => 254 | _ => 255
theorem ones_shl : ∀ t : Nat, t ≤ 8 → shl .u8 255 (8 - (t : Int)) = onesV t := by decide
theorem ones_step : ∀ i : Nat, i < 8 → Go.bits .or .u8 (onesV i) (shr .u8 128 (i : Int)) = onesV (i + 1) := by decide
def encN (n : Int) : List Int := (if exN n < 8 then Go.bits .or .u8 (onesV (exN n).toNat) (gB n (exN n).toNat) else onesV (exN n).toNat) :: tailB n (exN n).toNat
theorem encN_len (n : Int) : (encN n).length ≤ 9 := by
  have := exN_range n
  simp only [encN, List.length_cons, tailB_len]
  omega

theorem num_l0 (n t : Int) (ht : t ≤ 8) : ∀ (k j : Nat) (out : List Int), (j : Int) ≤ t → j < k → out.length + j < 140737488355328 → wire_Number.l0 k n t out t (t - (j : Int)) = some (out ++ tailB n j)
  | 0, j, out, _, h, _ => by omega
  | k + 1, 0, out, hj, h, hl => by
    rw [wire_Number.l0, if_neg (by omega)]
    simp [tailB]
  | k + 1, j + 1, out, hj, h, hl => by
    have e1 : wrap64 (8 * wrap64 (wrap64 (t - 1) - (t - ((j + 1 : Nat) : Int)))) = 8 * (j : Int) := by
      rw [w_id (u := t - 1) (by omega), w_id (u := t - 1 - (t - ((j + 1 : Nat) : Int))) (by omega), w_id (by omega)]
      omega
    have e2 : wrap64 (t - ((j + 1 : Nat) : Int) + 1) = t - (j : Int) := by rw [w_id (by omega)]; omega
    rw [wire_Number.l0, if_pos (by omega), e1, if_pos (by omega), if_pos (by omega), e2, num_l0 n t ht k j _ (by omega) (by omega) (by simp; omega)]
    simp [tailB, gB]
theorem number_f (n : Int) (h0 : 0 ≤ n) (h1 : n < 18446744073709551616) (b : List Int) (hb : b.length ≤ 140737488355300) (k : Nat) (hk : 20 ≤ k) : wire_Number.f k b n = some (b ++ encN n) := by
  obtain ⟨k, rfl⟩ : ∃ m, k = m + 1 := ⟨k - 1, by omega⟩
  have hr := exN_range n
  obtain ⟨t, ht⟩ : ∃ t : Nat, exN n = (t : Int) := ⟨(exN n).toNat, by omega⟩
  have e1 : wrap64 (8 - exN n) = 8 - (t : Int) := by rw [w_id (by omega), ht]
  have e2 : wrap64 (8 * exN n) = 8 * (t : Int) := by rw [w_id (by omega), ht]
  have hj : ∀ f0 : Int, wire_Number.j0 (k + 1) b n (exN n) f0 = some (b ++ f0 :: tailB n t) := fun f0 => by
    rw [wire_Number.j0]
    unfold slices_Clone_byte_byte.f
    rw [if_pos (by omega), Option.bind_some, if_pos (by omega)]
    have := num_l0 n (t : Int) (by omega) k t (b ++ [f0]) (by omega) (by omega) (by simp; omega)
    rw [Int.sub_self] at this
    rw [ht, this]
    simp
  unfold wire_Number.f
  rw [extra_f n h0 h1 _ (by omega), Option.bind_some, if_pos (by omega), e1, e2, ones_shl t (by omega)]
  unfold encN
  rw [show (exN n).toNat = t by omega]
  by_cases h8 : exN n < 8
  · rw [if_pos h8, if_pos h8, if_pos (by omega), hj]
    rfl
  · rw [if_neg h8, if_neg h8, hj]
end Go.Proofs.Ytnnlpelogabokaa.PK
