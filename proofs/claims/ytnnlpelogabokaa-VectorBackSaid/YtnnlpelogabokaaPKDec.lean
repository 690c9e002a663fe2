/- A number is read from bytes: the program and the reference read the same. No condition but that bytes are bytes, and the sizes that a machine has. -/
import Derived.Test.YtnnlpelogabokaaPKx7
import Derived.Test.YtnnlpelogabokaaPKx6
import Derived.Test.YtnnlpelogabokaaPKEnc


namespace Go.Proofs.Ytnnlpelogabokaa.PK
open Go.RowKit Go.Proofs.YtnnlpelogabokaaW.PrintWords Go.Proofs.YtnnlpelogabokaaW.PrintLast Go.Proofs.YtnnlpelogabokaaW.PrintMore Go.Proofs.Ytnnlpelogabokaa.XW

def bitV (x : Int) (k : Nat) : Bool := decide (Go.bits .and .u8 (shr .u8 x (7 - (k : Int))) 1 = 1)
def rl (x : Int) : Nat → Nat → Nat
  | 0, k => k
  | f + 1, k => if bitV x k = true then rl x f (k + 1) else k
def lo (x : Int) : Nat := rl x 8 0
def iniV (x : Int) : Int := IntKind.u64.wrap (Go.bits .and .u8 x (shr .u8 127 (lo x : Int)))
theorem lz_ok : ∀ x : Nat, x < 256 → bits_LeadingZeros8.f (Go.bits .xor .u8 255 (x : Int)) = some (lo (x : Int) : Int) := by decide +kernel
theorem ini_ok : ∀ x : Nat, x < 256 → lo (x : Int) ≤ 8 ∧ 0 ≤ iniV (x : Int) ∧ iniV (x : Int) < 256 ∧ (lo (x : Int) < 7 → Go.bits .and .u64 (IntKind.u64.wrap (x : Int)) (IntKind.u64.wrap ((shl .u64 1 (7 - (lo (x : Int) : Int))) - 1)) = iniV (x : Int)) ∧ (¬ lo (x : Int) < 7 → iniV (x : Int) = 0) := by decide +kernel

def isB (l : List Int) : Prop := ∀ x, x ∈ l → 0 ≤ x ∧ x ≤ 255
theorem rd_B {l : List Int} (h : isB l) (i : Int) : 0 ≤ rd l i ∧ rd l i ≤ 255 := by
  unfold rd
  by_cases hi : i.toNat < l.length
  · rw [show l.getD i.toNat 0 = l[i.toNat] by simp [List.getD, hi]]
    exact h _ (List.getElem_mem hi)
  · rw [show l.getD i.toNat 0 = 0 by simp [List.getD, hi]]
    omega

def dec (b : List Int) : Nat → Int → Int → Int
  | 0, _, n => n
  | c + 1, p, n => dec b c (p + 1) (Go.bits .or .u64 (IntKind.u64.wrap (n * 256)) (IntKind.u64.wrap (rd b p)))
theorem dec_range (b : List Int) : ∀ (c : Nat) (p n : Int), 0 ≤ n → n < 18446744073709551616 → 0 ≤ dec b c p n ∧ dec b c p n < 18446744073709551616
  | 0, _, n, h0, h1 => ⟨h0, h1⟩
  | c + 1, p, n, _, _ => by
    have := bits_within .or .u64 (IntKind.u64.wrap (n * 256)) (IntKind.u64.wrap (rd b p))
    have e1 : IntKind.min .u64 = 0 := rfl
    have e2 : IntKind.max .u64 = 18446744073709551615 := rfl
    rw [e1, e2] at this
    exact dec_range b c (p + 1) _ this.1 (by omega)

def takeS (b : List Int) (p : Int) : Int × Int × Int :=
  if p < 0 then (0, 0, 20) else if (b.length : Int) ≤ p then (0, 0, 20) else if (b.length : Int) - p ≤ (lo (rd b p) : Int) then (0, 0, 20)
  else if exN (dec b (lo (rd b p)) (p + 1) (iniV (rd b p))) = (lo (rd b p) : Int) then (dec b (lo (rd b p)) (p + 1) (iniV (rd b p)), p + 1 + (lo (rd b p) : Int), 0) else (0, 0, 20)

theorem take_l0 (b : List Int) (hb : b.length ≤ 140737488355300) (p : Int) (h0 : 0 ≤ p) (t : Nat) (ht : t ≤ 8) (hlt : p + 1 + (t : Int) ≤ (b.length : Int)) : ∀ (k c : Nat) (n : Int), c ≤ t → c + 2 < k → 0 ≤ n → n < 18446744073709551616 →
    wire_TakeNumber.l0 k b p (t : Int) n (t : Int) ((t : Int) - (c : Int)) = some (if exN (dec b c (p + 1 + ((t : Int) - (c : Int))) n) = (t : Int) then (dec b c (p + 1 + ((t : Int) - (c : Int))) n, p + 1 + (t : Int), 0) else (0, 0, 20))
  | 0, c, n, _, h, _, _ => by omega
  | k + 1, 0, n, hc, h, n0, n1 => by
    have e1 : wrap64 (wrap64 (p + 1) + (t : Int)) = p + 1 + (t : Int) := by rw [w_id (u := p + 1) (by omega), w_id (by omega)]
    rw [wire_TakeNumber.l0, if_neg (by omega), extra_f n n0 n1 k (by omega), Option.bind_some, dec, e1]
    split <;> rfl
  | k + 1, c + 1, n, hc, h, n0, n1 => by
    have e1 : wrap64 (wrap64 (p + 1) + ((t : Int) - ((c + 1 : Nat) : Int))) = p + 1 + ((t : Int) - ((c + 1 : Nat) : Int)) := by rw [w_id (u := p + 1) (by omega), w_id (by omega)]
    have e2 : wrap64 ((t : Int) - ((c + 1 : Nat) : Int) + 1) = (t : Int) - (c : Int) := by rw [w_id (by omega)]; omega
    have hr := dec_range b 1 (p + 1 + ((t : Int) - ((c + 1 : Nat) : Int))) n n0 n1
    simp only [dec] at hr
    rw [wire_TakeNumber.l0, if_pos (by omega), e1, if_pos (by omega), if_pos (by omega), e2, take_l0 b hb p h0 t ht hlt k c _ (by omega) (by omega) hr.1 hr.2, dec]
    rw [show p + 1 + ((t : Int) - ((c + 1 : Nat) : Int)) + 1 = p + 1 + ((t : Int) - (c : Int)) by omega]
theorem takeNumber_f (b : List Int) (hB : isB b) (hb : b.length ≤ 140737488355300) (p : Int) (k : Nat) (hk : 20 ≤ k) : wire_TakeNumber.f k b p = some (takeS b p) := by
  obtain ⟨k, rfl⟩ : ∃ m, k = m + 1 := ⟨k - 1, by omega⟩
  have bad : wire_TakeNumber.j0 (k + 1) b p true = some (0, 0, 20) := by rw [wire_TakeNumber.j0, if_pos rfl]
  unfold wire_TakeNumber.f takeS
  by_cases h0 : p < 0
  · rw [if_pos h0, if_pos h0, bad]
  rw [if_neg h0, if_neg h0]
  by_cases h1 : (b.length : Int) ≤ p
  · rw [if_pos h1, show decide (p ≥ (b.length : Int)) = true from by simpa using h1, bad]
  rw [if_neg h1, show decide (p ≥ (b.length : Int)) = false from by simpa using h1]
  have hx := rd_B hB p
  obtain ⟨x, hx2⟩ : ∃ x : Nat, rd b p = (x : Int) := ⟨(rd b p).toNat, by omega⟩
  have hz := lz_ok x (by omega)
  have hi := ini_ok x (by omega)
  rw [wire_TakeNumber.j0, if_neg (by decide), if_pos (by omega), if_pos (by omega), hx2, hz, Option.bind_some, w_id (u := (b.length : Int) - p) (by omega)]
  by_cases h2 : (b.length : Int) - p ≤ (lo (x : Int) : Int)
  · rw [if_pos h2, if_pos h2]
  rw [if_neg h2, if_neg h2, if_pos (by omega)]
  have := take_l0 b hb p (by omega) (lo (x : Int)) hi.1 (by omega) k (lo (x : Int)) (iniV (x : Int)) (Nat.le_refl _) (by omega) hi.2.1 (by omega)
  rw [Int.sub_self] at this
  refine this.trans ?_
  rw [Int.add_zero]

end Go.Proofs.Ytnnlpelogabokaa.PK
