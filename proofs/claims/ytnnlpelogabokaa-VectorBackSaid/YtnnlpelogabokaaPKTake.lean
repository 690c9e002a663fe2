/- pannierlaw07.VectorBytes: texts and vectors are read the same from bytes. No condition but that bytes are bytes, and the sizes that a machine has. -/
import Derived.Test.YtnnlpelogabokaaPKx7
import Derived.Test.YtnnlpelogabokaaPKx6
import Derived.Test.YtnnlpelogabokaaPKLaw
namespace Go.Proofs.Ytnnlpelogabokaa.PK
open Go.RowKit Go.Proofs.YtnnlpelogabokaaW.PrintWords Go.Proofs.YtnnlpelogabokaaW.PrintLast Go.Proofs.YtnnlpelogabokaaW.PrintMore Go.Proofs.Ytnnlpelogabokaa.XW

theorem takeS_ok {b : List Int} (hB : isB b) {p : Int} (h : (takeS b p).2.2 = 0) : 0 ≤ (takeS b p).2.1 ∧ (takeS b p).2.1 ≤ (b.length : Int) ∧ 0 ≤ (takeS b p).1 ∧ (takeS b p).1 < 18446744073709551616 := by
  have hx := rd_B hB p
  obtain ⟨x, hx2⟩ : ∃ x : Nat, rd b p = (x : Int) := ⟨(rd b p).toNat, by omega⟩
  have hi := ini_ok x (by omega)
  have hd := dec_range b (lo (x : Int)) (p + 1) (iniV (x : Int)) hi.2.1 (by omega)
  unfold takeS at h ⊢
  rw [hx2] at h ⊢
  by_cases h0 : p < 0
  · rw [if_pos h0] at h; cases h
  rw [if_neg h0] at h ⊢
  by_cases h1 : (b.length : Int) ≤ p
  · rw [if_pos h1] at h; cases h
  rw [if_neg h1] at h ⊢
  by_cases h2 : (b.length : Int) - p ≤ (lo (x : Int) : Int)
  · rw [if_pos h2] at h; cases h
  rw [if_neg h2] at h ⊢
  by_cases h3 : exN (dec b (lo (x : Int)) (p + 1) (iniV (x : Int))) = (lo (x : Int) : Int)
  · rw [if_pos h3]
    exact ⟨by simp only []; omega, by simp only []; omega, hd.1, hd.2⟩
  · rw [if_neg h3] at h; cases h
def textT (b : List Int) (p : Int) : ByteArray × Int × Int :=
  if (takeS b p).2.2 = 0 then (if (takeS b p).1 > 24 then (⟨#[]⟩, 0, 20) else if (takeS b p).1 > (b.length : Int) - (takeS b p).2.1 then (⟨#[]⟩, 0, 20)
    else (strOfNums ((b.take ((takeS b p).2.1 + (takeS b p).1).toNat).drop (takeS b p).2.1.toNat), (takeS b p).2.1 + (takeS b p).1, 0)) else (⟨#[]⟩, 0, 20)
theorem takeText_f (b : List Int) (hB : isB b) (hb : b.length ≤ 140737488355300) (p : Int) (k : Nat) (hk : 20 ≤ k) : wire_TakeText.f k b p 24 = some (textT b p) := by
  unfold wire_TakeText.f textT
  rw [takeNumber_f b hB hb p k hk, Option.bind_some]
  by_cases h : (takeS b p).2.2 = 0
  case neg => rw [if_neg h, if_neg h]
  have ho := takeS_ok hB h
  rw [if_pos h, if_pos h, if_neg (by decide), u_id (u := 24) (by omega) (by omega)]
  by_cases h1 : (takeS b p).1 > 24
  · rw [if_pos h1, if_pos h1]
  rw [if_neg h1, if_neg h1, w_id (u := (b.length : Int) - (takeS b p).2.1) (by omega), u_id (by omega) (by omega)]
  by_cases h2 : (takeS b p).1 > (b.length : Int) - (takeS b p).2.1
  · rw [if_pos h2, if_pos h2]
  rw [if_neg h2, if_neg h2, if_pos (by omega), w_id (u := (takeS b p).1) (by omega), w_id (by omega), if_pos (by omega), if_pos (by omega)]
def tl (b : List Int) : Nat → Int → List S35 → List S35 × Int × Int
  | 0, p, v => if rightS v = true then (v, p, 0) else ([], 0, 70)
  | c + 1, p, v => if (textT b p).2.2 = 0 then (if (takeS b (textT b p).2.1).2.2 = 0 then (if (takeS b (textT b p).2.1).1 > 4611686018427387904 then ([], 0, 70)
      else tl b c (takeS b (textT b p).2.1).2.1 (v ++ [⟨(textT b p).1, wrap64 (takeS b (textT b p).2.1).1⟩])) else ([], 0, 70)) else ([], 0, 70)
theorem take_loop (b : List Int) (hB : isB b) (hb : b.length ≤ 140737488355300) (n : Nat) (hn : n ≤ 64) : ∀ (k c : Nat) (p : Int) (v : List S35), c ≤ n → v.length + c ≤ 64 → c + 200 < k →
    vector_Take.l0 k b p v (n : Int) ((n : Int) - (c : Int)) = some (tl b c p v)
  | 0, c, p, v, _, _, h => by omega
  | k + 1, 0, p, v, hc, hv, h => by
    rw [vector_Take.l0, if_neg (by omega), right_f v (by omega) k (by omega), Option.bind_some, tl]
    split <;> rfl
  | k + 1, c + 1, p, v, hc, hv, h => by
    have e2 : IntKind.u64.wrap ((n : Int) - ((c + 1 : Nat) : Int) + 1) = (n : Int) - (c : Int) := by rw [u_id (by omega) (by omega)]; omega
    rw [vector_Take.l0, if_pos (by omega), takeText_f b hB hb p k (by omega), Option.bind_some, tl, takeNumber_f b hB hb _ k (by omega), Option.bind_some, e2]
    by_cases h1 : (textT b p).2.2 = 0
    case neg => rw [if_neg h1, if_neg h1]
    rw [if_pos h1, if_pos h1]
    by_cases h2 : (takeS b (textT b p).2.1).2.2 = 0
    case neg => rw [if_neg h2, if_neg h2]
    rw [if_pos h2, if_pos h2]
    by_cases h3 : (takeS b (textT b p).2.1).1 > 4611686018427387904
    · rw [if_pos h3, if_pos h3]
    rw [if_neg h3, if_neg h3, if_pos (by omega), take_loop b hB hb n hn k c _ _ (by omega) (by simp; omega) (by omega)]
def vecS (b : List Int) (p : Int) : List S35 × Int × Int :=
  if (takeS b p).2.2 = 0 then (if (takeS b p).1 > 64 then ([], 0, 70) else tl b (takeS b p).1.toNat (takeS b p).2.1 []) else ([], 0, 70)
theorem take_f (b : List Int) (hB : isB b) (hb : b.length ≤ 140737488355300) (p : Int) (k : Nat) (hk : 300 < k) : vector_Take.f k b p = some (vecS b p) := by
  obtain ⟨k, rfl⟩ : ∃ m, k = m + 1 := ⟨k - 1, by omega⟩
  have bad : ∀ x y : Int, vector_Take.j0 (k + 1) b x y true = some ([], 0, 70) := fun x y => by rw [vector_Take.j0, if_pos rfl]
  unfold vector_Take.f vecS
  rw [takeNumber_f b hB hb p _ (by omega), Option.bind_some]
  by_cases h : (takeS b p).2.2 = 0
  case neg => rw [if_neg h, if_neg h, bad]
  have ho := takeS_ok hB h
  rw [if_pos h, if_pos h]
  by_cases h1 : (takeS b p).1 > 64
  · rw [if_pos h1, show decide ((takeS b p).1 > 64) = true from decide_eq_true h1, bad]
  rw [if_neg h1, show decide ((takeS b p).1 > 64) = false from decide_eq_false h1, vector_Take.j0, if_neg (by decide)]
  obtain ⟨n, hn⟩ : ∃ n : Nat, (takeS b p).1 = (n : Int) := ⟨(takeS b p).1.toNat, by omega⟩
  have := take_loop b hB hb n (by omega) k n (takeS b p).2.1 [] (Nat.le_refl _) (by simp; omega) (by omega)
  rw [Int.sub_self] at this
  rw [hn, this]
  rfl

theorem textT_size (b : List Int) (p : Int) : (textT b p).1.size ≤ b.length := by
  unfold textT
  split
  · split
    · exact Nat.zero_le _
    · split
      · exact Nat.zero_le _
      · show (strOfNums _).size ≤ _
        rw [strOfNums_size, List.length_drop, List.length_take]
        omega
  · exact Nat.zero_le _
theorem tl_len (b : List Int) : ∀ (c : Nat) (p : Int) (v : List S35), v.length + c ≤ 64 → (tl b c p v).1.length ≤ 64
  | 0, p, v, h => by
    unfold tl
    split
    · simp only []; omega
    · simp
  | c + 1, p, v, h => by
    unfold tl
    split
    · split
      · split
        · simp
        · exact tl_len b c _ _ (by simp; omega)
      · simp
    · simp
theorem vecS_len (b : List Int) (hB : isB b) (p : Int) : (vecS b p).1.length ≤ 64 := by
  unfold vecS
  split
  · split
    · simp
    · exact tl_len b _ _ _ (by simp; omega)
  · simp

end Go.Proofs.Ytnnlpelogabokaa.PK
