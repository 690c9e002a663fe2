/- How many bytes follow a number's first one: the program's way, by a table, and the reference's loop, say the same. No condition but the numbers' kinds. -/
import Derived.Test.YtnnlpelogabokaaPKx6
import Derived.Test.YtnnlpelogabokaaPKx7


namespace Go.Proofs.Ytnnlpelogabokaa.PK
open Go.RowKit Go.Proofs.YtnnlpelogabokaaW.PrintWords Go.Proofs.YtnnlpelogabokaaW.PrintLast Go.Proofs.YtnnlpelogabokaaW.PrintMore Go.Proofs.Ytnnlpelogabokaa.XW

/-- How many bytes follow a number's first one. -/
def exN (n : Int) : Int := if n < 128 then 0 else if n < 16384 then 1 else if n < 2097152 then 2 else if n < 268435456 then 3 else if n < 34359738368 then 4 else if n < 4398046511104 then 5 else if n < 562949953421312 then 6 else if n < 72057594037927936 then 7 else 8
theorem ex_0 {n : Int} (h1 : n < 128) : exN n = 0 := by
  unfold exN
  rw [if_pos (by omega)]
theorem ex_1 {n : Int} (h0 : 128 ≤ n) (h1 : n < 16384) : exN n = 1 := by
  unfold exN
  rw [if_neg (by omega), if_pos (by omega)]
theorem ex_2 {n : Int} (h0 : 16384 ≤ n) (h1 : n < 2097152) : exN n = 2 := by
  unfold exN
  rw [if_neg (by omega), if_neg (by omega), if_pos (by omega)]
theorem ex_3 {n : Int} (h0 : 2097152 ≤ n) (h1 : n < 268435456) : exN n = 3 := by
  unfold exN
  rw [if_neg (by omega), if_neg (by omega), if_neg (by omega), if_pos (by omega)]
theorem ex_4 {n : Int} (h0 : 268435456 ≤ n) (h1 : n < 34359738368) : exN n = 4 := by
  unfold exN
  rw [if_neg (by omega), if_neg (by omega), if_neg (by omega), if_neg (by omega), if_pos (by omega)]
theorem ex_5 {n : Int} (h0 : 34359738368 ≤ n) (h1 : n < 4398046511104) : exN n = 5 := by
  unfold exN
  rw [if_neg (by omega), if_neg (by omega), if_neg (by omega), if_neg (by omega), if_neg (by omega), if_pos (by omega)]
theorem ex_6 {n : Int} (h0 : 4398046511104 ≤ n) (h1 : n < 562949953421312) : exN n = 6 := by
  unfold exN
  rw [if_neg (by omega), if_neg (by omega), if_neg (by omega), if_neg (by omega), if_neg (by omega), if_neg (by omega), if_pos (by omega)]
theorem ex_7 {n : Int} (h0 : 562949953421312 ≤ n) (h1 : n < 72057594037927936) : exN n = 7 := by
  unfold exN
  rw [if_neg (by omega), if_neg (by omega), if_neg (by omega), if_neg (by omega), if_neg (by omega), if_neg (by omega), if_neg (by omega), if_pos (by omega)]
theorem ex_8 {n : Int} (h0 : 72057594037927936 ≤ n) : exN n = 8 := by
  unfold exN
  rw [if_neg (by omega), if_neg (by omega), if_neg (by omega), if_neg (by omega), if_neg (by omega), if_neg (by omega), if_neg (by omega), if_neg (by omega)]
theorem exN_range (n : Int) : 0 ≤ exN n ∧ exN n ≤ 8 := by
  unfold exN
  repeat' split
  all_goals omega

def tabOk (x t : Int) : Prop := (x = 0 ∧ t = 0) ∨ (x = 1 ∧ t = 1) ∨ (2 ≤ x ∧ x < 4 ∧ t = 2) ∨ (4 ≤ x ∧ x < 8 ∧ t = 3) ∨ (8 ≤ x ∧ x < 16 ∧ t = 4) ∨ (16 ≤ x ∧ x < 32 ∧ t = 5) ∨ (32 ≤ x ∧ x < 64 ∧ t = 6) ∨ (64 ≤ x ∧ x < 128 ∧ t = 7) ∨ (128 ≤ x ∧ x < 256 ∧ t = 8)
def TAB : ByteArray := (⟨#[0, 1, 2, 2, 3, 3, 3, 3, 4, 4, 4, 4, 4, 4, 4, 4, 5, 5, 5, 5, 5, 5, 5, 5, 5, 5, 5, 5, 5, 5, 5, 5, 6, 6, 6, 6, 6, 6, 6, 6, 6, 6, 6, 6, 6, 6, 6, 6, 6, 6, 6, 6, 6, 6, 6, 6, 6, 6, 6, 6, 6, 6, 6, 6, 7, 7, 7, 7, 7, 7, 7, 7, 7, 7, 7, 7, 7, 7, 7, 7, 7, 7, 7, 7, 7, 7, 7, 7, 7, 7, 7, 7, 7, 7, 7, 7, 7, 7, 7, 7, 7, 7, 7, 7, 7, 7, 7, 7, 7, 7, 7, 7, 7, 7, 7, 7, 7, 7, 7, 7, 7, 7, 7, 7, 7, 7, 7, 7, 8, 8, 8, 8, 8, 8, 8, 8, 8, 8, 8, 8, 8, 8, 8, 8, 8, 8, 8, 8, 8, 8, 8, 8, 8, 8, 8, 8, 8, 8, 8, 8, 8, 8, 8, 8, 8, 8, 8, 8, 8, 8, 8, 8, 8, 8, 8, 8, 8, 8, 8, 8, 8, 8, 8, 8, 8, 8, 8, 8, 8, 8, 8, 8, 8, 8, 8, 8, 8, 8, 8, 8, 8, 8, 8, 8, 8, 8, 8, 8, 8, 8, 8, 8, 8, 8, 8, 8, 8, 8, 8, 8, 8, 8, 8, 8, 8, 8, 8, 8, 8, 8, 8, 8, 8, 8, 8, 8, 8, 8, 8, 8, 8, 8, 8, 8, 8, 8, 8, 8, 8, 8, 8, 8, 8, 8, 8, 8]⟩ : ByteArray)
theorem tab_ok : ∀ x : Nat, x < 256 → tabOk x (bt TAB x) := by unfold tabOk; decide +kernel
theorem tab_at (x : Int) (h0 : 0 ≤ x) (h1 : x < 256) : tabOk x (bt TAB x) := by
  have := tab_ok x.toNat (by omega)
  rwa [Int.toNat_of_nonneg h0] at this
theorem w_small {u : Int} (h0 : 0 ≤ u) (h1 : u ≤ 1000) : wrap64 u = u := by unfold wrap64; omega
theorem extra_of (u v : Int) (h0 : 0 ≤ u) (h1 : u ≤ 64) (hv : v = (if u = 0 then 0 else if 56 < u then 8 else (u - 1) / 7)) : mn 8 (wrap64 ((mx 0 (wrap64 (u - 1))) / 7)) = v := by
  have e : wrap64 (u - 1) = u - 1 := by unfold wrap64; omega
  have e2 : mx 0 (u - 1) = if u = 0 then 0 else u - 1 := by
    unfold mx
    split <;> split <;> omega
  rw [e, e2, hv]
  by_cases hu : u = 0
  · subst hu
    rw [if_pos rfl, if_pos rfl, w_small (by decide) (by decide)]
    rfl
  · rw [if_neg hu, if_neg hu, w_small (by omega) (by omega)]
    unfold mn
    split <;> split <;> omega
theorem len_0 (x t n : Int) (ht : tabOk x t) (h1 : x * 1 ≤ n) (h2 : n < (x + 1) * 1) : mn 8 (wrap64 ((mx 0 (wrap64 (0 + t - 1))) / 7)) = exN n := by
  rcases ht with ⟨rfl, rfl⟩ | ⟨rfl, rfl⟩ | ⟨h3, h4, rfl⟩ | ⟨h3, h4, rfl⟩ | ⟨h3, h4, rfl⟩ | ⟨h3, h4, rfl⟩ | ⟨h3, h4, rfl⟩ | ⟨h3, h4, rfl⟩ | ⟨h3, h4, rfl⟩
  · rw [ex_0 (by omega), extra_of (0 + 0) 0 (by decide) (by decide) (by decide)]
  · rw [ex_0 (by omega), extra_of (0 + 1) 0 (by decide) (by decide) (by decide)]
  · rw [ex_0 (by omega), extra_of (0 + 2) 0 (by decide) (by decide) (by decide)]
  · rw [ex_0 (by omega), extra_of (0 + 3) 0 (by decide) (by decide) (by decide)]
  · rw [ex_0 (by omega), extra_of (0 + 4) 0 (by decide) (by decide) (by decide)]
  · rw [ex_0 (by omega), extra_of (0 + 5) 0 (by decide) (by decide) (by decide)]
  · rw [ex_0 (by omega), extra_of (0 + 6) 0 (by decide) (by decide) (by decide)]
  · rw [ex_0 (by omega), extra_of (0 + 7) 0 (by decide) (by decide) (by decide)]
  · rw [ex_1 (by omega) (by omega), extra_of (0 + 8) 1 (by decide) (by decide) (by decide)]
theorem len_8 (x t n : Int) (ht : tabOk x t) (h1 : x * 256 ≤ n) (h2 : n < (x + 1) * 256) (hx : 1 ≤ x) : mn 8 (wrap64 ((mx 0 (wrap64 (8 + t - 1))) / 7)) = exN n := by
  rcases ht with ⟨rfl, rfl⟩ | ⟨rfl, rfl⟩ | ⟨h3, h4, rfl⟩ | ⟨h3, h4, rfl⟩ | ⟨h3, h4, rfl⟩ | ⟨h3, h4, rfl⟩ | ⟨h3, h4, rfl⟩ | ⟨h3, h4, rfl⟩ | ⟨h3, h4, rfl⟩
  · omega
  · rw [ex_1 (by omega) (by omega), extra_of (8 + 1) 1 (by decide) (by decide) (by decide)]
  · rw [ex_1 (by omega) (by omega), extra_of (8 + 2) 1 (by decide) (by decide) (by decide)]
  · rw [ex_1 (by omega) (by omega), extra_of (8 + 3) 1 (by decide) (by decide) (by decide)]
  · rw [ex_1 (by omega) (by omega), extra_of (8 + 4) 1 (by decide) (by decide) (by decide)]
  · rw [ex_1 (by omega) (by omega), extra_of (8 + 5) 1 (by decide) (by decide) (by decide)]
  · rw [ex_1 (by omega) (by omega), extra_of (8 + 6) 1 (by decide) (by decide) (by decide)]
  · rw [ex_2 (by omega) (by omega), extra_of (8 + 7) 2 (by decide) (by decide) (by decide)]
  · rw [ex_2 (by omega) (by omega), extra_of (8 + 8) 2 (by decide) (by decide) (by decide)]
theorem len_16 (x t n : Int) (ht : tabOk x t) (h1 : x * 65536 ≤ n) (h2 : n < (x + 1) * 65536) (hx : 1 ≤ x) : mn 8 (wrap64 ((mx 0 (wrap64 (16 + t - 1))) / 7)) = exN n := by
  rcases ht with ⟨rfl, rfl⟩ | ⟨rfl, rfl⟩ | ⟨h3, h4, rfl⟩ | ⟨h3, h4, rfl⟩ | ⟨h3, h4, rfl⟩ | ⟨h3, h4, rfl⟩ | ⟨h3, h4, rfl⟩ | ⟨h3, h4, rfl⟩ | ⟨h3, h4, rfl⟩
  · omega
  · rw [ex_2 (by omega) (by omega), extra_of (16 + 1) 2 (by decide) (by decide) (by decide)]
  · rw [ex_2 (by omega) (by omega), extra_of (16 + 2) 2 (by decide) (by decide) (by decide)]
  · rw [ex_2 (by omega) (by omega), extra_of (16 + 3) 2 (by decide) (by decide) (by decide)]
  · rw [ex_2 (by omega) (by omega), extra_of (16 + 4) 2 (by decide) (by decide) (by decide)]
  · rw [ex_2 (by omega) (by omega), extra_of (16 + 5) 2 (by decide) (by decide) (by decide)]
  · rw [ex_3 (by omega) (by omega), extra_of (16 + 6) 3 (by decide) (by decide) (by decide)]
  · rw [ex_3 (by omega) (by omega), extra_of (16 + 7) 3 (by decide) (by decide) (by decide)]
  · rw [ex_3 (by omega) (by omega), extra_of (16 + 8) 3 (by decide) (by decide) (by decide)]
theorem len_24 (x t n : Int) (ht : tabOk x t) (h1 : x * 16777216 ≤ n) (h2 : n < (x + 1) * 16777216) (hx : 1 ≤ x) : mn 8 (wrap64 ((mx 0 (wrap64 (24 + t - 1))) / 7)) = exN n := by
  rcases ht with ⟨rfl, rfl⟩ | ⟨rfl, rfl⟩ | ⟨h3, h4, rfl⟩ | ⟨h3, h4, rfl⟩ | ⟨h3, h4, rfl⟩ | ⟨h3, h4, rfl⟩ | ⟨h3, h4, rfl⟩ | ⟨h3, h4, rfl⟩ | ⟨h3, h4, rfl⟩
  · omega
  · rw [ex_3 (by omega) (by omega), extra_of (24 + 1) 3 (by decide) (by decide) (by decide)]
  · rw [ex_3 (by omega) (by omega), extra_of (24 + 2) 3 (by decide) (by decide) (by decide)]
  · rw [ex_3 (by omega) (by omega), extra_of (24 + 3) 3 (by decide) (by decide) (by decide)]
  · rw [ex_3 (by omega) (by omega), extra_of (24 + 4) 3 (by decide) (by decide) (by decide)]
  · rw [ex_4 (by omega) (by omega), extra_of (24 + 5) 4 (by decide) (by decide) (by decide)]
  · rw [ex_4 (by omega) (by omega), extra_of (24 + 6) 4 (by decide) (by decide) (by decide)]
  · rw [ex_4 (by omega) (by omega), extra_of (24 + 7) 4 (by decide) (by decide) (by decide)]
  · rw [ex_4 (by omega) (by omega), extra_of (24 + 8) 4 (by decide) (by decide) (by decide)]
theorem len_32 (x t n : Int) (ht : tabOk x t) (h1 : x * 4294967296 ≤ n) (h2 : n < (x + 1) * 4294967296) (hx : 1 ≤ x) : mn 8 (wrap64 ((mx 0 (wrap64 (32 + t - 1))) / 7)) = exN n := by
  rcases ht with ⟨rfl, rfl⟩ | ⟨rfl, rfl⟩ | ⟨h3, h4, rfl⟩ | ⟨h3, h4, rfl⟩ | ⟨h3, h4, rfl⟩ | ⟨h3, h4, rfl⟩ | ⟨h3, h4, rfl⟩ | ⟨h3, h4, rfl⟩ | ⟨h3, h4, rfl⟩
  · omega
  · rw [ex_4 (by omega) (by omega), extra_of (32 + 1) 4 (by decide) (by decide) (by decide)]
  · rw [ex_4 (by omega) (by omega), extra_of (32 + 2) 4 (by decide) (by decide) (by decide)]
  · rw [ex_4 (by omega) (by omega), extra_of (32 + 3) 4 (by decide) (by decide) (by decide)]
  · rw [ex_5 (by omega) (by omega), extra_of (32 + 4) 5 (by decide) (by decide) (by decide)]
  · rw [ex_5 (by omega) (by omega), extra_of (32 + 5) 5 (by decide) (by decide) (by decide)]
  · rw [ex_5 (by omega) (by omega), extra_of (32 + 6) 5 (by decide) (by decide) (by decide)]
  · rw [ex_5 (by omega) (by omega), extra_of (32 + 7) 5 (by decide) (by decide) (by decide)]
  · rw [ex_5 (by omega) (by omega), extra_of (32 + 8) 5 (by decide) (by decide) (by decide)]
theorem len_40 (x t n : Int) (ht : tabOk x t) (h1 : x * 1099511627776 ≤ n) (h2 : n < (x + 1) * 1099511627776) (hx : 1 ≤ x) : mn 8 (wrap64 ((mx 0 (wrap64 (40 + t - 1))) / 7)) = exN n := by
  rcases ht with ⟨rfl, rfl⟩ | ⟨rfl, rfl⟩ | ⟨h3, h4, rfl⟩ | ⟨h3, h4, rfl⟩ | ⟨h3, h4, rfl⟩ | ⟨h3, h4, rfl⟩ | ⟨h3, h4, rfl⟩ | ⟨h3, h4, rfl⟩ | ⟨h3, h4, rfl⟩
  · omega
  · rw [ex_5 (by omega) (by omega), extra_of (40 + 1) 5 (by decide) (by decide) (by decide)]
  · rw [ex_5 (by omega) (by omega), extra_of (40 + 2) 5 (by decide) (by decide) (by decide)]
  · rw [ex_6 (by omega) (by omega), extra_of (40 + 3) 6 (by decide) (by decide) (by decide)]
  · rw [ex_6 (by omega) (by omega), extra_of (40 + 4) 6 (by decide) (by decide) (by decide)]
  · rw [ex_6 (by omega) (by omega), extra_of (40 + 5) 6 (by decide) (by decide) (by decide)]
  · rw [ex_6 (by omega) (by omega), extra_of (40 + 6) 6 (by decide) (by decide) (by decide)]
  · rw [ex_6 (by omega) (by omega), extra_of (40 + 7) 6 (by decide) (by decide) (by decide)]
  · rw [ex_6 (by omega) (by omega), extra_of (40 + 8) 6 (by decide) (by decide) (by decide)]
theorem len_48 (x t n : Int) (ht : tabOk x t) (h1 : x * 281474976710656 ≤ n) (h2 : n < (x + 1) * 281474976710656) (hx : 1 ≤ x) : mn 8 (wrap64 ((mx 0 (wrap64 (48 + t - 1))) / 7)) = exN n := by
  rcases ht with ⟨rfl, rfl⟩ | ⟨rfl, rfl⟩ | ⟨h3, h4, rfl⟩ | ⟨h3, h4, rfl⟩ | ⟨h3, h4, rfl⟩ | ⟨h3, h4, rfl⟩ | ⟨h3, h4, rfl⟩ | ⟨h3, h4, rfl⟩ | ⟨h3, h4, rfl⟩
  · omega
  · rw [ex_6 (by omega) (by omega), extra_of (48 + 1) 6 (by decide) (by decide) (by decide)]
  · rw [ex_7 (by omega) (by omega), extra_of (48 + 2) 7 (by decide) (by decide) (by decide)]
  · rw [ex_7 (by omega) (by omega), extra_of (48 + 3) 7 (by decide) (by decide) (by decide)]
  · rw [ex_7 (by omega) (by omega), extra_of (48 + 4) 7 (by decide) (by decide) (by decide)]
  · rw [ex_7 (by omega) (by omega), extra_of (48 + 5) 7 (by decide) (by decide) (by decide)]
  · rw [ex_7 (by omega) (by omega), extra_of (48 + 6) 7 (by decide) (by decide) (by decide)]
  · rw [ex_7 (by omega) (by omega), extra_of (48 + 7) 7 (by decide) (by decide) (by decide)]
  · rw [ex_7 (by omega) (by omega), extra_of (48 + 8) 7 (by decide) (by decide) (by decide)]
theorem len_56 (x t n : Int) (ht : tabOk x t) (h1 : x * 72057594037927936 ≤ n) (h2 : n < (x + 1) * 72057594037927936) (hx : 1 ≤ x) : mn 8 (wrap64 ((mx 0 (wrap64 (56 + t - 1))) / 7)) = exN n := by
  rcases ht with ⟨rfl, rfl⟩ | ⟨rfl, rfl⟩ | ⟨h3, h4, rfl⟩ | ⟨h3, h4, rfl⟩ | ⟨h3, h4, rfl⟩ | ⟨h3, h4, rfl⟩ | ⟨h3, h4, rfl⟩ | ⟨h3, h4, rfl⟩ | ⟨h3, h4, rfl⟩
  · omega
  · rw [ex_8 (by omega), extra_of (56 + 1) 8 (by decide) (by decide) (by decide)]
  · rw [ex_8 (by omega), extra_of (56 + 2) 8 (by decide) (by decide) (by decide)]
  · rw [ex_8 (by omega), extra_of (56 + 3) 8 (by decide) (by decide) (by decide)]
  · rw [ex_8 (by omega), extra_of (56 + 4) 8 (by decide) (by decide) (by decide)]
  · rw [ex_8 (by omega), extra_of (56 + 5) 8 (by decide) (by decide) (by decide)]
  · rw [ex_8 (by omega), extra_of (56 + 6) 8 (by decide) (by decide) (by decide)]
  · rw [ex_8 (by omega), extra_of (56 + 7) 8 (by decide) (by decide) (by decide)]
  · rw [ex_8 (by omega), extra_of (56 + 8) 8 (by decide) (by decide) (by decide)]

theorem Len64_f (n : Int) (h0 : 0 ≤ n) (h1 : n < 18446744073709551616) (k : Nat) : ∃ L, bits_Len64.f (k + 1) n = some L ∧ mn 8 (wrap64 ((mx 0 (wrap64 (L - 1))) / 7)) = exN n := by
  have leaf : ∀ (s x t : Int), tabOk x t → 0 ≤ s → s ≤ 56 → 0 ≤ t ∧ t ≤ 8 := fun s x t ht _ _ => by
    rcases ht with ⟨_, rfl⟩ | ⟨_, rfl⟩ | ⟨_, _, rfl⟩ | ⟨_, _, rfl⟩ | ⟨_, _, rfl⟩ | ⟨_, _, rfl⟩ | ⟨_, _, rfl⟩ | ⟨_, _, rfl⟩ | ⟨_, _, rfl⟩ <;> omega
  unfold bits_Len64.f
  by_cases c : n ≥ 4294967296
  · rw [if_pos c, bits_Len64.j0]
    by_cases d : n / 4294967296 ≥ 65536
    · rw [if_pos d]
      by_cases e : n / 4294967296 / 65536 ≥ 256
      · rw [if_pos e, if_pos (by omega), if_pos (by omega)]
        have ht := tab_at (n / 4294967296 / 65536 / 256 % 256) (by omega) (by omega)
        have hb := leaf 0 _ _ ht (by decide) (by decide)
        refine ⟨_, rfl, ?_⟩
        show mn 8 (wrap64 ((mx 0 (wrap64 (wrap64 (wrap64 (wrap64 (32 + 16) + 8) + wrap64 (bt TAB (n / 4294967296 / 65536 / 256 % 256))) - 1))) / 7)) = exN n
        have ea : wrap64 (wrap64 (32 + 16) + 8) = 56 := by unfold wrap64; decide
        rw [ea, w_small (u := bt TAB (n / 4294967296 / 65536 / 256 % 256)) hb.1 (by omega), w_small (u := 56 + bt TAB (n / 4294967296 / 65536 / 256 % 256)) (by omega) (by omega)]
        exact len_56 _ _ n ht (by omega) (by omega) (by omega)
      · rw [if_neg e, if_pos (by omega), if_pos (by omega)]
        have ht := tab_at ((n / 4294967296 / 65536) % 256) (by omega) (by omega)
        have hb := leaf 0 _ _ ht (by decide) (by decide)
        refine ⟨_, rfl, ?_⟩
        show mn 8 (wrap64 ((mx 0 (wrap64 (wrap64 (wrap64 (32 + 16) + wrap64 (bt TAB ((n / 4294967296 / 65536) % 256))) - 1))) / 7)) = exN n
        have ea : wrap64 (32 + 16) = 48 := by unfold wrap64; decide
        rw [ea, w_small (u := bt TAB ((n / 4294967296 / 65536) % 256)) hb.1 (by omega), w_small (u := 48 + bt TAB ((n / 4294967296 / 65536) % 256)) (by omega) (by omega)]
        exact len_48 _ _ n ht (by omega) (by omega) (by omega)
    · rw [if_neg d]
      by_cases e : n / 4294967296 ≥ 256
      · rw [if_pos e, if_pos (by omega), if_pos (by omega)]
        have ht := tab_at (n / 4294967296 / 256 % 256) (by omega) (by omega)
        have hb := leaf 0 _ _ ht (by decide) (by decide)
        refine ⟨_, rfl, ?_⟩
        show mn 8 (wrap64 ((mx 0 (wrap64 (wrap64 (wrap64 (32 + 8) + wrap64 (bt TAB (n / 4294967296 / 256 % 256))) - 1))) / 7)) = exN n
        have ea : wrap64 (32 + 8) = 40 := by unfold wrap64; decide
        rw [ea, w_small (u := bt TAB (n / 4294967296 / 256 % 256)) hb.1 (by omega), w_small (u := 40 + bt TAB (n / 4294967296 / 256 % 256)) (by omega) (by omega)]
        exact len_40 _ _ n ht (by omega) (by omega) (by omega)
      · rw [if_neg e, if_pos (by omega), if_pos (by omega)]
        have ht := tab_at ((n / 4294967296) % 256) (by omega) (by omega)
        have hb := leaf 0 _ _ ht (by decide) (by decide)
        refine ⟨_, rfl, ?_⟩
        show mn 8 (wrap64 ((mx 0 (wrap64 (wrap64 (32 + wrap64 (bt TAB ((n / 4294967296) % 256))) - 1))) / 7)) = exN n
        rw [w_small (u := bt TAB ((n / 4294967296) % 256)) hb.1 (by omega), w_small (u := 32 + bt TAB ((n / 4294967296) % 256)) (by omega) (by omega)]
        exact len_32 _ _ n ht (by omega) (by omega) (by omega)
  · rw [if_neg c, bits_Len64.j0]
    by_cases d : n ≥ 65536
    · rw [if_pos d]
      by_cases e : n / 65536 ≥ 256
      · rw [if_pos e, if_pos (by omega), if_pos (by omega)]
        have ht := tab_at (n / 65536 / 256 % 256) (by omega) (by omega)
        have hb := leaf 0 _ _ ht (by decide) (by decide)
        refine ⟨_, rfl, ?_⟩
        show mn 8 (wrap64 ((mx 0 (wrap64 (wrap64 (wrap64 (wrap64 (0 + 16) + 8) + wrap64 (bt TAB (n / 65536 / 256 % 256))) - 1))) / 7)) = exN n
        have ea : wrap64 (wrap64 (0 + 16) + 8) = 24 := by unfold wrap64; decide
        rw [ea, w_small (u := bt TAB (n / 65536 / 256 % 256)) hb.1 (by omega), w_small (u := 24 + bt TAB (n / 65536 / 256 % 256)) (by omega) (by omega)]
        exact len_24 _ _ n ht (by omega) (by omega) (by omega)
      · rw [if_neg e, if_pos (by omega), if_pos (by omega)]
        have ht := tab_at ((n / 65536) % 256) (by omega) (by omega)
        have hb := leaf 0 _ _ ht (by decide) (by decide)
        refine ⟨_, rfl, ?_⟩
        show mn 8 (wrap64 ((mx 0 (wrap64 (wrap64 (wrap64 (0 + 16) + wrap64 (bt TAB ((n / 65536) % 256))) - 1))) / 7)) = exN n
        have ea : wrap64 (0 + 16) = 16 := by unfold wrap64; decide
        rw [ea, w_small (u := bt TAB ((n / 65536) % 256)) hb.1 (by omega), w_small (u := 16 + bt TAB ((n / 65536) % 256)) (by omega) (by omega)]
        exact len_16 _ _ n ht (by omega) (by omega) (by omega)
    · rw [if_neg d]
      by_cases e : n ≥ 256
      · rw [if_pos e, if_pos (by omega), if_pos (by omega)]
        have ht := tab_at (n / 256 % 256) (by omega) (by omega)
        have hb := leaf 0 _ _ ht (by decide) (by decide)
        refine ⟨_, rfl, ?_⟩
        show mn 8 (wrap64 ((mx 0 (wrap64 (wrap64 (wrap64 (0 + 8) + wrap64 (bt TAB (n / 256 % 256))) - 1))) / 7)) = exN n
        have ea : wrap64 (0 + 8) = 8 := by unfold wrap64; decide
        rw [ea, w_small (u := bt TAB (n / 256 % 256)) hb.1 (by omega), w_small (u := 8 + bt TAB (n / 256 % 256)) (by omega) (by omega)]
        exact len_8 _ _ n ht (by omega) (by omega) (by omega)
      · rw [if_neg e, if_pos (by omega), if_pos (by omega)]
        have ht := tab_at ((n) % 256) (by omega) (by omega)
        have hb := leaf 0 _ _ ht (by decide) (by decide)
        refine ⟨_, rfl, ?_⟩
        show mn 8 (wrap64 ((mx 0 (wrap64 (wrap64 (0 + wrap64 (bt TAB ((n) % 256))) - 1))) / 7)) = exN n
        rw [w_small (u := bt TAB ((n) % 256)) hb.1 (by omega), w_small (u := 0 + bt TAB ((n) % 256)) (by omega) (by omega)]
        exact len_0 _ _ n ht (by omega) (by omega)

theorem extra_f (n : Int) (h0 : 0 ≤ n) (h1 : n < 18446744073709551616) (k : Nat) (hk : 0 < k) : wire_extra.f k n = some (exN n) := by
  obtain ⟨k, rfl⟩ : ∃ m, k = m + 1 := ⟨k - 1, by omega⟩
  obtain ⟨L, h2, h3⟩ := Len64_f n h0 h1 k
  unfold wire_extra.f
  rw [h2, Option.bind_some, h3]
end Go.Proofs.Ytnnlpelogabokaa.PK
