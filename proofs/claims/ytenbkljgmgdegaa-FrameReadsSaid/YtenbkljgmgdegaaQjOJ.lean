/- What the rows of this claim use, out of the texts of this work (OJ). No condition beyond those that each statement names. -/
import Derived.Test.YtenbkljgmgdegaaQjOA
import Derived.Test.YtenbkljgmgdegaaQjOH
import Derived.Test.YtenbkljgmgdegaaQjOV
import Derived.Test.YtenbkljgmgdegaaQjPD10
import Derived.Test.YtenbkljgmgdegaaQjPOx7
import Derived.Test.YtenbkljgmgdegaaQjPOx0
import Derived.Test.YtenbkljgmgdegaaQjPOx2
import Derived.Test.YtenbkljgmgdegaaQjPD14
import Derived.Test.YtenbkljgmgdegaaQjPD15
import Derived.Test.YtenbkljgmgdegaaQjPD17
import Derived.Test.YtenbkljgmgdegaaQjPD18
namespace Go.Proofs.Ytenbkljgmgdegaa.PO
open Go.RowKit Go.Proofs.YtenbkljgmgdegaaW.PrintWords Go.Proofs.YtenbkljgmgdegaaW.PrintLast Go.Proofs.YtenbkljgmgdegaaW.PrintMore Go.Proofs.Ytenbkljgmgdegaa.XW
set_option linter.unusedVariables false
set_option linter.unusedSimpArgs false
def exN (n : Int) : Int := if n < 128 then 0 else if n < 16384 then 1 else if n < 2097152 then 2 else if n < 268435456 then 3 else if n < 34359738368 then 4 else if n < 4398046511104 then 5 else if n < 562949953421312 then 6 else if n < 72057594037927936 then 7 else 8
theorem ex_0 {n : Int} (h1 : n < 128) : exN n = 0 := by
 unfold exN
 rw [if_pos (by omega)]
theorem ex_1 {n : Int} (h0 : 128 ≤ n) (h1 : n < 16384) : exN n = 1 := by
 unfold exN
 rw [if_neg (by omega), if_pos (by omega)]
theorem ex_2 {n : Int} (h0 : 16384 ≤ n) (h1 : n < 2097152) : exN n = 2 := by
 unfold exN
 rw [if_neg (by omega), if_neg (by omega), if_pos (by omega)]
theorem ex_3 {n : Int} (h0 : 2097152 ≤ n) (h1 : n < 268435456) : exN n = 3 := by
 unfold exN
 rw [if_neg (by omega), if_neg (by omega), if_neg (by omega), if_pos (by omega)]
theorem ex_4 {n : Int} (h0 : 268435456 ≤ n) (h1 : n < 34359738368) : exN n = 4 := by
 unfold exN
 rw [if_neg (by omega), if_neg (by omega), if_neg (by omega), if_neg (by omega), if_pos (by omega)]
theorem ex_5 {n : Int} (h0 : 34359738368 ≤ n) (h1 : n < 4398046511104) : exN n = 5 := by
 unfold exN
 rw [if_neg (by omega), if_neg (by omega), if_neg (by omega), if_neg (by omega), if_neg (by omega), if_pos (by omega)]
theorem ex_6 {n : Int} (h0 : 4398046511104 ≤ n) (h1 : n < 562949953421312) : exN n = 6 := by
 unfold exN
 rw [if_neg (by omega), if_neg (by omega), if_neg (by omega), if_neg (by omega), if_neg (by omega), if_neg (by omega), if_pos (by omega)]
theorem ex_7 {n : Int} (h0 : 562949953421312 ≤ n) (h1 : n < 72057594037927936) : exN n = 7 := by
 unfold exN
 rw [if_neg (by omega), if_neg (by omega), if_neg (by omega), if_neg (by omega), if_neg (by omega), if_neg (by omega), if_neg (by omega), if_pos (by omega)]
theorem ex_8 {n : Int} (h0 : 72057594037927936 ≤ n) : exN n = 8 := by
 unfold exN
 rw [if_neg (by omega), if_neg (by omega), if_neg (by omega), if_neg (by omega), if_neg (by omega), if_neg (by omega), if_neg (by omega), if_neg (by omega)]
theorem exN_range (n : Int) : 0 ≤ exN n ∧ exN n ≤ 8 := by
 unfold exN
 repeat' split
 all_goals omega
def tabOk (x t : Int) : Prop := (x = 0 ∧ t = 0) ∨ (x = 1 ∧ t = 1) ∨ (2 ≤ x ∧ x < 4 ∧ t = 2) ∨ (4 ≤ x ∧ x < 8 ∧ t = 3) ∨ (8 ≤ x ∧ x < 16 ∧ t = 4) ∨ (16 ≤ x ∧ x < 32 ∧ t = 5) ∨ (32 ≤ x ∧ x < 64 ∧ t = 6) ∨ (64 ≤ x ∧ x < 128 ∧ t = 7) ∨ (128 ≤ x ∧ x < 256 ∧ t = 8)
def TAB : ByteArray := (⟨#[0, 1, 2, 2, 3, 3, 3, 3, 4, 4, 4, 4, 4, 4, 4, 4, 5, 5, 5, 5, 5, 5, 5, 5, 5, 5, 5, 5, 5, 5, 5, 5, 6, 6, 6, 6, 6, 6, 6, 6, 6, 6, 6, 6, 6, 6, 6, 6, 6, 6, 6, 6, 6, 6, 6, 6, 6, 6, 6, 6, 6, 6, 6, 6, 7, 7, 7, 7, 7, 7, 7, 7, 7, 7, 7, 7, 7, 7, 7, 7, 7, 7, 7, 7, 7, 7, 7, 7, 7, 7, 7, 7, 7, 7, 7, 7, 7, 7, 7, 7, 7, 7, 7, 7, 7, 7, 7, 7, 7, 7, 7, 7, 7, 7, 7, 7, 7, 7, 7, 7, 7, 7, 7, 7, 7, 7, 7, 7, 8, 8, 8, 8, 8, 8, 8, 8, 8, 8, 8, 8, 8, 8, 8, 8, 8, 8, 8, 8, 8, 8, 8, 8, 8, 8, 8, 8, 8, 8, 8, 8, 8, 8, 8, 8, 8, 8, 8, 8, 8, 8, 8, 8, 8, 8, 8, 8, 8, 8, 8, 8, 8, 8, 8, 8, 8, 8, 8, 8, 8, 8, 8, 8, 8, 8, 8, 8, 8, 8, 8, 8, 8, 8, 8, 8, 8, 8, 8, 8, 8, 8, 8, 8, 8, 8, 8, 8, 8, 8, 8, 8, 8, 8, 8, 8, 8, 8, 8, 8, 8, 8, 8, 8, 8, 8, 8, 8, 8, 8, 8, 8, 8, 8, 8, 8, 8, 8, 8, 8, 8, 8, 8, 8, 8, 8, 8, 8]⟩ : ByteArray)
theorem tab_ok : ∀ x : Nat, x < 256 → tabOk x (bt TAB x) := by unfold tabOk; decide +kernel
theorem tab_at (x : Int) (h0 : 0 ≤ x) (h1 : x < 256) : tabOk x (bt TAB x) := by
 have := tab_ok x.toNat (by omega)
 rwa [Int.toNat_of_nonneg h0] at this
theorem w_small {u : Int} (h0 : 0 ≤ u) (h1 : u ≤ 1000) : wrap64 u = u := by unfold wrap64; omega
theorem extra_of (u v : Int) (h0 : 0 ≤ u) (h1 : u ≤ 64) (hv : v = (if u = 0 then 0 else if 56 < u then 8 else (u - 1) / 7)) : mn 8 (wrap64 ((mx 0 (wrap64 (u - 1))) / 7)) = v := by
 have e : wrap64 (u - 1) = u - 1 := by unfold wrap64; omega
 have e2 : mx 0 (u - 1) = if u = 0 then 0 else u - 1 := by
  unfold mx
  split <;> split <;> omega
 rw [e, e2, hv]
 by_cases hu : u = 0
 · subst hu
   rw [if_pos rfl, if_pos rfl, w_small (by decide) (by decide)]
   rfl
 · rw [if_neg hu, if_neg hu, w_small (by omega) (by omega)]
   unfold mn
   split <;> split <;> omega
theorem len_0 (x t n : Int) (ht : tabOk x t) (h1 : x * 1 ≤ n) (h2 : n < (x + 1) * 1) : mn 8 (wrap64 ((mx 0 (wrap64 (0 + t - 1))) / 7)) = exN n := by
 rcases ht with ⟨rfl, rfl⟩ | ⟨rfl, rfl⟩ | ⟨h3, h4, rfl⟩ | ⟨h3, h4, rfl⟩ | ⟨h3, h4, rfl⟩ | ⟨h3, h4, rfl⟩ | ⟨h3, h4, rfl⟩ | ⟨h3, h4, rfl⟩ | ⟨h3, h4, rfl⟩
 · rw [ex_0 (by omega), extra_of (0 + 0) 0 (by decide) (by decide) (by decide)]
 · rw [ex_0 (by omega), extra_of (0 + 1) 0 (by decide) (by decide) (by decide)]
 · rw [ex_0 (by omega), extra_of (0 + 2) 0 (by decide) (by decide) (by decide)]
 · rw [ex_0 (by omega), extra_of (0 + 3) 0 (by decide) (by decide) (by decide)]
 · rw [ex_0 (by omega), extra_of (0 + 4) 0 (by decide) (by decide) (by decide)]
 · rw [ex_0 (by omega), extra_of (0 + 5) 0 (by decide) (by decide) (by decide)]
 · rw [ex_0 (by omega), extra_of (0 + 6) 0 (by decide) (by decide) (by decide)]
 · rw [ex_0 (by omega), extra_of (0 + 7) 0 (by decide) (by decide) (by decide)]
 · rw [ex_1 (by omega) (by omega), extra_of (0 + 8) 1 (by decide) (by decide) (by decide)]
theorem len_8 (x t n : Int) (ht : tabOk x t) (h1 : x * 256 ≤ n) (h2 : n < (x + 1) * 256) (hx : 1 ≤ x) : mn 8 (wrap64 ((mx 0 (wrap64 (8 + t - 1))) / 7)) = exN n := by
 rcases ht with ⟨rfl, rfl⟩ | ⟨rfl, rfl⟩ | ⟨h3, h4, rfl⟩ | ⟨h3, h4, rfl⟩ | ⟨h3, h4, rfl⟩ | ⟨h3, h4, rfl⟩ | ⟨h3, h4, rfl⟩ | ⟨h3, h4, rfl⟩ | ⟨h3, h4, rfl⟩
 · omega
 · rw [ex_1 (by omega) (by omega), extra_of (8 + 1) 1 (by decide) (by decide) (by decide)]
 · rw [ex_1 (by omega) (by omega), extra_of (8 + 2) 1 (by decide) (by decide) (by decide)]
 · rw [ex_1 (by omega) (by omega), extra_of (8 + 3) 1 (by decide) (by decide) (by decide)]
 · rw [ex_1 (by omega) (by omega), extra_of (8 + 4) 1 (by decide) (by decide) (by decide)]
 · rw [ex_1 (by omega) (by omega), extra_of (8 + 5) 1 (by decide) (by decide) (by decide)]
 · rw [ex_1 (by omega) (by omega), extra_of (8 + 6) 1 (by decide) (by decide) (by decide)]
 · rw [ex_2 (by omega) (by omega), extra_of (8 + 7) 2 (by decide) (by decide) (by decide)]
 · rw [ex_2 (by omega) (by omega), extra_of (8 + 8) 2 (by decide) (by decide) (by decide)]
theorem len_16 (x t n : Int) (ht : tabOk x t) (h1 : x * 65536 ≤ n) (h2 : n < (x + 1) * 65536) (hx : 1 ≤ x) : mn 8 (wrap64 ((mx 0 (wrap64 (16 + t - 1))) / 7)) = exN n := by
 rcases ht with ⟨rfl, rfl⟩ | ⟨rfl, rfl⟩ | ⟨h3, h4, rfl⟩ | ⟨h3, h4, rfl⟩ | ⟨h3, h4, rfl⟩ | ⟨h3, h4, rfl⟩ | ⟨h3, h4, rfl⟩ | ⟨h3, h4, rfl⟩ | ⟨h3, h4, rfl⟩
 · omega
 · rw [ex_2 (by omega) (by omega), extra_of (16 + 1) 2 (by decide) (by decide) (by decide)]
 · rw [ex_2 (by omega) (by omega), extra_of (16 + 2) 2 (by decide) (by decide) (by decide)]
 · rw [ex_2 (by omega) (by omega), extra_of (16 + 3) 2 (by decide) (by decide) (by decide)]
 · rw [ex_2 (by omega) (by omega), extra_of (16 + 4) 2 (by decide) (by decide) (by decide)]
 · rw [ex_2 (by omega) (by omega), extra_of (16 + 5) 2 (by decide) (by decide) (by decide)]
 · rw [ex_3 (by omega) (by omega), extra_of (16 + 6) 3 (by decide) (by decide) (by decide)]
 · rw [ex_3 (by omega) (by omega), extra_of (16 + 7) 3 (by decide) (by decide) (by decide)]
 · rw [ex_3 (by omega) (by omega), extra_of (16 + 8) 3 (by decide) (by decide) (by decide)]
theorem len_24 (x t n : Int) (ht : tabOk x t) (h1 : x * 16777216 ≤ n) (h2 : n < (x + 1) * 16777216) (hx : 1 ≤ x) : mn 8 (wrap64 ((mx 0 (wrap64 (24 + t - 1))) / 7)) = exN n := by
 rcases ht with ⟨rfl, rfl⟩ | ⟨rfl, rfl⟩ | ⟨h3, h4, rfl⟩ | ⟨h3, h4, rfl⟩ | ⟨h3, h4, rfl⟩ | ⟨h3, h4, rfl⟩ | ⟨h3, h4, rfl⟩ | ⟨h3, h4, rfl⟩ | ⟨h3, h4, rfl⟩
 · omega
 · rw [ex_3 (by omega) (by omega), extra_of (24 + 1) 3 (by decide) (by decide) (by decide)]
 · rw [ex_3 (by omega) (by omega), extra_of (24 + 2) 3 (by decide) (by decide) (by decide)]
 · rw [ex_3 (by omega) (by omega), extra_of (24 + 3) 3 (by decide) (by decide) (by decide)]
 · rw [ex_3 (by omega) (by omega), extra_of (24 + 4) 3 (by decide) (by decide) (by decide)]
 · rw [ex_4 (by omega) (by omega), extra_of (24 + 5) 4 (by decide) (by decide) (by decide)]
 · rw [ex_4 (by omega) (by omega), extra_of (24 + 6) 4 (by decide) (by decide) (by decide)]
 · rw [ex_4 (by omega) (by omega), extra_of (24 + 7) 4 (by decide) (by decide) (by decide)]
 · rw [ex_4 (by omega) (by omega), extra_of (24 + 8) 4 (by decide) (by decide) (by decide)]
theorem len_32 (x t n : Int) (ht : tabOk x t) (h1 : x * 4294967296 ≤ n) (h2 : n < (x + 1) * 4294967296) (hx : 1 ≤ x) : mn 8 (wrap64 ((mx 0 (wrap64 (32 + t - 1))) / 7)) = exN n := by
 rcases ht with ⟨rfl, rfl⟩ | ⟨rfl, rfl⟩ | ⟨h3, h4, rfl⟩ | ⟨h3, h4, rfl⟩ | ⟨h3, h4, rfl⟩ | ⟨h3, h4, rfl⟩ | ⟨h3, h4, rfl⟩ | ⟨h3, h4, rfl⟩ | ⟨h3, h4, rfl⟩
 · omega
 · rw [ex_4 (by omega) (by omega), extra_of (32 + 1) 4 (by decide) (by decide) (by decide)]
 · rw [ex_4 (by omega) (by omega), extra_of (32 + 2) 4 (by decide) (by decide) (by decide)]
 · rw [ex_4 (by omega) (by omega), extra_of (32 + 3) 4 (by decide) (by decide) (by decide)]
 · rw [ex_5 (by omega) (by omega), extra_of (32 + 4) 5 (by decide) (by decide) (by decide)]
 · rw [ex_5 (by omega) (by omega), extra_of (32 + 5) 5 (by decide) (by decide) (by decide)]
 · rw [ex_5 (by omega) (by omega), extra_of (32 + 6) 5 (by decide) (by decide) (by decide)]
 · rw [ex_5 (by omega) (by omega), extra_of (32 + 7) 5 (by decide) (by decide) (by decide)]
 · rw [ex_5 (by omega) (by omega), extra_of (32 + 8) 5 (by decide) (by decide) (by decide)]
theorem len_40 (x t n : Int) (ht : tabOk x t) (h1 : x * 1099511627776 ≤ n) (h2 : n < (x + 1) * 1099511627776) (hx : 1 ≤ x) : mn 8 (wrap64 ((mx 0 (wrap64 (40 + t - 1))) / 7)) = exN n := by
 rcases ht with ⟨rfl, rfl⟩ | ⟨rfl, rfl⟩ | ⟨h3, h4, rfl⟩ | ⟨h3, h4, rfl⟩ | ⟨h3, h4, rfl⟩ | ⟨h3, h4, rfl⟩ | ⟨h3, h4, rfl⟩ | ⟨h3, h4, rfl⟩ | ⟨h3, h4, rfl⟩
 · omega
 · rw [ex_5 (by omega) (by omega), extra_of (40 + 1) 5 (by decide) (by decide) (by decide)]
 · rw [ex_5 (by omega) (by omega), extra_of (40 + 2) 5 (by decide) (by decide) (by decide)]
 · rw [ex_6 (by omega) (by omega), extra_of (40 + 3) 6 (by decide) (by decide) (by decide)]
 · rw [ex_6 (by omega) (by omega), extra_of (40 + 4) 6 (by decide) (by decide) (by decide)]
 · rw [ex_6 (by omega) (by omega), extra_of (40 + 5) 6 (by decide) (by decide) (by decide)]
 · rw [ex_6 (by omega) (by omega), extra_of (40 + 6) 6 (by decide) (by decide) (by decide)]
 · rw [ex_6 (by omega) (by omega), extra_of (40 + 7) 6 (by decide) (by decide) (by decide)]
 · rw [ex_6 (by omega) (by omega), extra_of (40 + 8) 6 (by decide) (by decide) (by decide)]
theorem len_48 (x t n : Int) (ht : tabOk x t) (h1 : x * 281474976710656 ≤ n) (h2 : n < (x + 1) * 281474976710656) (hx : 1 ≤ x) : mn 8 (wrap64 ((mx 0 (wrap64 (48 + t - 1))) / 7)) = exN n := by
 rcases ht with ⟨rfl, rfl⟩ | ⟨rfl, rfl⟩ | ⟨h3, h4, rfl⟩ | ⟨h3, h4, rfl⟩ | ⟨h3, h4, rfl⟩ | ⟨h3, h4, rfl⟩ | ⟨h3, h4, rfl⟩ | ⟨h3, h4, rfl⟩ | ⟨h3, h4, rfl⟩
 · omega
 · rw [ex_6 (by omega) (by omega), extra_of (48 + 1) 6 (by decide) (by decide) (by decide)]
 · rw [ex_7 (by omega) (by omega), extra_of (48 + 2) 7 (by decide) (by decide) (by decide)]
 · rw [ex_7 (by omega) (by omega), extra_of (48 + 3) 7 (by decide) (by decide) (by decide)]
 · rw [ex_7 (by omega) (by omega), extra_of (48 + 4) 7 (by decide) (by decide) (by decide)]
 · rw [ex_7 (by omega) (by omega), extra_of (48 + 5) 7 (by decide) (by decide) (by decide)]
 · rw [ex_7 (by omega) (by omega), extra_of (48 + 6) 7 (by decide) (by decide) (by decide)]
 · rw [ex_7 (by omega) (by omega), extra_of (48 + 7) 7 (by decide) (by decide) (by decide)]
 · rw [ex_7 (by omega) (by omega), extra_of (48 + 8) 7 (by decide) (by decide) (by decide)]
theorem len_56 (x t n : Int) (ht : tabOk x t) (h1 : x * 72057594037927936 ≤ n) (h2 : n < (x + 1) * 72057594037927936) (hx : 1 ≤ x) : mn 8 (wrap64 ((mx 0 (wrap64 (56 + t - 1))) / 7)) = exN n := by
 rcases ht with ⟨rfl, rfl⟩ | ⟨rfl, rfl⟩ | ⟨h3, h4, rfl⟩ | ⟨h3, h4, rfl⟩ | ⟨h3, h4, rfl⟩ | ⟨h3, h4, rfl⟩ | ⟨h3, h4, rfl⟩ | ⟨h3, h4, rfl⟩ | ⟨h3, h4, rfl⟩
 · omega
 · rw [ex_8 (by omega), extra_of (56 + 1) 8 (by decide) (by decide) (by decide)]
 · rw [ex_8 (by omega), extra_of (56 + 2) 8 (by decide) (by decide) (by decide)]
 · rw [ex_8 (by omega), extra_of (56 + 3) 8 (by decide) (by decide) (by decide)]
 · rw [ex_8 (by omega), extra_of (56 + 4) 8 (by decide) (by decide) (by decide)]
 · rw [ex_8 (by omega), extra_of (56 + 5) 8 (by decide) (by decide) (by decide)]
 · rw [ex_8 (by omega), extra_of (56 + 6) 8 (by decide) (by decide) (by decide)]
 · rw [ex_8 (by omega), extra_of (56 + 7) 8 (by decide) (by decide) (by decide)]
 · rw [ex_8 (by omega), extra_of (56 + 8) 8 (by decide) (by decide) (by decide)]
theorem Len64_f (n : Int) (h0 : 0 ≤ n) (h1 : n < 18446744073709551616) (k : Nat) : ∃ L, bits_Len64.f (k + 1) n = some L ∧ mn 8 (wrap64 ((mx 0 (wrap64 (L - 1))) / 7)) = exN n := by
 have leaf : ∀ (s x t : Int), tabOk x t → 0 ≤ s → s ≤ 56 → 0 ≤ t ∧ t ≤ 8 := fun s x t ht _ _ => by
  rcases ht with ⟨_, rfl⟩ | ⟨_, rfl⟩ | ⟨_, _, rfl⟩ | ⟨_, _, rfl⟩ | ⟨_, _, rfl⟩ | ⟨_, _, rfl⟩ | ⟨_, _, rfl⟩ | ⟨_, _, rfl⟩ | ⟨_, _, rfl⟩ <;> omega
 unfold bits_Len64.f
 by_cases c : n ≥ 4294967296
 · rw [if_pos c, bits_Len64.j0]
   by_cases d : n / 4294967296 ≥ 65536
   · rw [if_pos d]
     by_cases e : n / 4294967296 / 65536 ≥ 256
     · rw [if_pos e, if_pos (by omega), if_pos (by omega)]
       have ht := tab_at (n / 4294967296 / 65536 / 256 % 256) (by omega) (by omega)
       have hb := leaf 0 _ _ ht (by decide) (by decide)
       refine ⟨_, rfl, ?_⟩
       show mn 8 (wrap64 ((mx 0 (wrap64 (wrap64 (wrap64 (wrap64 (32 + 16) + 8) + wrap64 (bt TAB (n / 4294967296 / 65536 / 256 % 256))) - 1))) / 7)) = exN n
       have ea : wrap64 (wrap64 (32 + 16) + 8) = 56 := by unfold wrap64; decide
       rw [ea, w_small (u := bt TAB (n / 4294967296 / 65536 / 256 % 256)) hb.1 (by omega), w_small (u := 56 + bt TAB (n / 4294967296 / 65536 / 256 % 256)) (by omega) (by omega)]
       exact len_56 _ _ n ht (by omega) (by omega) (by omega)
     · rw [if_neg e, if_pos (by omega), if_pos (by omega)]
       have ht := tab_at ((n / 4294967296 / 65536) % 256) (by omega) (by omega)
       have hb := leaf 0 _ _ ht (by decide) (by decide)
       refine ⟨_, rfl, ?_⟩
       show mn 8 (wrap64 ((mx 0 (wrap64 (wrap64 (wrap64 (32 + 16) + wrap64 (bt TAB ((n / 4294967296 / 65536) % 256))) - 1))) / 7)) = exN n
       have ea : wrap64 (32 + 16) = 48 := by unfold wrap64; decide
       rw [ea, w_small (u := bt TAB ((n / 4294967296 / 65536) % 256)) hb.1 (by omega), w_small (u := 48 + bt TAB ((n / 4294967296 / 65536) % 256)) (by omega) (by omega)]
       exact len_48 _ _ n ht (by omega) (by omega) (by omega)
   · rw [if_neg d]
     by_cases e : n / 4294967296 ≥ 256
     · rw [if_pos e, if_pos (by omega), if_pos (by omega)]
       have ht := tab_at (n / 4294967296 / 256 % 256) (by omega) (by omega)
       have hb := leaf 0 _ _ ht (by decide) (by decide)
       refine ⟨_, rfl, ?_⟩
       show mn 8 (wrap64 ((mx 0 (wrap64 (wrap64 (wrap64 (32 + 8) + wrap64 (bt TAB (n / 4294967296 / 256 % 256))) - 1))) / 7)) = exN n
       have ea : wrap64 (32 + 8) = 40 := by unfold wrap64; decide
       rw [ea, w_small (u := bt TAB (n / 4294967296 / 256 % 256)) hb.1 (by omega), w_small (u := 40 + bt TAB (n / 4294967296 / 256 % 256)) (by omega) (by omega)]
       exact len_40 _ _ n ht (by omega) (by omega) (by omega)
     · rw [if_neg e, if_pos (by omega), if_pos (by omega)]
       have ht := tab_at ((n / 4294967296) % 256) (by omega) (by omega)
       have hb := leaf 0 _ _ ht (by decide) (by decide)
       refine ⟨_, rfl, ?_⟩
       show mn 8 (wrap64 ((mx 0 (wrap64 (wrap64 (32 + wrap64 (bt TAB ((n / 4294967296) % 256))) - 1))) / 7)) = exN n
       rw [w_small (u := bt TAB ((n / 4294967296) % 256)) hb.1 (by omega), w_small (u := 32 + bt TAB ((n / 4294967296) % 256)) (by omega) (by omega)]
       exact len_32 _ _ n ht (by omega) (by omega) (by omega)
 · rw [if_neg c, bits_Len64.j0]
   by_cases d : n ≥ 65536
   · rw [if_pos d]
     by_cases e : n / 65536 ≥ 256
     · rw [if_pos e, if_pos (by omega), if_pos (by omega)]
       have ht := tab_at (n / 65536 / 256 % 256) (by omega) (by omega)
       have hb := leaf 0 _ _ ht (by decide) (by decide)
       refine ⟨_, rfl, ?_⟩
       show mn 8 (wrap64 ((mx 0 (wrap64 (wrap64 (wrap64 (wrap64 (0 + 16) + 8) + wrap64 (bt TAB (n / 65536 / 256 % 256))) - 1))) / 7)) = exN n
       have ea : wrap64 (wrap64 (0 + 16) + 8) = 24 := by unfold wrap64; decide
       rw [ea, w_small (u := bt TAB (n / 65536 / 256 % 256)) hb.1 (by omega), w_small (u := 24 + bt TAB (n / 65536 / 256 % 256)) (by omega) (by omega)]
       exact len_24 _ _ n ht (by omega) (by omega) (by omega)
     · rw [if_neg e, if_pos (by omega), if_pos (by omega)]
       have ht := tab_at ((n / 65536) % 256) (by omega) (by omega)
       have hb := leaf 0 _ _ ht (by decide) (by decide)
       refine ⟨_, rfl, ?_⟩
       show mn 8 (wrap64 ((mx 0 (wrap64 (wrap64 (wrap64 (0 + 16) + wrap64 (bt TAB ((n / 65536) % 256))) - 1))) / 7)) = exN n
       have ea : wrap64 (0 + 16) = 16 := by unfold wrap64; decide
       rw [ea, w_small (u := bt TAB ((n / 65536) % 256)) hb.1 (by omega), w_small (u := 16 + bt TAB ((n / 65536) % 256)) (by omega) (by omega)]
       exact len_16 _ _ n ht (by omega) (by omega) (by omega)
   · rw [if_neg d]
     by_cases e : n ≥ 256
     · rw [if_pos e, if_pos (by omega), if_pos (by omega)]
       have ht := tab_at (n / 256 % 256) (by omega) (by omega)
       have hb := leaf 0 _ _ ht (by decide) (by decide)
       refine ⟨_, rfl, ?_⟩
       show mn 8 (wrap64 ((mx 0 (wrap64 (wrap64 (wrap64 (0 + 8) + wrap64 (bt TAB (n / 256 % 256))) - 1))) / 7)) = exN n
       have ea : wrap64 (0 + 8) = 8 := by unfold wrap64; decide
       rw [ea, w_small (u := bt TAB (n / 256 % 256)) hb.1 (by omega), w_small (u := 8 + bt TAB (n / 256 % 256)) (by omega) (by omega)]
       exact len_8 _ _ n ht (by omega) (by omega) (by omega)
     · rw [if_neg e, if_pos (by omega), if_pos (by omega)]
       have ht := tab_at ((n) % 256) (by omega) (by omega)
       have hb := leaf 0 _ _ ht (by decide) (by decide)
       refine ⟨_, rfl, ?_⟩
       show mn 8 (wrap64 ((mx 0 (wrap64 (wrap64 (0 + wrap64 (bt TAB ((n) % 256))) - 1))) / 7)) = exN n
       rw [w_small (u := bt TAB ((n) % 256)) hb.1 (by omega), w_small (u := 0 + bt TAB ((n) % 256)) (by omega) (by omega)]
       exact len_0 _ _ n ht (by omega) (by omega)
theorem extra_f (n : Int) (h0 : 0 ≤ n) (h1 : n < 18446744073709551616) (k : Nat) (hk : 0 < k) : wire_extra.f k n = some (exN n) := by
 obtain ⟨k, rfl⟩ : ∃ m, k = m + 1 := ⟨k - 1, by omega⟩
 obtain ⟨L, h2, h3⟩ := Len64_f n h0 h1 k
 unfold wire_extra.f
 rw [h2, Option.bind_some, h3]
theorem w_id {u : Int} (h : -9223372036854775808 ≤ u ∧ u ≤ 9223372036854775807) : wrap64 u = u := by unfold wrap64; omega
theorem shr64 (n : Int) (j : Nat) (h : j ≤ 64) : shr .u64 n (j : Int) = n / 2 ^ j := by
 unfold shr
 rw [show min ((j : Int).toNat) (IntKind.bits .u64) = j from by rw [Int.toNat_natCast]; exact Nat.min_eq_left h]
theorem follow_step (n : Int) (k : Nat) (i : Nat) (p : Int) (hi : i < 8) (hp : (2 : Int) ^ (7 * i + 7) = p) (hp0 : 0 < p) (h0 : 0 ≤ n) : pannierref02_follow.l0 (k + 1) n (i : Int) = if p ≤ n then pannierref02_follow.l0 k n ((i + 1 : Nat) : Int) else some (i : Int) := by
 have e1 : wrap64 (7 + wrap64 (7 * (i : Int))) = ((7 * i + 7 : Nat) : Int) := by
  rw [w_id (u := 7 * (i : Int)) (by omega), w_id (by omega)]
  omega
 have e2 : wrap64 ((i : Int) + 1) = ((i + 1 : Nat) : Int) := by rw [w_id (by omega)]; omega
 rw [pannierref02_follow.l0, if_pos (by omega), e1, if_pos (by omega), shr64 n _ (by omega), hp, e2]
 by_cases h : p ≤ n
 · rw [if_pos h, if_pos]
   have h1 : p * 1 ≤ n := by omega
   have h2 := (Int.le_ediv_iff_mul_le hp0).2 (show 1 * p ≤ n by omega)
   omega
 · rw [if_neg h, if_neg]
   rw [Int.ediv_eq_zero_of_lt h0 (by omega)]
   decide
theorem follow_end (n : Int) (k : Nat) : pannierref02_follow.l0 (k + 1) n ((8 : Nat) : Int) = some 8 := by
 rw [pannierref02_follow.l0, if_neg (by decide)]
 rfl
theorem follow_f (n : Int) (h0 : 0 ≤ n) (k : Nat) (hk : 9 ≤ k) : pannierref02_follow.f k n = some (exN n) := by
 obtain ⟨k, rfl⟩ : ∃ m, k = m + 9 := ⟨k - 9, by omega⟩
 unfold pannierref02_follow.f
 show pannierref02_follow.l0 (k + 9) n ((0 : Nat) : Int) = _
 rw [follow_step n (k + 8) 0 128 (by omega) (by simp) (by omega) h0]
 by_cases c0 : 128 ≤ n
 case neg => rw [if_neg c0, ex_0 (by omega)]; rfl
 rw [if_pos c0]
 rw [follow_step n (k + 7) 1 16384 (by omega) (by simp) (by omega) h0]
 by_cases c1 : 16384 ≤ n
 case neg => rw [if_neg c1, ex_1 (by omega) (by omega)]; rfl
 rw [if_pos c1]
 rw [follow_step n (k + 6) 2 2097152 (by omega) (by simp) (by omega) h0]
 by_cases c2 : 2097152 ≤ n
 case neg => rw [if_neg c2, ex_2 (by omega) (by omega)]; rfl
 rw [if_pos c2]
 rw [follow_step n (k + 5) 3 268435456 (by omega) (by simp) (by omega) h0]
 by_cases c3 : 268435456 ≤ n
 case neg => rw [if_neg c3, ex_3 (by omega) (by omega)]; rfl
 rw [if_pos c3]
 rw [follow_step n (k + 4) 4 34359738368 (by omega) (by simp) (by omega) h0]
 by_cases c4 : 34359738368 ≤ n
 case neg => rw [if_neg c4, ex_4 (by omega) (by omega)]; rfl
 rw [if_pos c4]
 rw [follow_step n (k + 3) 5 4398046511104 (by omega) (by simp) (by omega) h0]
 by_cases c5 : 4398046511104 ≤ n
 case neg => rw [if_neg c5, ex_5 (by omega) (by omega)]; rfl
 rw [if_pos c5]
 rw [follow_step n (k + 2) 6 562949953421312 (by omega) (by simp) (by omega) h0]
 by_cases c6 : 562949953421312 ≤ n
 case neg => rw [if_neg c6, ex_6 (by omega) (by omega)]; rfl
 rw [if_pos c6]
 rw [follow_step n (k + 1) 7 72057594037927936 (by omega) (by simp) (by omega) h0]
 by_cases c7 : 72057594037927936 ≤ n
 case neg => rw [if_neg c7, ex_7 (by omega) (by omega)]; rfl
 rw [if_pos c7]
 rw [follow_end, ex_8 (by omega)]
def gB (n : Int) (j : Nat) : Int := shr .u64 n (8 * (j : Int)) % 256
def tailB (n : Int) : Nat → List Int
 | 0 => []
 | j + 1 => gB n j :: tailB n j
theorem tailB_len (n : Int) : ∀ j, (tailB n j).length = j
 | 0 => rfl
 | j + 1 => by simp [tailB, tailB_len n j]
def onesV : Nat → Int
 | 0 => 0 | 1 => 128 | 2 => 192 | 3 => 224 | 4 => 240 | 5 => 248 | 6 => 252 | 7 => 254 | _ => 255
theorem ones_shl : ∀ t : Nat, t ≤ 8 → shl .u8 255 (8 - (t : Int)) = onesV t := by decide
theorem ones_step : ∀ i : Nat, i < 8 → Go.bits .or .u8 (onesV i) (shr .u8 128 (i : Int)) = onesV (i + 1) := by decide
def encN (n : Int) : List Int := (if exN n < 8 then Go.bits .or .u8 (onesV (exN n).toNat) (gB n (exN n).toNat) else onesV (exN n).toNat) :: tailB n (exN n).toNat
theorem encN_len (n : Int) : (encN n).length ≤ 9 := by
 have := exN_range n
 simp only [encN, List.length_cons, tailB_len]
 omega
theorem num_l0 (n t : Int) (ht : t ≤ 8) : ∀ (k j : Nat) (out : List Int), (j : Int) ≤ t → j < k → out.length + j < 140737488355328 → wire_Number.l0 k n t out t (t - (j : Int)) = some (out ++ tailB n j)
 | 0, j, out, _, h, _ => by omega
 | k + 1, 0, out, hj, h, hl => by
   rw [wire_Number.l0, if_neg (by omega)]
   simp [tailB]
 | k + 1, j + 1, out, hj, h, hl => by
   have e1 : wrap64 (8 * wrap64 (wrap64 (t - 1) - (t - ((j + 1 : Nat) : Int)))) = 8 * (j : Int) := by
    rw [w_id (u := t - 1) (by omega), w_id (u := t - 1 - (t - ((j + 1 : Nat) : Int))) (by omega), w_id (by omega)]
    omega
   have e2 : wrap64 (t - ((j + 1 : Nat) : Int) + 1) = t - (j : Int) := by rw [w_id (by omega)]; omega
   rw [wire_Number.l0, if_pos (by omega), e1, if_pos (by omega), if_pos (by omega), e2, num_l0 n t ht k j _ (by omega) (by omega) (by simp; omega)]
   simp [tailB, gB]
theorem num_l1 (n : Int) : ∀ (k j : Nat) (out : List Int), j ≤ 8 → j < k → out.length + j < 140737488355328 → pannierref02_Number.l1 k n out ((j : Int) - 1) = some (out ++ tailB n j)
 | 0, j, out, _, h, _ => by omega
 | k + 1, 0, out, hj, h, hl => by
   rw [pannierref02_Number.l1, if_neg (by omega)]
   simp [tailB]
 | k + 1, j + 1, out, hj, h, hl => by
   have e0 : ((j + 1 : Nat) : Int) - 1 = (j : Int) := by omega
   have e1 : wrap64 (8 * (j : Int)) = 8 * (j : Int) := w_id (by omega)
   have e2 : wrap64 ((j : Int) - 1) = (j : Int) - 1 := w_id (by omega)
   rw [e0, pannierref02_Number.l1, if_pos (by omega), e1, if_pos (by omega), if_pos (by omega), e2, num_l1 n k j _ (by omega) (by omega) (by simp; omega)]
   simp [tailB, gB]
theorem number_f (n : Int) (h0 : 0 ≤ n) (h1 : n < 18446744073709551616) (b : List Int) (hb : b.length ≤ 140737488355300) (k : Nat) (hk : 20 ≤ k) : wire_Number.f k b n = some (b ++ encN n) := by
 obtain ⟨k, rfl⟩ : ∃ m, k = m + 1 := ⟨k - 1, by omega⟩
 have hr := exN_range n
 obtain ⟨t, ht⟩ : ∃ t : Nat, exN n = (t : Int) := ⟨(exN n).toNat, by omega⟩
 have e1 : wrap64 (8 - exN n) = 8 - (t : Int) := by rw [w_id (by omega), ht]
 have e2 : wrap64 (8 * exN n) = 8 * (t : Int) := by rw [w_id (by omega), ht]
 have hj : ∀ f0 : Int, wire_Number.j0 (k + 1) b n (exN n) f0 = some (b ++ f0 :: tailB n t) := fun f0 => by
  rw [wire_Number.j0]
  unfold slices_Clone_byte_byte.f
  rw [if_pos (by omega), Option.bind_some, if_pos (by omega)]
  have := num_l0 n (t : Int) (by omega) k t (b ++ [f0]) (by omega) (by omega) (by simp; omega)
  rw [Int.sub_self] at this
  rw [ht, this]
  simp
 unfold wire_Number.f
 rw [extra_f n h0 h1 _ (by omega), Option.bind_some, if_pos (by omega), e1, e2, ones_shl t (by omega)]
 unfold encN
 rw [show (exN n).toNat = t by omega]
 by_cases h8 : exN n < 8
 · rw [if_pos h8, if_pos h8, if_pos (by omega), hj]
   rfl
 · rw [if_neg h8, if_neg h8, hj]
theorem ref_l0 (n : Int) (t : Nat) (ht : t ≤ 8) (b : List Int) (hb : b.length ≤ 140737488355300) : ∀ (k i : Nat), i ≤ t → t - i + 12 < k →
 pannierref02_Number.l0 k n b (t : Int) (onesV i) (i : Int) = some (b ++ (if t < 8 then Go.bits .or .u8 (onesV t) (gB n t) else onesV t) :: tailB n t)
 | 0, i, _, h => by omega
 | k + 1, i, hi, h => by
   have hj : ∀ f0 : Int, pannierref02_Number.j1 k n b (t : Int) f0 = some (b ++ f0 :: tailB n t) := fun f0 => by
    obtain ⟨k, rfl⟩ : ∃ m, k = m + 1 := ⟨k - 1, by omega⟩
    have := num_l1 n k t (b ++ [f0]) (by omega) (by omega) (by simp; omega)
    rw [pannierref02_Number.j1, if_pos (by omega), w_id (by omega), this]
    simp
   rw [pannierref02_Number.l0]
   by_cases hlt : i < t
   · have e2 : wrap64 ((i : Int) + 1) = ((i + 1 : Nat) : Int) := by rw [w_id (by omega)]; omega
     rw [if_pos (by omega), if_pos (by omega), ones_step i (by omega), e2, ref_l0 n t ht b hb k (i + 1) (by omega) (by omega)]
   · obtain rfl : i = t := by omega
     have e2 : wrap64 (8 * (i : Int)) = 8 * (i : Int) := w_id (by omega)
     rw [if_neg (by omega), e2]
     by_cases h8 : i < 8
     · rw [if_pos (by omega), if_pos (by omega), hj, if_pos h8]
       rfl
     · rw [if_neg (by omega), hj, if_neg h8]
theorem refNumber_f (n : Int) (h0 : 0 ≤ n) (b : List Int) (hb : b.length ≤ 140737488355300) (k : Nat) (hk : 40 ≤ k) : pannierref02_Number.f k b n = some (b ++ encN n) := by
 have hr := exN_range n
 obtain ⟨t, ht⟩ : ∃ t : Nat, exN n = (t : Int) := ⟨(exN n).toNat, by omega⟩
 have e1 : wrap64 ((b.length : Int) + 9) = (b.length : Int) + 9 := w_id (by omega)
 unfold pannierref02_Number.f
 rw [e1, if_pos (by omega), if_pos (by omega), Option.bind_some, if_pos (by simp; omega), follow_f n h0 k (by omega), Option.bind_some, ht]
 have := ref_l0 n t (by omega) b hb k 0 (by omega) (by omega)
 simp only [List.nil_append]
 refine this.trans ?_
 unfold encN
 rw [ht, Int.toNat_natCast]
 congr 2
 by_cases h8 : t < 8
 · rw [if_pos h8, if_pos (by omega)]
 · rw [if_neg h8, if_neg (by omega)]
def bitV (x : Int) (k : Nat) : Bool := decide (Go.bits .and .u8 (shr .u8 x (7 - (k : Int))) 1 = 1)
def rl (x : Int) : Nat → Nat → Nat
 | 0, k => k
 | f + 1, k => if bitV x k = true then rl x f (k + 1) else k
def lo (x : Int) : Nat := rl x 8 0
def iniV (x : Int) : Int := IntKind.u64.wrap (Go.bits .and .u8 x (shr .u8 127 (lo x : Int)))
theorem lz_ok : ∀ x : Nat, x < 256 → bits_LeadingZeros8.f (Go.bits .xor .u8 255 (x : Int)) = some (lo (x : Int) : Int) := by decide +kernel
theorem ini_ok : ∀ x : Nat, x < 256 → lo (x : Int) ≤ 8 ∧ 0 ≤ iniV (x : Int) ∧ iniV (x : Int) < 256 ∧ (lo (x : Int) < 7 → Go.bits .and .u64 (IntKind.u64.wrap (x : Int)) (IntKind.u64.wrap ((shl .u64 1 (7 - (lo (x : Int) : Int))) - 1)) = iniV (x : Int)) ∧ (¬ lo (x : Int) < 7 → iniV (x : Int) = 0) := by decide +kernel
def isB (l : List Int) : Prop := ∀ x, x ∈ l → 0 ≤ x ∧ x ≤ 255
theorem rd_B {l : List Int} (h : isB l) (i : Int) : 0 ≤ rd l i ∧ rd l i ≤ 255 := by
 unfold rd
 by_cases hi : i.toNat < l.length
 · rw [show l.getD i.toNat 0 = l[i.toNat] by simp [List.getD, hi]]
   exact h _ (List.getElem_mem hi)
 · rw [show l.getD i.toNat 0 = 0 by simp [List.getD, hi]]
   omega
def dec (b : List Int) : Nat → Int → Int → Int
 | 0, _, n => n
 | c + 1, p, n => dec b c (p + 1) (Go.bits .or .u64 (IntKind.u64.wrap (n * 256)) (IntKind.u64.wrap (rd b p)))
theorem dec_range (b : List Int) : ∀ (c : Nat) (p n : Int), 0 ≤ n → n < 18446744073709551616 → 0 ≤ dec b c p n ∧ dec b c p n < 18446744073709551616
 | 0, _, n, h0, h1 => ⟨h0, h1⟩
 | c + 1, p, n, _, _ => by
   have := bits_within .or .u64 (IntKind.u64.wrap (n * 256)) (IntKind.u64.wrap (rd b p))
   have e1 : IntKind.min .u64 = 0 := rfl
   have e2 : IntKind.max .u64 = 18446744073709551615 := rfl
   rw [e1, e2] at this
   exact dec_range b c (p + 1) _ this.1 (by omega)
def takeS (b : List Int) (p : Int) : Int × Int × Int :=
 if p < 0 then (0, 0, 20) else if (b.length : Int) ≤ p then (0, 0, 20) else if (b.length : Int) - p ≤ (lo (rd b p) : Int) then (0, 0, 20)
 else if exN (dec b (lo (rd b p)) (p + 1) (iniV (rd b p))) = (lo (rd b p) : Int) then (dec b (lo (rd b p)) (p + 1) (iniV (rd b p)), p + 1 + (lo (rd b p) : Int), 0) else (0, 0, 20)
theorem take_l0 (b : List Int) (hb : b.length ≤ 140737488355300) (p : Int) (h0 : 0 ≤ p) (t : Nat) (ht : t ≤ 8) (hlt : p + 1 + (t : Int) ≤ (b.length : Int)) : ∀ (k c : Nat) (n : Int), c ≤ t → c + 2 < k → 0 ≤ n → n < 18446744073709551616 →
 wire_TakeNumber.l0 k b p (t : Int) n (t : Int) ((t : Int) - (c : Int)) = some (if exN (dec b c (p + 1 + ((t : Int) - (c : Int))) n) = (t : Int) then (dec b c (p + 1 + ((t : Int) - (c : Int))) n, p + 1 + (t : Int), 0) else (0, 0, 20))
 | 0, c, n, _, h, _, _ => by omega
 | k + 1, 0, n, hc, h, n0, n1 => by
   have e1 : wrap64 (wrap64 (p + 1) + (t : Int)) = p + 1 + (t : Int) := by rw [w_id (u := p + 1) (by omega), w_id (by omega)]
   rw [wire_TakeNumber.l0, if_neg (by omega), extra_f n n0 n1 k (by omega), Option.bind_some, dec, e1]
   split <;> rfl
 | k + 1, c + 1, n, hc, h, n0, n1 => by
   have e1 : wrap64 (wrap64 (p + 1) + ((t : Int) - ((c + 1 : Nat) : Int))) = p + 1 + ((t : Int) - ((c + 1 : Nat) : Int)) := by rw [w_id (u := p + 1) (by omega), w_id (by omega)]
   have e2 : wrap64 ((t : Int) - ((c + 1 : Nat) : Int) + 1) = (t : Int) - (c : Int) := by rw [w_id (by omega)]; omega
   have hr := dec_range b 1 (p + 1 + ((t : Int) - ((c + 1 : Nat) : Int))) n n0 n1
   simp only [dec] at hr
   rw [wire_TakeNumber.l0, if_pos (by omega), e1, if_pos (by omega), if_pos (by omega), e2, take_l0 b hb p h0 t ht hlt k c _ (by omega) (by omega) hr.1 hr.2, dec]
   rw [show p + 1 + ((t : Int) - ((c + 1 : Nat) : Int)) + 1 = p + 1 + ((t : Int) - (c : Int)) by omega]
theorem takeNumber_f (b : List Int) (hB : isB b) (hb : b.length ≤ 140737488355300) (p : Int) (k : Nat) (hk : 20 ≤ k) : wire_TakeNumber.f k b p = some (takeS b p) := by
 obtain ⟨k, rfl⟩ : ∃ m, k = m + 1 := ⟨k - 1, by omega⟩
 have bad : wire_TakeNumber.j0 (k + 1) b p true = some (0, 0, 20) := by rw [wire_TakeNumber.j0, if_pos rfl]
 unfold wire_TakeNumber.f takeS
 by_cases h0 : p < 0
 · rw [if_pos h0, if_pos h0, bad]
 rw [if_neg h0, if_neg h0]
 by_cases h1 : (b.length : Int) ≤ p
 · rw [if_pos h1, show decide (p ≥ (b.length : Int)) = true from by simpa using h1, bad]
 rw [if_neg h1, show decide (p ≥ (b.length : Int)) = false from by simpa using h1]
 have hx := rd_B hB p
 obtain ⟨x, hx2⟩ : ∃ x : Nat, rd b p = (x : Int) := ⟨(rd b p).toNat, by omega⟩
 have hz := lz_ok x (by omega)
 have hi := ini_ok x (by omega)
 rw [wire_TakeNumber.j0, if_neg (by decide), if_pos (by omega), if_pos (by omega), hx2, hz, Option.bind_some, w_id (u := (b.length : Int) - p) (by omega)]
 by_cases h2 : (b.length : Int) - p ≤ (lo (x : Int) : Int)
 · rw [if_pos h2, if_pos h2]
 rw [if_neg h2, if_neg h2, if_pos (by omega)]
 have := take_l0 b hb p (by omega) (lo (x : Int)) hi.1 (by omega) k (lo (x : Int)) (iniV (x : Int)) (Nat.le_refl _) (by omega) hi.2.1 (by omega)
 rw [Int.sub_self] at this
 refine this.trans ?_
 rw [Int.add_zero]
theorem refTake_l1 (b : List Int) (hb : b.length ≤ 140737488355300) (p : Int) (h0 : 0 ≤ p) (t : Nat) (ht : t ≤ 8) (hlt : p + 1 + (t : Int) ≤ (b.length : Int)) : ∀ (k c : Nat) (n : Int), c ≤ t → c + 12 < k → 0 ≤ n → n < 18446744073709551616 →
 pannierref02_TakeNumber.l1 k b p (t : Int) n ((t : Int) - (c : Int) + 1) = some (if exN (dec b c (p + 1 + ((t : Int) - (c : Int))) n) = (t : Int) then (dec b c (p + 1 + ((t : Int) - (c : Int))) n, p + 1 + (t : Int), 0) else (0, 0, 20))
 | 0, c, n, _, h, _, _ => by omega
 | k + 1, 0, n, hc, h, n0, n1 => by
   have e1 : wrap64 (wrap64 (p + (t : Int)) + 1) = p + 1 + (t : Int) := by rw [w_id (u := p + (t : Int)) (by omega), w_id (by omega)]; omega
   rw [pannierref02_TakeNumber.l1, if_neg (by omega), follow_f n n0 k (by omega), Option.bind_some, dec, e1]
   split <;> rfl
 | k + 1, c + 1, n, hc, h, n0, n1 => by
   have e1 : wrap64 (p + ((t : Int) - ((c + 1 : Nat) : Int) + 1)) = p + 1 + ((t : Int) - ((c + 1 : Nat) : Int)) := by rw [w_id (by omega)]; omega
   have e2 : wrap64 ((t : Int) - ((c + 1 : Nat) : Int) + 1 + 1) = (t : Int) - (c : Int) + 1 := by rw [w_id (by omega)]; omega
   have hr := dec_range b 1 (p + 1 + ((t : Int) - ((c + 1 : Nat) : Int))) n n0 n1
   simp only [dec] at hr
   rw [pannierref02_TakeNumber.l1, if_pos (by omega), e1, if_pos (by omega), if_pos (by omega), e2, refTake_l1 b hb p h0 t ht hlt k c _ (by omega) (by omega) hr.1 hr.2, dec]
   rw [show p + 1 + ((t : Int) - ((c + 1 : Nat) : Int)) + 1 = p + 1 + ((t : Int) - (c : Int)) by omega]
theorem refTake_l0 (b : List Int) (p : Int) (h0 : 0 ≤ p) (hp : p < (b.length : Int)) (L : Nat) (R : Int × Int × Int) (B : Nat) (hj : ∀ k, B < k → pannierref02_TakeNumber.j2 k b p (L : Int) = some R) :
 ∀ (f i : Nat), i + f = 8 → rl (rd b p) f i = L → ∀ k, B + f + 1 < k → pannierref02_TakeNumber.l0 k b p (i : Int) = some R
 | 0, i, hi, hr, k, hk => by
   obtain ⟨k, rfl⟩ : ∃ m, k = m + 1 := ⟨k - 1, by omega⟩
   rw [pannierref02_TakeNumber.l0, if_neg (by omega)]
   rw [rl] at hr
   rw [hr]
   exact hj k (by omega)
 | f + 1, i, hi, hr, k, hk => by
   obtain ⟨k, rfl⟩ : ∃ m, k = m + 1 := ⟨k - 1, by omega⟩
   have e1 : wrap64 (7 - (i : Int)) = 7 - (i : Int) := w_id (by omega)
   have e2 : wrap64 ((i : Int) + 1) = ((i + 1 : Nat) : Int) := by rw [w_id (by omega)]; omega
   rw [pannierref02_TakeNumber.l0, if_pos (by omega), if_pos (by omega), if_pos (by omega), e1, if_pos (by omega), e2]
   rw [rl] at hr
   by_cases hb : Go.bits .and .u8 (shr .u8 (rd b p) (7 - (i : Int))) 1 = 1
   · rw [if_pos hb]
     rw [if_pos (by unfold bitV; exact decide_eq_true hb)] at hr
     exact refTake_l0 b p h0 hp L R B hj f (i + 1) (by omega) hr k (by omega)
   · rw [if_neg hb]
     rw [if_neg (by unfold bitV; simpa using hb)] at hr
     rw [hr]
     exact hj k (by omega)
theorem refTakeNumber_f (b : List Int) (hB : isB b) (hb : b.length ≤ 140737488355300) (p : Int) (k : Nat) (hk : 60 ≤ k) : pannierref02_TakeNumber.f k b p = some (takeS b p) := by
 obtain ⟨k, rfl⟩ : ∃ m, k = m + 1 := ⟨k - 1, by omega⟩
 have bad : pannierref02_TakeNumber.j0 (k + 1) b p true = some (0, 0, 20) := by rw [pannierref02_TakeNumber.j0, if_pos rfl]
 unfold pannierref02_TakeNumber.f takeS
 by_cases h0 : p < 0
 · rw [if_pos h0, if_pos h0, bad]
 rw [if_neg h0, if_neg h0]
 by_cases h1 : (b.length : Int) ≤ p
 · rw [if_pos h1, show decide (p ≥ (b.length : Int)) = true from by simpa using h1, bad]
 rw [if_neg h1, show decide (p ≥ (b.length : Int)) = false from by simpa using h1]
 have hx := rd_B hB p
 obtain ⟨x, hx2⟩ : ∃ x : Nat, rd b p = (x : Int) := ⟨(rd b p).toNat, by omega⟩
 have hi := ini_ok x (by omega)
 rw [pannierref02_TakeNumber.j0, if_neg (by decide)]
 refine refTake_l0 b p (by omega) (by omega) (lo (x : Int)) _ 30 (fun q hq => ?_) 8 0 (by omega) (by rw [hx2]; rfl) k (by omega)
 obtain ⟨q, rfl⟩ : ∃ m, q = m + 2 := ⟨q - 2, by omega⟩
 rw [pannierref02_TakeNumber.j2, w_id (u := (b.length : Int) - p) (by omega), w_id (u := (lo (x : Int) : Int) + 1) (by omega), hx2]
 by_cases h2 : (b.length : Int) - p ≤ (lo (x : Int) : Int)
 · rw [if_pos (by omega), if_pos h2]
 rw [if_neg (by omega), if_neg h2]
 have := refTake_l1 b hb p (by omega) (lo (x : Int)) hi.1 (by omega) q (lo (x : Int)) (iniV (x : Int)) (Nat.le_refl _) (by omega) hi.2.1 (by omega)
 rw [Int.sub_self, Int.zero_add, Int.add_zero] at this
 have hj3 := (show pannierref02_TakeNumber.j3 (q + 1) b p (lo (x : Int) : Int) (iniV (x : Int)) = pannierref02_TakeNumber.l1 q b p (lo (x : Int) : Int) (iniV (x : Int)) 1 from by rw [pannierref02_TakeNumber.j3]).trans this
 by_cases h7 : lo (x : Int) < 7
 · rw [if_pos (by omega), if_pos (by omega), if_pos (by omega), w_id (u := 7 - (lo (x : Int) : Int)) (by omega), if_pos (by omega), hi.2.2.2.1 h7]
   exact hj3
 · rw [if_neg (by omega)]
   rw [hi.2.2.2.2 h7] at hj3 ⊢
   exact hj3
theorem u_id {u : Int} (h0 : 0 ≤ u) (h1 : u < 18446744073709551616) : IntKind.u64.wrap u = u := by
 show u % 18446744073709551616 = u
 omega
def textS (b : List Int) (s : ByteArray) : List Int := b ++ encN (s.size : Int) ++ bytesOf s
theorem wtext_f (b : List Int) (s : ByteArray) (hs : s.size ≤ 24) (hb : b.length ≤ 140737488355200) (k : Nat) (hk : 20 ≤ k) : wire_Text.f k b s = some (textS b s) := by
 have := encN_len (s.size : Int)
 unfold wire_Text.f
 rw [u_id (by omega) (by omega), number_f _ (by omega) (by omega) b (by omega) k hk, Option.bind_some, if_pos (by rw [List.length_append]; omega)]
 rfl
theorem refText_f (b : List Int) (s : ByteArray) (hs : s.size ≤ 24) (hb : b.length ≤ 140737488355200) (k : Nat) (hk : 40 ≤ k) : pannierref02_Text.f k b s = some (textS b s) := by
 have := encN_len (s.size : Int)
 unfold pannierref02_Text.f
 rw [u_id (by omega) (by omega), refNumber_f _ (by omega) b (by omega) k hk, Option.bind_some, if_pos (by rw [List.length_append]; omega)]
 rfl
def layL (b : List Int) : List S34 → List Int
 | [] => b
 | x :: l => layL (textS b x.f0 ++ encN x.f1) l
theorem textS_len (b : List Int) (s : ByteArray) : (textS b s).length ≤ b.length + 9 + s.size := by
 have := encN_len (s.size : Int)
 unfold textS
 rw [List.length_append, List.length_append, bytesOf_length]
 omega
theorem rises_name {l : List S34} {was : ByteArray} : ∀ {x : S34}, rises was l = true → x ∈ l → x.f0.size ≤ 24 := by
 induction l generalizing was with
 | nil => intro x _ hx; cases hx
 | cons y l ih =>
   intro x h hx
   simp only [rises, dotOk, isNameB, Bool.and_eq_true, decide_eq_true_eq] at h
   rcases List.mem_cons.1 hx with rfl | hx
   · exact h.1.1.1.1.2
   · exact ih h.2 hx
theorem rd_mem (l : List S34) (i : Nat) (h : i < l.length) : rd_T34 l (i : Int) ∈ l := by
 rw [show rd_T34 l (i : Int) = l[i] by simp [rd_T34, List.getD, h]]
 exact List.getElem_mem h
theorem lay_l0 (l : List S34) (hl : l.length ≤ 64) (was : ByteArray) (hr : rises was l = true) : ∀ (k i : Nat) (b : List Int), i ≤ l.length → l.length - i + 60 < k → b.length ≤ 140737488352000 + 42 * i →
 vector_Lay.l0 k b l (l.length : Int) (i : Int) = some (layL b (l.drop i), 0)
 | 0, i, b, _, h, _ => by omega
 | k + 1, i, b, hi, h, hb => by
   by_cases hlt : i < l.length
   · have hn := rises_name hr (rd_mem l i hlt)
     have hp := rises_pos hr (rd_mem l i hlt)
     have ht := textS_len b (rd_T34 l (i : Int)).f0
     have he := encN_len (rd_T34 l (i : Int)).f1
     rw [vector_Lay.l0, if_pos (by omega), if_pos (by omega), if_pos (by omega), wtext_f _ _ hn (by omega) k (by omega), Option.bind_some, u_id (by omega) (by omega), number_f _ (by omega) (by omega) _ (by omega) k (by omega), Option.bind_some, wrap_succ hlt (by omega),
      lay_l0 l hl was hr k (i + 1) _ (by omega) (by omega) (by rw [List.length_append]; omega), rd_drop l i hlt, layL]
   · rw [vector_Lay.l0, if_neg (by omega), List.drop_eq_nil_of_le (by omega), layL]
theorem refLay_l0 (l : List S34) (hl : l.length ≤ 64) (was : ByteArray) (hr : rises was l = true) : ∀ (k i : Nat) (b : List Int), i ≤ l.length → l.length - i + 60 < k → b.length ≤ 140737488352000 + 42 * i →
 pannierref07_Lay.l0 k l b (i : Int) = some (layL b (l.drop i), 0)
 | 0, i, b, _, h, _ => by omega
 | k + 1, i, b, hi, h, hb => by
   by_cases hlt : i < l.length
   · have hn := rises_name hr (rd_mem l i hlt)
     have hp := rises_pos hr (rd_mem l i hlt)
     have ht := textS_len b (rd_T34 l (i : Int)).f0
     have he := encN_len (rd_T34 l (i : Int)).f1
     rw [pannierref07_Lay.l0, if_pos (by omega), if_pos (by omega), refText_f _ _ hn (by omega) k (by omega), Option.bind_some, u_id (by omega) (by omega), refNumber_f _ (by omega) _ (by omega) k (by omega), Option.bind_some, wrap_succ hlt (by omega),
      refLay_l0 l hl was hr k (i + 1) _ (by omega) (by omega) (by rw [List.length_append]; omega), rd_drop l i hlt, layL]
   · rw [pannierref07_Lay.l0, if_neg (by omega), List.drop_eq_nil_of_le (by omega), layL]
def layS (b : List Int) (l : List S34) : List Int × Int := if rightS l then (layL (b ++ encN (l.length : Int)) l, 0) else ([], 2)
theorem lay_f (b : List Int) (hb : b.length ≤ 140737488351232) (l : List S34) (hl : l.length ≤ 9223372036854775807) (k : Nat) (hk : l.length + 200 < k) : vector_Lay.f k b l = some (layS b l) := by
 unfold vector_Lay.f layS
 rw [right_f l hl k (by omega), Option.bind_some]
 cases hr : rightS l
 · rfl
 have h2 := rightS_le hr
 have he := encN_len (l.length : Int)
 rw [if_pos rfl, u_id (by omega) (by omega), number_f _ (by omega) (by omega) b (by omega) k (by omega), Option.bind_some]
 have := lay_l0 l h2.1 _ h2.2 k 0 (b ++ encN (l.length : Int)) (by omega) (by omega) (by rw [List.length_append]; omega)
 exact this
theorem refLay_f (b : List Int) (hb : b.length ≤ 140737488351232) (l : List S34) (m : Nat) (hm : m ≤ 9223372036854775807) (hl : l.length ≤ m) (hz : sizes m l) (k : Nat) (hk : l.length + m + 200 < k) : pannierref07_Lay.f k b l = some (layS b l) := by
 unfold pannierref07_Lay.f layS
 rw [refRight_f l (by omega) m hm hz k (by omega), Option.bind_some]
 cases hr : rightS l
 · rfl
 have h2 := rightS_le hr
 have he := encN_len (l.length : Int)
 rw [if_pos rfl, u_id (by omega) (by omega), refNumber_f _ (by omega) b (by omega) k (by omega), Option.bind_some]
 have := refLay_l0 l h2.1 _ h2.2 k 0 (b ++ encN (l.length : Int)) (by omega) (by omega) (by rw [List.length_append]; omega)
 exact this
theorem takeS_ok {b : List Int} (hB : isB b) {p : Int} (h : (takeS b p).2.2 = 0) : 0 ≤ (takeS b p).2.1 ∧ (takeS b p).2.1 ≤ (b.length : Int) ∧ 0 ≤ (takeS b p).1 ∧ (takeS b p).1 < 18446744073709551616 := by
 have hx := rd_B hB p
 obtain ⟨x, hx2⟩ : ∃ x : Nat, rd b p = (x : Int) := ⟨(rd b p).toNat, by omega⟩
 have hi := ini_ok x (by omega)
 have hd := dec_range b (lo (x : Int)) (p + 1) (iniV (x : Int)) hi.2.1 (by omega)
 unfold takeS at h ⊢
 rw [hx2] at h ⊢
 by_cases h0 : p < 0
 · rw [if_pos h0] at h; cases h
 rw [if_neg h0] at h ⊢
 by_cases h1 : (b.length : Int) ≤ p
 · rw [if_pos h1] at h; cases h
 rw [if_neg h1] at h ⊢
 by_cases h2 : (b.length : Int) - p ≤ (lo (x : Int) : Int)
 · rw [if_pos h2] at h; cases h
 rw [if_neg h2] at h ⊢
 by_cases h3 : exN (dec b (lo (x : Int)) (p + 1) (iniV (x : Int))) = (lo (x : Int) : Int)
 · rw [if_pos h3]
   exact ⟨by simp only []; omega, by simp only []; omega, hd.1, hd.2⟩
 · rw [if_neg h3] at h; cases h
def textT (b : List Int) (p : Int) : ByteArray × Int × Int :=
 if (takeS b p).2.2 = 0 then (if (takeS b p).1 > 24 then (⟨#[]⟩, 0, 20) else if (takeS b p).1 > (b.length : Int) - (takeS b p).2.1 then (⟨#[]⟩, 0, 20)
  else (strOfNums ((b.take ((takeS b p).2.1 + (takeS b p).1).toNat).drop (takeS b p).2.1.toNat), (takeS b p).2.1 + (takeS b p).1, 0)) else (⟨#[]⟩, 0, 20)
theorem takeText_f (b : List Int) (hB : isB b) (hb : b.length ≤ 140737488355300) (p : Int) (k : Nat) (hk : 20 ≤ k) : wire_TakeText.f k b p 24 = some (textT b p) := by
 unfold wire_TakeText.f textT
 rw [takeNumber_f b hB hb p k hk, Option.bind_some]
 by_cases h : (takeS b p).2.2 = 0
 case neg => rw [if_neg h, if_neg h]
 have ho := takeS_ok hB h
 rw [if_pos h, if_pos h, if_neg (by decide), u_id (u := 24) (by omega) (by omega)]
 by_cases h1 : (takeS b p).1 > 24
 · rw [if_pos h1, if_pos h1]
 rw [if_neg h1, if_neg h1, w_id (u := (b.length : Int) - (takeS b p).2.1) (by omega), u_id (by omega) (by omega)]
 by_cases h2 : (takeS b p).1 > (b.length : Int) - (takeS b p).2.1
 · rw [if_pos h2, if_pos h2]
 rw [if_neg h2, if_neg h2, if_pos (by omega), w_id (u := (takeS b p).1) (by omega), w_id (by omega), if_pos (by omega), if_pos (by omega)]
theorem refTakeText_f (b : List Int) (hB : isB b) (hb : b.length ≤ 140737488355300) (p : Int) (k : Nat) (hk : 60 ≤ k) : pannierref02_TakeText.f k b p 24 = some (textT b p) := by
 unfold pannierref02_TakeText.f textT
 rw [refTakeNumber_f b hB hb p k hk, Option.bind_some]
 by_cases h : (takeS b p).2.2 = 0
 case neg => rw [if_neg h, if_neg h]
 have ho := takeS_ok hB h
 rw [if_pos h, if_pos h, if_neg (by decide), u_id (u := 24) (by omega) (by omega)]
 by_cases h1 : (takeS b p).1 > 24
 · rw [if_pos h1, if_pos h1]
 rw [if_neg h1, if_neg h1, w_id (u := (b.length : Int) - (takeS b p).2.1) (by omega), u_id (by omega) (by omega)]
 by_cases h2 : (takeS b p).1 > (b.length : Int) - (takeS b p).2.1
 · rw [if_pos h2, if_pos h2]
 rw [if_neg h2, if_neg h2, if_pos (by omega), w_id (u := (takeS b p).1) (by omega), w_id (by omega), if_pos (by omega), if_pos (by omega)]
def tl (b : List Int) : Nat → Int → List S34 → List S34 × Int × Int
 | 0, p, v => if rightS v = true then (v, p, 0) else ([], 0, 70)
 | c + 1, p, v => if (textT b p).2.2 = 0 then (if (takeS b (textT b p).2.1).2.2 = 0 then (if (takeS b (textT b p).2.1).1 > 4611686018427387904 then ([], 0, 70)
    else tl b c (takeS b (textT b p).2.1).2.1 (v ++ [⟨(textT b p).1, wrap64 (takeS b (textT b p).2.1).1⟩])) else ([], 0, 70)) else ([], 0, 70)
theorem take_loop (b : List Int) (hB : isB b) (hb : b.length ≤ 140737488355300) (n : Nat) (hn : n ≤ 64) : ∀ (k c : Nat) (p : Int) (v : List S34), c ≤ n → v.length + c ≤ 64 → c + 200 < k →
 vector_Take.l0 k b p v (n : Int) ((n : Int) - (c : Int)) = some (tl b c p v)
 | 0, c, p, v, _, _, h => by omega
 | k + 1, 0, p, v, hc, hv, h => by
   rw [vector_Take.l0, if_neg (by omega), right_f v (by omega) k (by omega), Option.bind_some, tl]
   split <;> rfl
 | k + 1, c + 1, p, v, hc, hv, h => by
   have e2 : IntKind.u64.wrap ((n : Int) - ((c + 1 : Nat) : Int) + 1) = (n : Int) - (c : Int) := by rw [u_id (by omega) (by omega)]; omega
   rw [vector_Take.l0, if_pos (by omega), takeText_f b hB hb p k (by omega), Option.bind_some, tl, takeNumber_f b hB hb _ k (by omega), Option.bind_some, e2]
   by_cases h1 : (textT b p).2.2 = 0
   case neg => rw [if_neg h1, if_neg h1]
   rw [if_pos h1, if_pos h1]
   by_cases h2 : (takeS b (textT b p).2.1).2.2 = 0
   case neg => rw [if_neg h2, if_neg h2]
   rw [if_pos h2, if_pos h2]
   by_cases h3 : (takeS b (textT b p).2.1).1 > 4611686018427387904
   · rw [if_pos h3, if_pos h3]
   rw [if_neg h3, if_neg h3, if_pos (by omega), take_loop b hB hb n hn k c _ _ (by omega) (by simp; omega) (by omega)]
def vecS (b : List Int) (p : Int) : List S34 × Int × Int :=
 if (takeS b p).2.2 = 0 then (if (takeS b p).1 > 64 then ([], 0, 70) else tl b (takeS b p).1.toNat (takeS b p).2.1 []) else ([], 0, 70)
theorem take_f (b : List Int) (hB : isB b) (hb : b.length ≤ 140737488355300) (p : Int) (k : Nat) (hk : 300 < k) : vector_Take.f k b p = some (vecS b p) := by
 obtain ⟨k, rfl⟩ : ∃ m, k = m + 1 := ⟨k - 1, by omega⟩
 have bad : ∀ x y : Int, vector_Take.j0 (k + 1) b x y true = some ([], 0, 70) := fun x y => by rw [vector_Take.j0, if_pos rfl]
 unfold vector_Take.f vecS
 rw [takeNumber_f b hB hb p _ (by omega), Option.bind_some]
 by_cases h : (takeS b p).2.2 = 0
 case neg => rw [if_neg h, if_neg h, bad]
 have ho := takeS_ok hB h
 rw [if_pos h, if_pos h]
 by_cases h1 : (takeS b p).1 > 64
 · rw [if_pos h1, show decide ((takeS b p).1 > 64) = true from decide_eq_true h1, bad]
 rw [if_neg h1, show decide ((takeS b p).1 > 64) = false from decide_eq_false h1, vector_Take.j0, if_neg (by decide)]
 obtain ⟨n, hn⟩ : ∃ n : Nat, (takeS b p).1 = (n : Int) := ⟨(takeS b p).1.toNat, by omega⟩
 have := take_loop b hB hb n (by omega) k n (takeS b p).2.1 [] (Nat.le_refl _) (by simp; omega) (by omega)
 rw [Int.sub_self] at this
 rw [hn, this]
 rfl
theorem textT_size (b : List Int) (p : Int) : (textT b p).1.size ≤ b.length := by
 unfold textT
 split
 · split
   · exact Nat.zero_le _
   · split
     · exact Nat.zero_le _
     · show (strOfNums _).size ≤ _
       rw [strOfNums_size, List.length_drop, List.length_take]
       omega
 · exact Nat.zero_le _
theorem refTake_loop (b : List Int) (hB : isB b) (hb : b.length ≤ 140737488355300) (n : Nat) (hn : n ≤ 64) : ∀ (k c : Nat) (p : Int) (v : List S34), c ≤ n → v.length + c ≤ 64 → sizes b.length v → c + b.length + 300 < k →
 pannierref07_Take.l0 k b (n : Int) p v ((n : Int) - (c : Int)) = some (tl b c p v)
 | 0, c, p, v, _, _, _, h => by omega
 | k + 1, 0, p, v, hc, hv, hz, h => by
   rw [pannierref07_Take.l0, w_id (u := (n : Int)) (by omega), if_neg (by omega), refRight_f v (by omega) b.length (by omega) hz k (by omega), Option.bind_some, tl]
   split <;> rfl
 | k + 1, c + 1, p, v, hc, hv, hz, h => by
   have e2 : wrap64 ((n : Int) - ((c + 1 : Nat) : Int) + 1) = (n : Int) - (c : Int) := by rw [w_id (by omega)]; omega
   rw [pannierref07_Take.l0, w_id (u := (n : Int)) (by omega), if_pos (by omega), refTakeText_f b hB hb p k (by omega), Option.bind_some, tl, refTakeNumber_f b hB hb _ k (by omega), Option.bind_some, e2]
   by_cases h1 : (textT b p).2.2 = 0
   case neg => rw [if_neg h1, if_neg h1]
   rw [if_pos h1, if_pos h1]
   by_cases h2 : (takeS b (textT b p).2.1).2.2 = 0
   case neg => rw [if_neg h2, if_neg h2]
   rw [if_pos h2, if_pos h2]
   by_cases h3 : (takeS b (textT b p).2.1).1 > 4611686018427387904
   · rw [if_pos h3, if_pos h3]
   have hz2 : sizes b.length (v ++ [⟨(textT b p).1, wrap64 (takeS b (textT b p).2.1).1⟩]) := fun x hx => by
    rcases List.mem_append.1 hx with hx | hx
    · exact hz x hx
    · rw [List.mem_singleton.1 hx]; exact textT_size b p
   rw [if_neg h3, if_neg h3, if_pos (by omega), refTake_loop b hB hb n hn k c _ _ (by omega) (by simp; omega) hz2 (by omega)]
theorem refTake_f (b : List Int) (hB : isB b) (hb : b.length ≤ 140737488355300) (p : Int) (k : Nat) (hk : b.length + 400 < k) : pannierref07_Take.f k b p = some (vecS b p) := by
 obtain ⟨k, rfl⟩ : ∃ m, k = m + 1 := ⟨k - 1, by omega⟩
 have bad : ∀ x y : Int, pannierref07_Take.j0 (k + 1) b x y true = some ([], 0, 70) := fun x y => by rw [pannierref07_Take.j0, if_pos rfl]
 unfold pannierref07_Take.f vecS
 rw [refTakeNumber_f b hB hb p _ (by omega), Option.bind_some]
 by_cases h : (takeS b p).2.2 = 0
 case neg => rw [if_neg h, if_neg h, bad]
 have ho := takeS_ok hB h
 rw [if_pos h, if_pos h]
 by_cases h1 : (takeS b p).1 > 64
 · rw [if_pos h1, show decide ((takeS b p).1 > 64) = true from decide_eq_true h1, bad]
 rw [if_neg h1, show decide ((takeS b p).1 > 64) = false from decide_eq_false h1, pannierref07_Take.j0, if_neg (by decide)]
 obtain ⟨n, hn⟩ : ∃ n : Nat, (takeS b p).1 = (n : Int) := ⟨(takeS b p).1.toNat, by omega⟩
 have := refTake_loop b hB hb n (by omega) k n (takeS b p).2.1 [] (Nat.le_refl _) (by simp; omega) (fun x hx => by cases hx) (by omega)
 rw [Int.sub_self] at this
 rw [hn, this]
 rfl
def valT : List Int → Int → Int
 | [], n => n
 | x :: l, n => valT l (n * 256 + x)
def p256 : Nat → Int
 | 0 => 1
 | c + 1 => 256 * p256 c
theorem p256_pos : ∀ c, 0 < p256 c
 | 0 => by decide
 | c + 1 => by have := p256_pos c; simp only [p256]; omega
theorem div_div (a b c : Int) (hb : 0 ≤ b) : a / (b * c) = a / b / c := by
 rw [Int.ediv_ediv, if_neg (by omega), Int.sub_zero]
theorem p256_pow : ∀ c : Nat, p256 c = 2 ^ (8 * c)
 | 0 => rfl
 | c + 1 => by
   rw [p256, p256_pow c, show 8 * (c + 1) = 8 * c + 8 by omega, Int.pow_add, Int.mul_comm]
   rfl
theorem gB_eq (n : Int) (j : Nat) (hj : j ≤ 8) : gB n j = n / p256 j % 256 := by
 unfold gB
 have := shr64 n (8 * j) (by omega)
 rw [show ((8 * j : Nat) : Int) = 8 * (j : Int) by omega] at this
 rw [this, p256_pow]
theorem val_div : ∀ (l : List Int) (n : Int), isB l → valT l n / p256 l.length = n
 | [], n, _ => by simp [valT, p256]
 | x :: l, n, h => by
   have ih := val_div l (n * 256 + x) (fun y hy => h y (List.mem_cons_of_mem _ hy))
   have hx := h x (List.mem_cons_self)
   have hp := p256_pos l.length
   rw [valT, List.length_cons, p256, Int.mul_comm 256, div_div _ _ _ (by omega), ih]
   omega
theorem tail_val : ∀ (l : List Int) (n : Int), isB l → l.length ≤ 8 → tailB (valT l n) l.length = l
 | [], n, _, _ => rfl
 | x :: l, n, h, hl => by
   have hB : isB l := fun y hy => h y (List.mem_cons_of_mem _ hy)
   have hx := h x (List.mem_cons_self)
   simp only [List.length_cons] at hl
   rw [valT, List.length_cons, tailB, tail_val l _ hB (by omega), gB_eq _ _ (by omega), val_div l _ hB]
   congr 1
   omega
theorem val_tail (n : Int) : ∀ j, j ≤ 8 → valT (tailB n j) (n / p256 j) = n
 | 0, _ => by simp [tailB, valT, p256]
 | j + 1, hj => by
   have hp := p256_pos j
   have e : n / p256 (j + 1) * 256 + gB n j = n / p256 j := by
    rw [gB_eq n j (by omega), p256, Int.mul_comm 256, div_div _ _ _ (by omega)]
    omega
   rw [tailB, valT, e, val_tail n j (by omega)]
theorem gB_B (n : Int) (j : Nat) : 0 ≤ gB n j ∧ gB n j ≤ 255 := by unfold gB; omega
theorem tail_B (n : Int) : ∀ j, isB (tailB n j)
 | 0 => fun x hx => by cases hx
 | j + 1 => fun x hx => by
   rw [tailB, List.mem_cons] at hx
   rcases hx with rfl | hx
   · exact gB_B n j
   · exact tail_B n j x hx
theorem or_at (n x : Int) (h0 : 0 ≤ n) (h1 : n < 72057594037927936) (hx : 0 ≤ x ∧ x ≤ 255) : Go.bits .or .u64 (IntKind.u64.wrap (n * 256)) (IntKind.u64.wrap x) = n * 256 + x := by
 obtain ⟨m, rfl⟩ : ∃ m : Nat, n = (m : Int) := ⟨n.toNat, by omega⟩
 obtain ⟨y, rfl⟩ : ∃ y : Nat, x = (y : Int) := ⟨x.toNat, by omega⟩
 rw [u_id (by omega) (by omega), u_id (by omega) (by omega)]
 have e : (m <<< 8 ||| y) = m * 256 + y := by
  rw [← Nat.shiftLeft_add_eq_or_of_lt (by omega), Nat.shiftLeft_eq]
 have e2 : ((m : Int) * 256) = ((m <<< 8 : Nat) : Int) := by rw [Nat.shiftLeft_eq]; omega
 have e3 : (m <<< 8) < 18446744073709551616 := by rw [Nat.shiftLeft_eq]; omega
 have e4 : (m * 256 + y) < 18446744073709551616 := by omega
 suffices e5 : ∀ z : Int, z = ((m <<< 8 : Nat) : Int) → Go.bits .or .u64 z (y : Int) = ((m * 256 + y : Nat) : Int) by
  exact (e5 _ e2).trans (by omega)
 intro z hz
 subst hz
 unfold Go.bits
 simp only [BitVec.ofInt_natCast, BitVec.toNat_or, BitVec.toNat_ofNat]
 rw [show (m <<< 8) % 2 ^ IntKind.bits .u64 = m <<< 8 from Nat.mod_eq_of_lt e3, show y % 2 ^ IntKind.bits .u64 = y from Nat.mod_eq_of_lt (show y < 18446744073709551616 by omega), e, u_id (by omega) (by omega)]
theorem dec_val (b : List Int) (hB : isB b) : ∀ (c p : Nat) (n : Int), p + c ≤ b.length → 0 ≤ n → c ≤ 8 → n < p256 (8 - c) → dec b c (p : Int) n = valT ((b.drop p).take c) n
 | 0, p, n, _, _, _, _ => by simp [dec, valT]
 | c + 1, p, n, hp, h0, hc, hn => by
   have hlt : p < b.length := by omega
   have hd : b.drop p = b[p] :: b.drop (p + 1) := List.drop_eq_getElem_cons hlt
   have hr : rd b (p : Int) = b[p] := by unfold rd; simp [List.getD_eq_getElem?_getD, hlt]
   have hx := rd_B hB (p : Int)
   have hs : p256 (8 - c) = 256 * p256 (8 - (c + 1)) := by
    rw [show 8 - c = (8 - (c + 1)) + 1 by omega, p256]
   have hm : ∀ j, j ≤ 7 → p256 j ≤ 72057594037927936 := by decide
   have h7 := hm (8 - (c + 1)) (by omega)
   rw [dec, or_at n _ h0 (by omega) hx, show ((p : Int) + 1) = ((p + 1 : Nat) : Int) by omega, dec_val b hB c (p + 1) _ (by omega) (by omega) (by omega) (by omega), hd, List.take_succ_cons, valT, hr]
theorem first_ok : ∀ t : Nat, t < 8 → ∀ x : Nat, x < 128 → x < 2 ^ (7 - t) → 0 ≤ Go.bits .or .u8 (onesV t) (x : Int) ∧ Go.bits .or .u8 (onesV t) (x : Int) ≤ 255 ∧ lo (Go.bits .or .u8 (onesV t) (x : Int)) = t ∧ iniV (Go.bits .or .u8 (onesV t) (x : Int)) = (x : Int) := by decide +kernel
theorem last_ok : lo 255 = 8 ∧ iniV 255 = 0 := by decide +kernel
theorem first_back : ∀ f : Nat, f < 256 → lo (f : Int) ≤ 8 ∧ 0 ≤ iniV (f : Int) ∧ (lo (f : Int) < 8 → iniV (f : Int) < 2 ^ (7 - lo (f : Int)) ∧ Go.bits .or .u8 (onesV (lo (f : Int))) (iniV (f : Int)) = (f : Int)) ∧ (lo (f : Int) = 8 → f = 255 ∧ iniV (f : Int) = 0) := by decide +kernel
def cap7 : Nat → Int
 | 0 => 128 | 1 => 16384 | 2 => 2097152 | 3 => 268435456 | 4 => 34359738368 | 5 => 4398046511104 | 6 => 562949953421312 | 7 => 72057594037927936 | _ => 18446744073709551616
theorem ex_lt {n : Int} (h0 : 0 ≤ n) (h1 : n < 18446744073709551616) : n < cap7 (exN n).toNat := by
 unfold exN
 (repeat' split) <;> first | exact (show n < (128 : Int) by omega) | exact (show n < (16384 : Int) by omega) | exact (show n < (2097152 : Int) by omega) | exact (show n < (268435456 : Int) by omega) | exact (show n < (34359738368 : Int) by omega) | exact (show n < (4398046511104 : Int) by omega) | exact (show n < (562949953421312 : Int) by omega) | exact (show n < (72057594037927936 : Int) by omega) | exact (show n < (18446744073709551616 : Int) by omega)
theorem cap7_div : ∀ t : Nat, t < 8 → cap7 t = p256 t * 2 ^ (7 - t) := by decide
theorem num_first {n : Int} (h0 : 0 ≤ n) (h1 : n < 18446744073709551616) (h8 : exN n < 8) : gB n (exN n).toNat = n / p256 (exN n).toNat ∧ gB n (exN n).toNat < 2 ^ (7 - (exN n).toNat) := by
 have hr := exN_range n
 have hl := ex_lt h0 h1
 obtain ⟨t, ht⟩ : ∃ t : Nat, (exN n).toNat = t := ⟨_, rfl⟩
 rw [ht] at hl ⊢
 have ht8 : t < 8 := by omega
 rw [cap7_div t ht8] at hl
 have hd : n / p256 t < 2 ^ (7 - t) := Int.ediv_lt_of_lt_mul (p256_pos t) (by rw [Int.mul_comm]; exact hl)
 have h2 : ∀ j : Nat, j < 8 → (2 : Int) ^ (7 - j) ≤ 128 := by decide
 have h3 := h2 t ht8
 have h4 : 0 ≤ n / p256 t := Int.ediv_nonneg h0 (by have := p256_pos t; omega)
 have e : gB n t = n / p256 t := by rw [gB_eq n t (by omega)]; omega
 exact ⟨e, by rw [e]; exact hd⟩
theorem enc_B {n : Int} (h0 : 0 ≤ n) (h1 : n < 18446744073709551616) : isB (encN n) := by
 intro x hx
 have hr := exN_range n
 rw [encN, List.mem_cons] at hx
 rcases hx with rfl | hx
 · by_cases h8 : exN n < 8
   · rw [if_pos h8]
     have hf := num_first h0 h1 h8
     have hg := gB_B n (exN n).toNat
     have h2 : ∀ j : Nat, j < 8 → (2 : Nat) ^ (7 - j) ≤ 128 := by decide
     have h3 := h2 (exN n).toNat (by omega)
     have h4 : (gB n (exN n).toNat).toNat < 2 ^ (7 - (exN n).toNat) := by
      have := hf.2
      have h5 : ((2 : Int) ^ (7 - (exN n).toNat)) = ((2 ^ (7 - (exN n).toNat) : Nat) : Int) := by simp
      omega
     have := first_ok (exN n).toNat (by omega) (gB n (exN n).toNat).toNat (by omega) h4
     rw [show (((gB n (exN n).toNat).toNat : Nat) : Int) = gB n (exN n).toNat by omega] at this
     exact ⟨this.1, this.2.1⟩
   · rw [if_neg h8, show (exN n).toNat = 8 by omega]; decide
 · exact tail_B n _ x hx
theorem take_enc (a r : List Int) (ha : isB a) (hr : isB r) (n : Int) (h0 : 0 ≤ n) (h1 : n < 18446744073709551616) : takeS (a ++ encN n ++ r) (a.length : Int) = (n, (a.length : Int) + ((encN n).length : Int), 0) := by
 have hx := exN_range n
 obtain ⟨t, ht⟩ : ∃ t : Nat, exN n = (t : Int) := ⟨(exN n).toNat, by omega⟩
 have hl : (encN n).length = t + 1 := by simp [encN, tailB_len, ht]
 have hB : isB (a ++ encN n ++ r) := fun x hx => by
  simp only [List.mem_append] at hx
  rcases hx with (hx | hx) | hx
  · exact ha x hx
  · exact enc_B h0 h1 x hx
  · exact hr x hx
 obtain ⟨f, hf⟩ : ∃ f, f = (if exN n < 8 then Go.bits .or .u8 (onesV (exN n).toNat) (gB n (exN n).toNat) else onesV (exN n).toNat) := ⟨_, rfl⟩
 have hE : encN n = f :: tailB n t := by rw [hf, encN, ht]; rfl
 have hrd : rd (a ++ encN n ++ r) (a.length : Int) = f := by
  rw [hE]; unfold rd; simp [List.getD_eq_getElem?_getD]
 have hlo : lo f = t ∧ iniV f = n / p256 t := by
  by_cases h8 : exN n < 8
  · rw [if_pos h8] at hf
    have hq := num_first h0 h1 h8
    have hg := gB_B n (exN n).toNat
    have h2 : ∀ j : Nat, j < 8 → (2 : Nat) ^ (7 - j) ≤ 128 := by decide
    have h3 := h2 (exN n).toNat (by omega)
    have h4 : (gB n (exN n).toNat).toNat < 2 ^ (7 - (exN n).toNat) := by
     have := hq.2
     have h5 : ((2 : Int) ^ (7 - (exN n).toNat)) = ((2 ^ (7 - (exN n).toNat) : Nat) : Int) := by simp
     omega
    have := first_ok (exN n).toNat (by omega) (gB n (exN n).toNat).toNat (by omega) h4
    rw [show (((gB n (exN n).toNat).toNat : Nat) : Int) = gB n (exN n).toNat by omega, ← hf] at this
    have e8 : (exN n).toNat = t := by omega
    rw [e8] at this hq
    exact ⟨this.2.2.1, by rw [this.2.2.2, hq.1]⟩
  · rw [if_neg h8, show (exN n).toNat = 8 by omega] at hf
    have e8 : t = 8 := by omega
    subst e8
    have : f = 255 := hf
    rw [this]
    refine ⟨last_ok.1, ?_⟩
    rw [last_ok.2]
    exact (Int.ediv_eq_zero_of_lt h0 (by exact h1)).symm
 have hdec : dec (a ++ encN n ++ r) t ((a.length + 1 : Nat) : Int) (n / p256 t) = n := by
  have hp := p256_pos t
  have hn : n / p256 t < p256 (8 - t) := by
   refine Int.ediv_lt_of_lt_mul hp ?_
   have : ∀ j : Nat, j ≤ 8 → p256 (8 - j) * p256 j = 18446744073709551616 := by decide
   rw [this t (by omega)]
   exact h1
  rw [dec_val _ hB t (a.length + 1) _ (by simp [hl]; omega) (Int.ediv_nonneg h0 (by omega)) (by omega) hn]
  have : ((a ++ encN n ++ r).drop (a.length + 1)).take t = tailB n t := by
   rw [hE]
   rw [show a ++ f :: tailB n t ++ r = (a ++ [f]) ++ (tailB n t ++ r) by simp, List.drop_left' (by simp), List.take_left' (tailB_len n t)]
  rw [this, val_tail n t (by omega)]
 unfold takeS
 rw [if_neg (by omega), if_neg (by simp [hl]; omega), hrd, hlo.1, hlo.2, if_neg (by simp [hl]; omega), show (a.length : Int) + 1 = ((a.length + 1 : Nat) : Int) by omega, hdec, if_pos ht, hl]
 congr 2
 omega
theorem take_is {b : List Int} (hB : isB b) {p : Int} (h : (takeS b p).2.2 = 0) : 0 ≤ p ∧ p.toNat ≤ b.length ∧ b.take (takeS b p).2.1.toNat = b.take p.toNat ++ encN (takeS b p).1 := by
 have hk := takeS_ok hB h
 unfold takeS at h hk ⊢
 by_cases h1 : p < 0
 · rw [if_pos h1] at h; cases h
 by_cases h2 : (b.length : Int) ≤ p
 · rw [if_neg h1, if_pos h2] at h; cases h
 by_cases h3 : (b.length : Int) - p ≤ (lo (rd b p) : Int)
 · rw [if_neg h1, if_neg h2, if_pos h3] at h; cases h
 rw [if_neg h1, if_neg h2, if_neg h3] at h hk ⊢
 by_cases h4 : exN (dec b (lo (rd b p)) (p + 1) (iniV (rd b p))) = (lo (rd b p) : Int)
 case neg => rw [if_neg h4] at h; cases h
 rw [if_pos h4] at hk ⊢
 refine ⟨by omega, by omega, ?_⟩
 obtain ⟨i, rfl⟩ : ∃ i : Nat, p = (i : Int) := ⟨p.toNat, by omega⟩
 have hfB := rd_B hB (i : Int)
 obtain ⟨f, hf⟩ : ∃ f : Nat, rd b (i : Int) = (f : Int) := ⟨(rd b (i : Int)).toNat, by omega⟩
 have hlt : i < b.length := by omega
 have hget : b[i] = (f : Int) := by rw [← hf]; unfold rd; simp [List.getD_eq_getElem?_getD, hlt]
 have hF := first_back f (by omega)
 rw [hf] at h3 h4 hk ⊢
 obtain ⟨t, ht⟩ : ∃ t, lo (f : Int) = t := ⟨_, rfl⟩
 rw [ht] at h3 h4 hk hF ⊢
 have h7 : ∀ j : Nat, j < 8 → (2 : Int) ^ (7 - j) ≤ p256 (8 - j) := by decide
 have hini : iniV (f : Int) < p256 (8 - t) := by
  by_cases h8 : t < 8
  · have := (hF.2.2.1 h8).1; have := h7 t h8; omega
  · obtain rfl : t = 8 := by omega
    rw [(hF.2.2.2 rfl).2]; decide
 have hd := dec_val b hB t (i + 1) (iniV (f : Int)) (by omega) hF.2.1 hF.1 hini
 rw [show ((i + 1 : Nat) : Int) = (i : Int) + 1 by omega] at hd
 obtain ⟨l, hl⟩ : ∃ l, l = (b.drop (i + 1)).take t := ⟨_, rfl⟩
 have hll : l.length = t := by rw [hl]; simp; omega
 have hlB : isB l := fun x hx => hB x (by rw [hl] at hx; exact List.mem_of_mem_drop (List.mem_of_mem_take hx))
 rw [← hl] at hd
 rw [hd] at h4 hk ⊢
 have htl := tail_val l (iniV (f : Int)) hlB (by omega)
 have hvd := val_div l (iniV (f : Int)) hlB
 rw [hll] at htl hvd
 have hE : encN (valT l (iniV (f : Int))) = (f : Int) :: l := by
  unfold encN
  rw [h4, Int.toNat_natCast, htl]
  congr 1
  by_cases h8 : t < 8
  · rw [if_pos (by omega), gB_eq _ _ (by omega), hvd]
    have := hF.2.2.1 h8
    have h9 : ∀ j : Nat, j < 8 → (2 : Int) ^ (7 - j) ≤ 128 := by decide
    have := h9 t h8
    rw [Int.emod_eq_of_lt hF.2.1 (by omega)]
    exact (hF.2.2.1 h8).2
  · obtain rfl : t = 8 := by omega
    rw [if_neg (by omega)]
    have := (hF.2.2.2 rfl).1
    subst this
    rfl
 rw [hE]
 have e : ((i : Int) + 1 + (t : Int)).toNat = i + (t + 1) := by omega
 rw [e, Int.toNat_natCast, List.take_add, List.drop_eq_getElem_cons hlt, hget, List.take_succ_cons, hl]
theorem nums_bytes (s : ByteArray) : strOfNums (bytesOf s) = s := by
 have : (strOfNums (bytesOf s)).data = s.data := by
  apply Array.ext'
  rw [strOfNums_data, bytesOf, List.map_map]
  refine (List.map_congr_left (g := id) fun x _ => ?_).trans (List.map_id _)
  simp
 cases s
 simpa [ByteArray.ext_iff] using this
theorem bytes_nums {l : List Int} (h : isB l) : bytesOf (strOfNums l) = l := by
 rw [bytesOf, strOfNums_data, List.map_map]
 refine (List.map_congr_left (g := id) fun x hx => ?_).trans (List.map_id _)
 have := h x hx
 simp
 omega
theorem bytes_B (s : ByteArray) : isB (bytesOf s) := fun x hx => by
 rw [bytesOf, List.mem_map] at hx
 obtain ⟨y, _, rfl⟩ := hx
 have := y.toNat_lt
 omega
theorem app_B {a b : List Int} (ha : isB a) (hb : isB b) : isB (a ++ b) := fun x hx => by
 rcases List.mem_append.1 hx with h | h
 · exact ha x h
 · exact hb x h
def textB (s : ByteArray) : List Int := encN (s.size : Int) ++ bytesOf s
theorem textB_B (s : ByteArray) (hs : s.size ≤ 1000000) : isB (textB s) := app_B (enc_B (by omega) (by omega)) (bytes_B s)
theorem take_text (a r : List Int) (ha : isB a) (hr : isB r) (s : ByteArray) (hs : s.size ≤ 24) : textT (a ++ textB s ++ r) (a.length : Int) = (s, ((a ++ textB s).length : Int), 0) := by
 have e : a ++ textB s ++ r = a ++ encN (s.size : Int) ++ (bytesOf s ++ r) := by simp [textB]
 have h := take_enc a (bytesOf s ++ r) ha (app_B (bytes_B s) hr) (s.size : Int) (by omega) (by omega)
 have hl := bytesOf_length s
 have hbl : (a ++ encN (s.size : Int)).length = a.length + (encN (s.size : Int)).length := by simp
 unfold textT
 rw [e, h]
 simp only []
 rw [if_pos trivial, if_neg (by omega), if_neg (by simp [hl]; omega)]
 have e2 : ((a.length : Int) + ((encN (s.size : Int)).length : Int) + (s.size : Int)).toNat = (a ++ encN (s.size : Int) ++ bytesOf s).length := by simp [hl]; omega
 have e3 : ((a.length : Int) + ((encN (s.size : Int)).length : Int)).toNat = (a ++ encN (s.size : Int)).length := by simp; omega
 rw [e2, e3, ← List.append_assoc, List.take_left, List.drop_left, nums_bytes]
 congr 2
 simp [textB, hl]
 omega
theorem text_is {b : List Int} (hB : isB b) {p : Int} (h : (textT b p).2.2 = 0) : 0 ≤ p ∧ p.toNat ≤ b.length ∧ (textT b p).1.size ≤ 24 ∧ 0 ≤ (textT b p).2.1 ∧ b.take (textT b p).2.1.toNat = b.take p.toNat ++ textB (textT b p).1 := by
 unfold textT at h ⊢
 by_cases h0 : (takeS b p).2.2 = 0
 case neg => rw [if_neg h0] at h; cases h
 rw [if_pos h0] at h ⊢
 by_cases h1 : (takeS b p).1 > 24
 · rw [if_pos h1] at h; cases h
 by_cases h2 : (takeS b p).1 > (b.length : Int) - (takeS b p).2.1
 · rw [if_neg h1, if_pos h2] at h; cases h
 rw [if_neg h1, if_neg h2]
 have hk := takeS_ok hB h0
 obtain ⟨hp, hpl, ht⟩ := take_is hB h0
 obtain ⟨q, hq⟩ : ∃ q : Nat, (takeS b p).2.1 = (q : Int) := ⟨(takeS b p).2.1.toNat, by omega⟩
 obtain ⟨n, hn⟩ : ∃ n : Nat, (takeS b p).1 = (n : Int) := ⟨(takeS b p).1.toNat, by omega⟩
 simp only [hq, hn] at hk h1 h2 ht ⊢
 simp only [Int.toNat_natCast] at ht
 have e2 : ((q : Int) + (n : Int)).toNat = q + n := by omega
 have hz : (strOfNums ((b.take (q + n)).drop q)).size = n := by rw [strOfNums_size]; simp; omega
 have hbB : isB ((b.take (q + n)).drop q) := fun x hx => hB x (List.mem_of_mem_take (List.mem_of_mem_drop hx))
 refine ⟨hp, hpl, ?_, ?_, ?_⟩
 · show (strOfNums _).size ≤ 24
   rw [e2, Int.toNat_natCast, hz]; omega
 · show (0 : Int) ≤ (q : Int) + (n : Int)
   omega
 · show b.take ((q : Int) + (n : Int)).toNat = _
   unfold textB
   rw [e2, Int.toNat_natCast, hz, bytes_nums hbB, ← List.append_assoc, ← ht]
   have : (b.take (q + n)).take q = b.take q := by rw [List.take_take, Nat.min_eq_left (by omega)]
   rw [← this, List.take_append_drop]
theorem lay_app : ∀ (l : List S34) (b : List Int), layL b l = b ++ layL [] l
 | [], b => by simp [layL]
 | x :: l, b => by
   rw [layL, lay_app l, layL, lay_app l (textS [] x.f0 ++ encN x.f1)]
   simp [textS]
theorem lay_cons (x : S34) (l : List S34) : layL [] (x :: l) = textB x.f0 ++ encN x.f1 ++ layL [] l := by
 rw [layL, lay_app]
 simp [textS, textB]
def fine (l : List S34) : Prop := ∀ x, x ∈ l → x.f0.size ≤ 24 ∧ 1 ≤ x.f1 ∧ x.f1 ≤ 4611686018427387904
theorem lay_B : ∀ (l : List S34), fine l → isB (layL [] l)
 | [], _ => fun x hx => by cases hx
 | x :: l, h => by
   have hx := h x List.mem_cons_self
   rw [lay_cons]
   exact app_B (app_B (textB_B _ (by omega)) (enc_B (by omega) (by omega))) (lay_B l fun y hy => h y (List.mem_cons_of_mem _ hy))
theorem tl_enc (r : List Int) (hr : isB r) : ∀ (l : List S34) (a : List Int) (v : List S34), isB a → fine l → rightS (v ++ l) = true →
 tl (a ++ layL [] l ++ r) l.length (a.length : Int) v = (v ++ l, ((a ++ layL [] l).length : Int), 0)
 | [], a, v, ha, hf, hR => by
   rw [List.append_nil] at hR
   simp [tl, layL, hR]
 | x :: l, a, v, ha, hf, hR => by
   have hx := hf x List.mem_cons_self
   have hf' : fine l := fun y hy => hf y (List.mem_cons_of_mem _ hy)
   have e1 : a ++ layL [] (x :: l) ++ r = a ++ textB x.f0 ++ (encN x.f1 ++ layL [] l ++ r) := by rw [lay_cons]; simp
   have e2 : a ++ layL [] (x :: l) ++ r = (a ++ textB x.f0) ++ encN x.f1 ++ (layL [] l ++ r) := by rw [lay_cons]; simp
   have e3 : a ++ layL [] (x :: l) ++ r = (a ++ textB x.f0 ++ encN x.f1) ++ layL [] l ++ r := by rw [lay_cons]; simp
   have hB1 : isB (encN x.f1) := enc_B (by omega) (by omega)
   have hT := take_text a (encN x.f1 ++ layL [] l ++ r) ha (app_B (app_B hB1 (lay_B l hf')) hr) x.f0 hx.1
   have hN := take_enc (a ++ textB x.f0) (layL [] l ++ r) (app_B ha (textB_B _ (by omega))) (app_B (lay_B l hf') hr) x.f1 (by omega) (by omega)
   rw [← e1] at hT
   rw [← e2] at hN
   have ih := tl_enc r hr l (a ++ textB x.f0 ++ encN x.f1) (v ++ [x]) (app_B (app_B ha (textB_B _ (by omega))) hB1) hf' (by simpa using hR)
   rw [← e3] at ih
   rw [List.length_cons, tl, hT]
   simp only []
   rw [hN]
   simp only []
   rw [if_pos trivial, if_pos trivial, if_neg (by omega), w_id (by omega)]
   have e4 : ((a ++ textB x.f0).length : Int) + ((encN x.f1).length : Int) = ((a ++ textB x.f0 ++ encN x.f1).length : Int) := by simp; omega
   rw [e4, ih, lay_cons]
   simp
theorem right_fine {l : List S34} (h : rightS l = true) : fine l := fun x hx => ⟨rises_name (rightS_le h).2 hx, rises_pos (rightS_le h).2 hx⟩
theorem tl_is {b : List Int} (hB : isB b) : ∀ (c : Nat) (p : Int) (v : List S34), 0 ≤ p → p ≤ (b.length : Int) → (tl b c p v).2.2 = 0 →
 ∃ l, (tl b c p v).1 = v ++ l ∧ l.length = c ∧ rightS (v ++ l) = true ∧ (0 ≤ (tl b c p v).2.1 ∧ (tl b c p v).2.1 ≤ (b.length : Int)) ∧ b.take (tl b c p v).2.1.toNat = b.take p.toNat ++ layL [] l
 | 0, p, v, hp, hpl, h => by
   unfold tl at h ⊢
   by_cases hR : rightS v = true
   case neg => rw [if_neg hR] at h; cases h
   rw [if_pos hR]
   exact ⟨[], by simp, rfl, by simpa using hR, ⟨hp, hpl⟩, by simp [layL]⟩
 | c + 1, p, v, hp, hpl, h => by
   unfold tl at h ⊢
   by_cases h0 : (textT b p).2.2 = 0
   case neg => rw [if_neg h0] at h; cases h
   by_cases h1 : (takeS b (textT b p).2.1).2.2 = 0
   case neg => rw [if_pos h0, if_neg h1] at h; cases h
   by_cases h2 : (takeS b (textT b p).2.1).1 > 4611686018427387904
   · rw [if_pos h0, if_pos h1, if_pos h2] at h; cases h
   rw [if_pos h0, if_pos h1, if_neg h2] at h ⊢
   obtain ⟨_, _, hs, _, ht⟩ := text_is hB h0
   have hk := takeS_ok hB h1
   obtain ⟨_, _, hn⟩ := take_is hB h1
   obtain ⟨l, e1, e2, e3, e4, e5⟩ := tl_is hB c _ _ hk.1 hk.2.1 h
   have hw : wrap64 (takeS b (textT b p).2.1).1 = (takeS b (textT b p).2.1).1 := w_id (by omega)
   rw [hw] at e1 e3 e4 e5 ⊢
   refine ⟨⟨(textT b p).1, (takeS b (textT b p).2.1).1⟩ :: l, by rw [e1]; simp, by simp [e2], by simpa using e3, e4, ?_⟩
   rw [e5, hn, ht, lay_cons]
   simp
theorem layS_len (l : List S34) (h : rightS l = true) : (layS [] l).1.length ≤ 3000 := by
 have hle := (rightS_le h).1
 have hf := right_fine h
 have : ∀ (l : List S34), fine l → (layL [] l).length ≤ 42 * l.length := by
  intro l
  induction l with
  | nil => intro _; simp [layL]
  | cons x l ih =>
    intro hf
    have := ih fun y hy => hf y (List.mem_cons_of_mem _ hy)
    have hx := hf x List.mem_cons_self
    have h1 := encN_len x.f1
    have h2 := encN_len (x.f0.size : Int)
    rw [lay_cons]
    simp [textB, bytesOf_length]
    omega
 have h1 := this l hf
 have h2 := encN_len (l.length : Int)
 unfold layS
 rw [if_pos h, lay_app]
 simp
 omega
end Go.Proofs.Ytenbkljgmgdegaa.PO
