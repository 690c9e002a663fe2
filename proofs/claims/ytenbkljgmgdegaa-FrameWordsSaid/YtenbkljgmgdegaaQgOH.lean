/- What the rows of this claim use, out of the texts of this work (OH, OC, OG, OY, PD9). No condition beyond those that each statement names. -/
import Derived.Test.YtenbkljgmgdegaaQgOA
import Derived.Test.YtenbkljgmgdegaaQgPOx10
import Derived.Test.YtenbkljgmgdegaaQgPOx0
import Derived.Test.YtenbkljgmgdegaaQgPOx7
import Derived.Test.YtenbkljgmgdegaaQgOV
import Derived.Test.YtenbkljgmgdegaaQgPOx2
section
namespace Go.Proofs.Ytenbkljgmgdegaa.PO
open Go.RowKit Go.Proofs.YtenbkljgmgdegaaW.PrintWords Go.Proofs.YtenbkljgmgdegaaW.PrintLast Go.Proofs.YtenbkljgmgdegaaW.PrintMore Go.Proofs.Ytenbkljgmgdegaa.XW
set_option linter.unusedVariables false
set_option linter.unusedSimpArgs false
theorem refName_l0 (s : ByteArray) (hs : s.size ≤ 9223372036854775807) : ∀ (k i : Nat), i ≤ s.size → s.size - i < k →
 pannierref07_IsName.l0 k s (i : Int) = some ((s.data.toList.drop i).all okCh && decide (1 ≤ s.size) && decide (s.size ≤ 24))
 | 0, i, _, h => by omega
 | k + 1, i, hi, h => by
   unfold pannierref07_IsName.l0
   by_cases hlt : i < s.size
   · rw [if_pos (by omega), if_pos (by omega)]
     have ih := refName_l0 s hs k (i + 1) (by omega) (by omega)
     rw [wrap_succ hlt hs, ih]
     have hb : bt s (i : Int) = ((s[i]'hlt).toNat : Int) := by simp [bt, hlt]
     have hd : s.data.toList.drop i = s[i]'hlt :: s.data.toList.drop (i + 1) := by
      rw [List.drop_eq_getElem_cons (by simpa using hlt)]
      congr 1
     rw [hb, hd, List.all_cons]
     have ho := okCh_iff (s[i]'hlt)
     generalize (s[i]'hlt) = c at ho
     cases hc : okCh c
     · have hno : ¬ ((97 ≤ c.toNat ∧ c.toNat ≤ 122) ∨ (48 ≤ c.toNat ∧ c.toNat ≤ 57) ∨ c.toNat = 46) := fun z => by rw [ho.2 z] at hc; cases hc
       simp only [Bool.false_and]
       repeat' split
       all_goals first | rfl | (exfalso; omega)
     · have hyes := ho.1 hc
       simp only [Bool.true_and]
       repeat' split
       all_goals first | rfl | (exfalso; omega)
   · rw [if_neg (by omega), List.drop_eq_nil_of_le (by simp; omega)]
     simp only [List.all_nil, Bool.true_and]
     by_cases h1 : 1 ≤ s.size
     · rw [if_pos (by omega)]
       simp [h1]
       omega
     · rw [if_neg (by omega)]
       simp [h1]
theorem refName_f (s : ByteArray) (hs : s.size ≤ 9223372036854775807) (k : Nat) (hk : s.size < k) : pannierref07_IsName.f k s = some (isNameB s) := by
 unfold pannierref07_IsName.f
 rw [show (0 : Int) = ((0 : Nat) : Int) from rfl, refName_l0 s hs k 0 (by omega) (by omega)]
 simp [isNameB]
theorem refDot_f (n : ByteArray) (hs : n.size ≤ 9223372036854775807) (d : Int) (k : Nat) (hk : n.size < k) : pannierref07_IsDot.f k n d = some (dotOk ⟨n, d⟩) := by
 unfold pannierref07_IsDot.f dotOk
 rw [refName_f n hs k hk, Option.bind_some]
 cases isNameB n <;> simp
 by_cases h : 1 ≤ d <;> simp [h]
theorem refRight_l0 (l : List S34) (hl : l.length ≤ 9223372036854775807) (m : Nat) (hm : m ≤ 9223372036854775807) (hz : sizes m l) : ∀ (k i : Nat), 0 < i → i ≤ l.length → l.length - i + m + 1 < k →
 pannierref07_Right.l0 k l (i : Int) = some (rises (rd_T34 l ((i - 1 : Nat) : Int)).f0 (l.drop i))
 | 0, i, _, _, h => by omega
 | k + 1, i, h0, hi, h => by
   unfold pannierref07_Right.l0
   by_cases hlt : i < l.length
   · have hmem : rd_T34 l (i : Int) ∈ l := by
      have : rd_T34 l (i : Int) = l[i] := by simp [rd_T34, List.getD, hlt]
      rw [this]; exact List.getElem_mem hlt
     have hsz := hz _ hmem
     have hw : wrap64 ((i : Int) - 1) = ((i - 1 : Nat) : Int) := by unfold wrap64; omega
     rw [if_pos (by omega), if_pos (by omega), refDot_f _ (by omega) _ k (by omega), Option.bind_some, hw, rd_drop l i hlt, rises]
     have ih := refRight_l0 l hl m hm hz k (i + 1) (by omega) (by omega) (by omega)
     rw [wrap_succ hlt hl, ih, Nat.add_sub_cancel]
     rw [if_pos (show (i : Int) > 0 by omega), if_pos (show (0 : Int) ≤ ((i - 1 : Nat) : Int) by omega), if_pos (show ((i - 1 : Nat) : Int) < (l.length : Int) by omega)]
     cases dotOk (rd_T34 l i) <;> simp
     cases Op.bytesLess (rd_T34 l ((i - 1 : Nat) : Int)).f0.toList (rd_T34 l i).f0.toList <;> simp
   · rw [if_neg (by omega), List.drop_eq_nil_of_le (by omega)]
     rfl
theorem refRight_f (l : List S34) (hl : l.length ≤ 9223372036854775807) (m : Nat) (hm : m ≤ 9223372036854775807) (hz : sizes m l) (k : Nat) (hk : l.length + m + 2 < k) : pannierref07_Right.f k l = some (rightS l) := by
 unfold pannierref07_Right.f rightS
 by_cases h : l.length ≤ 64
 · rw [if_neg (by omega)]
   obtain ⟨k, rfl⟩ : ∃ m, k = m + 1 := ⟨k - 1, by omega⟩
   cases l with
   | nil => unfold pannierref07_Right.l0; simp [rises]
   | cons x l =>
     unfold pannierref07_Right.l0
     have hx : rd_T34 (x :: l) 0 = x := rfl
     have ih := refRight_l0 (x :: l) hl m hm hz k 1 (by omega) (by simp) (by simp only [List.length_cons] at hk ⊢; omega)
     simp only [Nat.sub_self] at ih
     rw [show ((0 : Nat) : Int) = 0 from rfl, hx] at ih
     have hsz := hz x (by simp)
     rw [if_pos (by simp only [List.length_cons]; omega), if_pos (by omega), hx, refDot_f _ (by omega) _ k (by omega), Option.bind_some, if_neg (show ¬ ((0 : Int) > 0) by omega)]
     rw [show wrap64 (0 + 1) = ((1 : Nat) : Int) from by unfold wrap64; decide, ih]
     simp only [List.drop_succ_cons, List.drop_zero, rises, h, decide_true, Bool.true_and]
     cases hd : dotOk x
     · rfl
     · have hn := dotOk_name hd
       simp only [hn]
       simp [hd]
 · rw [if_pos (by omega)]
   simp [h]
section
end
end Go.Proofs.Ytenbkljgmgdegaa.PO
end
section
namespace Go.Proofs.Ytenbkljgmgdegaa.PO
open Go.RowKit Go.Proofs.YtenbkljgmgdegaaW.PrintWords Go.Proofs.YtenbkljgmgdegaaW.PrintLast Go.Proofs.YtenbkljgmgdegaaW.PrintMore Go.Proofs.Ytenbkljgmgdegaa.XW
set_option linter.unusedVariables false
set_option linter.unusedSimpArgs false
structure AP where
 L : List S36
 K : List S34
 Q : List S36
def ofDot (l : List S36) (d : S34) : Option S36 := l.find? (fun y => decide (y.f0 = d))
structure InvA (s : AP) : Prop where
 once : ((s.L ++ s.Q).map (·.f0)).Nodup
 right : ∀ x ∈ s.L ++ s.Q, rightO x = true
 known : rightS s.K = true
 know : ∀ d : S34, 1 ≤ d.f1 → (d.f1 ≤ atS d.f0 s.K ↔ ∃ y ∈ s.L, y.f0 = d)
 waits : s.Q.length ≤ 256
end Go.Proofs.Ytenbkljgmgdegaa.PO
end
section
namespace Go.Proofs.Ytenbkljgmgdegaa.PO
open Go.RowKit Go.Proofs.YtenbkljgmgdegaaW.PrintWords Go.Proofs.YtenbkljgmgdegaaW.PrintLast Go.Proofs.YtenbkljgmgdegaaW.PrintMore Go.Proofs.Ytenbkljgmgdegaa.XW
set_option linter.unusedVariables false
set_option linter.unusedSimpArgs false
theorem inj_l (x y : ByteArray) : (x.toList = y.toList) ↔ x = y := ⟨bytes_inj, fun h => by rw [h]⟩
theorem inj_b (x y : ByteArray) : (x.toList == y.toList) = decide (x = y) := by rw [Bool.eq_iff_iff]; simp [inj_l]
theorem refSame_l0 (a b : List S34) (hl : a.length = b.length) (ha : a.length ≤ 9223372036854775807) : ∀ (k i : Nat), i ≤ a.length → a.length - i < k →
 pannierref07_Same.l0 k a b (i : Int) = some (decide (a.drop i = b.drop i))
 | 0, i, _, h => by omega
 | k + 1, i, hi, h => by
   unfold pannierref07_Same.l0
   by_cases hlt : i < a.length
   · rw [if_pos (by omega), if_pos (by omega), if_pos (by omega), rd_drop a i hlt, rd_drop b i (by omega)]
     have ih := refSame_l0 a b hl ha k (i + 1) (by omega) (by omega)
     rw [wrap_succ hlt ha, ih]
     obtain ⟨x0, x1⟩ := rd_T34 a i
     obtain ⟨y0, y1⟩ := rd_T34 b i
     simp only [inj_b]
     by_cases e0 : x0 = y0
     · by_cases e1 : x1 = y1
       · subst e0; subst e1; simp
       · simp [e1]
     · simp [e0]
   · rw [if_neg (by omega), List.drop_eq_nil_of_le (by omega), List.drop_eq_nil_of_le (by omega)]
     simp
theorem refSame_f (a b : List S34) (ha : a.length ≤ 9223372036854775807) (k : Nat) (hk : a.length < k) : pannierref07_Same.f k a b = some (decide (a = b)) := by
 unfold pannierref07_Same.f
 by_cases hl : a.length = b.length
 · have := refSame_l0 a b hl ha k 0 (by omega) (by omega)
   rw [if_pos (by omega), show (0 : Int) = ((0 : Nat) : Int) from rfl, this]; simp
 · rw [if_neg (by omega)]
   have : ¬ a = b := fun h => hl (by rw [h])
   simp [this]
end Go.Proofs.Ytenbkljgmgdegaa.PO
end
section
namespace Go.Proofs.Ytenbkljgmgdegaa.PO
open Go.RowKit Go.Proofs.YtenbkljgmgdegaaW.PrintWords Go.Proofs.YtenbkljgmgdegaaW.PrintLast Go.Proofs.YtenbkljgmgdegaaW.PrintMore Go.Proofs.Ytenbkljgmgdegaa.XW
set_option linter.unusedVariables false
set_option linter.unusedSimpArgs false
theorem ahead_f (a b : S34) : pannierref08_ahead.f a.f0 a.f1 b.f0 b.f1 = some (lessD a b) := by
 unfold pannierref08_ahead.f lessD
 cases h : Op.bytesLess a.f0.toList b.f0.toList
 · by_cases e : a.f0.toList = b.f0.toList
   · simp [e]
   · simp [e]
 · simp
end Go.Proofs.Ytenbkljgmgdegaa.PO
end
section
namespace Go.Proofs.Ytenbkljgmgdegaa.PO
open Go.RowKit Go.Proofs.YtenbkljgmgdegaaW.PrintWords Go.Proofs.YtenbkljgmgdegaaW.PrintLast Go.Proofs.YtenbkljgmgdegaaW.PrintMore
attribute [local go_sem] max2_int min2_int max_two min_two max_three min_three max_four min_four   -- for this text's walks alone
set_option linter.unusedVariables false
set_option linter.unusedSimpArgs false
section
variable {P : Program}
section
set_option maxHeartbeats 4000000
set_option maxRecDepth 100000
end
end
def bits_Len64.j0 : Nat → Int → Int → Option (Int)
 | 0, _, _ => none
 | k + 1, x0, x2 => if x0 ≥ 65536 then (if (x0 / 65536) ≥ 256 then (if 0 ≤ (((x0 / 65536) / 256) % 256) then (if (((x0 / 65536) / 256) % 256) < 256 then (some (wrap64 ((wrap64 ((wrap64 (x2 + 16)) + 8)) + (wrap64 (bt (⟨#[0, 1, 2, 2, 3, 3, 3, 3, 4, 4, 4, 4, 4, 4, 4, 4, 5, 5, 5, 5, 5, 5, 5, 5, 5, 5, 5, 5, 5, 5, 5, 5, 6, 6, 6, 6, 6, 6, 6, 6, 6, 6, 6, 6, 6, 6, 6, 6, 6, 6, 6, 6, 6, 6, 6, 6, 6, 6, 6, 6, 6, 6, 6, 6, 7, 7, 7, 7, 7, 7, 7, 7, 7, 7, 7, 7, 7, 7, 7, 7, 7, 7, 7, 7, 7, 7, 7, 7, 7, 7, 7, 7, 7, 7, 7, 7, 7, 7, 7, 7, 7, 7, 7, 7, 7, 7, 7, 7, 7, 7, 7, 7, 7, 7, 7, 7, 7, 7, 7, 7, 7, 7, 7, 7, 7, 7, 7, 7, 8, 8, 8, 8, 8, 8, 8, 8, 8, 8, 8, 8, 8, 8, 8, 8, 8, 8, 8, 8, 8, 8, 8, 8, 8, 8, 8, 8, 8, 8, 8, 8, 8, 8, 8, 8, 8, 8, 8, 8, 8, 8, 8, 8, 8, 8, 8, 8, 8, 8, 8, 8, 8, 8, 8, 8, 8, 8, 8, 8, 8, 8, 8, 8, 8, 8, 8, 8, 8, 8, 8, 8, 8, 8, 8, 8, 8, 8, 8, 8, 8, 8, 8, 8, 8, 8, 8, 8, 8, 8, 8, 8, 8, 8, 8, 8, 8, 8, 8, 8, 8, 8, 8, 8, 8, 8, 8, 8, 8, 8, 8, 8, 8, 8, 8, 8, 8, 8, 8, 8, 8, 8, 8, 8, 8, 8, 8, 8]⟩ : ByteArray) (((x0 / 65536) / 256) % 256)))))) else (none)) else (none)) else (if 0 ≤ ((x0 / 65536) % 256) then (if ((x0 / 65536) % 256) < 256 then (some (wrap64 ((wrap64 (x2 + 16)) + (wrap64 (bt (⟨#[0, 1, 2, 2, 3, 3, 3, 3, 4, 4, 4, 4, 4, 4, 4, 4, 5, 5, 5, 5, 5, 5, 5, 5, 5, 5, 5, 5, 5, 5, 5, 5, 6, 6, 6, 6, 6, 6, 6, 6, 6, 6, 6, 6, 6, 6, 6, 6, 6, 6, 6, 6, 6, 6, 6, 6, 6, 6, 6, 6, 6, 6, 6, 6, 7, 7, 7, 7, 7, 7, 7, 7, 7, 7, 7, 7, 7, 7, 7, 7, 7, 7, 7, 7, 7, 7, 7, 7, 7, 7, 7, 7, 7, 7, 7, 7, 7, 7, 7, 7, 7, 7, 7, 7, 7, 7, 7, 7, 7, 7, 7, 7, 7, 7, 7, 7, 7, 7, 7, 7, 7, 7, 7, 7, 7, 7, 7, 7, 8, 8, 8, 8, 8, 8, 8, 8, 8, 8, 8, 8, 8, 8, 8, 8, 8, 8, 8, 8, 8, 8, 8, 8, 8, 8, 8, 8, 8, 8, 8, 8, 8, 8, 8, 8, 8, 8, 8, 8, 8, 8, 8, 8, 8, 8, 8, 8, 8, 8, 8, 8, 8, 8, 8, 8, 8, 8, 8, 8, 8, 8, 8, 8, 8, 8, 8, 8, 8, 8, 8, 8, 8, 8, 8, 8, 8, 8, 8, 8, 8, 8, 8, 8, 8, 8, 8, 8, 8, 8, 8, 8, 8, 8, 8, 8, 8, 8, 8, 8, 8, 8, 8, 8, 8, 8, 8, 8, 8, 8, 8, 8, 8, 8, 8, 8, 8, 8, 8, 8, 8, 8, 8, 8, 8, 8, 8, 8]⟩ : ByteArray) ((x0 / 65536) % 256)))))) else (none)) else (none))) else (if x0 ≥ 256 then (if 0 ≤ ((x0 / 256) % 256) then (if ((x0 / 256) % 256) < 256 then (some (wrap64 ((wrap64 (x2 + 8)) + (wrap64 (bt (⟨#[0, 1, 2, 2, 3, 3, 3, 3, 4, 4, 4, 4, 4, 4, 4, 4, 5, 5, 5, 5, 5, 5, 5, 5, 5, 5, 5, 5, 5, 5, 5, 5, 6, 6, 6, 6, 6, 6, 6, 6, 6, 6, 6, 6, 6, 6, 6, 6, 6, 6, 6, 6, 6, 6, 6, 6, 6, 6, 6, 6, 6, 6, 6, 6, 7, 7, 7, 7, 7, 7, 7, 7, 7, 7, 7, 7, 7, 7, 7, 7, 7, 7, 7, 7, 7, 7, 7, 7, 7, 7, 7, 7, 7, 7, 7, 7, 7, 7, 7, 7, 7, 7, 7, 7, 7, 7, 7, 7, 7, 7, 7, 7, 7, 7, 7, 7, 7, 7, 7, 7, 7, 7, 7, 7, 7, 7, 7, 7, 8, 8, 8, 8, 8, 8, 8, 8, 8, 8, 8, 8, 8, 8, 8, 8, 8, 8, 8, 8, 8, 8, 8, 8, 8, 8, 8, 8, 8, 8, 8, 8, 8, 8, 8, 8, 8, 8, 8, 8, 8, 8, 8, 8, 8, 8, 8, 8, 8, 8, 8, 8, 8, 8, 8, 8, 8, 8, 8, 8, 8, 8, 8, 8, 8, 8, 8, 8, 8, 8, 8, 8, 8, 8, 8, 8, 8, 8, 8, 8, 8, 8, 8, 8, 8, 8, 8, 8, 8, 8, 8, 8, 8, 8, 8, 8, 8, 8, 8, 8, 8, 8, 8, 8, 8, 8, 8, 8, 8, 8, 8, 8, 8, 8, 8, 8, 8, 8, 8, 8, 8, 8, 8, 8, 8, 8, 8, 8]⟩ : ByteArray) ((x0 / 256) % 256)))))) else (none)) else (none)) else (if 0 ≤ ((x0) % 256) then (if ((x0) % 256) < 256 then (some (wrap64 (x2 + (wrap64 (bt (⟨#[0, 1, 2, 2, 3, 3, 3, 3, 4, 4, 4, 4, 4, 4, 4, 4, 5, 5, 5, 5, 5, 5, 5, 5, 5, 5, 5, 5, 5, 5, 5, 5, 6, 6, 6, 6, 6, 6, 6, 6, 6, 6, 6, 6, 6, 6, 6, 6, 6, 6, 6, 6, 6, 6, 6, 6, 6, 6, 6, 6, 6, 6, 6, 6, 7, 7, 7, 7, 7, 7, 7, 7, 7, 7, 7, 7, 7, 7, 7, 7, 7, 7, 7, 7, 7, 7, 7, 7, 7, 7, 7, 7, 7, 7, 7, 7, 7, 7, 7, 7, 7, 7, 7, 7, 7, 7, 7, 7, 7, 7, 7, 7, 7, 7, 7, 7, 7, 7, 7, 7, 7, 7, 7, 7, 7, 7, 7, 7, 8, 8, 8, 8, 8, 8, 8, 8, 8, 8, 8, 8, 8, 8, 8, 8, 8, 8, 8, 8, 8, 8, 8, 8, 8, 8, 8, 8, 8, 8, 8, 8, 8, 8, 8, 8, 8, 8, 8, 8, 8, 8, 8, 8, 8, 8, 8, 8, 8, 8, 8, 8, 8, 8, 8, 8, 8, 8, 8, 8, 8, 8, 8, 8, 8, 8, 8, 8, 8, 8, 8, 8, 8, 8, 8, 8, 8, 8, 8, 8, 8, 8, 8, 8, 8, 8, 8, 8, 8, 8, 8, 8, 8, 8, 8, 8, 8, 8, 8, 8, 8, 8, 8, 8, 8, 8, 8, 8, 8, 8, 8, 8, 8, 8, 8, 8, 8, 8, 8, 8, 8, 8, 8, 8, 8, 8, 8, 8]⟩ : ByteArray) ((x0) % 256)))))) else (none)) else (none)))
def bits_Len64.f (k : Nat) (a0 : Int) : Option (Int) := if a0 ≥ 4294967296 then (bits_Len64.j0 k (a0 / 4294967296) 32) else (bits_Len64.j0 k a0 0)
set_option maxHeartbeats 8000000 in
set_option maxRecDepth 100000 in
theorem bits_Len64.calls (k : Nat) (a0 : Int) (r : Int) (w : World) (h : bits_Len64.f k a0 = some r) :
 Calls Try.prog 134 #[.int .u64 a0] w fun e w' => e = .returned (.int .i64 r) ∧ Drawn0 w w' := by
 have H : (if a0 ≥ 4294967296 then (bits_Len64.j0 k (a0 / 4294967296) 32) else (bits_Len64.j0 k a0 0)) = some r := h
 clear h
 have HC2 := Aside0.mk H
 clear H
 go_enter Try.func134, Try.ntmps134
 go_upto_if 4 with (fail)
 go_cut [0, 2] (fun v0 v2 wc => ∃ (kq : Nat) (x0_1 : Int) (x2_1 : Int), v0 = .int .u64 x0_1 ∧ v2 = .int .i64 x2_1 ∧ Aside0 (bits_Len64.j0 kq x0_1 x2_1 = some r) ∧ Aside0 (kq ≤ k) ∧ Drawn0 w wc)
 case first =>
  have H := HC2.out
  clear HC2
  by_cases c3 : a0 ≥ 4294967296
  · rw [if_pos c3] at H
    have c3b0 : decide (4294967296 ≤ a0) = true := decide_eq_true c3
    clear c3
    (first | rw [c3b0] | (simp only [i64_w, i32_w]; rw [c3b0]) | skip)
    have H' := Aside0.mk H
    clear H
    go_wp2
    go_meet
    case rel => exact ⟨_, (a0 / 4294967296), (32), (by first | rfl | (simp; done) | (simp [*]; done)), (by first | rfl | (simp; done) | (simp [*]; done)), H', ⟨by first | omega | exact Nat.le_refl _⟩, by repeat (first | exact Drawn0.refl _ | apply Drawn0.step)⟩
  · rw [if_neg c3] at H
    have c3b0 : decide (4294967296 ≤ a0) = false := decide_eq_false c3
    clear c3
    (first | rw [c3b0] | (simp only [i64_w, i32_w]; rw [c3b0]) | skip)
    have H' := Aside0.mk H
    clear H
    go_wp2
    go_meet
    case rel => exact ⟨_, (a0), (0), (by first | rfl | (simp; done) | (simp [*]; done)), (by first | rfl | (simp; done) | (simp [*]; done)), H', ⟨by first | omega | exact Nat.le_refl _⟩, by repeat (first | exact Drawn0.refl _ | apply Drawn0.step)⟩
 case rest =>
  clear HC2
  try clear c1
  try clear p2
  try clear c3
  try clear c3b0
  obtain ⟨kq, x0_1, x2_1, rfl, rfl, HA, HJ1, ⟨mc1, rfl⟩⟩ := hcut
  cases kq with
  | zero => exact absurd HA.out (by simp [bits_Len64.j0])
  | succ kj1 =>
   have H := HA.out
   clear HA
   simp only [bits_Len64.j0] at H
   by_cases c4 : x0_1 ≥ 65536
   · rw [if_pos c4] at H
     have c4b0 : decide (65536 ≤ x0_1) = true := decide_eq_true c4
     clear c4
     by_cases c5 : (x0_1 / 65536) ≥ 256
     · rw [if_pos c5] at H
       have c5b0 : decide (256 ≤ (x0_1 / 65536)) = true := decide_eq_true c5
       clear c5
       obtain ⟨ji6, hji6⟩ : ∃ j_ : Int, (((x0_1 / 65536) / 256) % 256) = j_ := ⟨_, rfl⟩
       replace H : (if 0 ≤ (ji6) then (if (ji6) < 256 then (some (wrap64 ((wrap64 ((wrap64 (x2_1 + 16)) + 8)) + (wrap64 (bt (⟨#[0, 1, 2, 2, 3, 3, 3, 3, 4, 4, 4, 4, 4, 4, 4, 4, 5, 5, 5, 5, 5, 5, 5, 5, 5, 5, 5, 5, 5, 5, 5, 5, 6, 6, 6, 6, 6, 6, 6, 6, 6, 6, 6, 6, 6, 6, 6, 6, 6, 6, 6, 6, 6, 6, 6, 6, 6, 6, 6, 6, 6, 6, 6, 6, 7, 7, 7, 7, 7, 7, 7, 7, 7, 7, 7, 7, 7, 7, 7, 7, 7, 7, 7, 7, 7, 7, 7, 7, 7, 7, 7, 7, 7, 7, 7, 7, 7, 7, 7, 7, 7, 7, 7, 7, 7, 7, 7, 7, 7, 7, 7, 7, 7, 7, 7, 7, 7, 7, 7, 7, 7, 7, 7, 7, 7, 7, 7, 7, 8, 8, 8, 8, 8, 8, 8, 8, 8, 8, 8, 8, 8, 8, 8, 8, 8, 8, 8, 8, 8, 8, 8, 8, 8, 8, 8, 8, 8, 8, 8, 8, 8, 8, 8, 8, 8, 8, 8, 8, 8, 8, 8, 8, 8, 8, 8, 8, 8, 8, 8, 8, 8, 8, 8, 8, 8, 8, 8, 8, 8, 8, 8, 8, 8, 8, 8, 8, 8, 8, 8, 8, 8, 8, 8, 8, 8, 8, 8, 8, 8, 8, 8, 8, 8, 8, 8, 8, 8, 8, 8, 8, 8, 8, 8, 8, 8, 8, 8, 8, 8, 8, 8, 8, 8, 8, 8, 8, 8, 8, 8, 8, 8, 8, 8, 8, 8, 8, 8, 8, 8, 8, 8, 8, 8, 8, 8, 8]⟩ : ByteArray) (ji6)))))) else (none)) else (none)) = some r := by first | (rw [hji6] at H; exact H) | (simp only [hji6] at H ⊢; exact H)
       by_cases c7 : 0 ≤ (ji6)
       · rw [if_pos c7] at H
         have c7b0 : decide (0 ≤ (ji6)) = true := decide_eq_true c7
         clear c7
         by_cases c8 : (ji6) < 256
         · rw [if_pos c8] at H
           have c8b0 : decide ((ji6) < 256) = true := decide_eq_true c8
           clear c8
           obtain rfl := Option.some.inj H
           have p9 : 0 ≤ ((ji6) : Int) := of_decide_eq_true (by first | (with_reducible assumption) | assumption)
           have q9 : (ji6) < (256 : Int) := of_decide_eq_true (by first | (with_reducible assumption) | assumption)
           have hx9 := bt_at (⟨#[0, 1, 2, 2, 3, 3, 3, 3, 4, 4, 4, 4, 4, 4, 4, 4, 5, 5, 5, 5, 5, 5, 5, 5, 5, 5, 5, 5, 5, 5, 5, 5, 6, 6, 6, 6, 6, 6, 6, 6, 6, 6, 6, 6, 6, 6, 6, 6, 6, 6, 6, 6, 6, 6, 6, 6, 6, 6, 6, 6, 6, 6, 6, 6, 7, 7, 7, 7, 7, 7, 7, 7, 7, 7, 7, 7, 7, 7, 7, 7, 7, 7, 7, 7, 7, 7, 7, 7, 7, 7, 7, 7, 7, 7, 7, 7, 7, 7, 7, 7, 7, 7, 7, 7, 7, 7, 7, 7, 7, 7, 7, 7, 7, 7, 7, 7, 7, 7, 7, 7, 7, 7, 7, 7, 7, 7, 7, 7, 8, 8, 8, 8, 8, 8, 8, 8, 8, 8, 8, 8, 8, 8, 8, 8, 8, 8, 8, 8, 8, 8, 8, 8, 8, 8, 8, 8, 8, 8, 8, 8, 8, 8, 8, 8, 8, 8, 8, 8, 8, 8, 8, 8, 8, 8, 8, 8, 8, 8, 8, 8, 8, 8, 8, 8, 8, 8, 8, 8, 8, 8, 8, 8, 8, 8, 8, 8, 8, 8, 8, 8, 8, 8, 8, 8, 8, 8, 8, 8, 8, 8, 8, 8, 8, 8, 8, 8, 8, 8, 8, 8, 8, 8, 8, 8, 8, 8, 8, 8, 8, 8, 8, 8, 8, 8, 8, 8, 8, 8, 8, 8, 8, 8, 8, 8, 8, 8, 8, 8, 8, 8, 8, 8, 8, 8, 8, 8]⟩ : ByteArray) (ji6)
           replace p9 := eq_true p9
           replace q9 := eq_true q9
           go_wp2
           go_ret
           exact ⟨by first | rfl | (simp; done) | (simp only [← hji6] <;> (first | rfl | simp)) | (simp [*]; done), by repeat (first | exact Drawn0.refl _ | apply Drawn0.step)⟩
         · rw [if_neg c8] at H
           exact absurd H (by simp)
       · rw [if_neg c7] at H
         exact absurd H (by simp)
     · rw [if_neg c5] at H
       have c5b0 : decide (256 ≤ (x0_1 / 65536)) = false := decide_eq_false c5
       clear c5
       obtain ⟨ji10, hji10⟩ : ∃ j_ : Int, ((x0_1 / 65536) % 256) = j_ := ⟨_, rfl⟩
       replace H : (if 0 ≤ (ji10) then (if (ji10) < 256 then (some (wrap64 ((wrap64 (x2_1 + 16)) + (wrap64 (bt (⟨#[0, 1, 2, 2, 3, 3, 3, 3, 4, 4, 4, 4, 4, 4, 4, 4, 5, 5, 5, 5, 5, 5, 5, 5, 5, 5, 5, 5, 5, 5, 5, 5, 6, 6, 6, 6, 6, 6, 6, 6, 6, 6, 6, 6, 6, 6, 6, 6, 6, 6, 6, 6, 6, 6, 6, 6, 6, 6, 6, 6, 6, 6, 6, 6, 7, 7, 7, 7, 7, 7, 7, 7, 7, 7, 7, 7, 7, 7, 7, 7, 7, 7, 7, 7, 7, 7, 7, 7, 7, 7, 7, 7, 7, 7, 7, 7, 7, 7, 7, 7, 7, 7, 7, 7, 7, 7, 7, 7, 7, 7, 7, 7, 7, 7, 7, 7, 7, 7, 7, 7, 7, 7, 7, 7, 7, 7, 7, 7, 8, 8, 8, 8, 8, 8, 8, 8, 8, 8, 8, 8, 8, 8, 8, 8, 8, 8, 8, 8, 8, 8, 8, 8, 8, 8, 8, 8, 8, 8, 8, 8, 8, 8, 8, 8, 8, 8, 8, 8, 8, 8, 8, 8, 8, 8, 8, 8, 8, 8, 8, 8, 8, 8, 8, 8, 8, 8, 8, 8, 8, 8, 8, 8, 8, 8, 8, 8, 8, 8, 8, 8, 8, 8, 8, 8, 8, 8, 8, 8, 8, 8, 8, 8, 8, 8, 8, 8, 8, 8, 8, 8, 8, 8, 8, 8, 8, 8, 8, 8, 8, 8, 8, 8, 8, 8, 8, 8, 8, 8, 8, 8, 8, 8, 8, 8, 8, 8, 8, 8, 8, 8, 8, 8, 8, 8, 8, 8]⟩ : ByteArray) (ji10)))))) else (none)) else (none)) = some r := by first | (rw [hji10] at H; exact H) | (simp only [hji10] at H ⊢; exact H)
       by_cases c11 : 0 ≤ (ji10)
       · rw [if_pos c11] at H
         have c11b0 : decide (0 ≤ (ji10)) = true := decide_eq_true c11
         clear c11
         by_cases c12 : (ji10) < 256
         · rw [if_pos c12] at H
           have c12b0 : decide ((ji10) < 256) = true := decide_eq_true c12
           clear c12
           obtain rfl := Option.some.inj H
           have p13 : 0 ≤ ((ji10) : Int) := of_decide_eq_true (by first | (with_reducible assumption) | assumption)
           have q13 : (ji10) < (256 : Int) := of_decide_eq_true (by first | (with_reducible assumption) | assumption)
           have hx13 := bt_at (⟨#[0, 1, 2, 2, 3, 3, 3, 3, 4, 4, 4, 4, 4, 4, 4, 4, 5, 5, 5, 5, 5, 5, 5, 5, 5, 5, 5, 5, 5, 5, 5, 5, 6, 6, 6, 6, 6, 6, 6, 6, 6, 6, 6, 6, 6, 6, 6, 6, 6, 6, 6, 6, 6, 6, 6, 6, 6, 6, 6, 6, 6, 6, 6, 6, 7, 7, 7, 7, 7, 7, 7, 7, 7, 7, 7, 7, 7, 7, 7, 7, 7, 7, 7, 7, 7, 7, 7, 7, 7, 7, 7, 7, 7, 7, 7, 7, 7, 7, 7, 7, 7, 7, 7, 7, 7, 7, 7, 7, 7, 7, 7, 7, 7, 7, 7, 7, 7, 7, 7, 7, 7, 7, 7, 7, 7, 7, 7, 7, 8, 8, 8, 8, 8, 8, 8, 8, 8, 8, 8, 8, 8, 8, 8, 8, 8, 8, 8, 8, 8, 8, 8, 8, 8, 8, 8, 8, 8, 8, 8, 8, 8, 8, 8, 8, 8, 8, 8, 8, 8, 8, 8, 8, 8, 8, 8, 8, 8, 8, 8, 8, 8, 8, 8, 8, 8, 8, 8, 8, 8, 8, 8, 8, 8, 8, 8, 8, 8, 8, 8, 8, 8, 8, 8, 8, 8, 8, 8, 8, 8, 8, 8, 8, 8, 8, 8, 8, 8, 8, 8, 8, 8, 8, 8, 8, 8, 8, 8, 8, 8, 8, 8, 8, 8, 8, 8, 8, 8, 8, 8, 8, 8, 8, 8, 8, 8, 8, 8, 8, 8, 8, 8, 8, 8, 8, 8, 8]⟩ : ByteArray) (ji10)
           replace p13 := eq_true p13
           replace q13 := eq_true q13
           go_wp2
           go_ret
           exact ⟨by first | rfl | (simp; done) | (simp only [← hji10] <;> (first | rfl | simp)) | (simp [*]; done), by repeat (first | exact Drawn0.refl _ | apply Drawn0.step)⟩
         · rw [if_neg c12] at H
           exact absurd H (by simp)
       · rw [if_neg c11] at H
         exact absurd H (by simp)
   · rw [if_neg c4] at H
     have c4b0 : decide (65536 ≤ x0_1) = false := decide_eq_false c4
     clear c4
     by_cases c14 : x0_1 ≥ 256
     · rw [if_pos c14] at H
       have c14b0 : decide (256 ≤ x0_1) = true := decide_eq_true c14
       clear c14
       obtain ⟨ji15, hji15⟩ : ∃ j_ : Int, ((x0_1 / 256) % 256) = j_ := ⟨_, rfl⟩
       replace H : (if 0 ≤ (ji15) then (if (ji15) < 256 then (some (wrap64 ((wrap64 (x2_1 + 8)) + (wrap64 (bt (⟨#[0, 1, 2, 2, 3, 3, 3, 3, 4, 4, 4, 4, 4, 4, 4, 4, 5, 5, 5, 5, 5, 5, 5, 5, 5, 5, 5, 5, 5, 5, 5, 5, 6, 6, 6, 6, 6, 6, 6, 6, 6, 6, 6, 6, 6, 6, 6, 6, 6, 6, 6, 6, 6, 6, 6, 6, 6, 6, 6, 6, 6, 6, 6, 6, 7, 7, 7, 7, 7, 7, 7, 7, 7, 7, 7, 7, 7, 7, 7, 7, 7, 7, 7, 7, 7, 7, 7, 7, 7, 7, 7, 7, 7, 7, 7, 7, 7, 7, 7, 7, 7, 7, 7, 7, 7, 7, 7, 7, 7, 7, 7, 7, 7, 7, 7, 7, 7, 7, 7, 7, 7, 7, 7, 7, 7, 7, 7, 7, 8, 8, 8, 8, 8, 8, 8, 8, 8, 8, 8, 8, 8, 8, 8, 8, 8, 8, 8, 8, 8, 8, 8, 8, 8, 8, 8, 8, 8, 8, 8, 8, 8, 8, 8, 8, 8, 8, 8, 8, 8, 8, 8, 8, 8, 8, 8, 8, 8, 8, 8, 8, 8, 8, 8, 8, 8, 8, 8, 8, 8, 8, 8, 8, 8, 8, 8, 8, 8, 8, 8, 8, 8, 8, 8, 8, 8, 8, 8, 8, 8, 8, 8, 8, 8, 8, 8, 8, 8, 8, 8, 8, 8, 8, 8, 8, 8, 8, 8, 8, 8, 8, 8, 8, 8, 8, 8, 8, 8, 8, 8, 8, 8, 8, 8, 8, 8, 8, 8, 8, 8, 8, 8, 8, 8, 8, 8, 8]⟩ : ByteArray) (ji15)))))) else (none)) else (none)) = some r := by first | (rw [hji15] at H; exact H) | (simp only [hji15] at H ⊢; exact H)
       by_cases c16 : 0 ≤ (ji15)
       · rw [if_pos c16] at H
         have c16b0 : decide (0 ≤ (ji15)) = true := decide_eq_true c16
         clear c16
         by_cases c17 : (ji15) < 256
         · rw [if_pos c17] at H
           have c17b0 : decide ((ji15) < 256) = true := decide_eq_true c17
           clear c17
           obtain rfl := Option.some.inj H
           have p18 : 0 ≤ ((ji15) : Int) := of_decide_eq_true (by first | (with_reducible assumption) | assumption)
           have q18 : (ji15) < (256 : Int) := of_decide_eq_true (by first | (with_reducible assumption) | assumption)
           have hx18 := bt_at (⟨#[0, 1, 2, 2, 3, 3, 3, 3, 4, 4, 4, 4, 4, 4, 4, 4, 5, 5, 5, 5, 5, 5, 5, 5, 5, 5, 5, 5, 5, 5, 5, 5, 6, 6, 6, 6, 6, 6, 6, 6, 6, 6, 6, 6, 6, 6, 6, 6, 6, 6, 6, 6, 6, 6, 6, 6, 6, 6, 6, 6, 6, 6, 6, 6, 7, 7, 7, 7, 7, 7, 7, 7, 7, 7, 7, 7, 7, 7, 7, 7, 7, 7, 7, 7, 7, 7, 7, 7, 7, 7, 7, 7, 7, 7, 7, 7, 7, 7, 7, 7, 7, 7, 7, 7, 7, 7, 7, 7, 7, 7, 7, 7, 7, 7, 7, 7, 7, 7, 7, 7, 7, 7, 7, 7, 7, 7, 7, 7, 8, 8, 8, 8, 8, 8, 8, 8, 8, 8, 8, 8, 8, 8, 8, 8, 8, 8, 8, 8, 8, 8, 8, 8, 8, 8, 8, 8, 8, 8, 8, 8, 8, 8, 8, 8, 8, 8, 8, 8, 8, 8, 8, 8, 8, 8, 8, 8, 8, 8, 8, 8, 8, 8, 8, 8, 8, 8, 8, 8, 8, 8, 8, 8, 8, 8, 8, 8, 8, 8, 8, 8, 8, 8, 8, 8, 8, 8, 8, 8, 8, 8, 8, 8, 8, 8, 8, 8, 8, 8, 8, 8, 8, 8, 8, 8, 8, 8, 8, 8, 8, 8, 8, 8, 8, 8, 8, 8, 8, 8, 8, 8, 8, 8, 8, 8, 8, 8, 8, 8, 8, 8, 8, 8, 8, 8, 8, 8]⟩ : ByteArray) (ji15)
           replace p18 := eq_true p18
           replace q18 := eq_true q18
           go_wp2
           go_ret
           exact ⟨by first | rfl | (simp; done) | (simp only [← hji15] <;> (first | rfl | simp)) | (simp [*]; done), by repeat (first | exact Drawn0.refl _ | apply Drawn0.step)⟩
         · rw [if_neg c17] at H
           exact absurd H (by simp)
       · rw [if_neg c16] at H
         exact absurd H (by simp)
     · rw [if_neg c14] at H
       have c14b0 : decide (256 ≤ x0_1) = false := decide_eq_false c14
       clear c14
       obtain ⟨ji19, hji19⟩ : ∃ j_ : Int, ((x0_1) % 256) = j_ := ⟨_, rfl⟩
       replace H : (if 0 ≤ (ji19) then (if (ji19) < 256 then (some (wrap64 (x2_1 + (wrap64 (bt (⟨#[0, 1, 2, 2, 3, 3, 3, 3, 4, 4, 4, 4, 4, 4, 4, 4, 5, 5, 5, 5, 5, 5, 5, 5, 5, 5, 5, 5, 5, 5, 5, 5, 6, 6, 6, 6, 6, 6, 6, 6, 6, 6, 6, 6, 6, 6, 6, 6, 6, 6, 6, 6, 6, 6, 6, 6, 6, 6, 6, 6, 6, 6, 6, 6, 7, 7, 7, 7, 7, 7, 7, 7, 7, 7, 7, 7, 7, 7, 7, 7, 7, 7, 7, 7, 7, 7, 7, 7, 7, 7, 7, 7, 7, 7, 7, 7, 7, 7, 7, 7, 7, 7, 7, 7, 7, 7, 7, 7, 7, 7, 7, 7, 7, 7, 7, 7, 7, 7, 7, 7, 7, 7, 7, 7, 7, 7, 7, 7, 8, 8, 8, 8, 8, 8, 8, 8, 8, 8, 8, 8, 8, 8, 8, 8, 8, 8, 8, 8, 8, 8, 8, 8, 8, 8, 8, 8, 8, 8, 8, 8, 8, 8, 8, 8, 8, 8, 8, 8, 8, 8, 8, 8, 8, 8, 8, 8, 8, 8, 8, 8, 8, 8, 8, 8, 8, 8, 8, 8, 8, 8, 8, 8, 8, 8, 8, 8, 8, 8, 8, 8, 8, 8, 8, 8, 8, 8, 8, 8, 8, 8, 8, 8, 8, 8, 8, 8, 8, 8, 8, 8, 8, 8, 8, 8, 8, 8, 8, 8, 8, 8, 8, 8, 8, 8, 8, 8, 8, 8, 8, 8, 8, 8, 8, 8, 8, 8, 8, 8, 8, 8, 8, 8, 8, 8, 8, 8]⟩ : ByteArray) (ji19)))))) else (none)) else (none)) = some r := by first | (rw [hji19] at H; exact H) | (simp only [hji19] at H ⊢; exact H)
       by_cases c20 : 0 ≤ (ji19)
       · rw [if_pos c20] at H
         have c20b0 : decide (0 ≤ (ji19)) = true := decide_eq_true c20
         clear c20
         by_cases c21 : (ji19) < 256
         · rw [if_pos c21] at H
           have c21b0 : decide ((ji19) < 256) = true := decide_eq_true c21
           clear c21
           obtain rfl := Option.some.inj H
           have p22 : 0 ≤ ((ji19) : Int) := of_decide_eq_true (by first | (with_reducible assumption) | assumption)
           have q22 : (ji19) < (256 : Int) := of_decide_eq_true (by first | (with_reducible assumption) | assumption)
           have hx22 := bt_at (⟨#[0, 1, 2, 2, 3, 3, 3, 3, 4, 4, 4, 4, 4, 4, 4, 4, 5, 5, 5, 5, 5, 5, 5, 5, 5, 5, 5, 5, 5, 5, 5, 5, 6, 6, 6, 6, 6, 6, 6, 6, 6, 6, 6, 6, 6, 6, 6, 6, 6, 6, 6, 6, 6, 6, 6, 6, 6, 6, 6, 6, 6, 6, 6, 6, 7, 7, 7, 7, 7, 7, 7, 7, 7, 7, 7, 7, 7, 7, 7, 7, 7, 7, 7, 7, 7, 7, 7, 7, 7, 7, 7, 7, 7, 7, 7, 7, 7, 7, 7, 7, 7, 7, 7, 7, 7, 7, 7, 7, 7, 7, 7, 7, 7, 7, 7, 7, 7, 7, 7, 7, 7, 7, 7, 7, 7, 7, 7, 7, 8, 8, 8, 8, 8, 8, 8, 8, 8, 8, 8, 8, 8, 8, 8, 8, 8, 8, 8, 8, 8, 8, 8, 8, 8, 8, 8, 8, 8, 8, 8, 8, 8, 8, 8, 8, 8, 8, 8, 8, 8, 8, 8, 8, 8, 8, 8, 8, 8, 8, 8, 8, 8, 8, 8, 8, 8, 8, 8, 8, 8, 8, 8, 8, 8, 8, 8, 8, 8, 8, 8, 8, 8, 8, 8, 8, 8, 8, 8, 8, 8, 8, 8, 8, 8, 8, 8, 8, 8, 8, 8, 8, 8, 8, 8, 8, 8, 8, 8, 8, 8, 8, 8, 8, 8, 8, 8, 8, 8, 8, 8, 8, 8, 8, 8, 8, 8, 8, 8, 8, 8, 8, 8, 8, 8, 8, 8, 8]⟩ : ByteArray) (ji19)
           replace p22 := eq_true p22
           replace q22 := eq_true q22
           go_wp2
           go_ret
           exact ⟨by first | rfl | (simp; done) | (simp only [← hji19] <;> (first | rfl | simp)) | (simp [*]; done), by repeat (first | exact Drawn0.refl _ | apply Drawn0.step)⟩
         · rw [if_neg c21] at H
           exact absurd H (by simp)
       · rw [if_neg c20] at H
         exact absurd H (by simp)
end Go.Proofs.Ytenbkljgmgdegaa.PO
end
