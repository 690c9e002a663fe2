/- What the rows of this claim use, out of the texts of this work (OH). No condition beyond those that each statement names. -/
import Derived.Test.YtenbkljgmgdegaaQiOA
import Derived.Test.YtenbkljgmgdegaaQiPOx10
import Derived.Test.YtenbkljgmgdegaaQiPOx12
import Derived.Test.YtenbkljgmgdegaaQiPOx13
namespace Go.Proofs.Ytenbkljgmgdegaa.PO
open Go.RowKit Go.Proofs.YtenbkljgmgdegaaW.PrintWords Go.Proofs.YtenbkljgmgdegaaW.PrintLast Go.Proofs.YtenbkljgmgdegaaW.PrintMore Go.Proofs.Ytenbkljgmgdegaa.XW
set_option linter.unusedVariables false
set_option linter.unusedSimpArgs false
theorem refName_l0 (s : ByteArray) (hs : s.size ≤ 9223372036854775807) : ∀ (k i : Nat), i ≤ s.size → s.size - i < k →
    pannierref07_IsName.l0 k s (i : Int) = some ((s.data.toList.drop i).all okCh && decide (1 ≤ s.size) && decide (s.size ≤ 24))
  | 0, i, _, h => by omega
  | k + 1, i, hi, h => by
    unfold pannierref07_IsName.l0
    by_cases hlt : i < s.size
    · rw [if_pos (by omega), if_pos (by omega)]
      have ih := refName_l0 s hs k (i + 1) (by omega) (by omega)
      rw [wrap_succ hlt hs, ih]
      have hb : bt s (i : Int) = ((s[i]'hlt).toNat : Int) := by simp [bt, hlt]
      have hd : s.data.toList.drop i = s[i]'hlt :: s.data.toList.drop (i + 1) := by
        rw [List.drop_eq_getElem_cons (by simpa using hlt)]
        congr 1
      rw [hb, hd, List.all_cons]
      have ho := okCh_iff (s[i]'hlt)
      generalize (s[i]'hlt) = c at ho
      cases hc : okCh c
      · have hno : ¬ ((97 ≤ c.toNat ∧ c.toNat ≤ 122) ∨ (48 ≤ c.toNat ∧ c.toNat ≤ 57) ∨ c.toNat = 46) := fun z => by rw [ho.2 z] at hc; cases hc
        simp only [Bool.false_and]
        repeat' split
        all_goals first | rfl | (exfalso; omega)
      · have hyes := ho.1 hc
        simp only [Bool.true_and]
        repeat' split
        all_goals first | rfl | (exfalso; omega)
    · rw [if_neg (by omega), List.drop_eq_nil_of_le (by simp; omega)]
      simp only [List.all_nil, Bool.true_and]
      by_cases h1 : 1 ≤ s.size
      · rw [if_pos (by omega)]
        simp [h1]
        omega
      · rw [if_neg (by omega)]
        simp [h1]
theorem refName_f (s : ByteArray) (hs : s.size ≤ 9223372036854775807) (k : Nat) (hk : s.size < k) : pannierref07_IsName.f k s = some (isNameB s) := by
  unfold pannierref07_IsName.f
  rw [show (0 : Int) = ((0 : Nat) : Int) from rfl, refName_l0 s hs k 0 (by omega) (by omega)]
  simp [isNameB]
theorem refDot_f (n : ByteArray) (hs : n.size ≤ 9223372036854775807) (d : Int) (k : Nat) (hk : n.size < k) : pannierref07_IsDot.f k n d = some (dotOk ⟨n, d⟩) := by
  unfold pannierref07_IsDot.f dotOk
  rw [refName_f n hs k hk, Option.bind_some]
  cases isNameB n <;> simp
  by_cases h : 1 ≤ d <;> simp [h]
theorem refRight_l0 (l : List S34) (hl : l.length ≤ 9223372036854775807) (m : Nat) (hm : m ≤ 9223372036854775807) (hz : sizes m l) : ∀ (k i : Nat), 0 < i → i ≤ l.length → l.length - i + m + 1 < k →
    pannierref07_Right.l0 k l (i : Int) = some (rises (rd_T34 l ((i - 1 : Nat) : Int)).f0 (l.drop i))
  | 0, i, _, _, h => by omega
  | k + 1, i, h0, hi, h => by
    unfold pannierref07_Right.l0
    by_cases hlt : i < l.length
    · have hmem : rd_T34 l (i : Int) ∈ l := by
        have : rd_T34 l (i : Int) = l[i] := by simp [rd_T34, List.getD, hlt]
        rw [this]; exact List.getElem_mem hlt
      have hsz := hz _ hmem
      have hw : wrap64 ((i : Int) - 1) = ((i - 1 : Nat) : Int) := by unfold wrap64; omega
      rw [if_pos (by omega), if_pos (by omega), refDot_f _ (by omega) _ k (by omega), Option.bind_some, hw, rd_drop l i hlt, rises]
      have ih := refRight_l0 l hl m hm hz k (i + 1) (by omega) (by omega) (by omega)
      rw [wrap_succ hlt hl, ih, Nat.add_sub_cancel]
      rw [if_pos (show (i : Int) > 0 by omega), if_pos (show (0 : Int) ≤ ((i - 1 : Nat) : Int) by omega), if_pos (show ((i - 1 : Nat) : Int) < (l.length : Int) by omega)]
      cases dotOk (rd_T34 l i) <;> simp
      cases Op.bytesLess (rd_T34 l ((i - 1 : Nat) : Int)).f0.toList (rd_T34 l i).f0.toList <;> simp
    · rw [if_neg (by omega), List.drop_eq_nil_of_le (by omega)]
      rfl
theorem refRight_f (l : List S34) (hl : l.length ≤ 9223372036854775807) (m : Nat) (hm : m ≤ 9223372036854775807) (hz : sizes m l) (k : Nat) (hk : l.length + m + 2 < k) : pannierref07_Right.f k l = some (rightS l) := by
  unfold pannierref07_Right.f rightS
  by_cases h : l.length ≤ 64
  · rw [if_neg (by omega)]
    obtain ⟨k, rfl⟩ : ∃ m, k = m + 1 := ⟨k - 1, by omega⟩
    cases l with
    | nil => unfold pannierref07_Right.l0; simp [rises]
    | cons x l =>
      unfold pannierref07_Right.l0
      have hx : rd_T34 (x :: l) 0 = x := rfl
      have ih := refRight_l0 (x :: l) hl m hm hz k 1 (by omega) (by simp) (by simp only [List.length_cons] at hk ⊢; omega)
      simp only [Nat.sub_self] at ih
      rw [show ((0 : Nat) : Int) = 0 from rfl, hx] at ih
      have hsz := hz x (by simp)
      rw [if_pos (by simp only [List.length_cons]; omega), if_pos (by omega), hx, refDot_f _ (by omega) _ k (by omega), Option.bind_some, if_neg (show ¬ ((0 : Int) > 0) by omega)]
      rw [show wrap64 (0 + 1) = ((1 : Nat) : Int) from by unfold wrap64; decide, ih]
      simp only [List.drop_succ_cons, List.drop_zero, rises, h, decide_true, Bool.true_and]
      cases hd : dotOk x
      · rfl
      · have hn := dotOk_name hd
        simp only [hn]
        simp [hd]
  · rw [if_pos (by omega)]
    simp [h]
theorem put_done (v : List S34) (hv : v.length ≤ 1000000) (w : ByteArray) (n : Int) : ∀ (k i : Nat) (out : List S34), i ≤ v.length → 2 * (v.length - i) < k → out.length ≤ 1000000 + i → above w (v.drop i) →
    pannierref07_put.l0 k v w n out true (i : Int) = some (out ++ v.drop i)
  | 0, i, out, _, h, _, _ => by omega
  | 1, i, out, hi, h, ho, hb => by
    unfold pannierref07_put.l0
    rw [if_neg (by omega), if_pos rfl, List.drop_eq_nil_of_le (by omega)]
    simp
  | k + 2, i, out, hi, h, ho, hb => by
    unfold pannierref07_put.l0
    by_cases hlt : i < v.length
    · rw [if_pos (by omega), if_pos rfl]
      unfold pannierref07_put.j1
      rw [if_neg (by decide), if_pos (by omega), if_pos (by omega)]
      rw [rd_drop v i hlt] at hb
      have hne : ¬ (rd_T34 v (i : Int)).f0.toList = w.toList := fun e => by
        have := hb (rd_T34 v i) (by simp)
        rw [e, bl_irr] at this; cases this
      rw [if_neg hne, if_pos (by omega), wrap_succ hlt (by omega)]
      have ih := put_done v hv w n k (i + 1) (out ++ [⟨(rd_T34 v (i : Int)).f0, (rd_T34 v (i : Int)).f1⟩]) (by omega) (by omega) (by simp; omega) (fun x hx => hb x (by simp [hx]))
      rw [ih, rd_drop v i hlt]
      simp
    · rw [if_neg (by omega), if_pos rfl, List.drop_eq_nil_of_le (by omega)]
      simp
theorem put_not (v : List S34) (hv : v.length ≤ 1000000) (w : ByteArray) (n : Int) (hs : asc v) : ∀ (k i : Nat) (out : List S34), i ≤ v.length → 2 * (v.length - i) + 1 < k → out.length ≤ i →
    pannierref07_put.l0 k v w n out false (i : Int) = some (out ++ putS (v.drop i) w n)
  | 0, i, out, _, h, _ => by omega
  | 1, i, out, _, h, _ => by omega
  | k + 2, i, out, hi, h, ho => by
    unfold pannierref07_put.l0
    by_cases hlt : i < v.length
    · have hsd := asc_drop v i hs
      rw [rd_drop v i hlt] at hsd ⊢
      rw [if_pos (by omega), if_neg (by decide), if_pos (by omega)]
      unfold pannierref07_put.j1
      by_cases hc : Op.bytesLess (rd_T34 v (i : Int)).f0.toList w.toList = true
      · rw [hc, if_neg (by decide), if_pos (by omega), if_pos (by omega)]
        have hne : ¬ (rd_T34 v (i : Int)).f0.toList = w.toList := fun e => by rw [e, bl_irr] at hc; cases hc
        rw [if_neg hne, if_pos (by omega), wrap_succ hlt (by omega), putS_skip hc]
        have ih := put_not v hv w n hs k (i + 1) (out ++ [⟨(rd_T34 v (i : Int)).f0, (rd_T34 v (i : Int)).f1⟩]) (by omega) (by omega) (by simp; omega)
        rw [ih]
        simp
      · rw [Bool.eq_false_iff.mpr hc, if_pos (by decide), if_pos (by omega), Option.bind_some, if_pos (by omega), if_pos (by omega), putS, if_neg hc]
        by_cases he : (rd_T34 v (i : Int)).f0.toList = w.toList
        · rw [if_pos he, if_pos he, wrap_succ hlt (by omega)]
          have hab : above w (v.drop (i + 1)) := fun x hx => by have := hsd.1 x hx; rwa [he] at this
          refine (put_done v hv w n k (i + 1) _ (by omega) (by omega) (by simp; omega) hab).trans ?_
          simp
        · have hwx : Op.bytesLess w.toList (rd_T34 v (i : Int)).f0.toList = true := by
            cases hh : Op.bytesLess w.toList (rd_T34 v (i : Int)).f0.toList
            · exact absurd (bl_tri (Bool.eq_false_iff.mpr hc) hh) he
            · rfl
          have hab : above w (v.drop (i + 1)) := fun x hx => bl_trans _ _ _ hwx (hsd.1 x hx)
          rw [if_neg he, if_neg he, if_pos (by simp; omega), wrap_succ hlt (by omega)]
          refine (put_done v hv w n k (i + 1) _ (by omega) (by omega) (by simp; omega) hab).trans ?_
          simp
    · rw [if_neg (by omega), if_neg (by decide), if_pos (by omega), List.drop_eq_nil_of_le (by omega)]
      rfl
theorem put_f (v : List S34) (hv : v.length ≤ 1000000) (w : ByteArray) (n : Int) (hn : n ≠ 0) (hs : asc v) (k : Nat) (hk : 2 * v.length + 1 < k) : pannierref07_put.f k v w n = some (putS v w n) := by
  unfold pannierref07_put.f
  rw [show (n == 0) = false from by simpa using hn]
  have := put_not v hv w n hs k 0 [] (by omega) (by omega) (by simp)
  simpa using this
theorem refLeq_l0 (a b : List S34) (ha : a.length ≤ 64) (hb : b.length ≤ 64) : ∀ (k i : Nat), i ≤ a.length → a.length - i + 100 < k →
    pannierref07_Leq.l0 k a b (i : Int) = some (qf (fun w => atS w b) (a.drop i))
  | 0, i, _, h => by omega
  | k + 1, i, hi, h => by
    unfold pannierref07_Leq.l0
    by_cases hlt : i < a.length
    · rw [if_pos (by omega), if_pos (by omega), refAt_f _ b (by omega) k (by omega), Option.bind_some, wrap_succ hlt (by omega), rd_drop a i hlt, qf, refLeq_l0 a b ha hb k (i + 1) (by omega) (by omega)]
      split
      · rename_i hh; rw [show decide ((rd_T34 a (i : Int)).f1 ≤ atS (rd_T34 a (i : Int)).f0 b) = false from by simp; omega]; rfl
      · rename_i hh; rw [show decide ((rd_T34 a (i : Int)).f1 ≤ atS (rd_T34 a (i : Int)).f0 b) = true from by simp; omega]; rfl
    · rw [if_neg (by omega), List.drop_eq_nil_of_le (by omega), qf]
theorem refLeq_bad (k : Nat) (a b : List S34) : pannierref07_Leq.j0 (k + 1) a b true = some false := by unfold pannierref07_Leq.j0; rfl
theorem refLeq_good (k : Nat) (a b : List S34) : pannierref07_Leq.j0 (k + 1) a b false = pannierref07_Leq.l0 k a b 0 := by unfold pannierref07_Leq.j0; rfl
theorem refLeq_f (a b : List S34) (m : Nat) (hm : m ≤ 9223372036854775807) (ha : a.length ≤ m) (hb : b.length ≤ m) (hza : sizes m a) (hzb : sizes m b) (k : Nat) (hk : a.length + b.length + m + 400 < k) : pannierref07_Leq.f k a b = some (leqS a b) := by
  unfold pannierref07_Leq.f leqS
  rw [refRight_f a (by omega) m hm hza k (by omega), refRight_f b (by omega) m hm hzb k (by omega), Option.bind_some, Option.bind_some]
  obtain ⟨k, rfl⟩ : ∃ j, k = j + 1 := ⟨k - 1, by omega⟩
  cases hra : rightS a
  · exact (refLeq_bad k a b).trans rfl
  cases hrb : rightS b
  · exact (refLeq_bad k a b).trans rfl
  have h1 := rightS_le hra
  have h2 := rightS_le hrb
  refine (refLeq_good k a b).trans ?_
  have := refLeq_l0 a b h1.1 h2.1 k 0 (by omega) (by omega)
  rw [show ((0 : Nat) : Int) = 0 from rfl, List.drop_zero, qf_mrg a b _ _ _ h1.2 h2.2 (fun _ _ => rfl)] at this
  rw [this]
  rfl
theorem refWith_f (v : List S34) (lv : v.length ≤ 9223372036854775807) (m : Nat) (hm : m ≤ 9223372036854775807) (hz : sizes m v) (n : ByteArray) (hn : n.size ≤ m) (d : Int) (k : Nat) (hk : 2 * v.length + m + 10 < k) : pannierref07_With.f k v n d = some (withS v n d) := by
  obtain ⟨k, rfl⟩ : ∃ q, k = q + 1 := ⟨k - 1, by omega⟩
  unfold pannierref07_With.f withS
  rw [refRight_f v lv m hm hz (k + 1) (by omega), Option.bind_some, refDot_f n (by omega) d (k + 1) (by omega), Option.bind_some]
  have bad : pannierref07_With.j0 (k + 1) v true n d = some ([], 2) := by rw [pannierref07_With.j0, if_pos rfl]
  cases hR : rightS v with
  | false => simp [bad]
  | true =>
    cases hd : dotOk ⟨n, d⟩ with
    | false => simp [bad]
    | true =>
      have hle := (rightS_le hR).1
      have hdd := dot_parts hd
      have hw : wrap64 (d - 1) = d - 1 := by unfold wrap64; omega
      simp only [if_true, Bool.not_true, Bool.true_and]
      rw [pannierref07_With.j0, if_neg (by decide), put_f v (by omega) n d (by omega) (rises_asc v _ (rightS_le hR).2) k (by omega), Option.bind_some, refAt_f n v lv k (by omega), Option.bind_some, hw]
      by_cases q : d - 1 = atS n v
      · rw [if_pos q, if_pos q]
        by_cases q2 : 64 < (putS v n d).length
        · rw [if_pos (by omega), if_pos q2]
        · rw [if_neg (by omega), if_neg q2]
      · rw [if_neg q, if_neg q]
section
end
end Go.Proofs.Ytenbkljgmgdegaa.PO
