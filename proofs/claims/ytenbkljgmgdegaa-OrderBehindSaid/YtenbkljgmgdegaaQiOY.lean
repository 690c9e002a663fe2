/- What the rows of this claim use, out of the texts of this work (OY). No condition beyond those that each statement names. -/
import Derived.Test.YtenbkljgmgdegaaQiOH
import Derived.Test.YtenbkljgmgdegaaQiOG
import Derived.Test.YtenbkljgmgdegaaQiPOx11
namespace Go.Proofs.Ytenbkljgmgdegaa.PO
open Go.RowKit Go.Proofs.YtenbkljgmgdegaaW.PrintWords Go.Proofs.YtenbkljgmgdegaaW.PrintLast Go.Proofs.YtenbkljgmgdegaaW.PrintMore Go.Proofs.Ytenbkljgmgdegaa.XW
set_option linter.unusedVariables false
set_option linter.unusedSimpArgs false
theorem refHas_f (l : List S34) (hl : l.length ≤ 9223372036854775807) (n : ByteArray) (d : Int) (m : Nat) (hm : m ≤ 9223372036854775807) (hz : sizes m l) (hn : n.size ≤ m) (k : Nat) (hk : l.length + m + 2 < k) : pannierref07_Has.f k l n d = some (hasS l n d) := by
  unfold pannierref07_Has.f hasS
  rw [refRight_f l hl m hm hz k (by omega), refDot_f n (by omega) d k (by omega), refAt_f n l hl k (by omega)]
  simp only [Option.bind_some]
  cases rightS l
  · simp
  · cases dotOk ⟨n, d⟩ <;> simp
theorem ahead_f (a b : S34) : pannierref08_ahead.f a.f0 a.f1 b.f0 b.f1 = some (lessD a b) := by
  unfold pannierref08_ahead.f lessD
  cases h : Op.bytesLess a.f0.toList b.f0.toList
  · by_cases e : a.f0.toList = b.f0.toList
    · simp [e]
    · simp [e]
  · simp
theorem refRight_j3 (o : S36) (k : Nat) (hk : 1 ≤ k) (b : Bool) (hb : b = (decide (1 ≤ o.f5) && decide (o.f5 ≤ 9999))) : pannierref08_Right.j3 k b o.f0.f0 o.f0.f1 o.f1 o.f2 o.f3 o.f4 o.f5 o.f6 = some (kindS o) := by
  obtain ⟨k, rfl⟩ : ∃ m, k = m + 1 := ⟨k - 1, by omega⟩
  unfold kindS
  show (if o.f3 = 1 then (if b = true then some ((o.f6.length : Int) == 0) else some false) else (if o.f3 = 2 then some b else (if o.f3 = 3 then some (o.f5 == 0) else some false))) = _
  by_cases h1 : o.f3 = 1
  · rw [if_pos h1, if_pos h1, hb]
    have e : ((o.f6.length : Int) == 0) = decide (o.f6.length = 0) := by rw [Bool.eq_iff_iff]; simp
    rw [e]
    cases decide (1 ≤ o.f5) <;> cases decide (o.f5 ≤ 9999) <;> cases decide (o.f6.length = 0) <;> rfl
  · by_cases h2 : o.f3 = 2
    · simp [h1, h2, hb]
    · by_cases h3 : o.f3 = 3
      · simp [h1, h2, h3]; rfl
      · simp [h1, h2, h3]
theorem refRight8_l0 (o : S36) (h1 : o.f1.length ≤ 9223372036854775807) (h6 : o.f6.length ≤ 9223372036854775807) (m : Nat) (hm : m ≤ 9223372036854775807) (hz1 : sizes m o.f1) (hz6 : sizes m o.f6) : ∀ (k i : Nat), i ≤ o.f6.length → o.f6.length - i + o.f1.length + m + 10 < k →
    pannierref08_Right.l0 k (i : Int) o.f0.f0 o.f0.f1 o.f1 o.f2 o.f3 o.f4 o.f5 o.f6 = some (seenS o.f1 (if i = 0 then none else some (rd_T34 o.f6 ((i - 1 : Nat) : Int))) (o.f6.drop i) && kindS o)
  | 0, i, _, h => by omega
  | k + 1, i, hi, h => by
    unfold pannierref08_Right.l0
    by_cases hlt : i < o.f6.length
    · have hzi : (rd_T34 o.f6 (i : Int)).f0.size ≤ m := hz6 _ (by unfold rd_T34; rw [Int.toNat_natCast, List.getD_eq_getElem?_getD, List.getElem?_eq_getElem hlt]; exact List.getElem_mem hlt)
      rw [if_pos (by omega), if_pos (by omega), refHas_f _ h1 _ _ m hm hz1 hzi k (by omega), Option.bind_some, rd_drop _ i hlt]
      unfold seenS
      have ih := refRight8_l0 o h1 h6 m hm hz1 hz6 k (i + 1) (by omega) (by omega)
      rw [if_neg (by omega), Nat.add_sub_cancel] at ih
      cases hh : hasS o.f1 (rd_T34 o.f6 (i : Int)).f0 (rd_T34 o.f6 (i : Int)).f1
      · simp
      · rw [if_pos rfl]
        by_cases h0 : i = 0
        · subst h0
          rw [if_neg (by omega), wrap_succ hlt h6, ih]
          simp
        · have hw : wrap64 ((i : Int) - 1) = ((i - 1 : Nat) : Int) := by unfold wrap64; omega
          rw [if_pos (by omega), hw, if_pos (by omega), if_pos (by omega), ahead_f, Option.bind_some, if_neg h0]
          cases hl : lessD (rd_T34 o.f6 ((i - 1 : Nat) : Int)) (rd_T34 o.f6 (i : Int))
          · simp [hl]
          · rw [if_pos rfl, wrap_succ hlt h6, ih]; simp [hl]
    · rw [if_neg (by omega), List.drop_eq_nil_of_le (by omega)]
      by_cases h5 : o.f5 ≥ 1
      · rw [if_pos h5, refRight_j3 o k (by omega) _ (by simp [h5])]; simp [seenS]
      · rw [if_neg h5, refRight_j3 o k (by omega) _ (by simp [h5])]; simp [seenS]
theorem refRight8_j1 (k : Nat) (o : S36) (h1 : o.f1.length ≤ 9223372036854775807) (h6 : o.f6.length ≤ 9223372036854775807) (m : Nat) (hm : m ≤ 9223372036854775807) (hz1 : sizes m o.f1) (hz6 : sizes m o.f6) (hk : o.f6.length + o.f1.length + m + 11 < k) (b : Bool) :
    pannierref08_Right.j1 k b o.f0.f0 o.f0.f1 o.f1 o.f2 o.f3 o.f4 o.f5 o.f6 = some (!b && (seenS o.f1 none o.f6 && kindS o)) := by
  obtain ⟨k, rfl⟩ : ∃ m, k = m + 1 := ⟨k - 1, by omega⟩
  have := refRight8_l0 o h1 h6 m hm hz1 hz6 k 0 (by omega) (by omega)
  rw [show ((0 : Nat) : Int) = 0 from rfl] at this
  cases b
  · show (if false = true then some false else _) = _
    rw [if_neg (by simp), this]; simp
  · rfl
theorem refRight8_j0 (k : Nat) (o : S36) (h1 : o.f1.length ≤ 9223372036854775807) (h6 : o.f6.length ≤ 9223372036854775807) (m : Nat) (hm : m ≤ 9223372036854775807) (hz1 : sizes m o.f1) (hz6 : sizes m o.f6) (hk : o.f6.length + o.f1.length + m + 12 < k) (b : Bool) :
    pannierref08_Right.j0 k b o.f0.f0 o.f0.f1 o.f1 o.f2 o.f3 o.f4 o.f5 o.f6 = some (!b && ((decide (1 ≤ o.f2.size) && decide (o.f2.size ≤ 32)) && (decide (1 ≤ o.f4.size) && decide (o.f4.size ≤ 32)) && (seenS o.f1 none o.f6 && kindS o))) := by
  obtain ⟨k, rfl⟩ : ∃ m, k = m + 1 := ⟨k - 1, by omega⟩
  have j1 := refRight8_j1 k o h1 h6 m hm hz1 hz6 (by omega)
  cases b
  · show (if false = true then some false else _) = _
    rw [if_neg (by simp)]
    by_cases c1 : (o.f2.size : Int) < 1
    · rw [if_pos c1, j1]; simp; omega
    · rw [if_neg c1]
      by_cases c2 : (o.f2.size : Int) > 32
      · rw [if_pos c2, j1]; simp; omega
      · rw [if_neg c2]
        by_cases c3 : (o.f4.size : Int) < 1
        · rw [if_pos c3, j1]; simp; omega
        · rw [if_neg c3, j1]
          have e1 : decide (1 ≤ o.f2.size) = true := by simp; omega
          have e2 : decide (o.f2.size ≤ 32) = true := by simp; omega
          have e3 : decide (1 ≤ o.f4.size) = true := by simp; omega
          have e4 : (!decide ((o.f4.size : Int) > 32)) = decide (o.f4.size ≤ 32) := by rw [Bool.eq_iff_iff]; simp; omega
          rw [e1, e2, e3, e4]; simp
  · rfl
theorem refRight8_f (o : S36) (h1 : o.f1.length ≤ 9223372036854775807) (h6 : o.f6.length ≤ 9223372036854775807) (m : Nat) (hm : m ≤ 9223372036854775807) (hz0 : o.f0.f0.size ≤ m) (hz1 : sizes m o.f1) (hz6 : sizes m o.f6) (k : Nat) (hk : o.f6.length + o.f1.length + m + 12 < k) :
    pannierref08_Right.f k o.f0.f0 o.f0.f1 o.f1 o.f2 o.f3 o.f4 o.f5 o.f6 = some (rightO o) := by
  unfold pannierref08_Right.f rightO
  rw [refDot_f _ (by omega) _ k (by omega), refRight_f _ h1 m hm hz1 k (by omega), refAt_f _ _ h1 k (by omega)]
  simp only [Option.bind_some]
  have j0 := refRight8_j0 k o h1 h6 m hm hz1 hz6 hk
  cases hd : dotOk o.f0
  · rw [if_neg (by simp), j0]; simp
  rw [if_pos rfl]
  cases hr : rightS o.f1
  · rw [if_neg (by simp), j0]; simp
  rw [if_pos rfl]
  have hw : wrap64 (o.f0.f1 - 1) = o.f0.f1 - 1 := by have := dot_parts (n := o.f0.f0) (d := o.f0.f1) hd; unfold wrap64; omega
  rw [hw]
  by_cases ha : atS o.f0.f0 o.f1 = o.f0.f1 - 1
  · rw [if_pos ha, j0]
    have : (!decide ((o.f6.length : Int) > 128)) = decide (o.f6.length ≤ 128) := by
      rw [Bool.eq_iff_iff]; simp; omega
    rw [this]
    simp only [ha, decide_true, Bool.true_and]
    cases (decide (1 ≤ o.f2.size) && decide (o.f2.size ≤ 32)) <;> cases (decide (1 ≤ o.f4.size) && decide (o.f4.size ≤ 32)) <;> cases decide (o.f6.length ≤ 128) <;> simp
  · rw [if_neg ha, j0]; simp [ha]
def findIxD (l : List S36) (d : S34) : Int := match l.findIdx? (fun y => decide (y.f0 = d)) with | none => -1 | some i => i
theorem refFind_l0 (l : List S36) (hl : l.length ≤ 9223372036854775807) (d : S34) : ∀ (k i : Nat), i ≤ l.length → l.length - i < k →
    pannierref08_find.l0 k l (i : Int) d.f0 d.f1 = some (match (l.drop i).findIdx? (fun y => decide (y.f0 = d)) with | none => -1 | some j => ((j + i : Nat) : Int))
  | 0, i, _, h => by omega
  | k + 1, i, hi, h => by
    unfold pannierref08_find.l0
    by_cases hlt : i < l.length
    · rw [if_pos (by omega), if_pos (by omega), rd_drop36 l i hlt, List.findIdx?_cons]
      have ih := refFind_l0 l hl d k (i + 1) (by omega) (by omega)
      by_cases he : (rd_T36 l (i : Int)).f0 = d
      · rw [if_pos (by rw [he]; simp)]
        simp [he]
      · rw [if_neg (by
          intro hc
          simp only [Bool.and_eq_true, inj_b, decide_eq_true_eq, beq_iff_eq] at hc
          apply he
          cases hd : d
          cases hx : (rd_T36 l (i : Int)).f0
          rw [hd, hx] at hc
          simp only at hc
          rw [hc.1, hc.2]), wrap_succ hlt hl, ih]
        simp only [he, decide_false, Bool.false_eq_true, if_false]
        cases (l.drop (i + 1)).findIdx? (fun y => decide (y.f0 = d)) with
        | none => rfl
        | some j => simp only [Option.map_some]; congr 2; omega
    · rw [if_neg (by omega), List.drop_eq_nil_of_le (by omega)]
      rfl
theorem refFind_f (l : List S36) (hl : l.length ≤ 9223372036854775807) (d : S34) (k : Nat) (hk : l.length < k) : pannierref08_find.f k l d.f0 d.f1 = some (findIxD l d) := by
  unfold pannierref08_find.f findIxD
  have := refFind_l0 l hl d k 0 (by omega) (by omega)
  rw [show ((0 : Nat) : Int) = 0 from rfl] at this
  rw [this]
  simp
theorem findIxD_none {l : List S36} {d : S34} (h : ofDot l d = none) : findIxD l d = -1 := by
  unfold findIxD
  have : l.findIdx? (fun y => decide (y.f0 = d)) = none := by
    rw [List.findIdx?_eq_none_iff]
    intro x hx
    simpa using ofDot_none h x hx
  rw [this]
theorem findIxD_some {l : List S36} {d : S34} {y : S36} (h : ofDot l d = some y) : ∃ i : Nat, i < l.length ∧ findIxD l d = (i : Int) ∧ rd_T36 l (i : Int) = y := by
  unfold ofDot at h
  unfold findIxD
  cases hi : l.findIdx? (fun y => decide (y.f0 = d)) with
  | none =>
    rw [List.findIdx?_eq_none_iff] at hi
    have := List.mem_of_find?_eq_some h
    have h2 := List.find?_some h
    rw [hi y this] at h2
    cases h2
  | some i =>
    obtain ⟨hlt, hp, hq⟩ := List.findIdx?_eq_some_iff_getElem.1 hi
    refine ⟨i, hlt, rfl, ?_⟩
    have e : l.find? (fun y => decide (y.f0 = d)) = some l[i] := by
      rw [List.find?_eq_some_iff_getElem]
      exact ⟨hp, i, hlt, rfl, fun j hj => by simpa using hq j hj⟩
    rw [e] at h
    unfold rd_T36
    rw [Int.toNat_natCast, List.getD_eq_getElem?_getD, List.getElem?_eq_getElem hlt]
    exact Option.some.inj h
end Go.Proofs.Ytenbkljgmgdegaa.PO
