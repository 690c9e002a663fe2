/- The plain laws of vectors over this claim's print: names' order, what is right, joins, meets, how they stand. No condition. -/
import Derived.Test.YtnnlpelogabokaaPWx5
import Derived.Test.YtnnlpelogabokaaPWx7
import Derived.Test.YtnnlpelogabokaaPWx8
namespace Go.Proofs.Ytnnlpelogabokaa.PW
open Go.RowKit Go.Proofs.YtnnlpelogabokaaW.PrintWords Go.Proofs.YtnnlpelogabokaaW.PrintLast Go.Proofs.YtnnlpelogabokaaW.PrintMore Go.Proofs.Ytnnlpelogabokaa.XW

theorem bl_cons (x y : UInt8) (a b : List UInt8) : (Op.bytesLess (x :: a) (y :: b) = true) ↔ (x.toNat < y.toNat ∨ (x = y ∧ Op.bytesLess a b = true)) := by
  simp [Op.bytesLess, UInt8.lt_iff_toNat_lt]
theorem bl_nil (a : List UInt8) : Op.bytesLess a [] = false := by cases a <;> rfl
theorem bl_nil' (x : UInt8) (a : List UInt8) : Op.bytesLess [] (x :: a) = true := rfl
theorem bl_trans : ∀ a b c : List UInt8, Op.bytesLess a b = true → Op.bytesLess b c = true → Op.bytesLess a c = true
  | _, _, [], _, h => by rw [bl_nil] at h; cases h
  | _, [], _ :: _, h, _ => by rw [bl_nil] at h; cases h
  | [], _ :: _, _ :: _, _, _ => rfl
  | x :: a, y :: b, z :: c, h, k => by
    rw [bl_cons] at h k ⊢
    rcases h with h | ⟨rfl, h⟩
    · rcases k with k | ⟨rfl, k⟩
      · exact .inl (by omega)
      · exact .inl h
    · rcases k with k | ⟨rfl, k⟩
      · exact .inl k
      · exact .inr ⟨rfl, bl_trans a b c h k⟩
theorem bl_irr (a : List UInt8) : Op.bytesLess a a = false := bytesLess_irrefl a
theorem bl_asymm {a b : List UInt8} (h : Op.bytesLess a b = true) : Op.bytesLess b a = false := by
  cases k : Op.bytesLess b a
  · rfl
  · have := bl_trans _ _ _ h k; rw [bl_irr] at this; cases this
theorem bl_tri {a b : List UInt8} (h : Op.bytesLess a b = false) (k : Op.bytesLess b a = false) : a = b := by
  have := bytesLess_or_eq a b
  rw [h, k] at this
  simpa using this
theorem cmp_lt : ∀ a b : List UInt8, (Lib.compareBytes a b < 0 ↔ Op.bytesLess a b = true) ∧ (Lib.compareBytes a b = 0 ↔ a = b)
  | [], [] => by simp [Lib.compareBytes, Op.bytesLess]
  | [], _ :: _ => by simp [Lib.compareBytes, Op.bytesLess]
  | _ :: _, [] => by simp [Lib.compareBytes, Op.bytesLess]
  | x :: a, y :: b => by
    have ih := cmp_lt a b
    rw [bl_cons]
    unfold Lib.compareBytes
    by_cases h : x < y
    · rw [if_pos h]
      have h' := UInt8.lt_iff_toNat_lt.mp h
      refine ⟨⟨fun _ => .inl h', fun _ => by decide⟩, ⟨fun h => absurd h (by decide), fun e => ?_⟩⟩
      injection e with e _
      subst e
      omega
    · rw [if_neg h]
      have hn : ¬ x.toNat < y.toNat := fun k => h (UInt8.lt_iff_toNat_lt.mpr k)
      by_cases k : y < x
      · rw [if_pos k]
        have k' := UInt8.lt_iff_toNat_lt.mp k
        refine ⟨⟨fun h => absurd h (by decide), fun e => ?_⟩, ⟨fun h => absurd h (by decide), fun e => ?_⟩⟩
        · rcases e with e | ⟨rfl, _⟩ <;> omega
        · injection e with e _
          subst e
          omega
      · rw [if_neg k]
        have kn : ¬ y.toNat < x.toNat := fun h => k (UInt8.lt_iff_toNat_lt.mpr h)
        obtain rfl : x = y := UInt8.toNat.inj (by omega)
        refine ⟨⟨fun h => .inr ⟨rfl, ih.1.1 h⟩, fun e => ?_⟩, ?_⟩
        · rcases e with e | ⟨_, e⟩
          · exact absurd e hn
          · exact ih.1.2 e
        · rw [ih.2]
          simp
theorem toList_inj {a b : ByteArray} (h : a.toList = b.toList) : a = b := by
  rw [ByteArray.toList_eq, ByteArray.toList_eq] at h
  exact WideShapes.bytes_inj h
def dotOk (x : S35) : Bool := isNameB x.f0 && decide (1 ≤ x.f1) && decide (x.f1 ≤ 4611686018427387904)
/-- Names rise behind 'was', and each dot is right. -/
def rises (was : ByteArray) : List S35 → Bool
  | [] => true
  | x :: l => dotOk x && Op.bytesLess was.toList x.f0.toList && rises x.f0 l
def rightS (l : List S35) : Bool := decide (l.length ≤ 64) && rises ⟨#[]⟩ l
theorem isDot_f (n : ByteArray) (d : Int) : vector_isDot.f n d = some (dotOk ⟨n, d⟩) := by
  unfold vector_isDot.f vector_IsName.f dotOk
  simp only [Option.bind_some]
  cases isNameB n <;> simp
  by_cases h : 1 ≤ d <;> simp [h]
theorem rd_drop (l : List S35) (i : Nat) (h : i < l.length) : l.drop i = rd_T35 l i :: l.drop (i + 1) := by
  rw [List.drop_eq_getElem_cons h, rd_T35]
  congr 1
  simp [List.getD, h]
theorem wrap_succ {i : Nat} {n : Nat} (h : i < n) (hn : n ≤ 9223372036854775807) : wrap64 ((i : Int) + 1) = ((i + 1 : Nat) : Int) := by
  unfold wrap64
  omega
theorem right_l0 (l : List S35) (hl : l.length ≤ 9223372036854775807) : ∀ (k i : Nat) (was : ByteArray), i ≤ l.length → l.length - i < k →
    vector_Right.l0 k was true l (l.length : Int) (i : Int) = some (rises was (l.drop i))
  | 0, i, was, _, h => by omega
  | k + 1, i, was, hi, h => by
    unfold vector_Right.l0
    by_cases hlt : i < l.length
    · rw [if_pos (by omega), if_pos (by omega), if_pos (by omega), if_pos rfl, rd_drop l i hlt, isDot_f, Option.bind_some, rises]
      have ih := right_l0 l hl k (i + 1) (rd_T35 l i).f0 (by omega) (by omega)
      rw [wrap_succ hlt hl, ih]
      cases dotOk (rd_T35 l i) <;> simp
      cases Op.bytesLess was.toList (rd_T35 l i).f0.toList <;> simp
    · rw [if_neg (by omega), List.drop_eq_nil_of_le (by omega)]
      rfl
theorem right_f (l : List S35) (hl : l.length ≤ 9223372036854775807) (k : Nat) (hk : l.length < k) : vector_Right.f k l = some (rightS l) := by
  unfold vector_Right.f rightS
  by_cases h : l.length ≤ 64
  · rw [show decide ((l.length : Int) ≤ 64) = true from by simp; omega]
    have := right_l0 l hl k 0 ⟨#[]⟩ (by omega) (by omega)
    rw [show ((0 : Nat) : Int) = 0 from rfl, List.drop_zero] at this
    rw [this]
    simp [h]
  · rw [show decide ((l.length : Int) ≤ 64) = false from by simp; omega]
    obtain ⟨k, rfl⟩ : ∃ m, k = m + 1 := ⟨k - 1, by omega⟩
    unfold vector_Right.l0
    rw [if_pos (by omega), if_pos (by omega), if_pos (by omega)]
    simp [h]
theorem refName_l0 (s : ByteArray) (hs : s.size ≤ 9223372036854775807) : ∀ (k i : Nat), i ≤ s.size → s.size - i < k →
    pannierref07_IsName.l0 k s (i : Int) = some ((s.data.toList.drop i).all okCh && decide (1 ≤ s.size) && decide (s.size ≤ 24))
  | 0, i, _, h => by omega
  | k + 1, i, hi, h => by
    unfold pannierref07_IsName.l0
    by_cases hlt : i < s.size
    · rw [if_pos (by omega), if_pos (by omega)]
      have ih := refName_l0 s hs k (i + 1) (by omega) (by omega)
      rw [wrap_succ hlt hs, ih]
      have hb : bt s (i : Int) = ((s[i]'hlt).toNat : Int) := by simp [bt, hlt]
      have hd : s.data.toList.drop i = s[i]'hlt :: s.data.toList.drop (i + 1) := by
        rw [List.drop_eq_getElem_cons (by simpa using hlt)]
        congr 1
      rw [hb, hd, List.all_cons]
      have ho := okCh_iff (s[i]'hlt)
      generalize (s[i]'hlt) = c at ho
      cases hc : okCh c
      · have hno : ¬ ((97 ≤ c.toNat ∧ c.toNat ≤ 122) ∨ (48 ≤ c.toNat ∧ c.toNat ≤ 57) ∨ c.toNat = 46) := fun z => by rw [ho.2 z] at hc; cases hc
        simp only [Bool.false_and]
        repeat' split
        all_goals first | rfl | (exfalso; omega)
      · have hyes := ho.1 hc
        simp only [Bool.true_and]
        repeat' split
        all_goals first | rfl | (exfalso; omega)
    · rw [if_neg (by omega), List.drop_eq_nil_of_le (by simp; omega)]
      simp only [List.all_nil, Bool.true_and]
      by_cases h1 : 1 ≤ s.size
      · rw [if_pos (by omega)]
        simp [h1]
        omega
      · rw [if_neg (by omega)]
        simp [h1]
theorem refName_f (s : ByteArray) (hs : s.size ≤ 9223372036854775807) (k : Nat) (hk : s.size < k) : pannierref07_IsName.f k s = some (isNameB s) := by
  unfold pannierref07_IsName.f
  rw [show (0 : Int) = ((0 : Nat) : Int) from rfl, refName_l0 s hs k 0 (by omega) (by omega)]
  simp [isNameB]
theorem refDot_f (n : ByteArray) (hs : n.size ≤ 9223372036854775807) (d : Int) (k : Nat) (hk : n.size < k) : pannierref07_IsDot.f k n d = some (dotOk ⟨n, d⟩) := by
  unfold pannierref07_IsDot.f dotOk
  rw [refName_f n hs k hk, Option.bind_some]
  cases isNameB n <;> simp
  by_cases h : 1 ≤ d <;> simp [h]
/-- All names are of some size that a machine has. -/
def sizes (m : Nat) (l : List S35) : Prop := ∀ x, x ∈ l → x.f0.size ≤ m
theorem refRight_l0 (l : List S35) (hl : l.length ≤ 9223372036854775807) (m : Nat) (hm : m ≤ 9223372036854775807) (hz : sizes m l) : ∀ (k i : Nat), 0 < i → i ≤ l.length → l.length - i + m + 1 < k →
    pannierref07_Right.l0 k l (i : Int) = some (rises (rd_T35 l ((i - 1 : Nat) : Int)).f0 (l.drop i))
  | 0, i, _, _, h => by omega
  | k + 1, i, h0, hi, h => by
    unfold pannierref07_Right.l0
    by_cases hlt : i < l.length
    · have hmem : rd_T35 l (i : Int) ∈ l := by
        have : rd_T35 l (i : Int) = l[i] := by simp [rd_T35, List.getD, hlt]
        rw [this]; exact List.getElem_mem hlt
      have hsz := hz _ hmem
      have hw : wrap64 ((i : Int) - 1) = ((i - 1 : Nat) : Int) := by unfold wrap64; omega
      rw [if_pos (by omega), if_pos (by omega), refDot_f _ (by omega) _ k (by omega), Option.bind_some, hw, rd_drop l i hlt, rises]
      have ih := refRight_l0 l hl m hm hz k (i + 1) (by omega) (by omega) (by omega)
      rw [wrap_succ hlt hl, ih, Nat.add_sub_cancel]
      rw [if_pos (show (i : Int) > 0 by omega), if_pos (show (0 : Int) ≤ ((i - 1 : Nat) : Int) by omega), if_pos (show ((i - 1 : Nat) : Int) < (l.length : Int) by omega)]
      cases dotOk (rd_T35 l i) <;> simp
      cases Op.bytesLess (rd_T35 l ((i - 1 : Nat) : Int)).f0.toList (rd_T35 l i).f0.toList <;> simp
    · rw [if_neg (by omega), List.drop_eq_nil_of_le (by omega)]
      rfl
theorem dotOk_name {x : S35} (h : dotOk x = true) : Op.bytesLess (⟨#[]⟩ : ByteArray).toList x.f0.toList = true := by
  simp only [dotOk, isNameB, Bool.and_eq_true, decide_eq_true_eq] at h
  rw [ByteArray.toList_eq, ByteArray.toList_eq]
  have : 0 < x.f0.data.toList.length := by simp; omega
  cases hh : x.f0.data.toList with
  | nil => rw [hh] at this; cases this
  | cons a b => rfl
theorem refRight_f (l : List S35) (hl : l.length ≤ 9223372036854775807) (m : Nat) (hm : m ≤ 9223372036854775807) (hz : sizes m l) (k : Nat) (hk : l.length + m + 2 < k) : pannierref07_Right.f k l = some (rightS l) := by
  unfold pannierref07_Right.f rightS
  by_cases h : l.length ≤ 64
  · rw [if_neg (by omega)]
    obtain ⟨k, rfl⟩ : ∃ m, k = m + 1 := ⟨k - 1, by omega⟩
    cases l with
    | nil => unfold pannierref07_Right.l0; simp [rises]
    | cons x l =>
      unfold pannierref07_Right.l0
      have hx : rd_T35 (x :: l) 0 = x := rfl
      have ih := refRight_l0 (x :: l) hl m hm hz k 1 (by omega) (by simp) (by simp only [List.length_cons] at hk ⊢; omega)
      simp only [Nat.sub_self] at ih
      rw [show ((0 : Nat) : Int) = 0 from rfl, hx] at ih
      have hsz := hz x (by simp)
      rw [if_pos (by simp only [List.length_cons]; omega), if_pos (by omega), hx, refDot_f _ (by omega) _ k (by omega), Option.bind_some, if_neg (show ¬ ((0 : Int) > 0) by omega)]
      rw [show wrap64 (0 + 1) = ((1 : Nat) : Int) from by unfold wrap64; decide, ih]
      simp only [List.drop_succ_cons, List.drop_zero, rises, h, decide_true, Bool.true_and]
      cases hd : dotOk x
      · rfl
      · have hn := dotOk_name hd
        simp only [hn]
        simp [hd]
  · rw [if_pos (by omega)]
    simp [h]
def atS (n : ByteArray) : List S35 → Int
  | [] => 0
  | x :: l => if x.f0.toList = n.toList then x.f1 else atS n l
theorem refAt_l0 (n : ByteArray) (l : List S35) (hl : l.length ≤ 9223372036854775807) : ∀ (k i : Nat), i ≤ l.length → l.length - i < k →
    pannierref07_At.l0 k l n (i : Int) = some (atS n (l.drop i))
  | 0, i, _, h => by omega
  | k + 1, i, hi, h => by
    unfold pannierref07_At.l0
    by_cases hlt : i < l.length
    · rw [if_pos (by omega), if_pos (by omega), rd_drop l i hlt, atS]
      have ih := refAt_l0 n l hl k (i + 1) (by omega) (by omega)
      rw [wrap_succ hlt hl, ih]
      split <;> rfl
    · rw [if_neg (by omega), List.drop_eq_nil_of_le (by omega)]
      rfl
theorem refAt_f (n : ByteArray) (l : List S35) (hl : l.length ≤ 9223372036854775807) (k : Nat) (hk : l.length < k) : pannierref07_At.f k l n = some (atS n l) := by
  unfold pannierref07_At.f
  rw [show (0 : Int) = ((0 : Nat) : Int) from rfl, refAt_l0 n l hl k 0 (by omega) (by omega)]
  simp
theorem rises_at : ∀ (l : List S35) (was : ByteArray), rises was l = true → ∀ j, j < l.length → Op.bytesLess was.toList (l.getD j z35).f0.toList = true
  | [], _, _, j, hj => by simp at hj
  | x :: l, was, h, j, hj => by
    simp only [rises, Bool.and_eq_true] at h
    cases j with
    | zero => exact h.1.2
    | succ j => exact bl_trans _ _ _ h.1.2 (by have := rises_at l x.f0 h.2 j (by simpa using hj); simpa [List.getD] using this)
theorem rises_drop : ∀ (l : List S35) (was : ByteArray), rises was l = true → ∀ i, i < l.length → rises (l.getD i z35).f0 (l.drop (i + 1)) = true
  | [], _, _, i, hi => by simp at hi
  | x :: l, was, h, i, hi => by
    simp only [rises, Bool.and_eq_true] at h
    cases i with
    | zero => exact h.2
    | succ i => have := rises_drop l x.f0 h.2 i (by simpa using hi); simpa [List.getD] using this
theorem rises_two (l : List S35) (was : ByteArray) (h : rises was l = true) (i j : Nat) (hij : i < j) (hj : j < l.length) : Op.bytesLess (l.getD i z35).f0.toList (l.getD j z35).f0.toList = true := by
  have h1 := rises_drop l was h i (by omega)
  have h2 := rises_at _ _ h1 (j - i - 1) (by simp; omega)
  have : (l.drop (i + 1)).getD (j - i - 1) z35 = l.getD j z35 := by
    simp only [List.getD, List.getElem?_drop]
    rw [show i + 1 + (j - i - 1) = j by omega]
  rwa [this] at h2
theorem cmpS_lt (l : List S35) (i : Nat) (n : ByteArray) : (cmpS l i n < 0 ↔ Op.bytesLess (l.getD i z35).f0.toList n.toList = true) ∧ (cmpS l i n = 0 ↔ (l.getD i z35).f0.toList = n.toList) := by
  unfold cmpS
  rw [ByteArray.toList_eq, ByteArray.toList_eq]
  exact cmp_lt _ _
theorem bsL_spec (l : List S35) (n : ByteArray) (was : ByteArray) (h : rises was l = true) : ∀ fuel i j, i ≤ j → j ≤ l.length → j - i < fuel →
    (∀ q, q < i → cmpS l q n < 0) → (∀ q, j ≤ q → q < l.length → ¬ cmpS l q n < 0) →
    i ≤ bsL l n fuel i j ∧ bsL l n fuel i j ≤ j ∧ (∀ q, q < bsL l n fuel i j → cmpS l q n < 0) ∧ (∀ q, bsL l n fuel i j ≤ q → q < l.length → ¬ cmpS l q n < 0)
  | 0, i, j, _, _, hf, _, _ => by omega
  | fuel + 1, i, j, hij, hj, hf, hA, hB => by
    unfold bsL
    by_cases hlt : i < j
    · rw [if_pos hlt]
      by_cases hc : cmpS l ((i + j) / 2) n < 0
      · rw [if_pos hc]
        have ih := bsL_spec l n was h fuel ((i + j) / 2 + 1) j (by omega) hj (by omega) (fun q hq => ?_) hB
        · exact ⟨by omega, ih.2.1, ih.2.2⟩
        · rcases Nat.lt_or_ge q ((i + j) / 2) with hq' | hq'
          · exact ((cmpS_lt l q n).1).2 (bl_trans _ _ _ (rises_two l was h q _ hq' (by omega)) ((cmpS_lt l _ n).1.1 hc))
          · obtain rfl : q = (i + j) / 2 := by omega
            exact hc
      · rw [if_neg hc]
        have ih := bsL_spec l n was h fuel i ((i + j) / 2) (by omega) (by omega) (by omega) hA (fun q hq hq2 => ?_)
        · exact ⟨ih.1, by omega, ih.2.2⟩
        · rcases Nat.lt_or_ge ((i + j) / 2) q with hq' | hq'
          · exact fun hh => hc (((cmpS_lt l _ n).1).2 (bl_trans _ _ _ (rises_two l was h _ q hq' hq2) ((cmpS_lt l q n).1.1 hh)))
          · obtain rfl : q = (i + j) / 2 := by omega
            exact hc
    · rw [if_neg hlt]
      exact ⟨Nat.le_refl _, hij, hA, fun q hq => hB q (by omega)⟩
theorem atS_none (n : ByteArray) : ∀ l : List S35, (∀ q, q < l.length → (l.getD q z35).f0.toList ≠ n.toList) → atS n l = 0
  | [], _ => rfl
  | x :: l, h => by
    rw [atS, if_neg (by have := h 0 (by simp); simpa [List.getD] using this)]
    exact atS_none n l (fun q hq => by have := h (q + 1) (by simpa using hq); simpa [List.getD] using this)
theorem atS_some (n : ByteArray) : ∀ (l : List S35) (p : Nat), p < l.length → (∀ q, q < p → (l.getD q z35).f0.toList ≠ n.toList) → (l.getD p z35).f0.toList = n.toList → atS n l = (l.getD p z35).f1
  | [], p, hp, _, _ => by simp at hp
  | x :: l, 0, _, _, h => by rw [atS, if_pos (by simpa [List.getD] using h)]; rfl
  | x :: l, p + 1, hp, hq, h => by
    rw [atS, if_neg (by have := hq 0 (by omega); simpa [List.getD] using this)]
    have := atS_some n l p (by simpa using hp) (fun q hq' => by have := hq (q + 1) (by omega); simpa [List.getD] using this) (by simpa [List.getD] using h)
    rw [this]
    simp [List.getD]
theorem find_at (l : List S35) (n : ByteArray) (was : ByteArray) (h : rises was l = true) (hl : l.length ≤ 1000000) : vector_at.f l n = some (atS n l) := by
  have hs := bsL_spec l n was h (l.length + 1) 0 l.length (by omega) (by omega) (by omega) (fun q hq => by omega) (fun q h1 h2 => by omega)
  unfold vector_at.f vector_find.f
  rw [if_pos hl, Option.bind_some]
  have hix : findIx l n = bsL l n (l.length + 1) 0 l.length := rfl
  rw [← hix] at hs
  obtain ⟨_, hp, hA, hB⟩ := hs
  have hne : ∀ q, q < findIx l n → (l.getD q z35).f0.toList ≠ n.toList := fun q hq he => by
    have := hA q hq
    rw [(cmpS_lt l q n).2.2 he] at this
    exact absurd this (by decide)
  by_cases hlt : findIx l n < l.length
  · by_cases hc : cmpS l (findIx l n) n = 0
    · have hh : findHit l n = true := by unfold findHit; rw [if_pos hlt, hc]; rfl
      simp only [hh, if_true]
      rw [if_pos (by omega), if_pos (by omega), atS_some n l (findIx l n) hlt hne ((cmpS_lt l _ n).2.1 hc)]
      simp [rd_T35]
    · have hh : findHit l n = false := by unfold findHit; rw [if_pos hlt]; simpa using hc
      simp only [hh, Bool.false_eq_true, if_false]
      rw [atS_none n l (fun q hq he => ?_)]
      rcases Nat.lt_or_ge q (findIx l n) with h1 | h1
      · exact hne q h1 he
      · have h0 := hB (findIx l n) (Nat.le_refl _) hlt
        rcases Nat.lt_or_ge (findIx l n) q with h2 | h2
        · have h3 := rises_two l was h _ q h2 hq
          rw [he] at h3
          exact h0 ((cmpS_lt l _ n).1.2 h3)
        · obtain rfl : q = findIx l n := by omega
          exact hc ((cmpS_lt l _ n).2.2 he)
  · have hh : findHit l n = false := by unfold findHit; rw [if_neg hlt]
    simp only [hh, Bool.false_eq_true, if_false]
    rw [atS_none n l (fun q hq => hne q (by omega))]
def hasS (l : List S35) (n : ByteArray) (d : Int) : Bool := rightS l && dotOk ⟨n, d⟩ && decide (d ≤ atS n l)
theorem rightS_le {l : List S35} (h : rightS l = true) : l.length ≤ 64 ∧ rises ⟨#[]⟩ l = true := by
  simpa [rightS] using h
theorem has_f (l : List S35) (hl : l.length ≤ 9223372036854775807) (n : ByteArray) (d : Int) (k : Nat) (hk : l.length < k) : vector_Has.f k l n d = some (hasS l n d) := by
  unfold vector_Has.f hasS
  rw [right_f l hl k hk, Option.bind_some, isDot_f, Option.bind_some]
  cases hr : rightS l
  · simp
  · obtain ⟨h1, h2⟩ := rightS_le hr
    rw [find_at l n _ h2 (by omega), Option.bind_some]
    cases dotOk ⟨n, d⟩ <;> simp
def nA : ByteArray := ⟨#[97]⟩
def nB : ByteArray := ⟨#[98]⟩
theorem nA_l : nA.toList = [97] := by rw [ByteArray.toList_eq]; rfl
theorem nB_l : nB.toList = [98] := by rw [ByteArray.toList_eq]; rfl
theorem nE_l : (⟨#[]⟩ : ByteArray).toList = [] := by rw [ByteArray.toList_eq]
theorem nA_ok : isNameB nA = true := by decide
theorem nB_ok : isNameB nB = true := by decide
def vA : List S35 := [⟨nA, 2⟩]
def vB : List S35 := [⟨nA, 1⟩, ⟨nB, 3⟩]
def vJ : List S35 := [⟨nA, 2⟩, ⟨nB, 3⟩]
theorem vA_r : rightS vA = true := by simp [rightS, rises, dotOk, vA, nA_ok, nA_l, nE_l, Op.bytesLess]
theorem vB_r : rightS vB = true := by simp [rightS, rises, dotOk, vB, nA_ok, nB_ok, nA_l, nB_l, nE_l, Op.bytesLess]
theorem vJ_r : rightS vJ = true := by simp [rightS, rises, dotOk, vJ, nA_ok, nB_ok, nA_l, nB_l, nE_l, Op.bytesLess]
theorem vAB : mrg vA vB = [(nA, 2, 1), (nB, 0, 3)] := by
  rw [vA, vB, mrg_xy, if_neg (by rw [bl_irr]; decide), if_neg (by rw [bl_irr]; decide), mrg_y, mrg]
theorem vJ_h : hasS vJ nB 2 = true := by
  simp only [hasS, vJ_r, Bool.true_and]
  simp [dotOk, nB_ok, vJ, atS, nA_l, nB_l]
theorem shown_f (k : Nat) (hk : 3 ≤ k) : pannierlaw07_shown.f k = some true := by
  have hA : vector_Right.f k vA = some true := by rw [right_f vA (by decide) k (by simp [vA]; omega), vA_r]
  have hB : vector_Right.f k vB = some true := by rw [right_f vB (by decide) k (by simp [vB]; omega), vB_r]
  have hJ : vector_Join.f k vA vB = some (vJ, 0) := by
    unfold vector_Join.f
    rw [hA, hB, vAB]
    rfl
  have hM : vector_Meet.f k [vA, vB] = some ([⟨nA, 1⟩], 0) := by
    unfold vector_Meet.f
    have h1 : anyBad k [vA, vB] = some false := by simp only [anyBad, hA, hB, Option.bind_some, if_true]
    have h2 : meetF vA [vB] = some [⟨nA, 1⟩] := by rw [meetF, vAB]; rfl
    rw [h1]
    simp only [List.length_cons, List.length_nil, Option.bind_some]
    rw [if_neg (by decide), if_neg (by decide)]
    show (api_Dot_39.f vA).bind _ = _
    rw [show api_Dot_39.f vA = some vA from rfl, Option.bind_some]
    show (meetF vA [vB]).bind _ = _
    rw [h2]
    rfl
  have hH : vector_Has.f k vJ nB 2 = some true := by rw [has_f vJ (by decide) nB 2 k (by simp [vJ]; omega), vJ_h]
  unfold pannierlaw07_shown.f
  show (vector_Join.f k vA vB).bind (fun bt119 => (vector_Meet.f k [vA, vB]).bind _) = _
  rw [hJ, Option.bind_some, hM, Option.bind_some]
  show (vector_Has.f k vJ nB 2).bind _ = _
  rw [hH]
  rfl
theorem mrg_len (a b : List S35) : (mrg a b).length ≤ a.length + b.length := by
  induction a, b using mrg.induct with
  | case1 => simp [mrg]
  | case2 y b ih => rw [mrg_y]; simp only [List.length_cons, List.length_nil] at ih ⊢; omega
  | case3 x a ih => rw [mrg_x]; simp only [List.length_cons, List.length_nil] at ih ⊢; omega
  | case4 x a y b h ih => rw [mrg_xy, if_pos h]; simp only [List.length_cons] at ih ⊢; omega
  | case5 x a y b h h2 ih => rw [mrg_xy, if_neg h, if_pos h2]; simp only [List.length_cons] at ih ⊢; omega
  | case6 x a y b h h2 ih => rw [mrg_xy, if_neg h, if_neg h2]; simp only [List.length_cons] at ih ⊢; omega
/-- Every name of l is behind 'was'. -/
def above (was : ByteArray) (l : List S35) : Prop := ∀ x, x ∈ l → Op.bytesLess was.toList x.f0.toList = true
theorem rises_above : ∀ (l : List S35) (was : ByteArray), rises was l = true → above was l
  | [], _, _ => fun x hx => by cases hx
  | y :: l, was, h => fun x hx => by
    simp only [rises, Bool.and_eq_true] at h
    rcases List.mem_cons.1 hx with rfl | hx
    · exact h.1.2
    · exact bl_trans _ _ _ h.1.2 (rises_above l y.f0 h.2 x hx)
theorem rises_low (l : List S35) (was low : ByteArray) (h : rises was l = true) (hl : above low l) : rises low l = true := by
  cases l with
  | nil => rfl
  | cons x l =>
    simp only [rises, Bool.and_eq_true] at h ⊢
    exact ⟨⟨h.1.1, hl x (by simp)⟩, h.2⟩
theorem rises_tail {x : S35} {l : List S35} {was : ByteArray} (h : rises was (x :: l) = true) : rises x.f0 l = true := by
  simp only [rises, Bool.and_eq_true] at h; exact h.2
theorem rises_pos {l : List S35} {was : ByteArray} : ∀ {x : S35}, rises was l = true → x ∈ l → 1 ≤ x.f1 ∧ x.f1 ≤ 4611686018427387904 := by
  induction l generalizing was with
  | nil => intro x _ hx; cases hx
  | cons y l ih =>
    intro x h hx
    simp only [rises, dotOk, Bool.and_eq_true, decide_eq_true_eq] at h
    rcases List.mem_cons.1 hx with rfl | hx
    · exact ⟨h.1.1.1.2, h.1.1.2⟩
    · exact ih h.2 hx
theorem atS_above {n : ByteArray} {l : List S35} (h : above n l) : atS n l = 0 := by
  refine atS_none n l (fun q hq he => ?_)
  have := h (l.getD q z35) (by rw [show l.getD q z35 = l[q] by simp [List.getD, hq]]; exact List.getElem_mem hq)
  rw [he, bl_irr] at this
  cases this
theorem atS_skip {n : ByteArray} {x : S35} {l : List S35} (h : Op.bytesLess x.f0.toList n.toList = true) : atS n (x :: l) = atS n l := by
  rw [atS, if_neg (fun e => by rw [e, bl_irr] at h; cases h)]
theorem same_l0 (a : List S35) (ha : a.length ≤ 9223372036854775807) : ∀ (k i : Nat), i ≤ a.length → a.length - i < k → pannierref07_Same.l0 k a a (i : Int) = some true
  | 0, i, _, h => by omega
  | k + 1, i, hi, h => by
    unfold pannierref07_Same.l0
    by_cases hlt : i < a.length
    · rw [if_pos (by omega), if_pos (by omega), if_pos (by omega), wrap_succ hlt ha, same_l0 a ha k (i + 1) (by omega) (by omega), if_neg (by simp)]
    · rw [if_neg (by omega)]
theorem same_f (a : List S35) (ha : a.length ≤ 9223372036854775807) (k : Nat) (hk : a.length < k) : pannierref07_Same.f k a a = some true := by
  unfold pannierref07_Same.f
  rw [if_pos rfl, show (0 : Int) = ((0 : Nat) : Int) from rfl, same_l0 a ha k 0 (by omega) (by omega)]
def putS : List S35 → ByteArray → Int → List S35
  | [], w, n => [⟨w, n⟩]
  | x :: l, w, n => if Op.bytesLess x.f0.toList w.toList = true then x :: putS l w n else if x.f0.toList = w.toList then ⟨w, n⟩ :: l else ⟨w, n⟩ :: x :: l
theorem putS_skip {x : S35} {l : List S35} {w : ByteArray} {n : Int} (h : Op.bytesLess x.f0.toList w.toList = true) : putS (x :: l) w n = x :: putS l w n := by rw [putS, if_pos h]
theorem putS_len : ∀ (l : List S35) (w : ByteArray) (n : Int), (putS l w n).length ≤ l.length + 1
  | [], _, _ => by simp [putS]
  | x :: l, w, n => by
    have := putS_len l w n
    unfold putS
    split
    · simp only [List.length_cons]; omega
    · split <;> simp
theorem putS_above {l : List S35} {w low : ByteArray} {n : Int} (h : above low l) (hw : Op.bytesLess low.toList w.toList = true) : above low (putS l w n) := by
  induction l with
  | nil => intro x hx; simp only [putS, List.mem_singleton] at hx; subst hx; exact hw
  | cons y l ih =>
    intro x hx
    unfold putS at hx
    have hl : above low l := fun z hz => h z (by simp [hz])
    split at hx
    · rcases List.mem_cons.1 hx with e | hx
      · rw [e]; exact h _ (by simp)
      · exact ih hl x hx
    · split at hx
      · rcases List.mem_cons.1 hx with e | hx
        · rw [e]; exact hw
        · exact hl x hx
      · rcases List.mem_cons.1 hx with e | hx
        · rw [e]; exact hw
        · exact h x hx
/-- Names rise (no word on the numbers). -/
def asc : List S35 → Prop
  | [] => True
  | x :: l => above x.f0 l ∧ asc l
theorem rises_asc : ∀ (l : List S35) (was : ByteArray), rises was l = true → asc l
  | [], _, _ => trivial
  | x :: l, was, h => ⟨rises_above l x.f0 (rises_tail h), rises_asc l x.f0 (rises_tail h)⟩
theorem asc_drop : ∀ (l : List S35) (i : Nat), asc l → asc (l.drop i)
  | [], i, _ => by simp [asc]
  | x :: l, 0, h => h
  | x :: l, i + 1, h => asc_drop l i h.2
theorem putS_asc : ∀ (l : List S35) (w : ByteArray) (n : Int), asc l → asc (putS l w n)
  | [], w, n, _ => ⟨fun x hx => (by cases hx), trivial⟩
  | x :: l, w, n, h => by
    unfold putS
    split
    · rename_i hlt
      exact ⟨putS_above h.1 hlt, putS_asc l w n h.2⟩
    · rename_i hlt
      split
      · rename_i he
        refine ⟨fun y hy => ?_, h.2⟩
        have := h.1 y hy
        rwa [he] at this
      · rename_i he
        have hwx : Op.bytesLess w.toList x.f0.toList = true := by
          cases hh : Op.bytesLess w.toList x.f0.toList
          · exact absurd (bl_tri (Bool.eq_false_iff.mpr hlt) hh) he
          · rfl
        refine ⟨fun y hy => ?_, h⟩
        rcases List.mem_cons.1 hy with rfl | hy
        · exact hwx
        · exact bl_trans _ _ _ hwx (h.1 y hy)
theorem put_done (v : List S35) (hv : v.length ≤ 1000000) (w : ByteArray) (n : Int) : ∀ (k i : Nat) (out : List S35), i ≤ v.length → 2 * (v.length - i) < k → out.length ≤ 1000000 + i → above w (v.drop i) →
    pannierref07_put.l0 k v w n out true (i : Int) = some (out ++ v.drop i)
  | 0, i, out, _, h, _, _ => by omega
  | 1, i, out, hi, h, ho, hb => by
    unfold pannierref07_put.l0
    rw [if_neg (by omega), if_pos rfl, List.drop_eq_nil_of_le (by omega)]
    simp
  | k + 2, i, out, hi, h, ho, hb => by
    unfold pannierref07_put.l0
    by_cases hlt : i < v.length
    · rw [if_pos (by omega), if_pos rfl]
      unfold pannierref07_put.j1
      rw [if_neg (by decide), if_pos (by omega), if_pos (by omega)]
      rw [rd_drop v i hlt] at hb
      have hne : ¬ (rd_T35 v (i : Int)).f0.toList = w.toList := fun e => by
        have := hb (rd_T35 v i) (by simp)
        rw [e, bl_irr] at this; cases this
      rw [if_neg hne, if_pos (by omega), wrap_succ hlt (by omega)]
      have ih := put_done v hv w n k (i + 1) (out ++ [⟨(rd_T35 v (i : Int)).f0, (rd_T35 v (i : Int)).f1⟩]) (by omega) (by omega) (by simp; omega) (fun x hx => hb x (by simp [hx]))
      rw [ih, rd_drop v i hlt]
      simp
    · rw [if_neg (by omega), if_pos rfl, List.drop_eq_nil_of_le (by omega)]
      simp
theorem put_not (v : List S35) (hv : v.length ≤ 1000000) (w : ByteArray) (n : Int) (hs : asc v) : ∀ (k i : Nat) (out : List S35), i ≤ v.length → 2 * (v.length - i) + 1 < k → out.length ≤ i →
    pannierref07_put.l0 k v w n out false (i : Int) = some (out ++ putS (v.drop i) w n)
  | 0, i, out, _, h, _ => by omega
  | 1, i, out, _, h, _ => by omega
  | k + 2, i, out, hi, h, ho => by
    unfold pannierref07_put.l0
    by_cases hlt : i < v.length
    · have hsd := asc_drop v i hs
      rw [rd_drop v i hlt] at hsd ⊢
      rw [if_pos (by omega), if_neg (by decide), if_pos (by omega)]
      unfold pannierref07_put.j1
      by_cases hc : Op.bytesLess (rd_T35 v (i : Int)).f0.toList w.toList = true
      · rw [hc, if_neg (by decide), if_pos (by omega), if_pos (by omega)]
        have hne : ¬ (rd_T35 v (i : Int)).f0.toList = w.toList := fun e => by rw [e, bl_irr] at hc; cases hc
        rw [if_neg hne, if_pos (by omega), wrap_succ hlt (by omega), putS_skip hc]
        have ih := put_not v hv w n hs k (i + 1) (out ++ [⟨(rd_T35 v (i : Int)).f0, (rd_T35 v (i : Int)).f1⟩]) (by omega) (by omega) (by simp; omega)
        rw [ih]
        simp
      · rw [Bool.eq_false_iff.mpr hc, if_pos (by decide), if_pos (by omega), Option.bind_some, if_pos (by omega), if_pos (by omega), putS, if_neg hc]
        by_cases he : (rd_T35 v (i : Int)).f0.toList = w.toList
        · rw [if_pos he, if_pos he, wrap_succ hlt (by omega)]
          have hab : above w (v.drop (i + 1)) := fun x hx => by have := hsd.1 x hx; rwa [he] at this
          refine (put_done v hv w n k (i + 1) _ (by omega) (by omega) (by simp; omega) hab).trans ?_
          simp
        · have hwx : Op.bytesLess w.toList (rd_T35 v (i : Int)).f0.toList = true := by
            cases hh : Op.bytesLess w.toList (rd_T35 v (i : Int)).f0.toList
            · exact absurd (bl_tri (Bool.eq_false_iff.mpr hc) hh) he
            · rfl
          have hab : above w (v.drop (i + 1)) := fun x hx => bl_trans _ _ _ hwx (hsd.1 x hx)
          rw [if_neg he, if_neg he, if_pos (by simp; omega), wrap_succ hlt (by omega)]
          refine (put_done v hv w n k (i + 1) _ (by omega) (by omega) (by simp; omega) hab).trans ?_
          simp
    · rw [if_neg (by omega), if_neg (by decide), if_pos (by omega), List.drop_eq_nil_of_le (by omega)]
      rfl
theorem put_f (v : List S35) (hv : v.length ≤ 1000000) (w : ByteArray) (n : Int) (hn : n ≠ 0) (hs : asc v) (k : Nat) (hk : 2 * v.length + 1 < k) : pannierref07_put.f k v w n = some (putS v w n) := by
  unfold pannierref07_put.f
  rw [show (n == 0) = false from by simpa using hn]
  have := put_not v hv w n hs k 0 [] (by omega) (by omega) (by simp)
  simpa using this
def jf (at' : ByteArray → Int) : List S35 → List S35 → List S35
  | out, [] => out
  | out, y :: b => jf at' (putS out y.f0 (mx y.f1 (at' y.f0))) b
theorem jf_skip (at' : ByteArray → Int) (x : S35) : ∀ (b : List S35) (o : List S35), above x.f0 b → jf at' (x :: o) b = x :: jf at' o b
  | [], _, _ => rfl
  | y :: b, o, h => by
    rw [jf, putS_skip (h y (by simp)), jf_skip at' x b _ (fun z hz => h z (by simp [hz])), jf]
theorem mx_zero {n : Int} (h : 1 ≤ n) : mx n 0 = n := by unfold mx; split <;> omega
theorem mx_comm (a b : Int) : mx a b = mx b a := by unfold mx; split <;> split <;> omega
theorem jf_mrg (a b : List S35) : ∀ (wa wb : ByteArray) (at' : ByteArray → Int), rises wa a = true → rises wb b = true → (∀ y, y ∈ b → at' y.f0 = atS y.f0 a) → jf at' a b = joinL (mrg a b) := by
  induction a, b using mrg.induct with
  | case1 => intro wa wb at' _ _ _; simp [mrg, joinL, jf]
  | case2 y b ih =>
    intro wa wb at' ha hb hat
    rw [mrg_y, jf, putS, jf_skip at' ⟨y.f0, mx y.f1 (at' y.f0)⟩ b [] (rises_above b y.f0 (rises_tail hb)), ih wa y.f0 at' rfl (rises_tail hb) (fun z hz => hat z (by simp [hz]))]
    rw [hat y (by simp), atS]
    simp only [joinL, List.map_cons]
    rw [mx_comm]
  | case3 x a ih =>
    intro wa wb at' ha hb hat
    rw [mrg_x, jf]
    have := ih x.f0 wb at' (rises_tail ha) rfl (fun z hz => by cases hz)
    rw [jf] at this
    simp only [joinL, List.map_cons] at this ⊢
    rw [mx_zero (rises_pos ha (by simp)).1, ← this]
  | case4 x a y b h ih =>
    intro wa wb at' ha hb hat
    have hab : above x.f0 (y :: b) := fun z hz => by
      rcases List.mem_cons.1 hz with rfl | hz
      · exact h
      · exact bl_trans _ _ _ h (rises_above b y.f0 (rises_tail hb) z hz)
    rw [mrg_xy, if_pos h, jf_skip at' x (y :: b) a hab, ih x.f0 wb at' (rises_tail ha) hb (fun z hz => by rw [hat z hz, atS_skip (hab z hz)])]
    simp only [joinL, List.map_cons]
    rw [mx_zero (rises_pos ha (by simp)).1]
  | case5 x a y b h h2 ih =>
    intro wa wb at' ha hb hat
    have hab : above y.f0 (x :: a) := fun z hz => by
      rcases List.mem_cons.1 hz with rfl | hz
      · exact h2
      · exact bl_trans _ _ _ h2 (rises_above a x.f0 (rises_tail ha) z hz)
    have hne : ¬ x.f0.toList = y.f0.toList := fun e => by rw [e, bl_irr] at h2; cases h2
    rw [mrg_xy, if_neg h, if_pos h2, jf, putS, if_neg h, if_neg hne, jf_skip at' ⟨y.f0, mx y.f1 (at' y.f0)⟩ b (x :: a) (rises_above b y.f0 (rises_tail hb)), ih wa y.f0 at' ha (rises_tail hb) (fun z hz => hat z (by simp [hz]))]
    rw [hat y (by simp), atS_above hab]
    simp only [joinL, List.map_cons]
    rw [mx_comm]
  | case6 x a y b h h2 ih =>
    intro wa wb at' ha hb hat
    have he : x.f0.toList = y.f0.toList := bl_tri (Bool.eq_false_iff.mpr h) (Bool.eq_false_iff.mpr h2)
    have hby := rises_above b y.f0 (rises_tail hb)
    rw [mrg_xy, if_neg h, if_neg h2, jf, putS, if_neg h, if_pos he, jf_skip at' ⟨y.f0, mx y.f1 (at' y.f0)⟩ b a hby, ih x.f0 y.f0 at' (rises_tail ha) (rises_tail hb) (fun z hz => by rw [hat z (by simp [hz]), atS_skip (by rw [he]; exact hby z hz)])]
    rw [hat y (by simp), atS, if_pos he]
    simp only [joinL, List.map_cons]
    rw [mx_comm, toList_inj he]
def joinS (a b : List S35) : List S35 × Int := if rightS a && rightS b then (if (64 : Int) < ((joinL (mrg a b)).length : Int) then ([], 70) else (joinL (mrg a b), 0)) else ([], 2)
theorem join_f (a b : List S35) (ha : a.length ≤ 9223372036854775807) (hb : b.length ≤ 9223372036854775807) (k : Nat) (hk : a.length + b.length < k) : vector_Join.f k a b = some (joinS a b) := by
  unfold vector_Join.f joinS
  rw [right_f a ha k (by omega), right_f b hb k (by omega), Option.bind_some, Option.bind_some]
  cases hra : rightS a
  · rfl
  cases hrb : rightS b
  · rfl
  have h1 := rightS_le hra
  have h2 := rightS_le hrb
  have := mrg_len a b
  rw [if_pos rfl, if_pos rfl, if_pos (by omega)]
  show _ = some (if (64 : Int) < ((joinL (mrg a b)).length : Int) then ([], 70) else (joinL (mrg a b), 0))
  split <;> rfl
def lf (at' : ByteArray → Int) : List S35 → List S52
  | [] => []
  | y :: b => if at' y.f0 < y.f1 then ⟨y.f0, wrap64 (at' y.f0 + 1), y.f1⟩ :: lf at' b else lf at' b
theorem lf_mrg (a b : List S35) : ∀ (wa wb : ByteArray) (at' : ByteArray → Int), rises wa a = true → rises wb b = true → (∀ y, y ∈ b → at' y.f0 = atS y.f0 a) → lf at' b = lackL (mrg a b) := by
  induction a, b using mrg.induct with
  | case1 => intro wa wb at' _ _ _; simp [mrg, lackL, lf]
  | case2 y b ih =>
    intro wa wb at' ha hb hat
    rw [mrg_y, lf, ih wa y.f0 at' rfl (rises_tail hb) (fun z hz => hat z (by simp [hz])), hat y (by simp), atS, lackL]
  | case3 x a ih =>
    intro wa wb at' ha hb hat
    rw [mrg_x, lackL, if_neg (by have := (rises_pos ha (by simp : x ∈ x :: a)).1; simp only []; omega)]
    exact ih x.f0 wb at' (rises_tail ha) rfl (fun z hz => by cases hz)
  | case4 x a y b h ih =>
    intro wa wb at' ha hb hat
    have hab : above x.f0 (y :: b) := fun z hz => by
      rcases List.mem_cons.1 hz with rfl | hz
      · exact h
      · exact bl_trans _ _ _ h (rises_above b y.f0 (rises_tail hb) z hz)
    rw [mrg_xy, if_pos h, lackL, if_neg (by have := (rises_pos ha (by simp : x ∈ x :: a)).1; simp only []; omega)]
    exact ih x.f0 wb at' (rises_tail ha) hb (fun z hz => by rw [hat z hz, atS_skip (hab z hz)])
  | case5 x a y b h h2 ih =>
    intro wa wb at' ha hb hat
    have hab : above y.f0 (x :: a) := fun z hz => by
      rcases List.mem_cons.1 hz with rfl | hz
      · exact h2
      · exact bl_trans _ _ _ h2 (rises_above a x.f0 (rises_tail ha) z hz)
    rw [mrg_xy, if_neg h, if_pos h2, lf, ih wa y.f0 at' ha (rises_tail hb) (fun z hz => hat z (by simp [hz])), hat y (by simp), atS_above hab, lackL]
  | case6 x a y b h h2 ih =>
    intro wa wb at' ha hb hat
    have he : x.f0.toList = y.f0.toList := bl_tri (Bool.eq_false_iff.mpr h) (Bool.eq_false_iff.mpr h2)
    have hby := rises_above b y.f0 (rises_tail hb)
    rw [mrg_xy, if_neg h, if_neg h2, lf, ih x.f0 y.f0 at' (rises_tail ha) (rises_tail hb) (fun z hz => by rw [hat z (by simp [hz]), atS_skip (by rw [he]; exact hby z hz)]), hat y (by simp), atS, if_pos he, lackL]
    rw [toList_inj he]
def lackS (a b : List S35) : List S52 × Int := if rightS a && rightS b then (lackL (mrg a b), 0) else ([], 2)
theorem lack_f (a b : List S35) (ha : a.length ≤ 9223372036854775807) (hb : b.length ≤ 9223372036854775807) (k : Nat) (hk : a.length + b.length < k) : vector_Lack.f k a b = some (lackS a b) := by
  unfold vector_Lack.f lackS
  rw [right_f a ha k (by omega), right_f b hb k (by omega), Option.bind_some, Option.bind_some]
  cases hra : rightS a
  · rfl
  cases hrb : rightS b
  · rfl
  have h1 := rightS_le hra
  have h2 := rightS_le hrb
  have := mrg_len a b
  rw [if_pos rfl, if_pos rfl, if_pos (by omega)]
  rfl
def qf (at' : ByteArray → Int) : List S35 → Bool
  | [] => true
  | x :: a => decide (x.f1 ≤ at' x.f0) && qf at' a
theorem joinL_len (l : List (ByteArray × Int × Int)) : (joinL l).length = l.length := by simp [joinL]
theorem lackL_len : ∀ l : List (ByteArray × Int × Int), (lackL l).length ≤ l.length
  | [] => by simp [lackL]
  | x :: l => by have := lackL_len l; unfold lackL; split <;> simp only [List.length_cons] <;> omega
theorem joinS_len (a b : List S35) : (joinS a b).1.length ≤ 128 := by
  unfold joinS
  split
  · split
    · simp
    · rename_i h _
      simp only [Bool.and_eq_true] at h
      have h1 := (rightS_le h.1).1
      have h2 := (rightS_le h.2).1
      have := mrg_len a b
      simp only [joinL_len]
      omega
  · simp
theorem lackS_len (a b : List S35) : (lackS a b).1.length ≤ 128 := by
  unfold lackS
  split
  · rename_i h
    simp only [Bool.and_eq_true] at h
    have h1 := (rightS_le h.1).1
    have h2 := (rightS_le h.2).1
    have := mrg_len a b
    have := lackL_len (mrg a b)
    simp only []
    omega
  · simp
theorem mn_le (a b : Int) : mn a b ≤ a ∧ mn a b ≤ b := by unfold mn; split <;> omega
theorem mn_pos {a b : Int} (h : 0 < a) (k : 0 < b) : 0 < mn a b := by unfold mn; split <;> omega
def mf (at' : ByteArray → Int) : List S35 → List S35
  | [] => []
  | x :: a => if 0 < mn x.f1 (at' x.f0) then ⟨x.f0, mn x.f1 (at' x.f0)⟩ :: mf at' a else mf at' a
theorem mf_mrg (a b : List S35) : ∀ (wa wb : ByteArray) (at' : ByteArray → Int), rises wa a = true → rises wb b = true → (∀ x, x ∈ a → at' x.f0 = atS x.f0 b) → meetL (mrg a b) = mf at' a := by
  induction a, b using mrg.induct with
  | case1 => intro wa wb at' _ _ _; simp [mrg, meetL, mf]
  | case2 y b ih =>
    intro wa wb at' ha hb hat
    have h1 := ih wa y.f0 at' rfl (rises_tail hb) (fun z hz => by cases hz)
    rw [mrg_y, meetL, if_neg (by have := (mn_le 0 y.f1).1; simp only []; omega)]
    exact h1
  | case3 x a ih =>
    intro wa wb at' ha hb hat
    have h1 := ih x.f0 wb at' (rises_tail ha) rfl (fun z hz => by rw [hat z (by simp [hz])])
    rw [mrg_x, mf, hat x (by simp), atS, meetL, if_neg (by have := (mn_le x.f1 0).2; simp only []; omega), if_neg (by have := (mn_le x.f1 0).2; omega)]
    exact h1
  | case4 x a y b h ih =>
    intro wa wb at' ha hb hat
    have hab : above x.f0 (y :: b) := fun z hz => by
      rcases List.mem_cons.1 hz with rfl | hz
      · exact h
      · exact bl_trans _ _ _ h (rises_above b y.f0 (rises_tail hb) z hz)
    have h1 := ih x.f0 wb at' (rises_tail ha) hb (fun z hz => hat z (by simp [hz]))
    rw [mrg_xy, if_pos h, mf, hat x (by simp), atS_above hab, meetL, if_neg (by have := (mn_le x.f1 0).2; simp only []; omega), if_neg (by have := (mn_le x.f1 0).2; omega)]
    exact h1
  | case5 x a y b h h2 ih =>
    intro wa wb at' ha hb hat
    have hxa : ∀ z, z ∈ x :: a → Op.bytesLess y.f0.toList z.f0.toList = true := fun z hz => by
      rcases List.mem_cons.1 hz with rfl | hz
      · exact h2
      · exact bl_trans _ _ _ h2 (rises_above a x.f0 (rises_tail ha) z hz)
    have h1 := ih wa y.f0 at' ha (rises_tail hb) (fun z hz => by rw [hat z hz, atS_skip (hxa z hz)])
    rw [mrg_xy, if_neg h, if_pos h2, meetL, if_neg (by have := (mn_le 0 y.f1).1; simp only []; omega)]
    exact h1
  | case6 x a y b h h2 ih =>
    intro wa wb at' ha hb hat
    have he : x.f0.toList = y.f0.toList := bl_tri (Bool.eq_false_iff.mpr h) (Bool.eq_false_iff.mpr h2)
    have hax := rises_above a x.f0 (rises_tail ha)
    have h1 := ih x.f0 y.f0 at' (rises_tail ha) (rises_tail hb) (fun z hz => by rw [hat z (by simp [hz]), atS_skip (by rw [← he]; exact hax z hz)])
    rw [mrg_xy, if_neg h, if_neg h2, mf, hat x (by simp), atS, if_pos he.symm, meetL, h1]
theorem mf_above {at' : ByteArray → Int} {low : ByteArray} : ∀ {a : List S35}, above low a → above low (mf at' a)
  | [], _ => fun x hx => by cases hx
  | y :: a, h => fun x hx => by
    unfold mf at hx
    have hl : above low a := fun z hz => h z (by simp [hz])
    split at hx
    · rcases List.mem_cons.1 hx with e | hx
      · rw [e]; exact h y (by simp)
      · exact mf_above hl x hx
    · exact mf_above hl x hx
theorem mf_rises (at' : ByteArray → Int) : ∀ (a : List S35) (was : ByteArray), rises was a = true → rises was (mf at' a) = true
  | [], _, _ => rfl
  | x :: a, was, h => by
    have ih := mf_rises at' a x.f0 (rises_tail h)
    have hab := mf_above (at' := at') (rises_above _ _ h)
    have hp := rises_pos h (by simp : x ∈ x :: a)
    unfold mf at hab ⊢
    split
    · rename_i hh
      have hd : dotOk ⟨x.f0, mn x.f1 (at' x.f0)⟩ = true := by
        simp only [rises, dotOk, Bool.and_eq_true, decide_eq_true_eq] at h ⊢
        have := (mn_le x.f1 (at' x.f0)).1
        exact ⟨⟨h.1.1.1.1, by omega⟩, by omega⟩
      have hw : Op.bytesLess was.toList x.f0.toList = true := by simp only [rises, Bool.and_eq_true] at h; exact h.1.2
      simp only [rises, hd, hw, ih, Bool.and_self]
    · rename_i hh
      rw [if_neg hh] at hab
      exact rises_low _ _ _ ih hab
theorem mf_len (at' : ByteArray → Int) : ∀ a : List S35, (mf at' a).length ≤ a.length
  | [] => by simp [mf]
  | x :: a => by have := mf_len at' a; unfold mf; split <;> simp only [List.length_cons] <;> omega
def mnAll : List (List S35) → ByteArray → Int → Int
  | [], _, n => n
  | v :: vs, w, n => mnAll vs w (mn n (atS w v))
theorem mnAll_le : ∀ (vs : List (List S35)) (w : ByteArray) (n : Int), mnAll vs w n ≤ n
  | [], _, n => Int.le_refl n
  | v :: vs, w, n => by have := mnAll_le vs w (mn n (atS w v)); have := (mn_le n (atS w v)).1; unfold mnAll; omega
def gf (vs : List (List S35)) : List S35 → List S35
  | [] => []
  | x :: a => if 0 < mnAll vs x.f0 x.f1 then ⟨x.f0, mnAll vs x.f0 x.f1⟩ :: gf vs a else gf vs a
theorem gf_nil : ∀ (a : List S35) (was : ByteArray), rises was a = true → gf [] a = a
  | [], _, _ => rfl
  | x :: a, was, h => by
    have hp := rises_pos h (by simp : x ∈ x :: a)
    rw [gf, gf_nil a x.f0 (rises_tail h), mnAll, if_pos (by omega)]
theorem gf_mf (v : List S35) (vs : List (List S35)) : ∀ a : List S35, gf vs (mf (fun w => atS w v) a) = gf (v :: vs) a
  | [] => rfl
  | x :: a => by
    have ih := gf_mf v vs a
    rw [gf, mf, mnAll]
    split
    · rename_i hh
      rw [gf, ih]
    · rename_i hh
      have := mnAll_le vs x.f0 (mn x.f1 (atS x.f0 v))
      rw [ih, if_neg (by omega)]
theorem gf_len (vs : List (List S35)) : ∀ a : List S35, (gf vs a).length ≤ a.length
  | [] => by simp [gf]
  | x :: a => by have := gf_len vs a; unfold gf; split <;> simp only [List.length_cons] <;> omega
theorem meetF_gf : ∀ (vs : List (List S35)) (acc : List S35) (was : ByteArray), rises was acc = true → acc.length ≤ 64 → (∀ v, v ∈ vs → rightS v = true) → meetF acc vs = some (gf vs acc)
  | [], acc, was, h, _, _ => by rw [meetF, gf_nil acc was h]
  | v :: vs, acc, was, h, hl, hv => by
    have hr := rightS_le (hv v (by simp))
    have hlen := mrg_len acc v
    have hm := mf_mrg acc v was _ (fun w => atS w v) h hr.2 (fun _ _ => rfl)
    have hml := mf_len (fun w => atS w v) acc
    rw [meetF, if_pos (by omega), hm, meetF_gf vs _ was (mf_rises _ acc was h) (by omega) (fun z hz => hv z (by simp [hz])), gf_mf]
theorem atS_self : ∀ {l : List S35} {was : ByteArray} {x : S35}, rises was l = true → x ∈ l → atS x.f0 l = x.f1
  | y :: l, was, x, h, hx => by
    rcases List.mem_cons.1 hx with rfl | hx
    · rw [atS, if_pos rfl]
    · rw [atS_skip (rises_above l y.f0 (rises_tail h) x hx)]
      exact atS_self (rises_tail h) hx
theorem gf_self (v : List S35) (vs : List (List S35)) : ∀ a : List S35, (∀ x, x ∈ a → atS x.f0 v = x.f1) → gf (v :: vs) a = gf vs a
  | [], _ => rfl
  | x :: a, h => by
    have ih := gf_self v vs a (fun z hz => h z (by simp [hz]))
    rw [gf, gf, mnAll, h x (by simp), ih, show mn x.f1 x.f1 = x.f1 by unfold mn; split <;> rfl]
theorem rdL_mem (ls : List (List S35)) (i : Nat) (h : i < ls.length) : rd_L4 ls (i : Int) ∈ ls := by
  have : rd_L4 ls (i : Int) = ls[i] := by simp [rd_L4, List.getD, h]
  rw [this]; exact List.getElem_mem h
theorem rdL_drop (ls : List (List S35)) (i : Nat) (h : i < ls.length) : ls.drop i = rd_L4 ls (i : Int) :: ls.drop (i + 1) := by
  rw [List.drop_eq_getElem_cons h]
  congr 1
  simp [rd_L4, List.getD, h]
def meetS (ls : List (List S35)) : List S35 × Int := if ls.length = 0 then ([], 2) else if ls.all rightS then (gf (ls.drop 1) (ls.getD 0 []), 0) else ([], 2)
theorem meetS_len (ls : List (List S35)) : (meetS ls).1.length ≤ 64 := by
  unfold meetS
  split
  · simp
  · split
    · rename_i h0 h
      have hg := gf_len (ls.drop 1) (ls.getD 0 [])
      have hm : ls.getD 0 [] ∈ ls := by
        rw [show ls.getD 0 [] = ls[0]'(by omega) by simp [List.getD, show 0 < ls.length by omega]]
        exact List.getElem_mem _
      have := (rightS_le (List.all_eq_true.1 h _ hm)).1
      simp only []
      omega
    · simp
theorem anyBad_f (k m : Nat) (hm : m ≤ 9223372036854775807) (hk : m < k) : ∀ ls : List (List S35), (∀ v, v ∈ ls → v.length ≤ m) → anyBad k ls = some (!(ls.all rightS))
  | [], _ => rfl
  | v :: ls, h => by
    have hv := h v (by simp)
    rw [anyBad, right_f v (by omega) k (by omega), Option.bind_some, anyBad_f k m hm hk ls (fun z hz => h z (by simp [hz])), List.all_cons]
    cases rightS v <;> simp
theorem meet_f (ls : List (List S35)) (m : Nat) (hm : m ≤ 9223372036854775807) (hz : ∀ v, v ∈ ls → v.length ≤ m) (k : Nat) (hk : m < k) : vector_Meet.f k ls = some (meetS ls) := by
  unfold vector_Meet.f meetS
  by_cases h0 : ls.length = 0
  · rw [if_pos h0, if_pos h0]
  rw [if_neg h0, if_neg h0, anyBad_f k m hm hk ls hz, Option.bind_some]
  by_cases ha : ls.all rightS = true
  · have hall := List.all_eq_true.1 ha
    have hm0 : ls.getD 0 [] ∈ ls := by
      rw [show ls.getD 0 [] = ls[0]'(by omega) by simp [List.getD, show 0 < ls.length by omega]]
      exact List.getElem_mem _
    have hr := rightS_le (hall _ hm0)
    rw [if_pos ha, ha, if_neg (by decide)]
    unfold api_Dot_39.f
    rw [if_pos (by omega), Option.bind_some, meetF_gf (ls.drop 1) _ _ hr.2 hr.1 (fun v hv => hall v (List.mem_of_mem_drop hv)), Option.bind_some]
  · rw [if_neg ha, Bool.eq_false_iff.mpr ha, if_pos (by decide)]
end Go.Proofs.Ytnnlpelogabokaa.PW
