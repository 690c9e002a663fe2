/- The plain laws of names, vectors and what they have, as the walks of the program tell them. No condition. -/
import Derived.Test.YtnnlpelogabokaaPVx6
import Derived.Test.YtnnlpelogabokaaPVx7
namespace Go.Proofs.Ytnnlpelogabokaa.PV
open Go.RowKit Go.Proofs.YtnnlpelogabokaaW.PrintWords Go.Proofs.YtnnlpelogabokaaW.PrintLast Go.Proofs.YtnnlpelogabokaaW.PrintMore Go.Proofs.Ytnnlpelogabokaa.XW

/-! ### names' order -/
theorem bl_cons (x y : UInt8) (a b : List UInt8) : (Op.bytesLess (x :: a) (y :: b) = true) ↔ (x.toNat < y.toNat ∨ (x = y ∧ Op.bytesLess a b = true)) := by
  simp [Op.bytesLess, UInt8.lt_iff_toNat_lt]
theorem bl_nil (a : List UInt8) : Op.bytesLess a [] = false := by cases a <;> rfl
theorem bl_nil' (x : UInt8) (a : List UInt8) : Op.bytesLess [] (x :: a) = true := rfl

theorem bl_trans : ∀ a b c : List UInt8, Op.bytesLess a b = true → Op.bytesLess b c = true → Op.bytesLess a c = true
  | _, _, [], _, h => by rw [bl_nil] at h; cases h
  | _, [], _ :: _, h, _ => by rw [bl_nil] at h; cases h
  | [], _ :: _, _ :: _, _, _ => rfl
  | x :: a, y :: b, z :: c, h, k => by
    rw [bl_cons] at h k ⊢
    rcases h with h | ⟨rfl, h⟩
    · rcases k with k | ⟨rfl, k⟩
      · exact .inl (by omega)
      · exact .inl h
    · rcases k with k | ⟨rfl, k⟩
      · exact .inl k
      · exact .inr ⟨rfl, bl_trans a b c h k⟩
theorem bl_irr (a : List UInt8) : Op.bytesLess a a = false := bytesLess_irrefl a
theorem bl_asymm {a b : List UInt8} (h : Op.bytesLess a b = true) : Op.bytesLess b a = false := by
  cases k : Op.bytesLess b a
  · rfl
  · have := bl_trans _ _ _ h k; rw [bl_irr] at this; cases this
theorem bl_tri {a b : List UInt8} (h : Op.bytesLess a b = false) (k : Op.bytesLess b a = false) : a = b := by
  have := bytesLess_or_eq a b
  rw [h, k] at this
  simpa using this

theorem cmp_lt : ∀ a b : List UInt8, (Lib.compareBytes a b < 0 ↔ Op.bytesLess a b = true) ∧ (Lib.compareBytes a b = 0 ↔ a = b)
  | [], [] => by simp [Lib.compareBytes, Op.bytesLess]
  | [], _ :: _ => by simp [Lib.compareBytes, Op.bytesLess]
  | _ :: _, [] => by simp [Lib.compareBytes, Op.bytesLess]
  | x :: a, y :: b => by
    have ih := cmp_lt a b
    rw [bl_cons]
    unfold Lib.compareBytes
    by_cases h : x < y
    · rw [if_pos h]
      have h' := UInt8.lt_iff_toNat_lt.mp h
      refine ⟨⟨fun _ => .inl h', fun _ => by decide⟩, ⟨fun h => absurd h (by decide), fun e => ?_⟩⟩
      injection e with e _
      subst e
      omega
    · rw [if_neg h]
      have hn : ¬ x.toNat < y.toNat := fun k => h (UInt8.lt_iff_toNat_lt.mpr k)
      by_cases k : y < x
      · rw [if_pos k]
        have k' := UInt8.lt_iff_toNat_lt.mp k
        refine ⟨⟨fun h => absurd h (by decide), fun e => ?_⟩, ⟨fun h => absurd h (by decide), fun e => ?_⟩⟩
        · rcases e with e | ⟨rfl, _⟩ <;> omega
        · injection e with e _
          subst e
          omega
      · rw [if_neg k]
        have kn : ¬ y.toNat < x.toNat := fun h => k (UInt8.lt_iff_toNat_lt.mpr h)
        obtain rfl : x = y := UInt8.toNat.inj (by omega)
        refine ⟨⟨fun h => .inr ⟨rfl, ih.1.1 h⟩, fun e => ?_⟩, ?_⟩
        · rcases e with e | ⟨_, e⟩
          · exact absurd e hn
          · exact ih.1.2 e
        · rw [ih.2]
          simp
theorem toList_inj {a b : ByteArray} (h : a.toList = b.toList) : a = b := by
  rw [ByteArray.toList_eq, ByteArray.toList_eq] at h
  exact WideShapes.bytes_inj h

/-! ### what is right -/
def dotOk (x : S35) : Bool := isNameB x.f0 && decide (1 ≤ x.f1) && decide (x.f1 ≤ 4611686018427387904)
/-- Names rise behind 'was', and each dot is right. -/
def rises (was : ByteArray) : List S35 → Bool
  | [] => true
  | x :: l => dotOk x && Op.bytesLess was.toList x.f0.toList && rises x.f0 l
def rightS (l : List S35) : Bool := decide (l.length ≤ 64) && rises ⟨#[]⟩ l

theorem isDot_f (n : ByteArray) (d : Int) : vector_isDot.f n d = some (dotOk ⟨n, d⟩) := by
  unfold vector_isDot.f vector_IsName.f dotOk
  simp only [Option.bind_some]
  cases isNameB n <;> simp
  by_cases h : 1 ≤ d <;> simp [h]

theorem rd_drop (l : List S35) (i : Nat) (h : i < l.length) : l.drop i = rd_T35 l i :: l.drop (i + 1) := by
  rw [List.drop_eq_getElem_cons h, rd_T35]
  congr 1
  simp [List.getD, h]

theorem wrap_succ {i : Nat} {n : Nat} (h : i < n) (hn : n ≤ 9223372036854775807) : wrap64 ((i : Int) + 1) = ((i + 1 : Nat) : Int) := by
  unfold wrap64
  omega

theorem right_l0 (l : List S35) (hl : l.length ≤ 9223372036854775807) : ∀ (k i : Nat) (was : ByteArray), i ≤ l.length → l.length - i < k →
    vector_Right.l0 k was true l (l.length : Int) (i : Int) = some (rises was (l.drop i))
  | 0, i, was, _, h => by omega
  | k + 1, i, was, hi, h => by
    unfold vector_Right.l0
    by_cases hlt : i < l.length
    · rw [if_pos (by omega), if_pos (by omega), if_pos (by omega), if_pos rfl, rd_drop l i hlt, isDot_f, Option.bind_some, rises]
      have ih := right_l0 l hl k (i + 1) (rd_T35 l i).f0 (by omega) (by omega)
      rw [wrap_succ hlt hl, ih]
      cases dotOk (rd_T35 l i) <;> simp
      cases Op.bytesLess was.toList (rd_T35 l i).f0.toList <;> simp
    · rw [if_neg (by omega), List.drop_eq_nil_of_le (by omega)]
      rfl
theorem right_f (l : List S35) (hl : l.length ≤ 9223372036854775807) (k : Nat) (hk : l.length < k) : vector_Right.f k l = some (rightS l) := by
  unfold vector_Right.f rightS
  by_cases h : l.length ≤ 64
  · rw [show decide ((l.length : Int) ≤ 64) = true from by simp; omega]
    have := right_l0 l hl k 0 ⟨#[]⟩ (by omega) (by omega)
    rw [show ((0 : Nat) : Int) = 0 from rfl, List.drop_zero] at this
    rw [this]
    simp [h]
  · rw [show decide ((l.length : Int) ≤ 64) = false from by simp; omega]
    obtain ⟨k, rfl⟩ : ∃ m, k = m + 1 := ⟨k - 1, by omega⟩
    unfold vector_Right.l0
    rw [if_pos (by omega), if_pos (by omega), if_pos (by omega)]
    simp [h]

/-! ### the reference's -/
theorem refName_l0 (s : ByteArray) (hs : s.size ≤ 9223372036854775807) : ∀ (k i : Nat), i ≤ s.size → s.size - i < k →
    pannierref07_IsName.l0 k s (i : Int) = some ((s.data.toList.drop i).all okCh && decide (1 ≤ s.size) && decide (s.size ≤ 24))
  | 0, i, _, h => by omega
  | k + 1, i, hi, h => by
    unfold pannierref07_IsName.l0
    by_cases hlt : i < s.size
    · rw [if_pos (by omega), if_pos (by omega)]
      have ih := refName_l0 s hs k (i + 1) (by omega) (by omega)
      rw [wrap_succ hlt hs, ih]
      have hb : bt s (i : Int) = ((s[i]'hlt).toNat : Int) := by simp [bt, hlt]
      have hd : s.data.toList.drop i = s[i]'hlt :: s.data.toList.drop (i + 1) := by
        rw [List.drop_eq_getElem_cons (by simpa using hlt)]
        congr 1
      rw [hb, hd, List.all_cons]
      have ho := okCh_iff (s[i]'hlt)
      generalize (s[i]'hlt) = c at ho
      cases hc : okCh c
      · have hno : ¬ ((97 ≤ c.toNat ∧ c.toNat ≤ 122) ∨ (48 ≤ c.toNat ∧ c.toNat ≤ 57) ∨ c.toNat = 46) := fun z => by rw [ho.2 z] at hc; cases hc
        simp only [Bool.false_and]
        repeat' split
        all_goals first | rfl | (exfalso; omega)
      · have hyes := ho.1 hc
        simp only [Bool.true_and]
        repeat' split
        all_goals first | rfl | (exfalso; omega)
    · rw [if_neg (by omega), List.drop_eq_nil_of_le (by simp; omega)]
      simp only [List.all_nil, Bool.true_and]
      by_cases h1 : 1 ≤ s.size
      · rw [if_pos (by omega)]
        simp [h1]
        omega
      · rw [if_neg (by omega)]
        simp [h1]
theorem refName_f (s : ByteArray) (hs : s.size ≤ 9223372036854775807) (k : Nat) (hk : s.size < k) : pannierref07_IsName.f k s = some (isNameB s) := by
  unfold pannierref07_IsName.f
  rw [show (0 : Int) = ((0 : Nat) : Int) from rfl, refName_l0 s hs k 0 (by omega) (by omega)]
  simp [isNameB]
theorem refDot_f (n : ByteArray) (hs : n.size ≤ 9223372036854775807) (d : Int) (k : Nat) (hk : n.size < k) : pannierref07_IsDot.f k n d = some (dotOk ⟨n, d⟩) := by
  unfold pannierref07_IsDot.f dotOk
  rw [refName_f n hs k hk, Option.bind_some]
  cases isNameB n <;> simp
  by_cases h : 1 ≤ d <;> simp [h]

/-- All names are of some size that a machine has. -/
def sizes (m : Nat) (l : List S35) : Prop := ∀ x, x ∈ l → x.f0.size ≤ m

theorem refRight_l0 (l : List S35) (hl : l.length ≤ 9223372036854775807) (m : Nat) (hm : m ≤ 9223372036854775807) (hz : sizes m l) : ∀ (k i : Nat), 0 < i → i ≤ l.length → l.length - i + m + 1 < k →
    pannierref07_Right.l0 k l (i : Int) = some (rises (rd_T35 l ((i - 1 : Nat) : Int)).f0 (l.drop i))
  | 0, i, _, _, h => by omega
  | k + 1, i, h0, hi, h => by
    unfold pannierref07_Right.l0
    by_cases hlt : i < l.length
    · have hmem : rd_T35 l (i : Int) ∈ l := by
        have : rd_T35 l (i : Int) = l[i] := by simp [rd_T35, List.getD, hlt]
        rw [this]; exact List.getElem_mem hlt
      have hsz := hz _ hmem
      have hw : wrap64 ((i : Int) - 1) = ((i - 1 : Nat) : Int) := by unfold wrap64; omega
      rw [if_pos (by omega), if_pos (by omega), refDot_f _ (by omega) _ k (by omega), Option.bind_some, hw, rd_drop l i hlt, rises]
      have ih := refRight_l0 l hl m hm hz k (i + 1) (by omega) (by omega) (by omega)
      rw [wrap_succ hlt hl, ih, Nat.add_sub_cancel]
      rw [if_pos (show (i : Int) > 0 by omega), if_pos (show (0 : Int) ≤ ((i - 1 : Nat) : Int) by omega), if_pos (show ((i - 1 : Nat) : Int) < (l.length : Int) by omega)]
      cases dotOk (rd_T35 l i) <;> simp
      cases Op.bytesLess (rd_T35 l ((i - 1 : Nat) : Int)).f0.toList (rd_T35 l i).f0.toList <;> simp
    · rw [if_neg (by omega), List.drop_eq_nil_of_le (by omega)]
      rfl
theorem dotOk_name {x : S35} (h : dotOk x = true) : Op.bytesLess (⟨#[]⟩ : ByteArray).toList x.f0.toList = true := by
  simp only [dotOk, isNameB, Bool.and_eq_true, decide_eq_true_eq] at h
  rw [ByteArray.toList_eq, ByteArray.toList_eq]
  have : 0 < x.f0.data.toList.length := by simp; omega
  cases hh : x.f0.data.toList with
  | nil => rw [hh] at this; cases this
  | cons a b => rfl
theorem refRight_f (l : List S35) (hl : l.length ≤ 9223372036854775807) (m : Nat) (hm : m ≤ 9223372036854775807) (hz : sizes m l) (k : Nat) (hk : l.length + m + 2 < k) : pannierref07_Right.f k l = some (rightS l) := by
  unfold pannierref07_Right.f rightS
  by_cases h : l.length ≤ 64
  · rw [if_neg (by omega)]
    obtain ⟨k, rfl⟩ : ∃ m, k = m + 1 := ⟨k - 1, by omega⟩
    cases l with
    | nil => unfold pannierref07_Right.l0; simp [rises]
    | cons x l =>
      unfold pannierref07_Right.l0
      have hx : rd_T35 (x :: l) 0 = x := rfl
      have ih := refRight_l0 (x :: l) hl m hm hz k 1 (by omega) (by simp) (by simp only [List.length_cons] at hk ⊢; omega)
      simp only [Nat.sub_self] at ih
      rw [show ((0 : Nat) : Int) = 0 from rfl, hx] at ih
      have hsz := hz x (by simp)
      rw [if_pos (by simp only [List.length_cons]; omega), if_pos (by omega), hx, refDot_f _ (by omega) _ k (by omega), Option.bind_some, if_neg (show ¬ ((0 : Int) > 0) by omega)]
      rw [show wrap64 (0 + 1) = ((1 : Nat) : Int) from by unfold wrap64; decide, ih]
      simp only [List.drop_succ_cons, List.drop_zero, rises, h, decide_true, Bool.true_and]
      cases hd : dotOk x
      · rfl
      · have hn := dotOk_name hd
        simp only [hn]
        simp [hd]
  · rw [if_pos (by omega)]
    simp [h]

/-! ### what a vector tells of a name -/
def atS (n : ByteArray) : List S35 → Int
  | [] => 0
  | x :: l => if x.f0.toList = n.toList then x.f1 else atS n l
theorem refAt_l0 (n : ByteArray) (l : List S35) (hl : l.length ≤ 9223372036854775807) : ∀ (k i : Nat), i ≤ l.length → l.length - i < k →
    pannierref07_At.l0 k l n (i : Int) = some (atS n (l.drop i))
  | 0, i, _, h => by omega
  | k + 1, i, hi, h => by
    unfold pannierref07_At.l0
    by_cases hlt : i < l.length
    · rw [if_pos (by omega), if_pos (by omega), rd_drop l i hlt, atS]
      have ih := refAt_l0 n l hl k (i + 1) (by omega) (by omega)
      rw [wrap_succ hlt hl, ih]
      split <;> rfl
    · rw [if_neg (by omega), List.drop_eq_nil_of_le (by omega)]
      rfl
theorem refAt_f (n : ByteArray) (l : List S35) (hl : l.length ≤ 9223372036854775807) (k : Nat) (hk : l.length < k) : pannierref07_At.f k l n = some (atS n l) := by
  unfold pannierref07_At.f
  rw [show (0 : Int) = ((0 : Nat) : Int) from rfl, refAt_l0 n l hl k 0 (by omega) (by omega)]
  simp

/-! ### the search -/
theorem rises_at : ∀ (l : List S35) (was : ByteArray), rises was l = true → ∀ j, j < l.length → Op.bytesLess was.toList (l.getD j z35).f0.toList = true
  | [], _, _, j, hj => by simp at hj
  | x :: l, was, h, j, hj => by
    simp only [rises, Bool.and_eq_true] at h
    cases j with
    | zero => exact h.1.2
    | succ j => exact bl_trans _ _ _ h.1.2 (by have := rises_at l x.f0 h.2 j (by simpa using hj); simpa [List.getD] using this)
theorem rises_drop : ∀ (l : List S35) (was : ByteArray), rises was l = true → ∀ i, i < l.length → rises (l.getD i z35).f0 (l.drop (i + 1)) = true
  | [], _, _, i, hi => by simp at hi
  | x :: l, was, h, i, hi => by
    simp only [rises, Bool.and_eq_true] at h
    cases i with
    | zero => exact h.2
    | succ i => have := rises_drop l x.f0 h.2 i (by simpa using hi); simpa [List.getD] using this
theorem rises_two (l : List S35) (was : ByteArray) (h : rises was l = true) (i j : Nat) (hij : i < j) (hj : j < l.length) : Op.bytesLess (l.getD i z35).f0.toList (l.getD j z35).f0.toList = true := by
  have h1 := rises_drop l was h i (by omega)
  have h2 := rises_at _ _ h1 (j - i - 1) (by simp; omega)
  have : (l.drop (i + 1)).getD (j - i - 1) z35 = l.getD j z35 := by
    simp only [List.getD, List.getElem?_drop]
    rw [show i + 1 + (j - i - 1) = j by omega]
  rwa [this] at h2

theorem cmpS_lt (l : List S35) (i : Nat) (n : ByteArray) : (cmpS l i n < 0 ↔ Op.bytesLess (l.getD i z35).f0.toList n.toList = true) ∧ (cmpS l i n = 0 ↔ (l.getD i z35).f0.toList = n.toList) := by
  unfold cmpS
  rw [ByteArray.toList_eq, ByteArray.toList_eq]
  exact cmp_lt _ _

theorem bsL_spec (l : List S35) (n : ByteArray) (was : ByteArray) (h : rises was l = true) : ∀ fuel i j, i ≤ j → j ≤ l.length → j - i < fuel →
    (∀ q, q < i → cmpS l q n < 0) → (∀ q, j ≤ q → q < l.length → ¬ cmpS l q n < 0) →
    i ≤ bsL l n fuel i j ∧ bsL l n fuel i j ≤ j ∧ (∀ q, q < bsL l n fuel i j → cmpS l q n < 0) ∧ (∀ q, bsL l n fuel i j ≤ q → q < l.length → ¬ cmpS l q n < 0)
  | 0, i, j, _, _, hf, _, _ => by omega
  | fuel + 1, i, j, hij, hj, hf, hA, hB => by
    unfold bsL
    by_cases hlt : i < j
    · rw [if_pos hlt]
      by_cases hc : cmpS l ((i + j) / 2) n < 0
      · rw [if_pos hc]
        have ih := bsL_spec l n was h fuel ((i + j) / 2 + 1) j (by omega) hj (by omega) (fun q hq => ?_) hB
        · exact ⟨by omega, ih.2.1, ih.2.2⟩
        · rcases Nat.lt_or_ge q ((i + j) / 2) with hq' | hq'
          · exact ((cmpS_lt l q n).1).2 (bl_trans _ _ _ (rises_two l was h q _ hq' (by omega)) ((cmpS_lt l _ n).1.1 hc))
          · obtain rfl : q = (i + j) / 2 := by omega
            exact hc
      · rw [if_neg hc]
        have ih := bsL_spec l n was h fuel i ((i + j) / 2) (by omega) (by omega) (by omega) hA (fun q hq hq2 => ?_)
        · exact ⟨ih.1, by omega, ih.2.2⟩
        · rcases Nat.lt_or_ge ((i + j) / 2) q with hq' | hq'
          · exact fun hh => hc (((cmpS_lt l _ n).1).2 (bl_trans _ _ _ (rises_two l was h _ q hq' hq2) ((cmpS_lt l q n).1.1 hh)))
          · obtain rfl : q = (i + j) / 2 := by omega
            exact hc
    · rw [if_neg hlt]
      exact ⟨Nat.le_refl _, hij, hA, fun q hq => hB q (by omega)⟩

theorem atS_none (n : ByteArray) : ∀ l : List S35, (∀ q, q < l.length → (l.getD q z35).f0.toList ≠ n.toList) → atS n l = 0
  | [], _ => rfl
  | x :: l, h => by
    rw [atS, if_neg (by have := h 0 (by simp); simpa [List.getD] using this)]
    exact atS_none n l (fun q hq => by have := h (q + 1) (by simpa using hq); simpa [List.getD] using this)
theorem atS_some (n : ByteArray) : ∀ (l : List S35) (p : Nat), p < l.length → (∀ q, q < p → (l.getD q z35).f0.toList ≠ n.toList) → (l.getD p z35).f0.toList = n.toList → atS n l = (l.getD p z35).f1
  | [], p, hp, _, _ => by simp at hp
  | x :: l, 0, _, _, h => by rw [atS, if_pos (by simpa [List.getD] using h)]; rfl
  | x :: l, p + 1, hp, hq, h => by
    rw [atS, if_neg (by have := hq 0 (by omega); simpa [List.getD] using this)]
    have := atS_some n l p (by simpa using hp) (fun q hq' => by have := hq (q + 1) (by omega); simpa [List.getD] using this) (by simpa [List.getD] using h)
    rw [this]
    simp [List.getD]

theorem find_at (l : List S35) (n : ByteArray) (was : ByteArray) (h : rises was l = true) (hl : l.length ≤ 1000000) : vector_at.f l n = some (atS n l) := by
  have hs := bsL_spec l n was h (l.length + 1) 0 l.length (by omega) (by omega) (by omega) (fun q hq => by omega) (fun q h1 h2 => by omega)
  unfold vector_at.f vector_find.f
  rw [if_pos hl, Option.bind_some]
  have hix : findIx l n = bsL l n (l.length + 1) 0 l.length := rfl
  rw [← hix] at hs
  obtain ⟨_, hp, hA, hB⟩ := hs
  have hne : ∀ q, q < findIx l n → (l.getD q z35).f0.toList ≠ n.toList := fun q hq he => by
    have := hA q hq
    rw [(cmpS_lt l q n).2.2 he] at this
    exact absurd this (by decide)
  by_cases hlt : findIx l n < l.length
  · by_cases hc : cmpS l (findIx l n) n = 0
    · have hh : findHit l n = true := by unfold findHit; rw [if_pos hlt, hc]; rfl
      simp only [hh, if_true]
      rw [if_pos (by omega), if_pos (by omega), atS_some n l (findIx l n) hlt hne ((cmpS_lt l _ n).2.1 hc)]
      simp [rd_T35]
    · have hh : findHit l n = false := by unfold findHit; rw [if_pos hlt]; simpa using hc
      simp only [hh, Bool.false_eq_true, if_false]
      rw [atS_none n l (fun q hq he => ?_)]
      rcases Nat.lt_or_ge q (findIx l n) with h1 | h1
      · exact hne q h1 he
      · have h0 := hB (findIx l n) (Nat.le_refl _) hlt
        rcases Nat.lt_or_ge (findIx l n) q with h2 | h2
        · have h3 := rises_two l was h _ q h2 hq
          rw [he] at h3
          exact h0 ((cmpS_lt l _ n).1.2 h3)
        · obtain rfl : q = findIx l n := by omega
          exact hc ((cmpS_lt l _ n).2.2 he)
  · have hh : findHit l n = false := by unfold findHit; rw [if_neg hlt]
    simp only [hh, Bool.false_eq_true, if_false]
    rw [atS_none n l (fun q hq => hne q (by omega))]

def hasS (l : List S35) (n : ByteArray) (d : Int) : Bool := rightS l && dotOk ⟨n, d⟩ && decide (d ≤ atS n l)
theorem rightS_le {l : List S35} (h : rightS l = true) : l.length ≤ 64 ∧ rises ⟨#[]⟩ l = true := by
  simpa [rightS] using h
theorem has_f (l : List S35) (hl : l.length ≤ 9223372036854775807) (n : ByteArray) (d : Int) (k : Nat) (hk : l.length < k) : vector_Has.f k l n d = some (hasS l n d) := by
  unfold vector_Has.f hasS
  rw [right_f l hl k hk, Option.bind_some, isDot_f, Option.bind_some]
  cases hr : rightS l
  · simp
  · obtain ⟨h1, h2⟩ := rightS_le hr
    rw [find_at l n _ h2 (by omega), Option.bind_some]
    cases dotOk ⟨n, d⟩ <;> simp
end Go.Proofs.Ytnnlpelogabokaa.PV
