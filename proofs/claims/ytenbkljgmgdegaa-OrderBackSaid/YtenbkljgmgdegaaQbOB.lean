/- What the rows of this claim use, out of the texts of this work (OB). No condition beyond those that each statement names. -/
import Derived.Test.YtenbkljgmgdegaaQbOA
import Derived.Test.YtenbkljgmgdegaaQbO0
import Derived.Test.YtenbkljgmgdegaaQbPOx5
import Derived.Test.YtenbkljgmgdegaaQbPOx6
namespace Go.Proofs.Ytenbkljgmgdegaa.PO
open Go.RowKit Go.Proofs.YtenbkljgmgdegaaW.PrintWords Go.Proofs.YtenbkljgmgdegaaW.PrintLast Go.Proofs.YtenbkljgmgdegaaW.PrintMore Go.Proofs.Ytenbkljgmgdegaa.XW
set_option linter.unusedVariables false
set_option linter.unusedSimpArgs false
def WfOp (x : S36) : Prop := x.f0.f0.size ≤ maxLen ∧ (∀ a, a ∈ x.f1 → a.f0.size ≤ maxLen) ∧ x.f2.size ≤ maxLen ∧ (Lit.int .i64 x.f3).wf = true ∧ x.f4.size ≤ maxLen ∧ (Lit.int .i64 x.f5).wf = true ∧ (∀ a, a ∈ x.f6 → a.f0.size ≤ maxLen)
theorem at_l0 (n : ByteArray) (l : List S34) (hl : l.length ≤ 9223372036854775807) : ∀ (k i : Nat), i ≤ l.length → l.length - i < k →
    vector_At.l0 k n l (l.length : Int) (i : Int) = some (atS n (l.drop i))
  | 0, i, _, h => by omega
  | k + 1, i, hi, h => by
    unfold vector_At.l0
    by_cases hlt : i < l.length
    · rw [if_pos (by omega), if_pos (by omega), if_pos (by omega), rd_drop l i hlt, atS]
      have ih := at_l0 n l hl k (i + 1) (by omega) (by omega)
      rw [wrap_succ hlt hl, ih]
      split <;> rfl
    · rw [if_neg (by omega), List.drop_eq_nil_of_le (by omega)]
      rfl
theorem at_f (n : ByteArray) (l : List S34) (hl : l.length ≤ 9223372036854775807) (k : Nat) (hk : l.length < k) : vector_At.f k l n = some (atS n l) := by
  unfold vector_At.f
  rw [show (0 : Int) = ((0 : Nat) : Int) from rfl, at_l0 n l hl k 0 (by omega) (by omega)]
  simp
theorem text_f (s : ByteArray) : order_isText.f s = some (decide (1 ≤ s.size) && decide (s.size ≤ 32)) := by
  unfold order_isText.f
  by_cases h : s.toList = []
  · rw [if_pos h]
    have : s.size = 0 := by rw [ByteArray.toList_eq] at h; have := congrArg List.length h; simpa using this
    simp [this]
  · rw [if_neg h]
    have : 1 ≤ s.size := by
      rcases Nat.eq_zero_or_pos s.size with h0 | h0
      · exact absurd (by rw [ByteArray.toList_eq]; exact List.eq_nil_of_length_eq_zero (by simpa using h0)) h
      · exact h0
    simp [this]; omega
def lessD (a b : S34) : Bool := Op.bytesLess a.f0.toList b.f0.toList || (decide (a.f0.toList = b.f0.toList) && decide (a.f1 < b.f1))
theorem stands_f (k : Nat) (hk : 3 ≤ k) (a b : S34) : ∃ t, order_stands.f k a.f0 a.f1 b.f0 b.f1 = some t ∧ (t ≥ 0 ↔ lessD a b = false) := by
  obtain ⟨k, rfl⟩ : ∃ m, k = m + 3 := ⟨k - 3, by omega⟩
  have hc := cmp_lt a.f0.toList b.f0.toList
  unfold order_stands.f strings_Compare.f cmp_Compare_int64.f cmp_isNaN_int64.f cmp_Or_int.f
  rw [ByteArray.toList_eq, ByteArray.toList_eq] at hc
  simp only [Option.bind_some, bne_self_eq_false, Bool.false_eq_true, if_false]
  obtain ⟨c, hcc⟩ : ∃ c, Lib.compareBytes a.f0.data.toList b.f0.data.toList = c := ⟨_, rfl⟩
  rw [hcc] at hc ⊢
  have e0 : ∀ x y : Int, rd ([x, y] : List Int) 0 = x := fun x y => rfl
  have e1 : ∀ x y : Int, rd ([x, y] : List Int) 1 = y := fun x y => rfl
  have w0 : wrap64 ((0 : Int) + 1) = 1 := by unfold wrap64; omega
  have w1 : wrap64 ((1 : Int) + 1) = 2 := by unfold wrap64; omega
  have key : ∀ d : Int, cmp_Or_int.l0 (k + 3) 0 [c, d] (([c, d] : List Int).length : Int) 0 = some (if c = 0 then d else c) := by
    intro d
    simp only [cmp_Or_int.l0, List.length_cons, List.length_nil]
    rw [if_pos (by omega), if_pos (by omega), if_pos (by omega), e0]
    by_cases h0 : c = 0
    · rw [if_pos h0, w0, if_pos (by omega), if_pos (by omega), if_pos (by omega), e1]
      by_cases h1 : d = 0
      · rw [if_pos h1, w1, if_neg (by omega), if_pos h0, h1]
      · rw [if_neg h1, if_pos h0]
    · rw [if_neg h0, if_neg h0]
  unfold lessD
  rw [ByteArray.toList_eq, ByteArray.toList_eq]
  by_cases h0 : c = 0
  · have he := hc.2.1 h0
    have hl : Op.bytesLess a.f0.data.toList b.f0.data.toList = false := by rw [he]; exact bl_irr _
    by_cases h1 : a.f1 < b.f1
    · rw [if_pos h1]; simp only [Option.bind_some, key]; exact ⟨_, rfl, by simp [h0, he, h1, bl_irr]⟩
    · rw [if_neg h1]
      by_cases h2 : a.f1 > b.f1
      · rw [if_pos h2]; simp only [Option.bind_some, key]; exact ⟨_, rfl, by simp [h0, he, h1, bl_irr]⟩
      · rw [if_neg h2]; simp only [Option.bind_some, key]; exact ⟨_, rfl, by simp [h0, he, h1, bl_irr]⟩
  · have he : ¬ a.f0.data.toList = b.f0.data.toList := fun h => h0 (hc.2.2 h)
    have h3 : c ≥ 0 ↔ Op.bytesLess a.f0.data.toList b.f0.data.toList = false := by
      cases hb : Op.bytesLess a.f0.data.toList b.f0.data.toList
      · have := mt hc.1.1 (by simp [hb]); simp; omega
      · have := hc.1.2 hb; simp; omega
    have fin : ∀ d : Int, (if c = 0 then d else c) ≥ 0 ↔ (Op.bytesLess a.f0.data.toList b.f0.data.toList || (decide (a.f0.data.toList = b.f0.data.toList) && decide (a.f1 < b.f1))) = false := fun d => by
      rw [if_neg h0]; simp [he]; simpa using h3
    by_cases h1 : a.f1 < b.f1
    · rw [if_pos h1]; simp only [Option.bind_some, key]; exact ⟨_, rfl, fin _⟩
    · rw [if_neg h1]
      by_cases h2 : a.f1 > b.f1
      · rw [if_pos h2]; simp only [Option.bind_some, key]; exact ⟨_, rfl, fin _⟩
      · rw [if_neg h2]; simp only [Option.bind_some, key]; exact ⟨_, rfl, fin _⟩
def seenS (deps : List S34) : Option S34 → List S34 → Bool
  | _, [] => true
  | p, x :: l => hasS deps x.f0 x.f1 && (match p with | none => true | some q => lessD q x) && seenS deps (some x) l
def kindS (o : S36) : Bool :=
  if o.f3 = 1 then decide (o.f6.length = 0) && decide (1 ≤ o.f5) && decide (o.f5 ≤ 9999)
  else if o.f3 = 2 then decide (1 ≤ o.f5) && decide (o.f5 ≤ 9999) else decide (o.f3 = 3) && decide (o.f5 = 0)
def rightO (o : S36) : Bool :=
  dotOk o.f0 && rightS o.f1 && decide (atS o.f0.f0 o.f1 = o.f0.f1 - 1) && (decide (1 ≤ o.f2.size) && decide (o.f2.size ≤ 32)) && (decide (1 ≤ o.f4.size) && decide (o.f4.size ≤ 32)) && decide (o.f6.length ≤ 128) && seenS o.f1 none o.f6 && kindS o
theorem rightS_one (d : S34) : rightS [d] = dotOk d := by
  unfold rightS
  simp only [rises, List.length_cons, List.length_nil, Bool.and_true]
  cases h : dotOk d
  · simp
  · have := dotOk_name h; rw [this]; simp
theorem kind_bool (o : S36) : (if o.f3 = 1 then (if (o.f6.length : Int) = 0 then (if o.f5 ≥ 1 then (some (decide (o.f5 ≤ 9999))) else (some false)) else (some false)) else (if o.f3 = 2 then (if o.f5 ≥ 1 then (some (decide (o.f5 ≤ 9999))) else (some false)) else (if o.f3 = 3 then (some (o.f5 == 0)) else (some false)))) = some (kindS o) := by
  unfold kindS
  by_cases h1 : o.f3 = 1
  · rw [if_pos h1, if_pos h1]
    by_cases h2 : o.f6.length = 0
    · rw [if_pos (by omega)]
      by_cases h3 : o.f5 ≥ 1
      · rw [if_pos h3]; simp [h2, h3]
      · rw [if_neg h3]; simp [h3]
    · rw [if_neg (by omega)]; simp [h2]
  · rw [if_neg h1, if_neg h1]
    by_cases h2 : o.f3 = 2
    · rw [if_pos h2, if_pos h2]
      by_cases h3 : o.f5 ≥ 1
      · rw [if_pos h3]; simp [h3]
      · rw [if_neg h3]; simp [h3]
    · rw [if_neg h2, if_neg h2]
      by_cases h3 : o.f3 = 3
      · rw [if_pos h3]; simp [h3]; rfl
      · rw [if_neg h3]; simp [h3]
theorem orderRight_l0 (o : S36) (h1 : o.f1.length ≤ 9223372036854775807) (h6 : o.f6.length ≤ 9223372036854775807) : ∀ (k i : Nat), i ≤ o.f6.length → o.f6.length - i + o.f1.length + 3 < k →
    order_Right.l0 k o.f6 (o.f6.length : Int) (i : Int) o.f0.f0 o.f0.f1 o.f1 o.f2 o.f3 o.f4 o.f5 o.f6 = some (seenS o.f1 (if i = 0 then none else some (rd_T34 o.f6 ((i - 1 : Nat) : Int))) (o.f6.drop i) && kindS o)
  | 0, i, _, h => by omega
  | k + 1, i, hi, h => by
    unfold order_Right.l0
    by_cases hlt : i < o.f6.length
    · rw [if_pos (by omega), if_pos (by omega), if_pos (by omega), has_f _ h1 _ _ k (by omega), Option.bind_some, rd_drop _ i hlt]
      unfold seenS
      have ih := orderRight_l0 o h1 h6 k (i + 1) (by omega) (by omega)
      rw [if_neg (by omega), Nat.add_sub_cancel] at ih
      cases hh : hasS o.f1 (rd_T34 o.f6 (i : Int)).f0 (rd_T34 o.f6 (i : Int)).f1
      · simp
      · rw [if_pos rfl]
        by_cases h0 : i = 0
        · subst h0
          rw [if_neg (by omega), wrap_succ hlt h6, ih]
          simp
        · have hw : wrap64 ((i : Int) - 1) = ((i - 1 : Nat) : Int) := by unfold wrap64; omega
          obtain ⟨t, ht, ht2⟩ := stands_f k (by omega) (rd_T34 o.f6 ((i - 1 : Nat) : Int)) (rd_T34 o.f6 (i : Int))
          rw [if_pos (by omega), hw, if_pos (by omega), if_pos (by omega), ht, Option.bind_some, if_neg h0]
          cases hl : lessD (rd_T34 o.f6 ((i - 1 : Nat) : Int)) (rd_T34 o.f6 (i : Int))
          · rw [if_pos (ht2.2 hl)]; simp [hl]
          · rw [if_neg (fun h => by have := ht2.1 h; rw [hl] at this; cases this), wrap_succ hlt h6, ih]; simp [hl]
    · rw [if_neg (by omega), List.drop_eq_nil_of_le (by omega), kind_bool]
      simp [seenS]
theorem orderRight_j0 (k : Nat) (o : S36) (h1 : o.f1.length ≤ 9223372036854775807) (h6 : o.f6.length ≤ 9223372036854775807) (hk : o.f6.length + o.f1.length + 4 < k) (b : Bool) :
    order_Right.j0 k b o.f0.f0 o.f0.f1 o.f1 o.f2 o.f3 o.f4 o.f5 o.f6 = some (!b && (seenS o.f1 none o.f6 && kindS o)) := by
  obtain ⟨k, rfl⟩ : ∃ m, k = m + 1 := ⟨k - 1, by omega⟩
  unfold order_Right.j0
  have := orderRight_l0 o h1 h6 k 0 (by omega) (by omega)
  rw [show ((0 : Nat) : Int) = 0 from rfl] at this
  cases b
  · show (if false = true then some false else _) = _
    rw [if_neg (by simp), this]; simp
  · show (if true = true then some false else _) = _
    rw [if_pos rfl]; simp
theorem orderRight_f (o : S36) (h1 : o.f1.length ≤ 9223372036854775807) (h6 : o.f6.length ≤ 9223372036854775807) (k : Nat) (hk : o.f6.length + o.f1.length + 4 < k) :
    order_Right.f k o.f0.f0 o.f0.f1 o.f1 o.f2 o.f3 o.f4 o.f5 o.f6 = some (rightO o) := by
  unfold order_Right.f rightO
  rw [right_f _ (by simp) k (by simp; omega), right_f _ h1 k (by omega), at_f _ _ h1 k (by omega), text_f, text_f]
  simp only [Option.bind_some]
  rw [show rightS [⟨o.f0.f0, o.f0.f1⟩] = dotOk o.f0 from rightS_one _]
  cases hd : dotOk o.f0
  · rw [if_neg (by simp), orderRight_j0 k o h1 h6 hk]; simp
  rw [if_pos rfl]
  cases hr : rightS o.f1
  · rw [if_neg (by simp), orderRight_j0 k o h1 h6 hk]; simp
  rw [if_pos rfl]
  have hw : wrap64 (o.f0.f1 - 1) = o.f0.f1 - 1 := by have := dot_parts (n := o.f0.f0) (d := o.f0.f1) hd; unfold wrap64; omega
  rw [hw]
  by_cases ha : atS o.f0.f0 o.f1 = o.f0.f1 - 1
  · rw [if_pos ha]
    cases h2 : (decide (1 ≤ o.f2.size) && decide (o.f2.size ≤ 32))
    · rw [if_neg (by simp), orderRight_j0 k o h1 h6 hk]; simp
    rw [if_pos rfl]
    cases h4 : (decide (1 ≤ o.f4.size) && decide (o.f4.size ≤ 32))
    · rw [if_neg (by simp), orderRight_j0 k o h1 h6 hk]; simp
    rw [if_pos rfl, orderRight_j0 k o h1 h6 hk]
    have : (!decide ((o.f6.length : Int) > 128)) = decide (o.f6.length ≤ 128) := by
      rw [Bool.eq_iff_iff]; simp; omega
    rw [this]
    simp [ha, Bool.and_assoc]
  · rw [if_neg ha, orderRight_j0 k o h1 h6 hk]; simp [ha]
theorem eqDots_l0 (a b : List S34) (hl : a.length = b.length) (ha : a.length ≤ 9223372036854775807) : ∀ (k i : Nat), i ≤ a.length → a.length - i < k →
    api_Dot_106.l0 k a b (a.length : Int) (i : Int) = some (decide (a.drop i = b.drop i))
  | 0, i, _, h => by omega
  | k + 1, i, hi, h => by
    unfold api_Dot_106.l0
    by_cases hlt : i < a.length
    · rw [if_pos (by omega), if_pos (by omega), if_pos (by omega), if_pos (by omega), rd_drop a i hlt, rd_drop b i (by omega)]
      have ih := eqDots_l0 a b hl ha k (i + 1) (by omega) (by omega)
      rw [wrap_succ hlt ha, ih]
      obtain ⟨x0, x1⟩ := rd_T34 a i
      obtain ⟨y0, y1⟩ := rd_T34 b i
      by_cases e0 : x0 = y0
      · by_cases e1 : x1 = y1
        · subst e0; subst e1; simp
        · rw [if_pos (by simp [e1])]; simp [e1]
      · have : ¬ x0.toList = y0.toList := fun h => e0 (bytes_inj h)
        rw [if_pos (by simp [this])]; simp [e0]
    · rw [if_neg (by omega), List.drop_eq_nil_of_le (by omega), List.drop_eq_nil_of_le (by omega)]
      simp
theorem eqDots_f (a b : List S34) (ha : a.length ≤ 9223372036854775807) (k : Nat) (hk : a.length < k) : api_Dot_106.f k a b = some (decide (a = b)) := by
  unfold api_Dot_106.f
  by_cases hl : a.length = b.length
  · have := eqDots_l0 a b hl ha k 0 (by omega) (by omega)
    rw [if_pos (by omega), show (0 : Int) = ((0 : Nat) : Int) from rfl, this]; simp
  · rw [if_neg (by omega)]
    have : ¬ a = b := fun h => hl (by rw [h])
    simp [this]
theorem equalO_f (a b : S36) (h1 : a.f1.length ≤ 9223372036854775807) (h6 : a.f6.length ≤ 9223372036854775807) (k : Nat) (hk1 : a.f1.length < k) (hk6 : a.f6.length < k) :
    order_equal.f k a.f0.f0 a.f0.f1 a.f1 a.f2 a.f3 a.f4 a.f5 a.f6 b.f0.f0 b.f0.f1 b.f1 b.f2 b.f3 b.f4 b.f5 b.f6 = some (decide (a = b)) := by
  unfold order_equal.f
  rw [eqDots_f _ _ h1 k hk1, eqDots_f _ _ h6 k hk6]
  obtain ⟨⟨a00, a01⟩, a1, a2, a3, a4, a5, a6⟩ := a
  obtain ⟨⟨b00, b01⟩, b1, b2, b3, b4, b5, b6⟩ := b
  have inj : ∀ x y : ByteArray, (x.toList = y.toList) ↔ x = y := fun x y => ⟨bytes_inj, fun h => by rw [h]⟩
  have injB : ∀ x y : ByteArray, (x.toList == y.toList) = decide (x = y) := fun x y => by rw [Bool.eq_iff_iff]; simp [inj]
  simp only [inj, injB, Option.bind_some, S36.mk.injEq, S34.mk.injEq]
  by_cases c0 : a00 = b00 <;> by_cases c1 : a01 = b01 <;> by_cases c2 : a2 = b2 <;> by_cases c3 : a3 = b3 <;> by_cases c4 : a4 = b4 <;> by_cases c5 : a5 = b5 <;> by_cases c6 : a1 = b1 <;> by_cases c7 : a6 = b6 <;> simp [c0, c1, c2, c3, c4, c5, c6, c7]
theorem rightO_parts {o : S36} (h : rightO o = true) : dotOk o.f0 = true ∧ rightS o.f1 = true ∧ atS o.f0.f0 o.f1 = o.f0.f1 - 1 ∧ o.f1.length ≤ 64 ∧ o.f6.length ≤ 128 := by
  unfold rightO at h
  simp only [Bool.and_eq_true, decide_eq_true_eq] at h
  obtain ⟨⟨⟨⟨⟨⟨⟨h1, h2⟩, h3⟩, h4⟩, h5⟩, h6⟩, h7⟩, h8⟩ := h
  exact ⟨h1, h2, h3, (rightS_le h2).1, h6⟩
end Go.Proofs.Ytenbkljgmgdegaa.PO
