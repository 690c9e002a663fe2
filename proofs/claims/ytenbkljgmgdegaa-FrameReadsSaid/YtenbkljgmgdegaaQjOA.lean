/- What the rows of this claim use, out of the texts of this work (OA). No condition beyond those that each statement names. -/
import Derived.Test.YtenbkljgmgdegaaQjPOx7
namespace Go.Proofs.Ytenbkljgmgdegaa.PO
open Go.RowKit Go.Proofs.YtenbkljgmgdegaaW.PrintWords Go.Proofs.YtenbkljgmgdegaaW.PrintLast Go.Proofs.YtenbkljgmgdegaaW.PrintMore Go.Proofs.Ytenbkljgmgdegaa.XW
set_option linter.unusedVariables false
set_option linter.unusedSimpArgs false
theorem bl_cons (x y : UInt8) (a b : List UInt8) : (Op.bytesLess (x :: a) (y :: b) = true) ↔ (x.toNat < y.toNat ∨ (x = y ∧ Op.bytesLess a b = true)) := by
 simp [Op.bytesLess, UInt8.lt_iff_toNat_lt]
theorem bl_nil (a : List UInt8) : Op.bytesLess a [] = false := by cases a <;> rfl
theorem bl_trans : ∀ a b c : List UInt8, Op.bytesLess a b = true → Op.bytesLess b c = true → Op.bytesLess a c = true
 | _, _, [], _, h => by rw [bl_nil] at h; cases h
 | _, [], _ :: _, h, _ => by rw [bl_nil] at h; cases h
 | [], _ :: _, _ :: _, _, _ => rfl
 | x :: a, y :: b, z :: c, h, k => by
   rw [bl_cons] at h k ⊢
   rcases h with h | ⟨rfl, h⟩
   · rcases k with k | ⟨rfl, k⟩
     · exact .inl (by omega)
     · exact .inl h
   · rcases k with k | ⟨rfl, k⟩
     · exact .inl k
     · exact .inr ⟨rfl, bl_trans a b c h k⟩
theorem bl_irr (a : List UInt8) : Op.bytesLess a a = false := bytesLess_irrefl a
theorem cmp_lt : ∀ a b : List UInt8, (Lib.compareBytes a b < 0 ↔ Op.bytesLess a b = true) ∧ (Lib.compareBytes a b = 0 ↔ a = b)
 | [], [] => by simp [Lib.compareBytes, Op.bytesLess]
 | [], _ :: _ => by simp [Lib.compareBytes, Op.bytesLess]
 | _ :: _, [] => by simp [Lib.compareBytes, Op.bytesLess]
 | x :: a, y :: b => by
   have ih := cmp_lt a b
   rw [bl_cons]
   unfold Lib.compareBytes
   by_cases h : x < y
   · rw [if_pos h]
     have h' := UInt8.lt_iff_toNat_lt.mp h
     refine ⟨⟨fun _ => .inl h', fun _ => by decide⟩, ⟨fun h => absurd h (by decide), fun e => ?_⟩⟩
     injection e with e _
     subst e
     omega
   · rw [if_neg h]
     have hn : ¬ x.toNat < y.toNat := fun k => h (UInt8.lt_iff_toNat_lt.mpr k)
     by_cases k : y < x
     · rw [if_pos k]
       have k' := UInt8.lt_iff_toNat_lt.mp k
       refine ⟨⟨fun h => absurd h (by decide), fun e => ?_⟩, ⟨fun h => absurd h (by decide), fun e => ?_⟩⟩
       · rcases e with e | ⟨rfl, _⟩ <;> omega
       · injection e with e _
         subst e
         omega
     · rw [if_neg k]
       have kn : ¬ y.toNat < x.toNat := fun h => k (UInt8.lt_iff_toNat_lt.mpr h)
       obtain rfl : x = y := UInt8.toNat.inj (by omega)
       refine ⟨⟨fun h => .inr ⟨rfl, ih.1.1 h⟩, fun e => ?_⟩, ?_⟩
       · rcases e with e | ⟨_, e⟩
         · exact absurd e hn
         · exact ih.1.2 e
       · rw [ih.2]
         simp
def dotOk (x : S34) : Bool := isNameB x.f0 && decide (1 ≤ x.f1) && decide (x.f1 ≤ 4611686018427387904)
def rises (was : ByteArray) : List S34 → Bool
 | [] => true
 | x :: l => dotOk x && Op.bytesLess was.toList x.f0.toList && rises x.f0 l
def rightS (l : List S34) : Bool := decide (l.length ≤ 64) && rises ⟨#[]⟩ l
theorem isDot_f (n : ByteArray) (d : Int) : vector_isDot.f n d = some (dotOk ⟨n, d⟩) := by
 unfold vector_isDot.f vector_IsName.f dotOk
 simp only [Option.bind_some]
 cases isNameB n <;> simp
 by_cases h : 1 ≤ d <;> simp [h]
theorem rd_drop (l : List S34) (i : Nat) (h : i < l.length) : l.drop i = rd_T34 l i :: l.drop (i + 1) := by
 rw [List.drop_eq_getElem_cons h, rd_T34]
 congr 1
 simp [List.getD, h]
theorem wrap_succ {i : Nat} {n : Nat} (h : i < n) (hn : n ≤ 9223372036854775807) : wrap64 ((i : Int) + 1) = ((i + 1 : Nat) : Int) := by
 unfold wrap64
 omega
theorem right_l0 (l : List S34) (hl : l.length ≤ 9223372036854775807) : ∀ (k i : Nat) (was : ByteArray), i ≤ l.length → l.length - i < k →
 vector_Right.l0 k was true l (l.length : Int) (i : Int) = some (rises was (l.drop i))
 | 0, i, was, _, h => by omega
 | k + 1, i, was, hi, h => by
   unfold vector_Right.l0
   by_cases hlt : i < l.length
   · rw [if_pos (by omega), if_pos (by omega), if_pos (by omega), if_pos rfl, rd_drop l i hlt, isDot_f, Option.bind_some, rises]
     have ih := right_l0 l hl k (i + 1) (rd_T34 l i).f0 (by omega) (by omega)
     rw [wrap_succ hlt hl, ih]
     cases dotOk (rd_T34 l i) <;> simp
     cases Op.bytesLess was.toList (rd_T34 l i).f0.toList <;> simp
   · rw [if_neg (by omega), List.drop_eq_nil_of_le (by omega)]
     rfl
theorem right_f (l : List S34) (hl : l.length ≤ 9223372036854775807) (k : Nat) (hk : l.length < k) : vector_Right.f k l = some (rightS l) := by
 unfold vector_Right.f rightS
 by_cases h : l.length ≤ 64
 · rw [show decide ((l.length : Int) ≤ 64) = true from by simp; omega]
   have := right_l0 l hl k 0 ⟨#[]⟩ (by omega) (by omega)
   rw [show ((0 : Nat) : Int) = 0 from rfl, List.drop_zero] at this
   rw [this]
   simp [h]
 · rw [show decide ((l.length : Int) ≤ 64) = false from by simp; omega]
   obtain ⟨k, rfl⟩ : ∃ m, k = m + 1 := ⟨k - 1, by omega⟩
   unfold vector_Right.l0
   rw [if_pos (by omega), if_pos (by omega), if_pos (by omega)]
   simp [h]
def sizes (m : Nat) (l : List S34) : Prop := ∀ x, x ∈ l → x.f0.size ≤ m
theorem dotOk_name {x : S34} (h : dotOk x = true) : Op.bytesLess (⟨#[]⟩ : ByteArray).toList x.f0.toList = true := by
 simp only [dotOk, isNameB, Bool.and_eq_true, decide_eq_true_eq] at h
 rw [ByteArray.toList_eq, ByteArray.toList_eq]
 have : 0 < x.f0.data.toList.length := by simp; omega
 cases hh : x.f0.data.toList with
 | nil => rw [hh] at this; cases this
 | cons a b => rfl
def atS (n : ByteArray) : List S34 → Int
 | [] => 0
 | x :: l => if x.f0.toList = n.toList then x.f1 else atS n l
theorem refAt_l0 (n : ByteArray) (l : List S34) (hl : l.length ≤ 9223372036854775807) : ∀ (k i : Nat), i ≤ l.length → l.length - i < k →
 pannierref07_At.l0 k l n (i : Int) = some (atS n (l.drop i))
 | 0, i, _, h => by omega
 | k + 1, i, hi, h => by
   unfold pannierref07_At.l0
   by_cases hlt : i < l.length
   · rw [if_pos (by omega), if_pos (by omega), rd_drop l i hlt, atS]
     have ih := refAt_l0 n l hl k (i + 1) (by omega) (by omega)
     rw [wrap_succ hlt hl, ih]
     split <;> rfl
   · rw [if_neg (by omega), List.drop_eq_nil_of_le (by omega)]
     rfl
theorem refAt_f (n : ByteArray) (l : List S34) (hl : l.length ≤ 9223372036854775807) (k : Nat) (hk : l.length < k) : pannierref07_At.f k l n = some (atS n l) := by
 unfold pannierref07_At.f
 rw [show (0 : Int) = ((0 : Nat) : Int) from rfl, refAt_l0 n l hl k 0 (by omega) (by omega)]
 simp
theorem rises_at : ∀ (l : List S34) (was : ByteArray), rises was l = true → ∀ j, j < l.length → Op.bytesLess was.toList (l.getD j z34).f0.toList = true
 | [], _, _, j, hj => by simp at hj
 | x :: l, was, h, j, hj => by
   simp only [rises, Bool.and_eq_true] at h
   cases j with
   | zero => exact h.1.2
   | succ j => exact bl_trans _ _ _ h.1.2 (by have := rises_at l x.f0 h.2 j (by simpa using hj); simpa [List.getD] using this)
theorem rises_drop : ∀ (l : List S34) (was : ByteArray), rises was l = true → ∀ i, i < l.length → rises (l.getD i z34).f0 (l.drop (i + 1)) = true
 | [], _, _, i, hi => by simp at hi
 | x :: l, was, h, i, hi => by
   simp only [rises, Bool.and_eq_true] at h
   cases i with
   | zero => exact h.2
   | succ i => have := rises_drop l x.f0 h.2 i (by simpa using hi); simpa [List.getD] using this
theorem rises_two (l : List S34) (was : ByteArray) (h : rises was l = true) (i j : Nat) (hij : i < j) (hj : j < l.length) : Op.bytesLess (l.getD i z34).f0.toList (l.getD j z34).f0.toList = true := by
 have h1 := rises_drop l was h i (by omega)
 have h2 := rises_at _ _ h1 (j - i - 1) (by simp; omega)
 have : (l.drop (i + 1)).getD (j - i - 1) z34 = l.getD j z34 := by
  simp only [List.getD, List.getElem?_drop]
  rw [show i + 1 + (j - i - 1) = j by omega]
 rwa [this] at h2
theorem cmpS_lt (l : List S34) (i : Nat) (n : ByteArray) : (cmpS l i n < 0 ↔ Op.bytesLess (l.getD i z34).f0.toList n.toList = true) ∧ (cmpS l i n = 0 ↔ (l.getD i z34).f0.toList = n.toList) := by
 unfold cmpS
 rw [ByteArray.toList_eq, ByteArray.toList_eq]
 exact cmp_lt _ _
theorem bsL_spec (l : List S34) (n : ByteArray) (was : ByteArray) (h : rises was l = true) : ∀ fuel i j, i ≤ j → j ≤ l.length → j - i < fuel →
 (∀ q, q < i → cmpS l q n < 0) → (∀ q, j ≤ q → q < l.length → ¬ cmpS l q n < 0) →
 i ≤ bsL l n fuel i j ∧ bsL l n fuel i j ≤ j ∧ (∀ q, q < bsL l n fuel i j → cmpS l q n < 0) ∧ (∀ q, bsL l n fuel i j ≤ q → q < l.length → ¬ cmpS l q n < 0)
 | 0, i, j, _, _, hf, _, _ => by omega
 | fuel + 1, i, j, hij, hj, hf, hA, hB => by
   unfold bsL
   by_cases hlt : i < j
   · rw [if_pos hlt]
     by_cases hc : cmpS l ((i + j) / 2) n < 0
     · rw [if_pos hc]
       have ih := bsL_spec l n was h fuel ((i + j) / 2 + 1) j (by omega) hj (by omega) (fun q hq => ?_) hB
       · exact ⟨by omega, ih.2.1, ih.2.2⟩
       · rcases Nat.lt_or_ge q ((i + j) / 2) with hq' | hq'
         · exact ((cmpS_lt l q n).1).2 (bl_trans _ _ _ (rises_two l was h q _ hq' (by omega)) ((cmpS_lt l _ n).1.1 hc))
         · obtain rfl : q = (i + j) / 2 := by omega
           exact hc
     · rw [if_neg hc]
       have ih := bsL_spec l n was h fuel i ((i + j) / 2) (by omega) (by omega) (by omega) hA (fun q hq hq2 => ?_)
       · exact ⟨ih.1, by omega, ih.2.2⟩
       · rcases Nat.lt_or_ge ((i + j) / 2) q with hq' | hq'
         · exact fun hh => hc (((cmpS_lt l _ n).1).2 (bl_trans _ _ _ (rises_two l was h _ q hq' hq2) ((cmpS_lt l q n).1.1 hh)))
         · obtain rfl : q = (i + j) / 2 := by omega
           exact hc
   · rw [if_neg hlt]
     exact ⟨Nat.le_refl _, hij, hA, fun q hq => hB q (by omega)⟩
theorem atS_none (n : ByteArray) : ∀ l : List S34, (∀ q, q < l.length → (l.getD q z34).f0.toList ≠ n.toList) → atS n l = 0
 | [], _ => rfl
 | x :: l, h => by
   rw [atS, if_neg (by have := h 0 (by simp); simpa [List.getD] using this)]
   exact atS_none n l (fun q hq => by have := h (q + 1) (by simpa using hq); simpa [List.getD] using this)
theorem atS_some (n : ByteArray) : ∀ (l : List S34) (p : Nat), p < l.length → (∀ q, q < p → (l.getD q z34).f0.toList ≠ n.toList) → (l.getD p z34).f0.toList = n.toList → atS n l = (l.getD p z34).f1
 | [], p, hp, _, _ => by simp at hp
 | x :: l, 0, _, _, h => by rw [atS, if_pos (by simpa [List.getD] using h)]; rfl
 | x :: l, p + 1, hp, hq, h => by
   rw [atS, if_neg (by have := hq 0 (by omega); simpa [List.getD] using this)]
   have := atS_some n l p (by simpa using hp) (fun q hq' => by have := hq (q + 1) (by omega); simpa [List.getD] using this) (by simpa [List.getD] using h)
   rw [this]
   simp [List.getD]
theorem find_at (l : List S34) (n : ByteArray) (was : ByteArray) (h : rises was l = true) (hl : l.length ≤ 1000000) : vector_at.f l n = some (atS n l) := by
 have hs := bsL_spec l n was h (l.length + 1) 0 l.length (by omega) (by omega) (by omega) (fun q hq => by omega) (fun q h1 h2 => by omega)
 unfold vector_at.f vector_find.f
 rw [if_pos hl, Option.bind_some]
 have hix : findIx l n = bsL l n (l.length + 1) 0 l.length := rfl
 rw [← hix] at hs
 obtain ⟨_, hp, hA, hB⟩ := hs
 have hne : ∀ q, q < findIx l n → (l.getD q z34).f0.toList ≠ n.toList := fun q hq he => by
  have := hA q hq
  rw [(cmpS_lt l q n).2.2 he] at this
  exact absurd this (by decide)
 by_cases hlt : findIx l n < l.length
 · by_cases hc : cmpS l (findIx l n) n = 0
   · have hh : findHit l n = true := by unfold findHit; rw [if_pos hlt, hc]; rfl
     simp only [hh, if_true]
     rw [if_pos (by omega), if_pos (by omega), atS_some n l (findIx l n) hlt hne ((cmpS_lt l _ n).2.1 hc)]
     simp [rd_T34]
   · have hh : findHit l n = false := by unfold findHit; rw [if_pos hlt]; simpa using hc
     simp only [hh, Bool.false_eq_true, if_false]
     rw [atS_none n l (fun q hq he => ?_)]
     rcases Nat.lt_or_ge q (findIx l n) with h1 | h1
     · exact hne q h1 he
     · have h0 := hB (findIx l n) (Nat.le_refl _) hlt
       rcases Nat.lt_or_ge (findIx l n) q with h2 | h2
       · have h3 := rises_two l was h _ q h2 hq
         rw [he] at h3
         exact h0 ((cmpS_lt l _ n).1.2 h3)
       · obtain rfl : q = findIx l n := by omega
         exact hc ((cmpS_lt l _ n).2.2 he)
 · have hh : findHit l n = false := by unfold findHit; rw [if_neg hlt]
   simp only [hh, Bool.false_eq_true, if_false]
   rw [atS_none n l (fun q hq => hne q (by omega))]
def hasS (l : List S34) (n : ByteArray) (d : Int) : Bool := rightS l && dotOk ⟨n, d⟩ && decide (d ≤ atS n l)
theorem rightS_le {l : List S34} (h : rightS l = true) : l.length ≤ 64 ∧ rises ⟨#[]⟩ l = true := by
 simpa [rightS] using h
theorem has_f (l : List S34) (hl : l.length ≤ 9223372036854775807) (n : ByteArray) (d : Int) (k : Nat) (hk : l.length < k) : vector_Has.f k l n d = some (hasS l n d) := by
 unfold vector_Has.f hasS
 rw [right_f l hl k hk, Option.bind_some, isDot_f, Option.bind_some]
 cases hr : rightS l
 · simp
 · obtain ⟨h1, h2⟩ := rightS_le hr
   rw [find_at l n _ h2 (by omega), Option.bind_some]
   cases dotOk ⟨n, d⟩ <;> simp
def above (was : ByteArray) (l : List S34) : Prop := ∀ x, x ∈ l → Op.bytesLess was.toList x.f0.toList = true
theorem rises_above : ∀ (l : List S34) (was : ByteArray), rises was l = true → above was l
 | [], _, _ => fun x hx => by cases hx
 | y :: l, was, h => fun x hx => by
   simp only [rises, Bool.and_eq_true] at h
   rcases List.mem_cons.1 hx with rfl | hx
   · exact h.1.2
   · exact bl_trans _ _ _ h.1.2 (rises_above l y.f0 h.2 x hx)
theorem rises_tail {x : S34} {l : List S34} {was : ByteArray} (h : rises was (x :: l) = true) : rises x.f0 l = true := by
 simp only [rises, Bool.and_eq_true] at h; exact h.2
theorem rises_pos {l : List S34} {was : ByteArray} : ∀ {x : S34}, rises was l = true → x ∈ l → 1 ≤ x.f1 ∧ x.f1 ≤ 4611686018427387904 := by
 induction l generalizing was with
 | nil => intro x _ hx; cases hx
 | cons y l ih =>
   intro x h hx
   simp only [rises, dotOk, Bool.and_eq_true, decide_eq_true_eq] at h
   rcases List.mem_cons.1 hx with rfl | hx
   · exact ⟨h.1.1.1.2, h.1.1.2⟩
   · exact ih h.2 hx
def asc : List S34 → Prop
 | [] => True
 | x :: l => above x.f0 l ∧ asc l
theorem rises_asc : ∀ (l : List S34) (was : ByteArray), rises was l = true → asc l
 | [], _, _ => trivial
 | x :: l, was, h => ⟨rises_above l x.f0 (rises_tail h), rises_asc l x.f0 (rises_tail h)⟩
def mnAll : List (List S34) → ByteArray → Int → Int
 | [], _, n => n
 | v :: vs, w, n => mnAll vs w (mn n (atS w v))
def gf (vs : List (List S34)) : List S34 → List S34
 | [] => []
 | x :: a => if 0 < mnAll vs x.f0 x.f1 then ⟨x.f0, mnAll vs x.f0 x.f1⟩ :: gf vs a else gf vs a
theorem atS_cons (n : ByteArray) (x : S34) (l : List S34) : atS n (x :: l) = if x.f0.toList = n.toList then x.f1 else atS n l := rfl
theorem bytes_inj {a b : ByteArray} (h : a.toList = b.toList) : a = b := by
 rw [ByteArray.toList_eq, ByteArray.toList_eq] at h
 have : a.data = b.data := Array.ext' h
 cases a; cases b; simpa using this
theorem dot_parts {n : ByteArray} {d : Int} (h : dotOk ⟨n, d⟩ = true) : 1 ≤ d ∧ d ≤ 4611686018427387904 := by
 unfold dotOk at h
 simp at h
 omega
theorem bl_ne {a b : List UInt8} (h : Op.bytesLess a b = true) : a ≠ b := fun e => by rw [e, bl_irr] at h; cases h
theorem atS_of_mem : ∀ (l : List S34) (x : S34), asc l → x ∈ l → atS x.f0 l = x.f1
 | [], x, _, h => by cases h
 | y :: l, x, hs, h => by
   rw [atS_cons]
   rcases List.mem_cons.1 h with rfl | h
   · rw [if_pos rfl]
   · rw [if_neg (bl_ne (hs.1 x h)), atS_of_mem l x hs.2 h]
section
theorem one_of {x : S34} {out : List S34} (hr : rises ⟨#[]⟩ out = true) (hx : x ∈ out) : atS x.f0 out ≠ 0 := by
 rw [atS_of_mem out x (rises_asc _ _ hr) hx]
 have := (rises_pos hr hx).1
 omega
end
end Go.Proofs.Ytenbkljgmgdegaa.PO
