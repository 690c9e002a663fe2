/- What the rows of this claim use, out of the texts of this work (OA, O0, POx4, POx5, POx1, POx6, OB). No condition beyond those that each statement names. -/
import Derived.Test.YtenbkljgmgdegaaQgX
import Derived.Test.YtenbkljgmgdegaaQgPOx7
import Derived.Test.YtenbkljgmgdegaaQgPOx0
import Derived.Test.YtenbkljgmgdegaaQgPOx2
section
namespace Go.Proofs.Ytenbkljgmgdegaa.PO
open Go.Proofs.Ytenbkljgmgdegaa
open Go.RowKit Go.Proofs.YtenbkljgmgdegaaW.PrintWords Go.Proofs.YtenbkljgmgdegaaW.PrintLast Go.Proofs.YtenbkljgmgdegaaW.PrintMore Go.Proofs.Ytenbkljgmgdegaa.XW
set_option linter.unusedVariables false
set_option linter.unusedSimpArgs false
theorem bl_cons (x y : UInt8) (a b : List UInt8) : (Op.bytesLess (x :: a) (y :: b) = true) ↔ (x.toNat < y.toNat ∨ (x = y ∧ Op.bytesLess a b = true)) := by
 simp [Op.bytesLess, UInt8.lt_iff_toNat_lt]
theorem bl_nil (a : List UInt8) : Op.bytesLess a [] = false := by cases a <;> rfl
theorem bl_trans : ∀ a b c : List UInt8, Op.bytesLess a b = true → Op.bytesLess b c = true → Op.bytesLess a c = true
 | _, _, [], _, h => by rw [bl_nil] at h; cases h
 | _, [], _ :: _, h, _ => by rw [bl_nil] at h; cases h
 | [], _ :: _, _ :: _, _, _ => rfl
 | x :: a, y :: b, z :: c, h, k => by
   rw [bl_cons] at h k ⊢
   rcases h with h | ⟨rfl, h⟩
   · rcases k with k | ⟨rfl, k⟩
     · exact .inl (by omega)
     · exact .inl h
   · rcases k with k | ⟨rfl, k⟩
     · exact .inl k
     · exact .inr ⟨rfl, bl_trans a b c h k⟩
theorem bl_irr (a : List UInt8) : Op.bytesLess a a = false := bytesLess_irrefl a
theorem cmp_lt : ∀ a b : List UInt8, (Lib.compareBytes a b < 0 ↔ Op.bytesLess a b = true) ∧ (Lib.compareBytes a b = 0 ↔ a = b)
 | [], [] => by simp [Lib.compareBytes, Op.bytesLess]
 | [], _ :: _ => by simp [Lib.compareBytes, Op.bytesLess]
 | _ :: _, [] => by simp [Lib.compareBytes, Op.bytesLess]
 | x :: a, y :: b => by
   have ih := cmp_lt a b
   rw [bl_cons]
   unfold Lib.compareBytes
   by_cases h : x < y
   · rw [if_pos h]
     have h' := UInt8.lt_iff_toNat_lt.mp h
     refine ⟨⟨fun _ => .inl h', fun _ => by decide⟩, ⟨fun h => absurd h (by decide), fun e => ?_⟩⟩
     injection e with e _
     subst e
     omega
   · rw [if_neg h]
     have hn : ¬ x.toNat < y.toNat := fun k => h (UInt8.lt_iff_toNat_lt.mpr k)
     by_cases k : y < x
     · rw [if_pos k]
       have k' := UInt8.lt_iff_toNat_lt.mp k
       refine ⟨⟨fun h => absurd h (by decide), fun e => ?_⟩, ⟨fun h => absurd h (by decide), fun e => ?_⟩⟩
       · rcases e with e | ⟨rfl, _⟩ <;> omega
       · injection e with e _
         subst e
         omega
     · rw [if_neg k]
       have kn : ¬ y.toNat < x.toNat := fun h => k (UInt8.lt_iff_toNat_lt.mpr h)
       obtain rfl : x = y := UInt8.toNat.inj (by omega)
       refine ⟨⟨fun h => .inr ⟨rfl, ih.1.1 h⟩, fun e => ?_⟩, ?_⟩
       · rcases e with e | ⟨_, e⟩
         · exact absurd e hn
         · exact ih.1.2 e
       · rw [ih.2]
         simp
def dotOk (x : S34) : Bool := isNameB x.f0 && decide (1 ≤ x.f1) && decide (x.f1 ≤ 4611686018427387904)
def rises (was : ByteArray) : List S34 → Bool
 | [] => true
 | x :: l => dotOk x && Op.bytesLess was.toList x.f0.toList && rises x.f0 l
def rightS (l : List S34) : Bool := decide (l.length ≤ 64) && rises ⟨#[]⟩ l
theorem isDot_f (n : ByteArray) (d : Int) : vector_isDot.f n d = some (dotOk ⟨n, d⟩) := by
 unfold vector_isDot.f vector_IsName.f dotOk
 simp only [Option.bind_some]
 cases isNameB n <;> simp
 by_cases h : 1 ≤ d <;> simp [h]
theorem rd_drop (l : List S34) (i : Nat) (h : i < l.length) : l.drop i = rd_T34 l i :: l.drop (i + 1) := by
 rw [List.drop_eq_getElem_cons h, rd_T34]
 congr 1
 simp [List.getD, h]
theorem wrap_succ {i : Nat} {n : Nat} (h : i < n) (hn : n ≤ 9223372036854775807) : wrap64 ((i : Int) + 1) = ((i + 1 : Nat) : Int) := by
 unfold wrap64
 omega
theorem right_l0 (l : List S34) (hl : l.length ≤ 9223372036854775807) : ∀ (k i : Nat) (was : ByteArray), i ≤ l.length → l.length - i < k →
 vector_Right.l0 k was true l (l.length : Int) (i : Int) = some (rises was (l.drop i))
 | 0, i, was, _, h => by omega
 | k + 1, i, was, hi, h => by
   unfold vector_Right.l0
   by_cases hlt : i < l.length
   · rw [if_pos (by omega), if_pos (by omega), if_pos (by omega), if_pos rfl, rd_drop l i hlt, isDot_f, Option.bind_some, rises]
     have ih := right_l0 l hl k (i + 1) (rd_T34 l i).f0 (by omega) (by omega)
     rw [wrap_succ hlt hl, ih]
     cases dotOk (rd_T34 l i) <;> simp
     cases Op.bytesLess was.toList (rd_T34 l i).f0.toList <;> simp
   · rw [if_neg (by omega), List.drop_eq_nil_of_le (by omega)]
     rfl
theorem right_f (l : List S34) (hl : l.length ≤ 9223372036854775807) (k : Nat) (hk : l.length < k) : vector_Right.f k l = some (rightS l) := by
 unfold vector_Right.f rightS
 by_cases h : l.length ≤ 64
 · rw [show decide ((l.length : Int) ≤ 64) = true from by simp; omega]
   have := right_l0 l hl k 0 ⟨#[]⟩ (by omega) (by omega)
   rw [show ((0 : Nat) : Int) = 0 from rfl, List.drop_zero] at this
   rw [this]
   simp [h]
 · rw [show decide ((l.length : Int) ≤ 64) = false from by simp; omega]
   obtain ⟨k, rfl⟩ : ∃ m, k = m + 1 := ⟨k - 1, by omega⟩
   unfold vector_Right.l0
   rw [if_pos (by omega), if_pos (by omega), if_pos (by omega)]
   simp [h]
def sizes (m : Nat) (l : List S34) : Prop := ∀ x, x ∈ l → x.f0.size ≤ m
theorem dotOk_name {x : S34} (h : dotOk x = true) : Op.bytesLess (⟨#[]⟩ : ByteArray).toList x.f0.toList = true := by
 simp only [dotOk, isNameB, Bool.and_eq_true, decide_eq_true_eq] at h
 rw [ByteArray.toList_eq, ByteArray.toList_eq]
 have : 0 < x.f0.data.toList.length := by simp; omega
 cases hh : x.f0.data.toList with
 | nil => rw [hh] at this; cases this
 | cons a b => rfl
def atS (n : ByteArray) : List S34 → Int
 | [] => 0
 | x :: l => if x.f0.toList = n.toList then x.f1 else atS n l
theorem refAt_l0 (n : ByteArray) (l : List S34) (hl : l.length ≤ 9223372036854775807) : ∀ (k i : Nat), i ≤ l.length → l.length - i < k →
 pannierref07_At.l0 k l n (i : Int) = some (atS n (l.drop i))
 | 0, i, _, h => by omega
 | k + 1, i, hi, h => by
   unfold pannierref07_At.l0
   by_cases hlt : i < l.length
   · rw [if_pos (by omega), if_pos (by omega), rd_drop l i hlt, atS]
     have ih := refAt_l0 n l hl k (i + 1) (by omega) (by omega)
     rw [wrap_succ hlt hl, ih]
     split <;> rfl
   · rw [if_neg (by omega), List.drop_eq_nil_of_le (by omega)]
     rfl
theorem refAt_f (n : ByteArray) (l : List S34) (hl : l.length ≤ 9223372036854775807) (k : Nat) (hk : l.length < k) : pannierref07_At.f k l n = some (atS n l) := by
 unfold pannierref07_At.f
 rw [show (0 : Int) = ((0 : Nat) : Int) from rfl, refAt_l0 n l hl k 0 (by omega) (by omega)]
 simp
theorem rises_at : ∀ (l : List S34) (was : ByteArray), rises was l = true → ∀ j, j < l.length → Op.bytesLess was.toList (l.getD j z34).f0.toList = true
 | [], _, _, j, hj => by simp at hj
 | x :: l, was, h, j, hj => by
   simp only [rises, Bool.and_eq_true] at h
   cases j with
   | zero => exact h.1.2
   | succ j => exact bl_trans _ _ _ h.1.2 (by have := rises_at l x.f0 h.2 j (by simpa using hj); simpa [List.getD] using this)
theorem rises_drop : ∀ (l : List S34) (was : ByteArray), rises was l = true → ∀ i, i < l.length → rises (l.getD i z34).f0 (l.drop (i + 1)) = true
 | [], _, _, i, hi => by simp at hi
 | x :: l, was, h, i, hi => by
   simp only [rises, Bool.and_eq_true] at h
   cases i with
   | zero => exact h.2
   | succ i => have := rises_drop l x.f0 h.2 i (by simpa using hi); simpa [List.getD] using this
theorem rises_two (l : List S34) (was : ByteArray) (h : rises was l = true) (i j : Nat) (hij : i < j) (hj : j < l.length) : Op.bytesLess (l.getD i z34).f0.toList (l.getD j z34).f0.toList = true := by
 have h1 := rises_drop l was h i (by omega)
 have h2 := rises_at _ _ h1 (j - i - 1) (by simp; omega)
 have : (l.drop (i + 1)).getD (j - i - 1) z34 = l.getD j z34 := by
  simp only [List.getD, List.getElem?_drop]
  rw [show i + 1 + (j - i - 1) = j by omega]
 rwa [this] at h2
theorem cmpS_lt (l : List S34) (i : Nat) (n : ByteArray) : (cmpS l i n < 0 ↔ Op.bytesLess (l.getD i z34).f0.toList n.toList = true) ∧ (cmpS l i n = 0 ↔ (l.getD i z34).f0.toList = n.toList) := by
 unfold cmpS
 rw [ByteArray.toList_eq, ByteArray.toList_eq]
 exact cmp_lt _ _
theorem bsL_spec (l : List S34) (n : ByteArray) (was : ByteArray) (h : rises was l = true) : ∀ fuel i j, i ≤ j → j ≤ l.length → j - i < fuel →
 (∀ q, q < i → cmpS l q n < 0) → (∀ q, j ≤ q → q < l.length → ¬ cmpS l q n < 0) →
 i ≤ bsL l n fuel i j ∧ bsL l n fuel i j ≤ j ∧ (∀ q, q < bsL l n fuel i j → cmpS l q n < 0) ∧ (∀ q, bsL l n fuel i j ≤ q → q < l.length → ¬ cmpS l q n < 0)
 | 0, i, j, _, _, hf, _, _ => by omega
 | fuel + 1, i, j, hij, hj, hf, hA, hB => by
   unfold bsL
   by_cases hlt : i < j
   · rw [if_pos hlt]
     by_cases hc : cmpS l ((i + j) / 2) n < 0
     · rw [if_pos hc]
       have ih := bsL_spec l n was h fuel ((i + j) / 2 + 1) j (by omega) hj (by omega) (fun q hq => ?_) hB
       · exact ⟨by omega, ih.2.1, ih.2.2⟩
       · rcases Nat.lt_or_ge q ((i + j) / 2) with hq' | hq'
         · exact ((cmpS_lt l q n).1).2 (bl_trans _ _ _ (rises_two l was h q _ hq' (by omega)) ((cmpS_lt l _ n).1.1 hc))
         · obtain rfl : q = (i + j) / 2 := by omega
           exact hc
     · rw [if_neg hc]
       have ih := bsL_spec l n was h fuel i ((i + j) / 2) (by omega) (by omega) (by omega) hA (fun q hq hq2 => ?_)
       · exact ⟨ih.1, by omega, ih.2.2⟩
       · rcases Nat.lt_or_ge ((i + j) / 2) q with hq' | hq'
         · exact fun hh => hc (((cmpS_lt l _ n).1).2 (bl_trans _ _ _ (rises_two l was h _ q hq' hq2) ((cmpS_lt l q n).1.1 hh)))
         · obtain rfl : q = (i + j) / 2 := by omega
           exact hc
   · rw [if_neg hlt]
     exact ⟨Nat.le_refl _, hij, hA, fun q hq => hB q (by omega)⟩
theorem atS_none (n : ByteArray) : ∀ l : List S34, (∀ q, q < l.length → (l.getD q z34).f0.toList ≠ n.toList) → atS n l = 0
 | [], _ => rfl
 | x :: l, h => by
   rw [atS, if_neg (by have := h 0 (by simp); simpa [List.getD] using this)]
   exact atS_none n l (fun q hq => by have := h (q + 1) (by simpa using hq); simpa [List.getD] using this)
theorem atS_some (n : ByteArray) : ∀ (l : List S34) (p : Nat), p < l.length → (∀ q, q < p → (l.getD q z34).f0.toList ≠ n.toList) → (l.getD p z34).f0.toList = n.toList → atS n l = (l.getD p z34).f1
 | [], p, hp, _, _ => by simp at hp
 | x :: l, 0, _, _, h => by rw [atS, if_pos (by simpa [List.getD] using h)]; rfl
 | x :: l, p + 1, hp, hq, h => by
   rw [atS, if_neg (by have := hq 0 (by omega); simpa [List.getD] using this)]
   have := atS_some n l p (by simpa using hp) (fun q hq' => by have := hq (q + 1) (by omega); simpa [List.getD] using this) (by simpa [List.getD] using h)
   rw [this]
   simp [List.getD]
theorem find_at (l : List S34) (n : ByteArray) (was : ByteArray) (h : rises was l = true) (hl : l.length ≤ 1000000) : vector_at.f l n = some (atS n l) := by
 have hs := bsL_spec l n was h (l.length + 1) 0 l.length (by omega) (by omega) (by omega) (fun q hq => by omega) (fun q h1 h2 => by omega)
 unfold vector_at.f vector_find.f
 rw [if_pos hl, Option.bind_some]
 have hix : findIx l n = bsL l n (l.length + 1) 0 l.length := rfl
 rw [← hix] at hs
 obtain ⟨_, hp, hA, hB⟩ := hs
 have hne : ∀ q, q < findIx l n → (l.getD q z34).f0.toList ≠ n.toList := fun q hq he => by
  have := hA q hq
  rw [(cmpS_lt l q n).2.2 he] at this
  exact absurd this (by decide)
 by_cases hlt : findIx l n < l.length
 · by_cases hc : cmpS l (findIx l n) n = 0
   · have hh : findHit l n = true := by unfold findHit; rw [if_pos hlt, hc]; rfl
     simp only [hh, if_true]
     rw [if_pos (by omega), if_pos (by omega), atS_some n l (findIx l n) hlt hne ((cmpS_lt l _ n).2.1 hc)]
     simp [rd_T34]
   · have hh : findHit l n = false := by unfold findHit; rw [if_pos hlt]; simpa using hc
     simp only [hh, Bool.false_eq_true, if_false]
     rw [atS_none n l (fun q hq he => ?_)]
     rcases Nat.lt_or_ge q (findIx l n) with h1 | h1
     · exact hne q h1 he
     · have h0 := hB (findIx l n) (Nat.le_refl _) hlt
       rcases Nat.lt_or_ge (findIx l n) q with h2 | h2
       · have h3 := rises_two l was h _ q h2 hq
         rw [he] at h3
         exact h0 ((cmpS_lt l _ n).1.2 h3)
       · obtain rfl : q = findIx l n := by omega
         exact hc ((cmpS_lt l _ n).2.2 he)
 · have hh : findHit l n = false := by unfold findHit; rw [if_neg hlt]
   simp only [hh, Bool.false_eq_true, if_false]
   rw [atS_none n l (fun q hq => hne q (by omega))]
def hasS (l : List S34) (n : ByteArray) (d : Int) : Bool := rightS l && dotOk ⟨n, d⟩ && decide (d ≤ atS n l)
theorem rightS_le {l : List S34} (h : rightS l = true) : l.length ≤ 64 ∧ rises ⟨#[]⟩ l = true := by
 simpa [rightS] using h
theorem has_f (l : List S34) (hl : l.length ≤ 9223372036854775807) (n : ByteArray) (d : Int) (k : Nat) (hk : l.length < k) : vector_Has.f k l n d = some (hasS l n d) := by
 unfold vector_Has.f hasS
 rw [right_f l hl k hk, Option.bind_some, isDot_f, Option.bind_some]
 cases hr : rightS l
 · simp
 · obtain ⟨h1, h2⟩ := rightS_le hr
   rw [find_at l n _ h2 (by omega), Option.bind_some]
   cases dotOk ⟨n, d⟩ <;> simp
def above (was : ByteArray) (l : List S34) : Prop := ∀ x, x ∈ l → Op.bytesLess was.toList x.f0.toList = true
theorem rises_above : ∀ (l : List S34) (was : ByteArray), rises was l = true → above was l
 | [], _, _ => fun x hx => by cases hx
 | y :: l, was, h => fun x hx => by
   simp only [rises, Bool.and_eq_true] at h
   rcases List.mem_cons.1 hx with rfl | hx
   · exact h.1.2
   · exact bl_trans _ _ _ h.1.2 (rises_above l y.f0 h.2 x hx)
theorem rises_tail {x : S34} {l : List S34} {was : ByteArray} (h : rises was (x :: l) = true) : rises x.f0 l = true := by
 simp only [rises, Bool.and_eq_true] at h; exact h.2
theorem rises_pos {l : List S34} {was : ByteArray} : ∀ {x : S34}, rises was l = true → x ∈ l → 1 ≤ x.f1 ∧ x.f1 ≤ 4611686018427387904 := by
 induction l generalizing was with
 | nil => intro x _ hx; cases hx
 | cons y l ih =>
   intro x h hx
   simp only [rises, dotOk, Bool.and_eq_true, decide_eq_true_eq] at h
   rcases List.mem_cons.1 hx with rfl | hx
   · exact ⟨h.1.1.1.2, h.1.1.2⟩
   · exact ih h.2 hx
def asc : List S34 → Prop
 | [] => True
 | x :: l => above x.f0 l ∧ asc l
theorem rises_asc : ∀ (l : List S34) (was : ByteArray), rises was l = true → asc l
 | [], _, _ => trivial
 | x :: l, was, h => ⟨rises_above l x.f0 (rises_tail h), rises_asc l x.f0 (rises_tail h)⟩
def mnAll : List (List S34) → ByteArray → Int → Int
 | [], _, n => n
 | v :: vs, w, n => mnAll vs w (mn n (atS w v))
def gf (vs : List (List S34)) : List S34 → List S34
 | [] => []
 | x :: a => if 0 < mnAll vs x.f0 x.f1 then ⟨x.f0, mnAll vs x.f0 x.f1⟩ :: gf vs a else gf vs a
theorem atS_cons (n : ByteArray) (x : S34) (l : List S34) : atS n (x :: l) = if x.f0.toList = n.toList then x.f1 else atS n l := rfl
theorem bytes_inj {a b : ByteArray} (h : a.toList = b.toList) : a = b := by
 rw [ByteArray.toList_eq, ByteArray.toList_eq] at h
 have : a.data = b.data := Array.ext' h
 cases a; cases b; simpa using this
theorem dot_parts {n : ByteArray} {d : Int} (h : dotOk ⟨n, d⟩ = true) : 1 ≤ d ∧ d ≤ 4611686018427387904 := by
 unfold dotOk at h
 simp at h
 omega
theorem bl_ne {a b : List UInt8} (h : Op.bytesLess a b = true) : a ≠ b := fun e => by rw [e, bl_irr] at h; cases h
theorem atS_of_mem : ∀ (l : List S34) (x : S34), asc l → x ∈ l → atS x.f0 l = x.f1
 | [], x, _, h => by cases h
 | y :: l, x, hs, h => by
   rw [atS_cons]
   rcases List.mem_cons.1 h with rfl | h
   · rw [if_pos rfl]
   · rw [if_neg (bl_ne (hs.1 x h)), atS_of_mem l x hs.2 h]
section
theorem one_of {x : S34} {out : List S34} (hr : rises ⟨#[]⟩ out = true) (hx : x ∈ out) : atS x.f0 out ≠ 0 := by
 rw [atS_of_mem out x (rises_asc _ _ hr) hx]
 have := (rises_pos hr hx).1
 omega
end
end Go.Proofs.Ytenbkljgmgdegaa.PO
end
section
namespace Go.Proofs.Ytenbkljgmgdegaa.PO
open Go.Proofs.Ytenbkljgmgdegaa
deriving instance DecidableEq for S34
deriving instance DecidableEq for S36
end Go.Proofs.Ytenbkljgmgdegaa.PO
end
section
namespace Go.Proofs.Ytenbkljgmgdegaa.PO
open Go.Proofs.Ytenbkljgmgdegaa
open Go.RowKit Go.Proofs.YtenbkljgmgdegaaW.PrintWords Go.Proofs.YtenbkljgmgdegaaW.PrintLast Go.Proofs.YtenbkljgmgdegaaW.PrintMore
attribute [local go_sem] max2_int min2_int max_two min_two max_three min_three max_four min_four   -- for this text's walks alone
set_option linter.unusedVariables false
set_option linter.unusedSimpArgs false
def order_stands.f (k : Nat) (a0_0 : ByteArray) (a0_1 : Int) (a1_0 : ByteArray) (a1_1 : Int) : Option (Int) := (strings_Compare.f a0_0 a1_0).bind fun t120 => ((cmp_Compare_int64.f a0_1 a1_1).bind fun t121 => ((cmp_Or_int.f k (([t120, t121] : List Int))).bind fun t125 => (some t125)))
theorem order_stands.mono : ∀ a0 a1 a2 a3 k, LeO (order_stands.f k a0 a1 a2 a3) (order_stands.f (k + 1) a0 a1 a2 a3) := by
 intro a0 a1 a2 a3 k
 unfold order_stands.f
 repeat' first
  | (with_reducible exact cmp_Or_int.mono _ _)
  | (with_reducible exact LeO.refl _)
  | (with_reducible exact LeO.none _)
  | (with_reducible refine LeO.ite ?_ ?_)
  | (with_reducible refine LeO.bind ?_ (fun _ => ?_))
  | exact cmp_Or_int.mono _ _
  | exact LeO.none _
  | refine LeO.ite ?_ ?_
  | refine LeO.bind ?_ (fun _ => ?_)
def order_stands.T1 : Bool × List (List Nat × List Nat) := (true, [([], []), ([0], [0]), ([], []), ([2], [2]), ([1, 3], [1, 3]), ([], []), ([5], [5]), ([], []), ([7], [7]), ([6, 8, 4], [6, 8]), ([4, 9], [4, 9]), ([10, 9], [10]), ([11, 11, 0, 1, 2, 3, 4, 5, 6, 7, 8, 9, 10, 11], [11])])
def order_stands.B1 : List Nat := [0, 1, 0, 4, 15, 0, 32, 0, 128, 511, 1023, 2047, 4095]
theorem order_stands.tab1 : rtab .any (opsOf Try.f104 1) = order_stands.T1 := by kernel_rfl
theorem order_stands.bits1 : waitsOk order_stands.T1.2 order_stands.B1 = true := by kernel_rfl
set_option maxHeartbeats 8000000 in
set_option maxRecDepth 100000 in
theorem order_stands.calls (k : Nat) (a0_0 : ByteArray) (a0_1 : Int) (a1_0 : ByteArray) (a1_1 : Int) (r : Int) (w : World) (h : order_stands.f k a0_0 a0_1 a1_0 a1_1 = some r) :
 Calls Try.prog 104 #[.agg #[.string a0_0, .int .i64 a0_1], .agg #[.string a1_0, .int .i64 a1_1]] w fun e w' => e = .returned (.int .i64 r) ∧ Below w.heap.size w w' := by
 have hu34 := Try.underlying34
 have HB := Aside0.mk (Below.refl w.heap.size w)
 have H : ((strings_Compare.f a0_0 a1_0).bind fun t120 => ((cmp_Compare_int64.f a0_1 a1_1).bind fun t121 => ((cmp_Or_int.f k (([t120, t121] : List Int))).bind fun t125 => (some t125)))) = some r := h
 clear h
 replace H := Option.bind_eq_some_iff.mp H
 obtain ⟨t120, A30, H⟩ := H
 replace H : ((cmp_Compare_int64.f a0_1 a1_1).bind fun t121 => ((cmp_Or_int.f k (([t120, t121] : List Int))).bind fun t125 => (some t125))) = some r := H
 have A3 := Aside0.mk A30
 clear A30
 replace H := Option.bind_eq_some_iff.mp H
 obtain ⟨t121, A40, H⟩ := H
 replace H : ((cmp_Or_int.f k (([t120, t121] : List Int))).bind fun t125 => (some t125)) = some r := H
 have A4 := Aside0.mk A40
 clear A40
 obtain ⟨y122, hy122⟩ : ∃ y_ : List Int, y_ = (([t120, t121] : List Int)) := ⟨_, rfl⟩
 replace H : ((cmp_Or_int.f k y122).bind fun t125 => (some t125)) = some r := by first | (rw [hy122]; with_reducible exact H) | (have H2_ := (Option.bind_some _ _).symm.trans H; rw [hy122]; with_reducible exact H2_) | (have H2_ := (Option.bind_some _ _).symm.trans H; with_reducible exact H2_) | with_reducible exact H | (rw [hy122]; exact H) | exact H
 have Ny122 := Aside0.mk hy122
 clear hy122
 replace H := Option.bind_eq_some_iff.mp H
 obtain ⟨t125, A50, H⟩ := H
 replace H : (some t125) = some r := H
 have A5 := Aside0.mk A50
 clear A50
 obtain rfl := Option.some.inj H
 go_enter Try.func104, Try.ntmps104
 try go_wp2_with (first | ((with_reducible refine gate_dst (N := 2) rfl ?_); refine box_event ?hg (N := 2) ?hd (cs := #[.string a0_0, .int .i64 a0_1]) (t := 34) ?hr ?_; (case hd => rfl); (case hg => rfl); (case hr => first | (go_simp; done) | (go_simp; rfl)); intro gb118 hg w6 hbox hb; have n0_ := Aside0.mk (below_step (by repeat (first | (with_reducible first | exact HB.out | apply below_alloc | apply pw_below_drewN | apply below_drew1) | exact HB.out)) hb); have n1_ := Aside0.mk (hbox); have n2_ := Aside0.mk ((by rw [hg]; exact (below_size (by repeat (first | (with_reducible first | exact HB.out | apply below_alloc | apply pw_below_drewN | apply below_drew1) | exact HB.out))) : w.heap.size ≤ gb118)); have n3_ := Aside0.mk ((by rw [hg]; exact (below_size (by repeat (first | (with_reducible first | exact HB.out | apply below_alloc | apply pw_below_drewN | apply below_drew1) | exact HB.out))) : w.heap.size ≤ gb118)); clear HB; have HB := n0_; have BK118 := n1_; have GW118 := n2_; have GE118 := n3_; clear n0_ n1_ n2_ n3_; clear hb hbox hg) | ((with_reducible refine gate_dst (N := 3) rfl ?_); refine box_event ?hg (N := 3) ?hd (cs := #[.string a1_0, .int .i64 a1_1]) (t := 34) ?hr ?_; (case hd => rfl); (case hg => rfl); (case hr => first | (go_simp; done) | (go_simp; rfl)); intro gb119 hg w7 hbox hb; have n0_ := Aside0.mk (blk_below (g := gb118) (o := .cells #[.string a0_0, .int .i64 a0_1] 34 (0, 0)) (by (with_reducible repeat (first | refine blk_drewN ?_ _ | refine blk_drew ?_ | refine blk_alloc ?_ _)); exact BK118.out) hb); have n1_ := Aside0.mk (below_step (by repeat (first | (with_reducible first | exact HB.out | apply below_alloc | apply pw_below_drewN | apply below_drew1 | refine below_set ?_ GE118.out) | exact HB.out)) hb); have n2_ := Aside0.mk (hbox); have n3_ := Aside0.mk ((by rw [hg]; exact (below_size (by repeat (first | (with_reducible first | exact HB.out | apply below_alloc | apply pw_below_drewN | apply below_drew1 | refine below_set ?_ GE118.out) | exact HB.out))) : w.heap.size ≤ gb119)); have n4_ := Aside0.mk ((by rw [hg]; exact (below_size (by repeat (first | (with_reducible first | exact HB.out | apply below_alloc | apply pw_below_drewN | apply below_drew1 | refine below_set ?_ GE118.out) | exact HB.out))) : w.heap.size ≤ gb119)); have n5_ := Aside0.mk ((by rw [hg]; exact Nat.ne_of_lt (blk_lt (g := gb118) (o := .cells #[.string a0_0, .int .i64 a0_1] 34 (0, 0)) (by (with_reducible repeat (first | refine blk_drewN ?_ _ | refine blk_drew ?_ | refine blk_alloc ?_ _)); exact BK118.out)) : gb118 ≠ gb119)); have n6_ := Aside0.mk ((by rw [hg]; exact Nat.ne_of_gt (blk_lt (g := gb118) (o := .cells #[.string a0_0, .int .i64 a0_1] 34 (0, 0)) (by (with_reducible repeat (first | refine blk_drewN ?_ _ | refine blk_drew ?_ | refine blk_alloc ?_ _)); exact BK118.out)) : gb119 ≠ gb118)); clear BK118; clear HB; have BK118 := n0_; have HB := n1_; have BK119 := n2_; have GW119 := n3_; have GE119 := n4_; have NB118_119 := n5_; have NB119_118 := n6_; clear n0_ n1_ n2_ n3_ n4_ n5_ n6_; clear hb hbox hg))
 have n0_ := Aside0.mk (blk_drew BK118.out)
 have n1_ := Aside0.mk (blk_drew BK119.out)
 have n2_ := Aside0.mk (below_drew1 HB.out)
 clear BK118
 clear BK119
 clear HB
 have BK118 := n0_
 have BK119 := n1_
 have HB := n2_
 clear n0_ n1_ n2_
 refine start_ (n := 13) (S := fun w' => w'.cell? ⟨gb118, 0, none⟩ = some (.string a0_0) ∧ w'.cell? ⟨gb118, 1, none⟩ = some (.int .i64 a0_1) ∧ w'.cell? ⟨gb119, 0, none⟩ = some (.string a1_0) ∧ w'.cell? ⟨gb119, 1, none⟩ = some (.int .i64 a1_1)) (ds := []) #[false, false, false, false, false, false, false, false, false, false, false, false, false] (by kernel_rfl) rfl rfl ⟨(blk_cell BK118.out 0).trans rfl, (blk_cell BK118.out 1).trans rfl, (blk_cell BK119.out 0).trans rfl, (blk_cell BK119.out 1).trans rfl⟩ (fun hHeld => ?_); refine with_tabW order_stands.tab1 order_stands.bits1 (fun HT_ HW_ => ?_)
 generalize w7.drew = w8 at BK118 BK119 HB hHeld ⊢
 refine XReg.pu 0 5 (h := ?_)
 refine XReg.pu 2 7 (h := ?_)
 refine XReg.pu 5 10 (h := ?_)
 refine XReg.pu 7 12 (h := ?_)
 refine XReg.tk 1 6 (hS := hHeld) (h := ?_)
 refine XReg.tk 3 8 (hS := hHeld) (h := ?_)
 refine XReg.tk 6 11 (hS := hHeld) (h := ?_)
 refine XReg.tk 8 13 (hS := hHeld) (h := ?_)
 refine one_ (i := 4) (N := some 9) #[true, true, true, true, true, true, true, true, true, false, false, false, false] rfl rfl (_root_.Go.Proofs.YtenbkljgmgdegaaW.PrintLast.one_of HT_.out (by kernel_rfl)) (by decide) (fun K hK => ?_)
 refine goes_ Try.func127 (by kernel_rfl) rfl #[.string a0_0, .string a1_0] (by rfl) rfl rfl (by (try simp only [List.map_toArray, List.map_cons, List.map_nil]); first | done | rfl | (simp only [List.length_drop, List.length_take]; rfl)) ?_
 with_reducible refine (strings_Compare.calls a0_0 a1_0 t120 _ A3.out).mono ?_
 rintro e w' ⟨rfl, ⟨nd, rfl⟩⟩
 refine ⟨_, rfl, ?_⟩
 refine hK.out _ _ ⟨(blk_cell BK118.out 0).trans rfl, (blk_cell BK118.out 1).trans rfl, (blk_cell BK119.out 0).trans rfl, (blk_cell BK119.out 1).trans rfl⟩ (fun hHeld => ?_)
 clear hK K
 refine norm_ (a' := ?_) ?_ ?_
 rotate_left
 · show Act.put _ (some 9) _ = _
   simp only [Act.put, List.setIfInBounds_toArray, List.set_cons_zero, List.set_cons_succ, i64_w, i32_w]
   rfl
 refine one_ (i := 9) (N := some 14) #[true, true, true, true, true, true, true, true, true, true, false, false, false] rfl rfl (_root_.Go.Proofs.YtenbkljgmgdegaaW.PrintLast.one_of HT_.out (by kernel_rfl)) (by decide) (fun K hK => ?_)
 refine goes_ Try.func128 (by kernel_rfl) rfl #[.int .i64 a0_1, .int .i64 a1_1] (by rfl) rfl rfl (by (try simp only [List.map_toArray, List.map_cons, List.map_nil]); first | done | rfl | (simp only [List.length_drop, List.length_take]; rfl)) ?_
 with_reducible refine (cmp_Compare_int64.calls a0_1 a1_1 t121 _ A4.out).mono ?_
 rintro e w' ⟨rfl, ⟨nd, rfl⟩⟩
 refine ⟨_, rfl, ?_⟩
 refine hK.out _ _ ⟨(blk_cell BK118.out 0).trans rfl, (blk_cell BK118.out 1).trans rfl, (blk_cell BK119.out 0).trans rfl, (blk_cell BK119.out 1).trans rfl⟩ (fun hHeld => ?_)
 clear hK K
 refine norm_ (a' := ?_) ?_ ?_
 rotate_left
 · show Act.put _ (some 14) _ = _
   simp only [Act.put, List.setIfInBounds_toArray, List.set_cons_zero, List.set_cons_succ, i64_w, i32_w]
   rfl
 refine one_ (i := 10) (N := some 15) #[true, true, true, true, true, true, true, true, true, true, true, false, false] rfl rfl (_root_.Go.Proofs.YtenbkljgmgdegaaW.PrintLast.one_of HT_.out (by kernel_rfl)) (by decide) (fun K hK => ?_)
 refine Kd.R_lit_step (Kd.int .i64) _ 3 ?hg (N := 15) ?hd (xs := ([t120, t121] : List Int)) (inner := [.int .i64 t120, .int .i64 t121]) (ok := fun _ => True) (okp := fun _ => True) ?hr ?hp (fun _ hk => hk) trivial (Below.refl _ _) (Nat.le_refl _) (by simp) ?_; (case hd => rfl); (case hg => rfl); (case hr => first | (go_simp; done) | (go_simp; rfl)); (case hp => exact (Reps.one (show Kd.M (Kd.int .i64) _ _ _ t120 [.int .i64 t120] from rfl) (Reps.one (show Kd.M (Kd.int .i64) _ _ _ t121 [.int .i64 t121] from rfl) (Reps.none _ _))))
 intro v123 w9 ho10 hb hg_ hnew_
 clear hg_ hnew_
 (first | rw [← Ny122.out] at ho10 | (simp only [Int.reduceToNat] at ho10; rw [← Ny122.out] at ho10))
 have n0_ := Aside0.mk (Kd.R_lower ho10 (below_size (by repeat (first | (with_reducible first | exact HB.out | apply below_alloc | apply pw_below_drewN | apply below_drew1 | refine below_set ?_ GE118.out | refine below_set ?_ GE119.out) | exact HB.out))))
 have n1_ := Aside0.mk (blk_below (g := gb118) (o := .cells #[.string a0_0, .int .i64 a0_1] 34 (0, 0)) (by (with_reducible repeat (first | refine blk_drewN ?_ _ | refine blk_drew ?_ | refine blk_alloc ?_ _)); exact BK118.out) hb)
 have n2_ := Aside0.mk (blk_below (g := gb119) (o := .cells #[.string a1_0, .int .i64 a1_1] 34 (0, 0)) (by (with_reducible repeat (first | refine blk_drewN ?_ _ | refine blk_drew ?_ | refine blk_alloc ?_ _)); exact BK119.out) hb)
 have n3_ := Aside0.mk (below_step (by repeat (first | (with_reducible first | exact HB.out | apply below_alloc | apply pw_below_drewN | apply below_drew1 | refine below_set ?_ GE118.out | refine below_set ?_ GE119.out) | exact HB.out)) hb)
 clear BK118
 clear BK119
 clear HB
 have HO124 := n0_
 have BK118 := n1_
 have BK119 := n2_
 have HB := n3_
 clear n0_ n1_ n2_ n3_
 clear hb ho10
 obtain ⟨Ao11, co11, eo11⟩ := Kd.R_slice HO124.out
 (first | subst eo11 | (injection eo11 with f1_ f2_ f3_; have f4_ := f1_.symm; have f5_ := f3_.symm; clear f1_ f2_ f3_; subst f4_; subst f5_))
 refine hK.out _ _ ⟨(blk_cell BK118.out 0).trans rfl, (blk_cell BK118.out 1).trans rfl, (blk_cell BK119.out 0).trans rfl, (blk_cell BK119.out 1).trans rfl⟩ (fun hHeld => ?_)
 clear hK K
 refine norm_ (a' := ?_) ?_ ?_
 rotate_left
 · show Act.put _ (some 15) _ = _
   simp only [Act.put, List.setIfInBounds_toArray, List.set_cons_zero, List.set_cons_succ, i64_w, i32_w]
   rfl
 refine one_ (i := 11) (N := some 16) #[true, true, true, true, true, true, true, true, true, true, true, true, false] rfl rfl (_root_.Go.Proofs.YtenbkljgmgdegaaW.PrintLast.one_of HT_.out (by kernel_rfl)) (by decide) (fun K hK => ?_)
 refine goes_ Try.func126 (by kernel_rfl) rfl #[.slice Ao11 y122.length co11] (by rfl) rfl rfl (by (try simp only [List.map_toArray, List.map_cons, List.map_nil]); first | done | rfl | (simp only [List.length_drop, List.length_take]; rfl)) ?_
 with_reducible refine (cmp_Or_int.calls k _ _ y122 t125 _ ?side1 ?side2 A5.out).mono ?_
 (case side1 => repeat (first | exact (Kd.R_reads' HO124.out).2.2 | (with_reducible refine Kd.C_alloc ?_ _) | (with_reducible refine Kd.C_drewN ?_ _) | (with_reducible refine Kd.C_drew ?_)))
 (case side2 => exact (Kd.R_reads' HO124.out).2.1)
 rintro e w' ⟨rfl, ⟨nd, rfl⟩⟩
 refine ⟨_, rfl, ?_⟩
 refine hK.out _ _ ⟨(blk_cell BK118.out 0).trans rfl, (blk_cell BK118.out 1).trans rfl, (blk_cell BK119.out 0).trans rfl, (blk_cell BK119.out 1).trans rfl⟩ (fun hHeld => ?_)
 clear hK K
 refine norm_ (a' := ?_) ?_ ?_
 rotate_left
 · show Act.put _ (some 16) _ = _
   simp only [Act.put, List.setIfInBounds_toArray, List.set_cons_zero, List.set_cons_succ, i64_w, i32_w]
   rfl
 refine XReg.pu 12 4 (h := ?_)
 refine done_ (done_of HT_.out (by kernel_rfl)) ?_
 try go_wp2
 go_ret
 exact ⟨by first | rfl | (simp [errW_none, errW_some] <;> rfl) | (simp [*, errW_none, errW_some] <;> rfl), by repeat (first | (with_reducible first | exact HB.out | apply below_alloc | apply pw_below_drewN | apply below_drew1 | refine below_set ?_ GE118.out | refine below_set ?_ GE119.out) | exact HB.out)⟩
end Go.Proofs.Ytenbkljgmgdegaa.PO
end
section
namespace Go.Proofs.Ytenbkljgmgdegaa.PO
open Go.Proofs.Ytenbkljgmgdegaa
open Go.RowKit Go.Proofs.YtenbkljgmgdegaaW.PrintWords Go.Proofs.YtenbkljgmgdegaaW.PrintLast Go.Proofs.YtenbkljgmgdegaaW.PrintMore
attribute [local go_sem] max2_int min2_int max_two min_two max_three min_three max_four min_four   -- for this text's walks alone
set_option linter.unusedVariables false
set_option linter.unusedSimpArgs false
mutual
def order_Right.j0 : Nat → Bool → ByteArray → Int → List (S34) → ByteArray → Int → ByteArray → Int → List (S34) → Option (Bool)
 | 0, _, _, _, _, _, _, _, _, _ => none
 | k + 1, x48, x127000, x127001, x127002, x127003, x127004, x127005, x127006, x127007 => if x48 = true then (some false) else (order_Right.l0 k x127007 (x127007.length : Int) 0 x127000 x127001 x127002 x127003 x127004 x127005 x127006 x127007)
def order_Right.l0 : Nat → List (S34) → Int → Int → ByteArray → Int → List (S34) → ByteArray → Int → ByteArray → Int → List (S34) → Option (Bool)
 | 0, _, _, _, _, _, _, _, _, _, _, _ => none
 | k + 1, x50, x51, x52, x127000, x127001, x127002, x127003, x127004, x127005, x127006, x127007 => if x52 < x51 then (if 0 ≤ x52 then (if x52 < (x50.length : Int) then ((vector_Has.f k x127002 ((rd_T34 x50 x52).f0) ((rd_T34 x50 x52).f1)).bind fun t137 => (if t137 = true then (if x52 > 0 then (if 0 ≤ (wrap64 (x52 - 1)) then (if (wrap64 (x52 - 1)) < (x127007.length : Int) then ((order_stands.f k ((rd_T34 x127007 (wrap64 (x52 - 1))).f0) ((rd_T34 x127007 (wrap64 (x52 - 1))).f1) ((rd_T34 x50 x52).f0) ((rd_T34 x50 x52).f1)).bind fun t139 => (if t139 ≥ 0 then (some false) else (order_Right.l0 k x50 x51 (wrap64 (x52 + 1)) x127000 x127001 x127002 x127003 x127004 x127005 x127006 x127007))) else (none)) else (none)) else (order_Right.l0 k x50 x51 (wrap64 (x52 + 1)) x127000 x127001 x127002 x127003 x127004 x127005 x127006 x127007)) else (some false))) else (none)) else (none)) else (if x127004 = 1 then (if (x127007.length : Int) = 0 then (if x127006 ≥ 1 then (some (decide (x127006 ≤ 9999))) else (some false)) else (some false)) else (if x127004 = 2 then (if x127006 ≥ 1 then (some (decide (x127006 ≤ 9999))) else (some false)) else (if x127004 = 3 then (some (x127006 == 0)) else (some false))))
end
def order_Right.f (k : Nat) (a0_0 : ByteArray) (a0_1 : Int) (l0_2 : List (S34)) (a0_3 : ByteArray) (a0_4 : Int) (a0_5 : ByteArray) (a0_6 : Int) (l0_7 : List (S34)) : Option (Bool) := (vector_Right.f k (([(⟨a0_0, a0_1⟩ : S34)] : List (S34)))).bind fun t130 => (if t130 = true then ((vector_Right.f k l0_2).bind fun t131 => (if t131 = true then ((vector_At.f k l0_2 a0_0).bind fun t132 => (if t132 = (wrap64 (a0_1 - 1)) then ((order_isText.f a0_3).bind fun t133 => (if t133 = true then ((order_isText.f a0_5).bind fun t134 => (if t134 = true then (order_Right.j0 k (decide ((l0_7.length : Int) > 128)) a0_0 a0_1 l0_2 a0_3 a0_4 a0_5 a0_6 l0_7) else (order_Right.j0 k true a0_0 a0_1 l0_2 a0_3 a0_4 a0_5 a0_6 l0_7))) else (order_Right.j0 k true a0_0 a0_1 l0_2 a0_3 a0_4 a0_5 a0_6 l0_7))) else (order_Right.j0 k true a0_0 a0_1 l0_2 a0_3 a0_4 a0_5 a0_6 l0_7))) else (order_Right.j0 k true a0_0 a0_1 l0_2 a0_3 a0_4 a0_5 a0_6 l0_7))) else (order_Right.j0 k true a0_0 a0_1 l0_2 a0_3 a0_4 a0_5 a0_6 l0_7))
theorem order_Right.mono_l : ∀ k, (∀ y0 y1 y2 y3 y4 y5 y6 y7 y8, LeO (order_Right.j0 k y0 y1 y2 y3 y4 y5 y6 y7 y8) (order_Right.j0 (k + 1) y0 y1 y2 y3 y4 y5 y6 y7 y8)) ∧ (∀ y0 y1 y2 y3 y4 y5 y6 y7 y8 y9 y10, LeO (order_Right.l0 k y0 y1 y2 y3 y4 y5 y6 y7 y8 y9 y10) (order_Right.l0 (k + 1) y0 y1 y2 y3 y4 y5 y6 y7 y8 y9 y10))
 | 0 => ⟨fun _ _ _ _ _ _ _ _ _ r h => by simp [order_Right.j0] at h, fun _ _ _ _ _ _ _ _ _ _ _ r h => by simp [order_Right.l0] at h⟩
 | k + 1 => by
   obtain ⟨ih0, ih1⟩ := order_Right.mono_l k
   refine ⟨?_, ?_⟩
   · intro y0 y1 y2 y3 y4 y5 y6 y7 y8
     unfold order_Right.j0
     repeat' first
     | (with_reducible exact ih0 _ _ _ _ _ _ _ _ _)
     | (with_reducible exact ih1 _ _ _ _ _ _ _ _ _ _ _)
     | (with_reducible exact order_stands.mono _ _ _ _ _)
     | (with_reducible exact vector_At.mono _ _ _)
     | (with_reducible exact vector_Has.mono _ _ _ _)
     | (with_reducible exact vector_Right.mono _ _)
     | (with_reducible exact LeO.refl _)
     | (with_reducible exact LeO.none _)
     | (with_reducible refine LeO.ite ?_ ?_)
     | (with_reducible refine LeO.bind ?_ (fun _ => ?_))
     | exact ih0 _ _ _ _ _ _ _ _ _
     | exact ih1 _ _ _ _ _ _ _ _ _ _ _
     | exact order_stands.mono _ _ _ _ _
     | exact vector_At.mono _ _ _
     | exact vector_Has.mono _ _ _ _
     | exact vector_Right.mono _ _
     | exact LeO.none _
     | refine LeO.ite ?_ ?_
     | refine LeO.bind ?_ (fun _ => ?_)
   · intro y0 y1 y2 y3 y4 y5 y6 y7 y8 y9 y10
     unfold order_Right.l0
     repeat' first
     | (with_reducible exact ih0 _ _ _ _ _ _ _ _ _)
     | (with_reducible exact ih1 _ _ _ _ _ _ _ _ _ _ _)
     | (with_reducible exact order_stands.mono _ _ _ _ _)
     | (with_reducible exact vector_At.mono _ _ _)
     | (with_reducible exact vector_Has.mono _ _ _ _)
     | (with_reducible exact vector_Right.mono _ _)
     | (with_reducible exact LeO.refl _)
     | (with_reducible exact LeO.none _)
     | (with_reducible refine LeO.ite ?_ ?_)
     | (with_reducible refine LeO.bind ?_ (fun _ => ?_))
     | exact ih0 _ _ _ _ _ _ _ _ _
     | exact ih1 _ _ _ _ _ _ _ _ _ _ _
     | exact order_stands.mono _ _ _ _ _
     | exact vector_At.mono _ _ _
     | exact vector_Has.mono _ _ _ _
     | exact vector_Right.mono _ _
     | exact LeO.none _
     | refine LeO.ite ?_ ?_
     | refine LeO.bind ?_ (fun _ => ?_)
theorem order_Right.mono : ∀ a0 a1 a2 a3 a4 a5 a6 a7 k, LeO (order_Right.f k a0 a1 a2 a3 a4 a5 a6 a7) (order_Right.f (k + 1) a0 a1 a2 a3 a4 a5 a6 a7) := by
 intro a0 a1 a2 a3 a4 a5 a6 a7 k
 obtain ⟨ih0, ih1⟩ := order_Right.mono_l k
 unfold order_Right.f
 repeat' first
  | (with_reducible exact ih0 _ _ _ _ _ _ _ _ _)
  | (with_reducible exact ih1 _ _ _ _ _ _ _ _ _ _ _)
  | (with_reducible exact order_stands.mono _ _ _ _ _)
  | (with_reducible exact vector_At.mono _ _ _)
  | (with_reducible exact vector_Has.mono _ _ _ _)
  | (with_reducible exact vector_Right.mono _ _)
  | (with_reducible exact LeO.refl _)
  | (with_reducible exact LeO.none _)
  | (with_reducible refine LeO.ite ?_ ?_)
  | (with_reducible refine LeO.bind ?_ (fun _ => ?_))
  | exact ih0 _ _ _ _ _ _ _ _ _
  | exact ih1 _ _ _ _ _ _ _ _ _ _ _
  | exact order_stands.mono _ _ _ _ _
  | exact vector_At.mono _ _ _
  | exact vector_Has.mono _ _ _ _
  | exact vector_Right.mono _ _
  | exact LeO.none _
  | refine LeO.ite ?_ ?_
  | refine LeO.bind ?_ (fun _ => ?_)
def order_Right.T7 : Bool × List (List Nat × List Nat) := (true, [([], []), ([0], [0]), ([], []), ([1, 2], [1, 2]), ([3], [3]), ([4, 3], [4]), ([5], [5]), ([6, 5], [5, 6]), ([7, 5, 5], [5, 7]), ([8], [8]), ([9, 8], [8, 9]), ([8], [8]), ([11, 8], [8, 11]), ([10, 12, 8], [8, 10, 12]), ([13, 8], [8, 13]), ([8], [8]), ([14, 15, 8, 8], [8, 14, 15]), ([16, 8], [8, 16]), ([8, 17, 5], [5, 8, 17]), ([5, 18], [5, 18])])
def order_Right.B7 : List Nat := [0, 1, 0, 7, 15, 31, 63, 127, 255, 511, 1023, 511, 2559, 8191, 16383, 511, 65535, 131071, 262143, 524287]
theorem order_Right.tab7 : rtab .any (opsOf Try.f45 7) = order_Right.T7 := by kernel_rfl
theorem order_Right.bits7 : waitsOk order_Right.T7.2 order_Right.B7 = true := by kernel_rfl
end Go.Proofs.Ytenbkljgmgdegaa.PO
end
section
namespace Go.Proofs.Ytenbkljgmgdegaa.PO
open Go.Proofs.Ytenbkljgmgdegaa
open Go.RowKit Go.Proofs.YtenbkljgmgdegaaW.PrintWords Go.Proofs.YtenbkljgmgdegaaW.PrintLast Go.Proofs.YtenbkljgmgdegaaW.PrintMore
attribute [local go_sem] max2_int min2_int max_two min_two max_three min_three max_four min_four   -- for this text's walks alone
set_option linter.unusedVariables false
set_option linter.unusedSimpArgs false
theorem eqA34 (d : Nat) (w : World) (x0 y0 : ByteArray) (x1 y1 : Int) :
 (Op.equalIn (d + 2) 34 (.agg #[.string x0, .int .i64 x1]) (.agg #[.string y0, .int .i64 y1])).run Try.prog w = .ok (x0.toList == y0.toList && (x1 == y1)) w := by
 refine eqA_of Try.underlying34 (by kernel_rfl) ?_
 refine eqf_cons (by rfl) (by go_simp; rfl) (by go_simp; rfl) (by go_simp) ?_
 exact eqf_last (by rfl) (by go_simp; rfl) (by go_simp; rfl) (by go_simp)
end Go.Proofs.Ytenbkljgmgdegaa.PO
end
section
namespace Go.Proofs.Ytenbkljgmgdegaa.PO
open Go.Proofs.Ytenbkljgmgdegaa
open Go.RowKit Go.Proofs.YtenbkljgmgdegaaW.PrintWords Go.Proofs.YtenbkljgmgdegaaW.PrintLast Go.Proofs.YtenbkljgmgdegaaW.PrintMore
attribute [local go_sem] max2_int min2_int max_two min_two max_three min_three max_four min_four   -- for this text's walks alone
set_option linter.unusedVariables false
set_option linter.unusedSimpArgs false
attribute [local go_sem high] eqA34
def api_Dot_106.l0 : Nat → List (S34) → List (S34) → Int → Int → Option (Bool)
 | 0, _, _, _, _ => none
 | k + 1, x0, x1, x12, x13 => if x13 < x12 then (if 0 ≤ x13 then (if x13 < (x0.length : Int) then (if x13 < (x1.length : Int) then (if (!((((rd_T34 x0 x13).f0).toList) == (((rd_T34 x1 x13).f0).toList)) || (!(((rd_T34 x0 x13).f1) == ((rd_T34 x1 x13).f1)))) = true then (some false) else (api_Dot_106.l0 k x0 x1 x12 (wrap64 (x13 + 1)))) else (none)) else (none)) else (none)) else (some true)
def api_Dot_106.f (k : Nat) (l0 : List (S34)) (l1 : List (S34)) : Option (Bool) := if (l0.length : Int) = (l1.length : Int) then (api_Dot_106.l0 k l0 l1 (l0.length : Int) 0) else (some false)
theorem api_Dot_106.mono_l : ∀ k, (∀ y0 y1 y2 y3, LeO (api_Dot_106.l0 k y0 y1 y2 y3) (api_Dot_106.l0 (k + 1) y0 y1 y2 y3))
 | 0 => fun _ _ _ _ r h => by simp [api_Dot_106.l0] at h
 | k + 1 => by
   have ih0 := api_Dot_106.mono_l k
   · intro y0 y1 y2 y3
     unfold api_Dot_106.l0
     repeat' first
     | (with_reducible exact ih0 _ _ _ _)
     | (with_reducible exact LeO.refl _)
     | (with_reducible exact LeO.none _)
     | (with_reducible refine LeO.ite ?_ ?_)
     | (with_reducible refine LeO.bind ?_ (fun _ => ?_))
     | exact ih0 _ _ _ _
     | exact LeO.none _
     | refine LeO.ite ?_ ?_
     | refine LeO.bind ?_ (fun _ => ?_)
theorem api_Dot_106.mono : ∀ a0 a1 k, LeO (api_Dot_106.f k a0 a1) (api_Dot_106.f (k + 1) a0 a1) := by
 intro a0 a1 k
 have ih0 := api_Dot_106.mono_l k
 unfold api_Dot_106.f
 repeat' first
  | (with_reducible exact ih0 _ _ _ _)
  | (with_reducible exact LeO.refl _)
  | (with_reducible exact LeO.none _)
  | (with_reducible refine LeO.ite ?_ ?_)
  | (with_reducible refine LeO.bind ?_ (fun _ => ?_))
  | exact ih0 _ _ _ _
  | exact LeO.none _
  | refine LeO.ite ?_ ?_
  | refine LeO.bind ?_ (fun _ => ?_)
set_option maxHeartbeats 8000000 in
set_option maxRecDepth 100000 in
theorem api_Dot_106.calls (k : Nat) (A0 : Option Addr) (c0 : Nat) (l0 : List (S34)) (A1 : Option Addr) (c1 : Nat) (l1 : List (S34)) (r : Bool) (w : World) (hr0 : Kd.C k34 w A0 l0.length l0) (hc0 : l0.length ≤ c0) (hr1 : Kd.C k34 w A1 l1.length l1) (hc1 : l1.length ≤ c1) (h : api_Dot_106.f k l0 l1 = some r) :
 Calls Try.prog 106 #[.slice A0 l0.length c0, .slice A1 l1.length c1] w fun e w' => e = .returned (.bool r) ∧ Drawn0 w w' := by
 have hu34 := Try.underlying34
 have HR0 := Aside0.mk hr0
 have HC0 := Aside0.mk hc0
 clear hr0 hc0
 have HR1 := Aside0.mk hr1
 have HC1 := Aside0.mk hc1
 clear hr1 hc1
 have H : (if (l0.length : Int) = (l1.length : Int) then (api_Dot_106.l0 k l0 l1 (l0.length : Int) 0) else (some false)) = some r := h
 clear h
 by_cases c3 : (l0.length : Int) = (l1.length : Int)
 · rw [if_pos c3] at H
   have c3b0 : ((l0.length : Int) == (l1.length : Int)) = true := beq_iff_eq.mpr c3
   have c3b1 : ((l0.length : Int) != (l1.length : Int)) = false := bne_eq_false_iff_eq.mpr c3
   have c3b2 : (l0.length == l1.length) = true := by first | simpa using c3 | (simp at c3 ⊢; omega)
   clear c3
   have H' := Aside0.mk H
   clear H
   go_enter Try.func106, Try.ntmps106
   go_wp2
   repeat (go_quiet (fail); try go_wp2)
   go_loopg [13] k (fun kq v13 w' => ∃ (x13_1 : Int), v13 = .int .i64 x13_1 ∧ Aside0 (api_Dot_106.l0 kq l0 l1 (l0.length : Int) x13_1 = some r) ∧ Aside0 (kq ≤ k) ∧ Drawn0 w w')
   case atStart => exact ⟨(0), (by first | rfl | (simp; done) | (simp [*]; done)), H', ⟨Nat.le_refl _⟩, by repeat (first | exact Drawn0.refl _ | apply Drawn0.step)⟩
   case round =>
    clear H'
    try clear c1
    try clear p2
    try clear c3
    try clear c3b0
    try clear c3b1
    try clear c3b2
    obtain ⟨x13_1, rfl, HA, HK1, ⟨m1, rfl⟩⟩ := hrel
    cases gk with
    | zero => exact absurd HA.out (by simp [api_Dot_106.l0])
    | succ k1 =>
     have H := HA.out
     clear HA
     simp only [api_Dot_106.l0] at H
     by_cases c4 : x13_1 < (l0.length : Int)
     · rw [if_pos c4] at H
       have c4b0 : decide (x13_1 < (l0.length : Int)) = true := decide_eq_true c4
       clear c4
       by_cases c5 : 0 ≤ x13_1
       · rw [if_pos c5] at H
         have c5b0 : decide (0 ≤ x13_1) = true := decide_eq_true c5
         clear c5
         by_cases c6 : x13_1 < (l0.length : Int)
         · rw [if_pos c6] at H
           have c6b0 : decide (x13_1 < (l0.length : Int)) = true := decide_eq_true c6
           clear c6
           by_cases c7 : x13_1 < (l1.length : Int)
           · rw [if_pos c7] at H
             have c7b0 : decide (x13_1 < (l1.length : Int)) = true := decide_eq_true c7
             clear c7
             by_cases c8 : (!((((rd_T34 l0 x13_1).f0).toList) == (((rd_T34 l1 x13_1).f0).toList)) || (!(((rd_T34 l0 x13_1).f1) == ((rd_T34 l1 x13_1).f1)))) = true
             · rw [if_pos c8] at H
               have c8b0 : (!((((rd_T34 l0 x13_1).f0).toList) == (((rd_T34 l1 x13_1).f0).toList)) || (!(((rd_T34 l0 x13_1).f1) == ((rd_T34 l1 x13_1).f1)))) = true := c8
               clear c8
               obtain rfl := Option.some.inj H
               have p140 : 0 ≤ (x13_1 : Int) := of_decide_eq_true (by first | (with_reducible assumption) | assumption)
               have q140 : x13_1 < (l0.length : Int) := of_decide_eq_true (by first | (with_reducible assumption) | assumption)
               obtain ⟨ad140, e140, hx140_0, hx140_1⟩ := at_T34 HR0.out x13_1 p140 q140
               cases e140
               replace p140 := eq_true p140
               replace q140 := eq_true q140
               have p141 : 0 ≤ (x13_1 : Int) := of_decide_eq_true (by first | (with_reducible assumption) | assumption)
               have q141 : x13_1 < (l1.length : Int) := of_decide_eq_true (by first | (with_reducible assumption) | assumption)
               obtain ⟨ad141, e141, hx141_0, hx141_1⟩ := at_T34 HR1.out x13_1 p141 q141
               cases e141
               replace p141 := eq_true p141
               replace q141 := eq_true q141
               go_wp2
               repeat (go_quiet (fail); try go_wp2)
               go_ret
               exact ⟨by first | rfl | (simp; done) | (simp [*]; done), by repeat (first | exact Drawn0.refl _ | apply Drawn0.step)⟩
             · rw [if_neg c8] at H
               have c8b0 : (!((((rd_T34 l0 x13_1).f0).toList) == (((rd_T34 l1 x13_1).f0).toList)) || (!(((rd_T34 l0 x13_1).f1) == ((rd_T34 l1 x13_1).f1)))) = false := by simpa using c8
               clear c8
               have H' := Aside0.mk H
               clear H
               have p140 : 0 ≤ (x13_1 : Int) := of_decide_eq_true (by first | (with_reducible assumption) | assumption)
               have q140 : x13_1 < (l0.length : Int) := of_decide_eq_true (by first | (with_reducible assumption) | assumption)
               obtain ⟨ad140, e140, hx140_0, hx140_1⟩ := at_T34 HR0.out x13_1 p140 q140
               cases e140
               replace p140 := eq_true p140
               replace q140 := eq_true q140
               have p141 : 0 ≤ (x13_1 : Int) := of_decide_eq_true (by first | (with_reducible assumption) | assumption)
               have q141 : x13_1 < (l1.length : Int) := of_decide_eq_true (by first | (with_reducible assumption) | assumption)
               obtain ⟨ad141, e141, hx141_0, hx141_1⟩ := at_T34 HR1.out x13_1 p141 q141
               cases e141
               replace p141 := eq_true p141
               replace q141 := eq_true q141
               go_wp2
               repeat (go_quiet (fail); try go_wp2)
               go_roundg k1
               case measure => have := HK1.out; omega
               case rel => exact ⟨(wrap64 (x13_1 + 1)), (by first | rfl | (simp; done) | (simp [*]; done)), H', ⟨by have := HK1.out; omega⟩, by repeat (first | exact Drawn0.refl _ | apply Drawn0.step)⟩
           · rw [if_neg c7] at H
             exact absurd H (by simp)
         · rw [if_neg c6] at H
           exact absurd H (by simp)
       · rw [if_neg c5] at H
         exact absurd H (by simp)
     · rw [if_neg c4] at H
       have c4b0 : decide (x13_1 < (l0.length : Int)) = false := decide_eq_false c4
       clear c4
       obtain rfl := Option.some.inj H
       go_wp2
       repeat (go_quiet (fail); try go_wp2)
       go_ret
       exact ⟨by first | rfl | (simp; done) | (simp [*]; done), by repeat (first | exact Drawn0.refl _ | apply Drawn0.step)⟩
 · rw [if_neg c3] at H
   have c3b0 : ((l0.length : Int) == (l1.length : Int)) = false := beq_eq_false_iff_ne.mpr c3
   have c3b1 : ((l0.length : Int) != (l1.length : Int)) = true := bne_iff_ne.mpr c3
   have c3b2 : (l0.length == l1.length) = false := by first | simpa using c3 | (simp at c3 ⊢; omega)
   obtain rfl := Option.some.inj H
   go_enter Try.func106, Try.ntmps106
   go_wp2
   repeat (go_quiet (fail); try go_wp2)
   go_ret
   exact ⟨by first | rfl | (simp; done) | (simp [*]; done), by repeat (first | exact Drawn0.refl _ | apply Drawn0.step)⟩
def order_equal.f (k : Nat) (a0_0 : ByteArray) (a0_1 : Int) (l0_2 : List (S34)) (a0_3 : ByteArray) (a0_4 : Int) (a0_5 : ByteArray) (a0_6 : Int) (l0_7 : List (S34)) (a1_0 : ByteArray) (a1_1 : Int) (l1_2 : List (S34)) (a1_3 : ByteArray) (a1_4 : Int) (a1_5 : ByteArray) (a1_6 : Int) (l1_7 : List (S34)) : Option (Bool) := if (a0_0.toList == a1_0.toList && (a0_1 == a1_1)) = true then (if a0_3.toList = a1_3.toList then (if a0_4 = a1_4 then (if a0_5.toList = a1_5.toList then (if a0_6 = a1_6 then ((api_Dot_106.f k l0_2 l1_2).bind fun t144 => (if t144 = true then ((api_Dot_106.f k l0_7 l1_7).bind fun t145 => (some t145)) else (some false))) else (some false)) else (some false)) else (some false)) else (some false)) else (some false)
theorem order_equal.mono : ∀ a0 a1 a2 a3 a4 a5 a6 a7 a8 a9 a10 a11 a12 a13 a14 a15 k, LeO (order_equal.f k a0 a1 a2 a3 a4 a5 a6 a7 a8 a9 a10 a11 a12 a13 a14 a15) (order_equal.f (k + 1) a0 a1 a2 a3 a4 a5 a6 a7 a8 a9 a10 a11 a12 a13 a14 a15) := by
 intro a0 a1 a2 a3 a4 a5 a6 a7 a8 a9 a10 a11 a12 a13 a14 a15 k
 unfold order_equal.f
 repeat' first
  | (with_reducible exact api_Dot_106.mono _ _ _)
  | (with_reducible exact LeO.refl _)
  | (with_reducible exact LeO.none _)
  | (with_reducible refine LeO.ite ?_ ?_)
  | (with_reducible refine LeO.bind ?_ (fun _ => ?_))
  | exact api_Dot_106.mono _ _ _
  | exact LeO.none _
  | refine LeO.ite ?_ ?_
  | refine LeO.bind ?_ (fun _ => ?_)
end Go.Proofs.Ytenbkljgmgdegaa.PO
end
section
namespace Go.Proofs.Ytenbkljgmgdegaa.PO
open Go.Proofs.Ytenbkljgmgdegaa
open Go.RowKit Go.Proofs.YtenbkljgmgdegaaW.PrintWords Go.Proofs.YtenbkljgmgdegaaW.PrintLast Go.Proofs.YtenbkljgmgdegaaW.PrintMore Go.Proofs.Ytenbkljgmgdegaa.XW
set_option linter.unusedVariables false
set_option linter.unusedSimpArgs false
def WfOp (x : S36) : Prop := x.f0.f0.size ≤ maxLen ∧ (∀ a, a ∈ x.f1 → a.f0.size ≤ maxLen) ∧ x.f2.size ≤ maxLen ∧ (Lit.int .i64 x.f3).wf = true ∧ x.f4.size ≤ maxLen ∧ (Lit.int .i64 x.f5).wf = true ∧ (∀ a, a ∈ x.f6 → a.f0.size ≤ maxLen)
theorem at_l0 (n : ByteArray) (l : List S34) (hl : l.length ≤ 9223372036854775807) : ∀ (k i : Nat), i ≤ l.length → l.length - i < k →
 vector_At.l0 k n l (l.length : Int) (i : Int) = some (atS n (l.drop i))
 | 0, i, _, h => by omega
 | k + 1, i, hi, h => by
   unfold vector_At.l0
   by_cases hlt : i < l.length
   · rw [if_pos (by omega), if_pos (by omega), if_pos (by omega), rd_drop l i hlt, atS]
     have ih := at_l0 n l hl k (i + 1) (by omega) (by omega)
     rw [wrap_succ hlt hl, ih]
     split <;> rfl
   · rw [if_neg (by omega), List.drop_eq_nil_of_le (by omega)]
     rfl
theorem at_f (n : ByteArray) (l : List S34) (hl : l.length ≤ 9223372036854775807) (k : Nat) (hk : l.length < k) : vector_At.f k l n = some (atS n l) := by
 unfold vector_At.f
 rw [show (0 : Int) = ((0 : Nat) : Int) from rfl, at_l0 n l hl k 0 (by omega) (by omega)]
 simp
theorem text_f (s : ByteArray) : order_isText.f s = some (decide (1 ≤ s.size) && decide (s.size ≤ 32)) := by
 unfold order_isText.f
 by_cases h : s.toList = []
 · rw [if_pos h]
   have : s.size = 0 := by rw [ByteArray.toList_eq] at h; have := congrArg List.length h; simpa using this
   simp [this]
 · rw [if_neg h]
   have : 1 ≤ s.size := by
    rcases Nat.eq_zero_or_pos s.size with h0 | h0
    · exact absurd (by rw [ByteArray.toList_eq]; exact List.eq_nil_of_length_eq_zero (by simpa using h0)) h
    · exact h0
   simp [this]; omega
def lessD (a b : S34) : Bool := Op.bytesLess a.f0.toList b.f0.toList || (decide (a.f0.toList = b.f0.toList) && decide (a.f1 < b.f1))
theorem stands_f (k : Nat) (hk : 3 ≤ k) (a b : S34) : ∃ t, order_stands.f k a.f0 a.f1 b.f0 b.f1 = some t ∧ (t ≥ 0 ↔ lessD a b = false) := by
 obtain ⟨k, rfl⟩ : ∃ m, k = m + 3 := ⟨k - 3, by omega⟩
 have hc := cmp_lt a.f0.toList b.f0.toList
 unfold order_stands.f strings_Compare.f cmp_Compare_int64.f cmp_isNaN_int64.f cmp_Or_int.f
 rw [ByteArray.toList_eq, ByteArray.toList_eq] at hc
 simp only [Option.bind_some, bne_self_eq_false, Bool.false_eq_true, if_false]
 obtain ⟨c, hcc⟩ : ∃ c, Lib.compareBytes a.f0.data.toList b.f0.data.toList = c := ⟨_, rfl⟩
 rw [hcc] at hc ⊢
 have e0 : ∀ x y : Int, rd ([x, y] : List Int) 0 = x := fun x y => rfl
 have e1 : ∀ x y : Int, rd ([x, y] : List Int) 1 = y := fun x y => rfl
 have w0 : wrap64 ((0 : Int) + 1) = 1 := by unfold wrap64; omega
 have w1 : wrap64 ((1 : Int) + 1) = 2 := by unfold wrap64; omega
 have key : ∀ d : Int, cmp_Or_int.l0 (k + 3) 0 [c, d] (([c, d] : List Int).length : Int) 0 = some (if c = 0 then d else c) := by
  intro d
  simp only [cmp_Or_int.l0, List.length_cons, List.length_nil]
  rw [if_pos (by omega), if_pos (by omega), if_pos (by omega), e0]
  by_cases h0 : c = 0
  · rw [if_pos h0, w0, if_pos (by omega), if_pos (by omega), if_pos (by omega), e1]
    by_cases h1 : d = 0
    · rw [if_pos h1, w1, if_neg (by omega), if_pos h0, h1]
    · rw [if_neg h1, if_pos h0]
  · rw [if_neg h0, if_neg h0]
 unfold lessD
 rw [ByteArray.toList_eq, ByteArray.toList_eq]
 by_cases h0 : c = 0
 · have he := hc.2.1 h0
   have hl : Op.bytesLess a.f0.data.toList b.f0.data.toList = false := by rw [he]; exact bl_irr _
   by_cases h1 : a.f1 < b.f1
   · rw [if_pos h1]; simp only [Option.bind_some, key]; exact ⟨_, rfl, by simp [h0, he, h1, bl_irr]⟩
   · rw [if_neg h1]
     by_cases h2 : a.f1 > b.f1
     · rw [if_pos h2]; simp only [Option.bind_some, key]; exact ⟨_, rfl, by simp [h0, he, h1, bl_irr]⟩
     · rw [if_neg h2]; simp only [Option.bind_some, key]; exact ⟨_, rfl, by simp [h0, he, h1, bl_irr]⟩
 · have he : ¬ a.f0.data.toList = b.f0.data.toList := fun h => h0 (hc.2.2 h)
   have h3 : c ≥ 0 ↔ Op.bytesLess a.f0.data.toList b.f0.data.toList = false := by
    cases hb : Op.bytesLess a.f0.data.toList b.f0.data.toList
    · have := mt hc.1.1 (by simp [hb]); simp; omega
    · have := hc.1.2 hb; simp; omega
   have fin : ∀ d : Int, (if c = 0 then d else c) ≥ 0 ↔ (Op.bytesLess a.f0.data.toList b.f0.data.toList || (decide (a.f0.data.toList = b.f0.data.toList) && decide (a.f1 < b.f1))) = false := fun d => by
    rw [if_neg h0]; simp [he]; simpa using h3
   by_cases h1 : a.f1 < b.f1
   · rw [if_pos h1]; simp only [Option.bind_some, key]; exact ⟨_, rfl, fin _⟩
   · rw [if_neg h1]
     by_cases h2 : a.f1 > b.f1
     · rw [if_pos h2]; simp only [Option.bind_some, key]; exact ⟨_, rfl, fin _⟩
     · rw [if_neg h2]; simp only [Option.bind_some, key]; exact ⟨_, rfl, fin _⟩
def seenS (deps : List S34) : Option S34 → List S34 → Bool
 | _, [] => true
 | p, x :: l => hasS deps x.f0 x.f1 && (match p with | none => true | some q => lessD q x) && seenS deps (some x) l
def kindS (o : S36) : Bool :=
 if o.f3 = 1 then decide (o.f6.length = 0) && decide (1 ≤ o.f5) && decide (o.f5 ≤ 9999)
 else if o.f3 = 2 then decide (1 ≤ o.f5) && decide (o.f5 ≤ 9999) else decide (o.f3 = 3) && decide (o.f5 = 0)
def rightO (o : S36) : Bool :=
 dotOk o.f0 && rightS o.f1 && decide (atS o.f0.f0 o.f1 = o.f0.f1 - 1) && (decide (1 ≤ o.f2.size) && decide (o.f2.size ≤ 32)) && (decide (1 ≤ o.f4.size) && decide (o.f4.size ≤ 32)) && decide (o.f6.length ≤ 128) && seenS o.f1 none o.f6 && kindS o
theorem rightS_one (d : S34) : rightS [d] = dotOk d := by
 unfold rightS
 simp only [rises, List.length_cons, List.length_nil, Bool.and_true]
 cases h : dotOk d
 · simp
 · have := dotOk_name h; rw [this]; simp
theorem kind_bool (o : S36) : (if o.f3 = 1 then (if (o.f6.length : Int) = 0 then (if o.f5 ≥ 1 then (some (decide (o.f5 ≤ 9999))) else (some false)) else (some false)) else (if o.f3 = 2 then (if o.f5 ≥ 1 then (some (decide (o.f5 ≤ 9999))) else (some false)) else (if o.f3 = 3 then (some (o.f5 == 0)) else (some false)))) = some (kindS o) := by
 unfold kindS
 by_cases h1 : o.f3 = 1
 · rw [if_pos h1, if_pos h1]
   by_cases h2 : o.f6.length = 0
   · rw [if_pos (by omega)]
     by_cases h3 : o.f5 ≥ 1
     · rw [if_pos h3]; simp [h2, h3]
     · rw [if_neg h3]; simp [h3]
   · rw [if_neg (by omega)]; simp [h2]
 · rw [if_neg h1, if_neg h1]
   by_cases h2 : o.f3 = 2
   · rw [if_pos h2, if_pos h2]
     by_cases h3 : o.f5 ≥ 1
     · rw [if_pos h3]; simp [h3]
     · rw [if_neg h3]; simp [h3]
   · rw [if_neg h2, if_neg h2]
     by_cases h3 : o.f3 = 3
     · rw [if_pos h3]; simp [h3]; rfl
     · rw [if_neg h3]; simp [h3]
theorem orderRight_l0 (o : S36) (h1 : o.f1.length ≤ 9223372036854775807) (h6 : o.f6.length ≤ 9223372036854775807) : ∀ (k i : Nat), i ≤ o.f6.length → o.f6.length - i + o.f1.length + 3 < k →
 order_Right.l0 k o.f6 (o.f6.length : Int) (i : Int) o.f0.f0 o.f0.f1 o.f1 o.f2 o.f3 o.f4 o.f5 o.f6 = some (seenS o.f1 (if i = 0 then none else some (rd_T34 o.f6 ((i - 1 : Nat) : Int))) (o.f6.drop i) && kindS o)
 | 0, i, _, h => by omega
 | k + 1, i, hi, h => by
   unfold order_Right.l0
   by_cases hlt : i < o.f6.length
   · rw [if_pos (by omega), if_pos (by omega), if_pos (by omega), has_f _ h1 _ _ k (by omega), Option.bind_some, rd_drop _ i hlt]
     unfold seenS
     have ih := orderRight_l0 o h1 h6 k (i + 1) (by omega) (by omega)
     rw [if_neg (by omega), Nat.add_sub_cancel] at ih
     cases hh : hasS o.f1 (rd_T34 o.f6 (i : Int)).f0 (rd_T34 o.f6 (i : Int)).f1
     · simp
     · rw [if_pos rfl]
       by_cases h0 : i = 0
       · subst h0
         rw [if_neg (by omega), wrap_succ hlt h6, ih]
         simp
       · have hw : wrap64 ((i : Int) - 1) = ((i - 1 : Nat) : Int) := by unfold wrap64; omega
         obtain ⟨t, ht, ht2⟩ := stands_f k (by omega) (rd_T34 o.f6 ((i - 1 : Nat) : Int)) (rd_T34 o.f6 (i : Int))
         rw [if_pos (by omega), hw, if_pos (by omega), if_pos (by omega), ht, Option.bind_some, if_neg h0]
         cases hl : lessD (rd_T34 o.f6 ((i - 1 : Nat) : Int)) (rd_T34 o.f6 (i : Int))
         · rw [if_pos (ht2.2 hl)]; simp [hl]
         · rw [if_neg (fun h => by have := ht2.1 h; rw [hl] at this; cases this), wrap_succ hlt h6, ih]; simp [hl]
   · rw [if_neg (by omega), List.drop_eq_nil_of_le (by omega), kind_bool]
     simp [seenS]
theorem orderRight_j0 (k : Nat) (o : S36) (h1 : o.f1.length ≤ 9223372036854775807) (h6 : o.f6.length ≤ 9223372036854775807) (hk : o.f6.length + o.f1.length + 4 < k) (b : Bool) :
 order_Right.j0 k b o.f0.f0 o.f0.f1 o.f1 o.f2 o.f3 o.f4 o.f5 o.f6 = some (!b && (seenS o.f1 none o.f6 && kindS o)) := by
 obtain ⟨k, rfl⟩ : ∃ m, k = m + 1 := ⟨k - 1, by omega⟩
 unfold order_Right.j0
 have := orderRight_l0 o h1 h6 k 0 (by omega) (by omega)
 rw [show ((0 : Nat) : Int) = 0 from rfl] at this
 cases b
 · show (if false = true then some false else _) = _
   rw [if_neg (by simp), this]; simp
 · show (if true = true then some false else _) = _
   rw [if_pos rfl]; simp
theorem orderRight_f (o : S36) (h1 : o.f1.length ≤ 9223372036854775807) (h6 : o.f6.length ≤ 9223372036854775807) (k : Nat) (hk : o.f6.length + o.f1.length + 4 < k) :
 order_Right.f k o.f0.f0 o.f0.f1 o.f1 o.f2 o.f3 o.f4 o.f5 o.f6 = some (rightO o) := by
 unfold order_Right.f rightO
 rw [right_f _ (by simp) k (by simp; omega), right_f _ h1 k (by omega), at_f _ _ h1 k (by omega), text_f, text_f]
 simp only [Option.bind_some]
 rw [show rightS [⟨o.f0.f0, o.f0.f1⟩] = dotOk o.f0 from rightS_one _]
 cases hd : dotOk o.f0
 · rw [if_neg (by simp), orderRight_j0 k o h1 h6 hk]; simp
 rw [if_pos rfl]
 cases hr : rightS o.f1
 · rw [if_neg (by simp), orderRight_j0 k o h1 h6 hk]; simp
 rw [if_pos rfl]
 have hw : wrap64 (o.f0.f1 - 1) = o.f0.f1 - 1 := by have := dot_parts (n := o.f0.f0) (d := o.f0.f1) hd; unfold wrap64; omega
 rw [hw]
 by_cases ha : atS o.f0.f0 o.f1 = o.f0.f1 - 1
 · rw [if_pos ha]
   cases h2 : (decide (1 ≤ o.f2.size) && decide (o.f2.size ≤ 32))
   · rw [if_neg (by simp), orderRight_j0 k o h1 h6 hk]; simp
   rw [if_pos rfl]
   cases h4 : (decide (1 ≤ o.f4.size) && decide (o.f4.size ≤ 32))
   · rw [if_neg (by simp), orderRight_j0 k o h1 h6 hk]; simp
   rw [if_pos rfl, orderRight_j0 k o h1 h6 hk]
   have : (!decide ((o.f6.length : Int) > 128)) = decide (o.f6.length ≤ 128) := by
    rw [Bool.eq_iff_iff]; simp; omega
   rw [this]
   simp [ha, Bool.and_assoc]
 · rw [if_neg ha, orderRight_j0 k o h1 h6 hk]; simp [ha]
theorem eqDots_l0 (a b : List S34) (hl : a.length = b.length) (ha : a.length ≤ 9223372036854775807) : ∀ (k i : Nat), i ≤ a.length → a.length - i < k →
 api_Dot_106.l0 k a b (a.length : Int) (i : Int) = some (decide (a.drop i = b.drop i))
 | 0, i, _, h => by omega
 | k + 1, i, hi, h => by
   unfold api_Dot_106.l0
   by_cases hlt : i < a.length
   · rw [if_pos (by omega), if_pos (by omega), if_pos (by omega), if_pos (by omega), rd_drop a i hlt, rd_drop b i (by omega)]
     have ih := eqDots_l0 a b hl ha k (i + 1) (by omega) (by omega)
     rw [wrap_succ hlt ha, ih]
     obtain ⟨x0, x1⟩ := rd_T34 a i
     obtain ⟨y0, y1⟩ := rd_T34 b i
     by_cases e0 : x0 = y0
     · by_cases e1 : x1 = y1
       · subst e0; subst e1; simp
       · rw [if_pos (by simp [e1])]; simp [e1]
     · have : ¬ x0.toList = y0.toList := fun h => e0 (bytes_inj h)
       rw [if_pos (by simp [this])]; simp [e0]
   · rw [if_neg (by omega), List.drop_eq_nil_of_le (by omega), List.drop_eq_nil_of_le (by omega)]
     simp
theorem eqDots_f (a b : List S34) (ha : a.length ≤ 9223372036854775807) (k : Nat) (hk : a.length < k) : api_Dot_106.f k a b = some (decide (a = b)) := by
 unfold api_Dot_106.f
 by_cases hl : a.length = b.length
 · have := eqDots_l0 a b hl ha k 0 (by omega) (by omega)
   rw [if_pos (by omega), show (0 : Int) = ((0 : Nat) : Int) from rfl, this]; simp
 · rw [if_neg (by omega)]
   have : ¬ a = b := fun h => hl (by rw [h])
   simp [this]
theorem equalO_f (a b : S36) (h1 : a.f1.length ≤ 9223372036854775807) (h6 : a.f6.length ≤ 9223372036854775807) (k : Nat) (hk1 : a.f1.length < k) (hk6 : a.f6.length < k) :
 order_equal.f k a.f0.f0 a.f0.f1 a.f1 a.f2 a.f3 a.f4 a.f5 a.f6 b.f0.f0 b.f0.f1 b.f1 b.f2 b.f3 b.f4 b.f5 b.f6 = some (decide (a = b)) := by
 unfold order_equal.f
 rw [eqDots_f _ _ h1 k hk1, eqDots_f _ _ h6 k hk6]
 obtain ⟨⟨a00, a01⟩, a1, a2, a3, a4, a5, a6⟩ := a
 obtain ⟨⟨b00, b01⟩, b1, b2, b3, b4, b5, b6⟩ := b
 have inj : ∀ x y : ByteArray, (x.toList = y.toList) ↔ x = y := fun x y => ⟨bytes_inj, fun h => by rw [h]⟩
 have injB : ∀ x y : ByteArray, (x.toList == y.toList) = decide (x = y) := fun x y => by rw [Bool.eq_iff_iff]; simp [inj]
 simp only [inj, injB, Option.bind_some, S36.mk.injEq, S34.mk.injEq]
 by_cases c0 : a00 = b00 <;> by_cases c1 : a01 = b01 <;> by_cases c2 : a2 = b2 <;> by_cases c3 : a3 = b3 <;> by_cases c4 : a4 = b4 <;> by_cases c5 : a5 = b5 <;> by_cases c6 : a1 = b1 <;> by_cases c7 : a6 = b6 <;> simp [c0, c1, c2, c3, c4, c5, c6, c7]
end Go.Proofs.Ytenbkljgmgdegaa.PO
end
