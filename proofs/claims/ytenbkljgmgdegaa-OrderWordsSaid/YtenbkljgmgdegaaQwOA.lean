/- What the rows of this claim use, out of the texts of this work (OA). No condition beyond those that each statement names. -/
import Derived.Test.YtenbkljgmgdegaaQwPOx9
import Derived.Test.YtenbkljgmgdegaaQwPOx8
import Derived.Test.YtenbkljgmgdegaaQwPOx7
import Derived.Test.YtenbkljgmgdegaaQwPOx3
namespace Go.Proofs.Ytenbkljgmgdegaa.PO
open Go.RowKit Go.Proofs.YtenbkljgmgdegaaW.PrintWords Go.Proofs.YtenbkljgmgdegaaW.PrintLast Go.Proofs.YtenbkljgmgdegaaW.PrintMore Go.Proofs.Ytenbkljgmgdegaa.XW
set_option linter.unusedVariables false
set_option linter.unusedSimpArgs false
theorem bl_cons (x y : UInt8) (a b : List UInt8) : (Op.bytesLess (x :: a) (y :: b) = true) ↔ (x.toNat < y.toNat ∨ (x = y ∧ Op.bytesLess a b = true)) := by
 simp [Op.bytesLess, UInt8.lt_iff_toNat_lt]
theorem bl_nil (a : List UInt8) : Op.bytesLess a [] = false := by cases a <;> rfl
theorem bl_trans : ∀ a b c : List UInt8, Op.bytesLess a b = true → Op.bytesLess b c = true → Op.bytesLess a c = true
 | _, _, [], _, h => by rw [bl_nil] at h; cases h
 | _, [], _ :: _, h, _ => by rw [bl_nil] at h; cases h
 | [], _ :: _, _ :: _, _, _ => rfl
 | x :: a, y :: b, z :: c, h, k => by
   rw [bl_cons] at h k ⊢
   rcases h with h | ⟨rfl, h⟩
   · rcases k with k | ⟨rfl, k⟩
     · exact .inl (by omega)
     · exact .inl h
   · rcases k with k | ⟨rfl, k⟩
     · exact .inl k
     · exact .inr ⟨rfl, bl_trans a b c h k⟩
theorem bl_irr (a : List UInt8) : Op.bytesLess a a = false := bytesLess_irrefl a
theorem bl_tri {a b : List UInt8} (h : Op.bytesLess a b = false) (k : Op.bytesLess b a = false) : a = b := by
 have := bytesLess_or_eq a b
 rw [h, k] at this
 simpa using this
theorem cmp_lt : ∀ a b : List UInt8, (Lib.compareBytes a b < 0 ↔ Op.bytesLess a b = true) ∧ (Lib.compareBytes a b = 0 ↔ a = b)
 | [], [] => by simp [Lib.compareBytes, Op.bytesLess]
 | [], _ :: _ => by simp [Lib.compareBytes, Op.bytesLess]
 | _ :: _, [] => by simp [Lib.compareBytes, Op.bytesLess]
 | x :: a, y :: b => by
   have ih := cmp_lt a b
   rw [bl_cons]
   unfold Lib.compareBytes
   by_cases h : x < y
   · rw [if_pos h]
     have h' := UInt8.lt_iff_toNat_lt.mp h
     refine ⟨⟨fun _ => .inl h', fun _ => by decide⟩, ⟨fun h => absurd h (by decide), fun e => ?_⟩⟩
     injection e with e _
     subst e
     omega
   · rw [if_neg h]
     have hn : ¬ x.toNat < y.toNat := fun k => h (UInt8.lt_iff_toNat_lt.mpr k)
     by_cases k : y < x
     · rw [if_pos k]
       have k' := UInt8.lt_iff_toNat_lt.mp k
       refine ⟨⟨fun h => absurd h (by decide), fun e => ?_⟩, ⟨fun h => absurd h (by decide), fun e => ?_⟩⟩
       · rcases e with e | ⟨rfl, _⟩ <;> omega
       · injection e with e _
         subst e
         omega
     · rw [if_neg k]
       have kn : ¬ y.toNat < x.toNat := fun h => k (UInt8.lt_iff_toNat_lt.mpr h)
       obtain rfl : x = y := UInt8.toNat.inj (by omega)
       refine ⟨⟨fun h => .inr ⟨rfl, ih.1.1 h⟩, fun e => ?_⟩, ?_⟩
       · rcases e with e | ⟨_, e⟩
         · exact absurd e hn
         · exact ih.1.2 e
       · rw [ih.2]
         simp
theorem toList_inj {a b : ByteArray} (h : a.toList = b.toList) : a = b := by
 rw [ByteArray.toList_eq, ByteArray.toList_eq] at h
 exact WideShapes.bytes_inj h
def dotOk (x : S34) : Bool := isNameB x.f0 && decide (1 ≤ x.f1) && decide (x.f1 ≤ 4611686018427387904)
def rises (was : ByteArray) : List S34 → Bool
 | [] => true
 | x :: l => dotOk x && Op.bytesLess was.toList x.f0.toList && rises x.f0 l
def rightS (l : List S34) : Bool := decide (l.length ≤ 64) && rises ⟨#[]⟩ l
theorem isDot_f (n : ByteArray) (d : Int) : vector_isDot.f n d = some (dotOk ⟨n, d⟩) := by
 unfold vector_isDot.f vector_IsName.f dotOk
 simp only [Option.bind_some]
 cases isNameB n <;> simp
 by_cases h : 1 ≤ d <;> simp [h]
theorem rd_drop (l : List S34) (i : Nat) (h : i < l.length) : l.drop i = rd_T34 l i :: l.drop (i + 1) := by
 rw [List.drop_eq_getElem_cons h, rd_T34]
 congr 1
 simp [List.getD, h]
theorem wrap_succ {i : Nat} {n : Nat} (h : i < n) (hn : n ≤ 9223372036854775807) : wrap64 ((i : Int) + 1) = ((i + 1 : Nat) : Int) := by
 unfold wrap64
 omega
theorem right_l0 (l : List S34) (hl : l.length ≤ 9223372036854775807) : ∀ (k i : Nat) (was : ByteArray), i ≤ l.length → l.length - i < k →
 vector_Right.l0 k was true l (l.length : Int) (i : Int) = some (rises was (l.drop i))
 | 0, i, was, _, h => by omega
 | k + 1, i, was, hi, h => by
   unfold vector_Right.l0
   by_cases hlt : i < l.length
   · rw [if_pos (by omega), if_pos (by omega), if_pos (by omega), if_pos rfl, rd_drop l i hlt, isDot_f, Option.bind_some, rises]
     have ih := right_l0 l hl k (i + 1) (rd_T34 l i).f0 (by omega) (by omega)
     rw [wrap_succ hlt hl, ih]
     cases dotOk (rd_T34 l i) <;> simp
     cases Op.bytesLess was.toList (rd_T34 l i).f0.toList <;> simp
   · rw [if_neg (by omega), List.drop_eq_nil_of_le (by omega)]
     rfl
theorem right_f (l : List S34) (hl : l.length ≤ 9223372036854775807) (k : Nat) (hk : l.length < k) : vector_Right.f k l = some (rightS l) := by
 unfold vector_Right.f rightS
 by_cases h : l.length ≤ 64
 · rw [show decide ((l.length : Int) ≤ 64) = true from by simp; omega]
   have := right_l0 l hl k 0 ⟨#[]⟩ (by omega) (by omega)
   rw [show ((0 : Nat) : Int) = 0 from rfl, List.drop_zero] at this
   rw [this]
   simp [h]
 · rw [show decide ((l.length : Int) ≤ 64) = false from by simp; omega]
   obtain ⟨k, rfl⟩ : ∃ m, k = m + 1 := ⟨k - 1, by omega⟩
   unfold vector_Right.l0
   rw [if_pos (by omega), if_pos (by omega), if_pos (by omega)]
   simp [h]
def sizes (m : Nat) (l : List S34) : Prop := ∀ x, x ∈ l → x.f0.size ≤ m
theorem dotOk_name {x : S34} (h : dotOk x = true) : Op.bytesLess (⟨#[]⟩ : ByteArray).toList x.f0.toList = true := by
 simp only [dotOk, isNameB, Bool.and_eq_true, decide_eq_true_eq] at h
 rw [ByteArray.toList_eq, ByteArray.toList_eq]
 have : 0 < x.f0.data.toList.length := by simp; omega
 cases hh : x.f0.data.toList with
 | nil => rw [hh] at this; cases this
 | cons a b => rfl
def atS (n : ByteArray) : List S34 → Int
 | [] => 0
 | x :: l => if x.f0.toList = n.toList then x.f1 else atS n l
theorem refAt_l0 (n : ByteArray) (l : List S34) (hl : l.length ≤ 9223372036854775807) : ∀ (k i : Nat), i ≤ l.length → l.length - i < k →
 pannierref07_At.l0 k l n (i : Int) = some (atS n (l.drop i))
 | 0, i, _, h => by omega
 | k + 1, i, hi, h => by
   unfold pannierref07_At.l0
   by_cases hlt : i < l.length
   · rw [if_pos (by omega), if_pos (by omega), rd_drop l i hlt, atS]
     have ih := refAt_l0 n l hl k (i + 1) (by omega) (by omega)
     rw [wrap_succ hlt hl, ih]
     split <;> rfl
   · rw [if_neg (by omega), List.drop_eq_nil_of_le (by omega)]
     rfl
theorem refAt_f (n : ByteArray) (l : List S34) (hl : l.length ≤ 9223372036854775807) (k : Nat) (hk : l.length < k) : pannierref07_At.f k l n = some (atS n l) := by
 unfold pannierref07_At.f
 rw [show (0 : Int) = ((0 : Nat) : Int) from rfl, refAt_l0 n l hl k 0 (by omega) (by omega)]
 simp
theorem rises_at : ∀ (l : List S34) (was : ByteArray), rises was l = true → ∀ j, j < l.length → Op.bytesLess was.toList (l.getD j z34).f0.toList = true
 | [], _, _, j, hj => by simp at hj
 | x :: l, was, h, j, hj => by
   simp only [rises, Bool.and_eq_true] at h
   cases j with
   | zero => exact h.1.2
   | succ j => exact bl_trans _ _ _ h.1.2 (by have := rises_at l x.f0 h.2 j (by simpa using hj); simpa [List.getD] using this)
theorem rises_drop : ∀ (l : List S34) (was : ByteArray), rises was l = true → ∀ i, i < l.length → rises (l.getD i z34).f0 (l.drop (i + 1)) = true
 | [], _, _, i, hi => by simp at hi
 | x :: l, was, h, i, hi => by
   simp only [rises, Bool.and_eq_true] at h
   cases i with
   | zero => exact h.2
   | succ i => have := rises_drop l x.f0 h.2 i (by simpa using hi); simpa [List.getD] using this
theorem rises_two (l : List S34) (was : ByteArray) (h : rises was l = true) (i j : Nat) (hij : i < j) (hj : j < l.length) : Op.bytesLess (l.getD i z34).f0.toList (l.getD j z34).f0.toList = true := by
 have h1 := rises_drop l was h i (by omega)
 have h2 := rises_at _ _ h1 (j - i - 1) (by simp; omega)
 have : (l.drop (i + 1)).getD (j - i - 1) z34 = l.getD j z34 := by
  simp only [List.getD, List.getElem?_drop]
  rw [show i + 1 + (j - i - 1) = j by omega]
 rwa [this] at h2
theorem cmpS_lt (l : List S34) (i : Nat) (n : ByteArray) : (cmpS l i n < 0 ↔ Op.bytesLess (l.getD i z34).f0.toList n.toList = true) ∧ (cmpS l i n = 0 ↔ (l.getD i z34).f0.toList = n.toList) := by
 unfold cmpS
 rw [ByteArray.toList_eq, ByteArray.toList_eq]
 exact cmp_lt _ _
theorem bsL_spec (l : List S34) (n : ByteArray) (was : ByteArray) (h : rises was l = true) : ∀ fuel i j, i ≤ j → j ≤ l.length → j - i < fuel →
 (∀ q, q < i → cmpS l q n < 0) → (∀ q, j ≤ q → q < l.length → ¬ cmpS l q n < 0) →
 i ≤ bsL l n fuel i j ∧ bsL l n fuel i j ≤ j ∧ (∀ q, q < bsL l n fuel i j → cmpS l q n < 0) ∧ (∀ q, bsL l n fuel i j ≤ q → q < l.length → ¬ cmpS l q n < 0)
 | 0, i, j, _, _, hf, _, _ => by omega
 | fuel + 1, i, j, hij, hj, hf, hA, hB => by
   unfold bsL
   by_cases hlt : i < j
   · rw [if_pos hlt]
     by_cases hc : cmpS l ((i + j) / 2) n < 0
     · rw [if_pos hc]
       have ih := bsL_spec l n was h fuel ((i + j) / 2 + 1) j (by omega) hj (by omega) (fun q hq => ?_) hB
       · exact ⟨by omega, ih.2.1, ih.2.2⟩
       · rcases Nat.lt_or_ge q ((i + j) / 2) with hq' | hq'
         · exact ((cmpS_lt l q n).1).2 (bl_trans _ _ _ (rises_two l was h q _ hq' (by omega)) ((cmpS_lt l _ n).1.1 hc))
         · obtain rfl : q = (i + j) / 2 := by omega
           exact hc
     · rw [if_neg hc]
       have ih := bsL_spec l n was h fuel i ((i + j) / 2) (by omega) (by omega) (by omega) hA (fun q hq hq2 => ?_)
       · exact ⟨ih.1, by omega, ih.2.2⟩
       · rcases Nat.lt_or_ge ((i + j) / 2) q with hq' | hq'
         · exact fun hh => hc (((cmpS_lt l _ n).1).2 (bl_trans _ _ _ (rises_two l was h _ q hq' hq2) ((cmpS_lt l q n).1.1 hh)))
         · obtain rfl : q = (i + j) / 2 := by omega
           exact hc
   · rw [if_neg hlt]
     exact ⟨Nat.le_refl _, hij, hA, fun q hq => hB q (by omega)⟩
theorem atS_none (n : ByteArray) : ∀ l : List S34, (∀ q, q < l.length → (l.getD q z34).f0.toList ≠ n.toList) → atS n l = 0
 | [], _ => rfl
 | x :: l, h => by
   rw [atS, if_neg (by have := h 0 (by simp); simpa [List.getD] using this)]
   exact atS_none n l (fun q hq => by have := h (q + 1) (by simpa using hq); simpa [List.getD] using this)
theorem atS_some (n : ByteArray) : ∀ (l : List S34) (p : Nat), p < l.length → (∀ q, q < p → (l.getD q z34).f0.toList ≠ n.toList) → (l.getD p z34).f0.toList = n.toList → atS n l = (l.getD p z34).f1
 | [], p, hp, _, _ => by simp at hp
 | x :: l, 0, _, _, h => by rw [atS, if_pos (by simpa [List.getD] using h)]; rfl
 | x :: l, p + 1, hp, hq, h => by
   rw [atS, if_neg (by have := hq 0 (by omega); simpa [List.getD] using this)]
   have := atS_some n l p (by simpa using hp) (fun q hq' => by have := hq (q + 1) (by omega); simpa [List.getD] using this) (by simpa [List.getD] using h)
   rw [this]
   simp [List.getD]
theorem find_at (l : List S34) (n : ByteArray) (was : ByteArray) (h : rises was l = true) (hl : l.length ≤ 1000000) : vector_at.f l n = some (atS n l) := by
 have hs := bsL_spec l n was h (l.length + 1) 0 l.length (by omega) (by omega) (by omega) (fun q hq => by omega) (fun q h1 h2 => by omega)
 unfold vector_at.f vector_find.f
 rw [if_pos hl, Option.bind_some]
 have hix : findIx l n = bsL l n (l.length + 1) 0 l.length := rfl
 rw [← hix] at hs
 obtain ⟨_, hp, hA, hB⟩ := hs
 have hne : ∀ q, q < findIx l n → (l.getD q z34).f0.toList ≠ n.toList := fun q hq he => by
  have := hA q hq
  rw [(cmpS_lt l q n).2.2 he] at this
  exact absurd this (by decide)
 by_cases hlt : findIx l n < l.length
 · by_cases hc : cmpS l (findIx l n) n = 0
   · have hh : findHit l n = true := by unfold findHit; rw [if_pos hlt, hc]; rfl
     simp only [hh, if_true]
     rw [if_pos (by omega), if_pos (by omega), atS_some n l (findIx l n) hlt hne ((cmpS_lt l _ n).2.1 hc)]
     simp [rd_T34]
   · have hh : findHit l n = false := by unfold findHit; rw [if_pos hlt]; simpa using hc
     simp only [hh, Bool.false_eq_true, if_false]
     rw [atS_none n l (fun q hq he => ?_)]
     rcases Nat.lt_or_ge q (findIx l n) with h1 | h1
     · exact hne q h1 he
     · have h0 := hB (findIx l n) (Nat.le_refl _) hlt
       rcases Nat.lt_or_ge (findIx l n) q with h2 | h2
       · have h3 := rises_two l was h _ q h2 hq
         rw [he] at h3
         exact h0 ((cmpS_lt l _ n).1.2 h3)
       · obtain rfl : q = findIx l n := by omega
         exact hc ((cmpS_lt l _ n).2.2 he)
 · have hh : findHit l n = false := by unfold findHit; rw [if_neg hlt]
   simp only [hh, Bool.false_eq_true, if_false]
   rw [atS_none n l (fun q hq => hne q (by omega))]
def hasS (l : List S34) (n : ByteArray) (d : Int) : Bool := rightS l && dotOk ⟨n, d⟩ && decide (d ≤ atS n l)
theorem rightS_le {l : List S34} (h : rightS l = true) : l.length ≤ 64 ∧ rises ⟨#[]⟩ l = true := by
 simpa [rightS] using h
theorem has_f (l : List S34) (hl : l.length ≤ 9223372036854775807) (n : ByteArray) (d : Int) (k : Nat) (hk : l.length < k) : vector_Has.f k l n d = some (hasS l n d) := by
 unfold vector_Has.f hasS
 rw [right_f l hl k hk, Option.bind_some, isDot_f, Option.bind_some]
 cases hr : rightS l
 · simp
 · obtain ⟨h1, h2⟩ := rightS_le hr
   rw [find_at l n _ h2 (by omega), Option.bind_some]
   cases dotOk ⟨n, d⟩ <;> simp
theorem mrg_len (a b : List S34) : (mrg a b).length ≤ a.length + b.length := by
 induction a, b using mrg.induct with
 | case1 => simp [mrg]
 | case2 y b ih => rw [mrg_y]; simp only [List.length_cons, List.length_nil] at ih ⊢; omega
 | case3 x a ih => rw [mrg_x]; simp only [List.length_cons, List.length_nil] at ih ⊢; omega
 | case4 x a y b h ih => rw [mrg_xy, if_pos h]; simp only [List.length_cons] at ih ⊢; omega
 | case5 x a y b h h2 ih => rw [mrg_xy, if_neg h, if_pos h2]; simp only [List.length_cons] at ih ⊢; omega
 | case6 x a y b h h2 ih => rw [mrg_xy, if_neg h, if_neg h2]; simp only [List.length_cons] at ih ⊢; omega
def above (was : ByteArray) (l : List S34) : Prop := ∀ x, x ∈ l → Op.bytesLess was.toList x.f0.toList = true
theorem rises_above : ∀ (l : List S34) (was : ByteArray), rises was l = true → above was l
 | [], _, _ => fun x hx => by cases hx
 | y :: l, was, h => fun x hx => by
   simp only [rises, Bool.and_eq_true] at h
   rcases List.mem_cons.1 hx with rfl | hx
   · exact h.1.2
   · exact bl_trans _ _ _ h.1.2 (rises_above l y.f0 h.2 x hx)
theorem rises_tail {x : S34} {l : List S34} {was : ByteArray} (h : rises was (x :: l) = true) : rises x.f0 l = true := by
 simp only [rises, Bool.and_eq_true] at h; exact h.2
theorem rises_pos {l : List S34} {was : ByteArray} : ∀ {x : S34}, rises was l = true → x ∈ l → 1 ≤ x.f1 ∧ x.f1 ≤ 4611686018427387904 := by
 induction l generalizing was with
 | nil => intro x _ hx; cases hx
 | cons y l ih =>
   intro x h hx
   simp only [rises, dotOk, Bool.and_eq_true, decide_eq_true_eq] at h
   rcases List.mem_cons.1 hx with rfl | hx
   · exact ⟨h.1.1.1.2, h.1.1.2⟩
   · exact ih h.2 hx
theorem atS_above {n : ByteArray} {l : List S34} (h : above n l) : atS n l = 0 := by
 refine atS_none n l (fun q hq he => ?_)
 have := h (l.getD q z34) (by rw [show l.getD q z34 = l[q] by simp [List.getD, hq]]; exact List.getElem_mem hq)
 rw [he, bl_irr] at this
 cases this
theorem atS_skip {n : ByteArray} {x : S34} {l : List S34} (h : Op.bytesLess x.f0.toList n.toList = true) : atS n (x :: l) = atS n l := by
 rw [atS, if_neg (fun e => by rw [e, bl_irr] at h; cases h)]
def putS : List S34 → ByteArray → Int → List S34
 | [], w, n => [⟨w, n⟩]
 | x :: l, w, n => if Op.bytesLess x.f0.toList w.toList = true then x :: putS l w n else if x.f0.toList = w.toList then ⟨w, n⟩ :: l else ⟨w, n⟩ :: x :: l
theorem putS_skip {x : S34} {l : List S34} {w : ByteArray} {n : Int} (h : Op.bytesLess x.f0.toList w.toList = true) : putS (x :: l) w n = x :: putS l w n := by rw [putS, if_pos h]
theorem putS_len : ∀ (l : List S34) (w : ByteArray) (n : Int), (putS l w n).length ≤ l.length + 1
 | [], _, _ => by simp [putS]
 | x :: l, w, n => by
   have := putS_len l w n
   unfold putS
   split
   · simp only [List.length_cons]; omega
   · split <;> simp
def asc : List S34 → Prop
 | [] => True
 | x :: l => above x.f0 l ∧ asc l
theorem rises_asc : ∀ (l : List S34) (was : ByteArray), rises was l = true → asc l
 | [], _, _ => trivial
 | x :: l, was, h => ⟨rises_above l x.f0 (rises_tail h), rises_asc l x.f0 (rises_tail h)⟩
def qf (at' : ByteArray → Int) : List S34 → Bool
 | [] => true
 | x :: a => decide (x.f1 ≤ at' x.f0) && qf at' a
theorem qf_mrg (a b : List S34) : ∀ (wa wb : ByteArray) (at' : ByteArray → Int), rises wa a = true → rises wb b = true → (∀ x, x ∈ a → at' x.f0 = atS x.f0 b) → qf at' a = leqM (mrg a b) := by
 induction a, b using mrg.induct with
 | case1 => intro wa wb at' _ _ _; simp [mrg, leqM, qf]
 | case2 y b ih =>
   intro wa wb at' ha hb hat
   have h1 := ih wa y.f0 at' rfl (rises_tail hb) (fun z hz => by cases hz)
   have h2 := (rises_pos hb (by simp : y ∈ y :: b)).1
   rw [mrg_y]
   simp only [leqM, List.all_cons] at h1 ⊢
   rw [← h1, show decide ((0 : Int) ≤ y.f1) = true from by simp; omega]
   rfl
 | case3 x a ih =>
   intro wa wb at' ha hb hat
   have h2 := (rises_pos ha (by simp : x ∈ x :: a)).1
   rw [mrg_x, qf, hat x (by simp), atS]
   simp only [leqM, List.all_cons]
   rw [show decide (x.f1 ≤ 0) = false from by simp; omega]
   rfl
 | case4 x a y b h ih =>
   intro wa wb at' ha hb hat
   have hab : above x.f0 (y :: b) := fun z hz => by
    rcases List.mem_cons.1 hz with rfl | hz
    · exact h
    · exact bl_trans _ _ _ h (rises_above b y.f0 (rises_tail hb) z hz)
   have h2 := (rises_pos ha (by simp : x ∈ x :: a)).1
   rw [mrg_xy, if_pos h, qf, hat x (by simp), atS_above hab]
   simp only [leqM, List.all_cons]
   rw [show decide (x.f1 ≤ 0) = false from by simp; omega]
   rfl
 | case5 x a y b h h2 ih =>
   intro wa wb at' ha hb hat
   have hxa : ∀ z, z ∈ x :: a → Op.bytesLess y.f0.toList z.f0.toList = true := fun z hz => by
    rcases List.mem_cons.1 hz with rfl | hz
    · exact h2
    · exact bl_trans _ _ _ h2 (rises_above a x.f0 (rises_tail ha) z hz)
   have h3 := (rises_pos hb (by simp : y ∈ y :: b)).1
   have h1 := ih wa y.f0 at' ha (rises_tail hb) (fun z hz => by rw [hat z hz, atS_skip (hxa z hz)])
   rw [mrg_xy, if_neg h, if_pos h2]
   simp only [leqM, List.all_cons] at h1 ⊢
   rw [← h1, show decide ((0 : Int) ≤ y.f1) = true from by simp; omega]
   rfl
 | case6 x a y b h h2 ih =>
   intro wa wb at' ha hb hat
   have he : x.f0.toList = y.f0.toList := bl_tri (Bool.eq_false_iff.mpr h) (Bool.eq_false_iff.mpr h2)
   have hax := rises_above a x.f0 (rises_tail ha)
   have h1 := ih x.f0 y.f0 at' (rises_tail ha) (rises_tail hb) (fun z hz => by rw [hat z (by simp [hz]), atS_skip (by rw [← he]; exact hax z hz)])
   rw [mrg_xy, if_neg h, if_neg h2, qf, hat x (by simp), atS, if_pos he.symm]
   simp only [leqM, List.all_cons] at h1 ⊢
   rw [h1]
def leqS (a b : List S34) : Bool := rightS a && rightS b && leqM (mrg a b)
theorem leq_f (a b : List S34) (ha : a.length ≤ 9223372036854775807) (hb : b.length ≤ 9223372036854775807) (k : Nat) (hk : a.length + b.length < k) : vector_Leq.f k a b = some (leqS a b) := by
 unfold vector_Leq.f leqS
 rw [right_f a ha k (by omega), right_f b hb k (by omega), Option.bind_some, Option.bind_some]
 cases hra : rightS a
 · rfl
 cases hrb : rightS b
 · rfl
 have h1 := rightS_le hra
 have h2 := rightS_le hrb
 have := mrg_len a b
 rw [if_pos rfl, if_pos rfl, if_pos (by omega)]
 rfl
def mnAll : List (List S34) → ByteArray → Int → Int
 | [], _, n => n
 | v :: vs, w, n => mnAll vs w (mn n (atS w v))
def gf (vs : List (List S34)) : List S34 → List S34
 | [] => []
 | x :: a => if 0 < mnAll vs x.f0 x.f1 then ⟨x.f0, mnAll vs x.f0 x.f1⟩ :: gf vs a else gf vs a
theorem atS_self : ∀ {l : List S34} {was : ByteArray} {x : S34}, rises was l = true → x ∈ l → atS x.f0 l = x.f1
 | y :: l, was, x, h, hx => by
   rcases List.mem_cons.1 hx with rfl | hx
   · rw [atS, if_pos rfl]
   · rw [atS_skip (rises_above l y.f0 (rises_tail h) x hx)]
     exact atS_self (rises_tail h) hx
theorem atS_head {n : ByteArray} {x : S34} {l : List S34} (h : x.f0.toList = n.toList) : atS n (x :: l) = x.f1 := by rw [atS, if_pos h]
theorem atS_else {n : ByteArray} {x : S34} {l : List S34} (h : ¬ x.f0.toList = n.toList) : atS n (x :: l) = atS n l := by rw [atS, if_neg h]
theorem atS_mk (n w : ByteArray) (m : Int) (l : List S34) : atS n (⟨w, m⟩ :: l) = if w.toList = n.toList then m else atS n l := rfl
theorem atS_cons (n : ByteArray) (x : S34) (l : List S34) : atS n (x :: l) = if x.f0.toList = n.toList then x.f1 else atS n l := rfl
theorem atS_nonneg (n : ByteArray) : ∀ {l : List S34} {was : ByteArray}, rises was l = true → 0 ≤ atS n l
 | [], _, _ => Int.le_refl 0
 | x :: l, was, h => by
   have hp := rises_pos h (by simp : x ∈ x :: l)
   unfold atS
   split
   · omega
   · exact atS_nonneg n (rises_tail h)
theorem rises_cons {x : S34} {l : List S34} {was : ByteArray} (hd : dotOk x = true) (hw : Op.bytesLess was.toList x.f0.toList = true) (hl : rises x.f0 l = true) : rises was (x :: l) = true := by
 simp only [rises, hd, hw, hl, Bool.and_self]
theorem atS_mem (n : ByteArray) : ∀ l : List S34, atS n l = 0 ∨ ∃ x, x ∈ l ∧ x.f0.toList = n.toList ∧ atS n l = x.f1
 | [] => .inl rfl
 | x :: l => by
   by_cases h : x.f0.toList = n.toList
   · exact .inr ⟨x, by simp, h, atS_head h⟩
   · rw [atS_else h]
     rcases atS_mem n l with e | ⟨y, hy, h1, h2⟩
     · exact .inl e
     · exact .inr ⟨y, by simp [hy], h1, h2⟩
theorem rightS_mk {l : List S34} (h1 : l.length ≤ 64) (h2 : rises ⟨#[]⟩ l = true) : rightS l = true := by
 simp [rightS, h1, h2]
def withS (v : List S34) (n : ByteArray) (d : Int) : List S34 × Int :=
 if rightS v && dotOk ⟨n, d⟩ then (if d - 1 = atS n v then (if 64 < (putS v n d).length then ([], 70) else (putS v n d, 0)) else ([], 70)) else ([], 2)
theorem putS_ix (n : ByteArray) (d : Int) : ∀ (l : List S34) (p : Nat), p ≤ l.length → (∀ q, q < p → Op.bytesLess (l.getD q z34).f0.toList n.toList = true) → putS l n d = l.take p ++ putS (l.drop p) n d
 | l, 0, _, _ => by simp
 | [], p + 1, hp, _ => by simp at hp
 | x :: l, p + 1, hp, h => by
   have h0 : Op.bytesLess x.f0.toList n.toList = true := by have := h 0 (by omega); simpa using this
   rw [putS_skip h0, putS_ix n d l p (by simpa using hp) (fun q hq => by have := h (q + 1) (by omega); simpa using this)]
   rfl
theorem bytes_inj {a b : ByteArray} (h : a.toList = b.toList) : a = b := by
 rw [ByteArray.toList_eq, ByteArray.toList_eq] at h
 have : a.data = b.data := Array.ext' h
 cases a; cases b; simpa using this
theorem drop_getD (l : List S34) (p : Nat) (hp : p < l.length) : l.drop p = l.getD p z34 :: l.drop (p + 1) := by
 rw [List.drop_eq_getElem_cons hp]
 simp [List.getD, hp]
theorem dot_parts {n : ByteArray} {d : Int} (h : dotOk ⟨n, d⟩ = true) : 1 ≤ d ∧ d ≤ 4611686018427387904 := by
 unfold dotOk at h
 simp at h
 omega
theorem with_f (v : List S34) (lv : v.length ≤ 9223372036854775807) (n : ByteArray) (d : Int) (k : Nat) (hk : v.length < k) : vector_With.f k v n d = some (withS v n d) := by
 unfold vector_With.f withS
 rw [right_f v lv k hk, Option.bind_some, isDot_f]
 cases hR : rightS v with
 | false => simp
 | true =>
   simp only [if_true, Option.bind_some, Bool.true_and]
   cases hd : dotOk ⟨n, d⟩ with
   | false => simp
   | true =>
     simp only [if_true]
     have hle := (rightS_le hR).1
     have h := (rightS_le hR).2
     have hdd := dot_parts hd
     have hs := bsL_spec v n ⟨#[]⟩ h (v.length + 1) 0 v.length (by omega) (by omega) (by omega) (fun q hq => by omega) (fun q h1 h2 => by omega)
     unfold vector_find.f
     rw [if_pos (by omega), Option.bind_some]
     have hix : findIx v n = bsL v n (v.length + 1) 0 v.length := rfl
     rw [← hix] at hs
     obtain ⟨_, hp, hA, hB⟩ := hs
     have hc : api_Dot_66.f v = some v := by unfold api_Dot_66.f; rw [if_pos (by omega)]
     rw [hc, Option.bind_some]
     have hlow : ∀ q, q < findIx v n → Op.bytesLess (v.getD q z34).f0.toList n.toList = true := fun q hq => (cmpS_lt v q n).1.1 (hA q hq)
     have hne : ∀ q, q < findIx v n → (v.getD q z34).f0.toList ≠ n.toList := fun q hq he => by
      have := hA q hq
      rw [(cmpS_lt v q n).2.2 he] at this
      exact absurd this (by decide)
     have hput := putS_ix n d v (findIx v n) hp hlow
     obtain ⟨p, hpe⟩ : ∃ p, findIx v n = p := ⟨_, rfl⟩
     have hat0 : findHit v n = false → atS n v = 0 := fun hh => by
      have := find_at v n ⟨#[]⟩ h (by omega)
      unfold vector_at.f vector_find.f at this
      rw [if_pos (by omega), Option.bind_some] at this
      simp only [hh, Bool.false_eq_true, if_false] at this
      exact (Option.some.inj this).symm
     by_cases hhit : findHit v n = true
     · rw [hhit]
       simp only [if_true]
       have hlt : findIx v n < v.length ∧ cmpS v (findIx v n) n = 0 := by
        unfold findHit at hhit
        by_cases hlt : findIx v n < v.length
        · rw [if_pos hlt] at hhit; exact ⟨hlt, by simpa using hhit⟩
        · rw [if_neg hlt] at hhit; cases hhit
       have heq := (cmpS_lt v _ n).2.1 hlt.2
       have hat := atS_some n v (findIx v n) hlt.1 hne heq
       rw [hpe] at hlt hat heq hput ⊢
       rw [if_pos (by omega), if_pos (by omega), Int.toNat_natCast, hat]
       have hrd : (rd_T34 v (p : Int)).f1 = (v.getD p z34).f1 := by simp [rd_T34]
       rw [hrd]
       have hset : v.set p ⟨(v.getD p z34).f0, d⟩ = putS v n d := by
        rw [hput, drop_getD v p hlt.1, putS, if_neg (fun hl => by
         have := (cmpS_lt v p n).1.2 hl
         rw [hlt.2] at this; exact absurd this (by decide)), if_pos heq, bytes_inj heq, List.set_eq_take_append_cons_drop, if_pos hlt.1]
       by_cases q : (v.getD p z34).f1 = d - 1
       · have hl : (putS v n d).length = v.length := by rw [← hset, List.length_set]
         rw [if_pos q, if_pos q.symm, if_neg (by omega), hset]
       · rw [if_neg q, if_neg (fun e => q e.symm)]
     · have hf : findHit v n = false := by simpa using hhit
       rw [hf, hat0 hf]
       simp only [Bool.false_eq_true, if_false]
       rw [hpe] at hput hp ⊢
       have hins : putS v n d = v.take p ++ [⟨n, d⟩] ++ v.drop p := by
        rw [hput]
        by_cases hlt : p < v.length
        · rw [drop_getD v p hlt, putS, if_neg (fun hl => hB p (by omega) hlt ((cmpS_lt v p n).1.2 hl)), if_neg (fun he => by
           have : findHit v n = true := by unfold findHit; rw [hpe, if_pos hlt, (cmpS_lt v p n).2.2 he]; rfl
           rw [hf] at this; cases this)]
          simp
        · rw [List.drop_of_length_le (by omega), putS]; simp
       have hl : (putS v n d).length = v.length + 1 := by rw [hins]; simp; omega
       by_cases q0 : d = 1
       · have q2 : d - 1 = 0 := by omega
         rw [if_pos q0, if_pos q2]
         by_cases q1 : v.length = 64
         · have q3 : 64 < (putS v n d).length := by omega
           rw [if_pos q1, if_pos q3]
         · have q3 : ¬ 64 < (putS v n d).length := by omega
           have q4 : (0 : Int) ≤ (p : Int) := by omega
           have q5 : (p : Int) ≤ (v.length : Int) := by omega
           have q6 : v.length ≤ 1000 := by omega
           rw [if_neg q1, if_pos q4, if_pos q5, if_pos q6, if_neg q3, Int.toNat_natCast, hins]
       · have q2 : ¬ d - 1 = 0 := by omega
         rw [if_neg q0, if_neg q2]
theorem bl_ne {a b : List UInt8} (h : Op.bytesLess a b = true) : a ≠ b := fun e => by rw [e, bl_irr] at h; cases h
theorem putS_at (n w : ByteArray) (d : Int) : ∀ l : List S34, atS n (putS l w d) = if w.toList = n.toList then d else atS n l
 | [] => by rw [putS, atS_mk]
 | x :: l => by
   rw [putS]
   by_cases h : Op.bytesLess x.f0.toList w.toList = true
   · rw [if_pos h, atS_cons, putS_at n w d l, atS_cons]
     by_cases hx : x.f0.toList = n.toList
     · rw [if_pos hx, if_neg (fun e => bl_ne h (hx.trans e.symm)), if_pos hx]
     · rw [if_neg hx, if_neg hx]
   · rw [if_neg h]
     by_cases hw : x.f0.toList = w.toList
     · rw [if_pos hw, atS_mk, atS_cons]
       by_cases hn : w.toList = n.toList
       · rw [if_pos hn, if_pos hn]
       · rw [if_neg hn, if_neg hn, if_neg (fun e => hn (hw.symm.trans e))]
     · rw [if_neg hw, atS_mk]
theorem putS_rises (w : ByteArray) (d : Int) (hd : dotOk ⟨w, d⟩ = true) : ∀ (l : List S34) (was : ByteArray), rises was l = true → Op.bytesLess was.toList w.toList = true → rises was (putS l w d) = true
 | [], was, _, hw => by rw [putS]; exact rises_cons hd hw rfl
 | x :: l, was, h, hw => by
   have h0 := h
   simp only [rises, Bool.and_eq_true] at h0
   rw [putS]
   by_cases hx : Op.bytesLess x.f0.toList w.toList = true
   · rw [if_pos hx]
     exact rises_cons h0.1.1 h0.1.2 (putS_rises w d hd l x.f0 h0.2 hx)
   · rw [if_neg hx]
     by_cases he : x.f0.toList = w.toList
     · rw [if_pos he]
       have := bytes_inj he
       subst this
       exact rises_cons hd hw h0.2
     · rw [if_neg he]
       have hlt : Op.bytesLess w.toList x.f0.toList = true := by
        cases hq : Op.bytesLess w.toList x.f0.toList with
        | true => rfl
        | false => exact absurd (bl_tri (by simpa using hx) hq) he
       exact rises_cons hd hw (rises_cons h0.1.1 hlt h0.2)
theorem atS_of_mem : ∀ (l : List S34) (x : S34), asc l → x ∈ l → atS x.f0 l = x.f1
 | [], x, _, h => by cases h
 | y :: l, x, hs, h => by
   rw [atS_cons]
   rcases List.mem_cons.1 h with rfl | h
   · rw [if_pos rfl]
   · rw [if_neg (bl_ne (hs.1 x h)), atS_of_mem l x hs.2 h]
section
theorem one_of {x : S34} {out : List S34} (hr : rises ⟨#[]⟩ out = true) (hx : x ∈ out) : atS x.f0 out ≠ 0 := by
 rw [atS_of_mem out x (rises_asc _ _ hr) hx]
 have := (rises_pos hr hx).1
 omega
end
theorem qf_iff (at' : ByteArray → Int) : ∀ a : List S34, qf at' a = true ↔ ∀ x, x ∈ a → x.f1 ≤ at' x.f0
 | [] => by simp [qf]
 | x :: a => by simp [qf, qf_iff at' a]
theorem leq_iff (a b : List S34) (wa wb : ByteArray) (ha : rises wa a = true) (hb : rises wb b = true) : leqM (mrg a b) = true ↔ ∀ n, atS n a ≤ atS n b := by
 rw [← qf_mrg a b wa wb (fun w => atS w b) ha hb (fun _ _ => rfl), qf_iff]
 constructor
 · intro h n
   rcases atS_mem n a with e | ⟨x, hx, h1, h2⟩
   · rw [e]; exact atS_nonneg n hb
   · rw [h2, ← toList_inj h1]; exact h x hx
 · intro h x hx
   have := h x.f0
   rwa [atS_self ha hx] at this
theorem leqS_iff {a b : List S34} (ha : rightS a = true) (hb : rightS b = true) : leqS a b = true ↔ ∀ n, atS n a ≤ atS n b := by
 rw [← leq_iff a b _ _ (rightS_le ha).2 (rightS_le hb).2]
 simp [leqS, ha, hb]
end Go.Proofs.Ytenbkljgmgdegaa.PO
