/- Vectors are told by what they tell of each name: joins and meets of three, the least above and the greatest below: the plain laws. No condition but the sizes that a machine has. -/
import Derived.Test.YtnnlpelogabokaaPWPure
namespace Go.Proofs.Ytnnlpelogabokaa.PW
open Go.RowKit Go.Proofs.YtnnlpelogabokaaW.PrintWords Go.Proofs.YtnnlpelogabokaaW.PrintLast Go.Proofs.YtnnlpelogabokaaW.PrintMore Go.Proofs.Ytnnlpelogabokaa.XW

theorem atS_head {n : ByteArray} {x : S35} {l : List S35} (h : x.f0.toList = n.toList) : atS n (x :: l) = x.f1 := by rw [atS, if_pos h]
theorem atS_else {n : ByteArray} {x : S35} {l : List S35} (h : ¬ x.f0.toList = n.toList) : atS n (x :: l) = atS n l := by rw [atS, if_neg h]
theorem atS_mk (n w : ByteArray) (m : Int) (l : List S35) : atS n (⟨w, m⟩ :: l) = if w.toList = n.toList then m else atS n l := rfl
theorem atS_cons (n : ByteArray) (x : S35) (l : List S35) : atS n (x :: l) = if x.f0.toList = n.toList then x.f1 else atS n l := rfl
theorem above_eq {x : S35} {n : ByteArray} {l : List S35} (h : above x.f0 l) (e : x.f0.toList = n.toList) : above n l := fun z hz => by rw [← e]; exact h z hz
theorem above_cons {x : S35} {y : S35} {b : List S35} {wb : ByteArray} (h : Op.bytesLess x.f0.toList y.f0.toList = true) (hb : rises wb (y :: b) = true) : above x.f0 (y :: b) := fun z hz => by
  rcases List.mem_cons.1 hz with rfl | hz
  · exact h
  · exact bl_trans _ _ _ h (rises_above b y.f0 (rises_tail hb) z hz)
theorem atS_nonneg (n : ByteArray) : ∀ {l : List S35} {was : ByteArray}, rises was l = true → 0 ≤ atS n l
  | [], _, _ => Int.le_refl 0
  | x :: l, was, h => by
    have hp := rises_pos h (by simp : x ∈ x :: l)
    unfold atS
    split
    · omega
    · exact atS_nonneg n (rises_tail h)

/-- Two vectors that tell the same are the same. -/
theorem vec_ext : ∀ (a b : List S35) (wa wb : ByteArray), rises wa a = true → rises wb b = true → (∀ n, atS n a = atS n b) → a = b
  | [], [], _, _, _, _, _ => rfl
  | [], y :: b, wa, wb, _, hb, h => by
    have := h y.f0
    rw [atS_head rfl, atS] at this
    have := rises_pos hb (by simp : y ∈ y :: b)
    omega
  | x :: a, [], wa, wb, ha, _, h => by
    have := h x.f0
    rw [atS_head rfl, atS] at this
    have := rises_pos ha (by simp : x ∈ x :: a)
    omega
  | x :: a, y :: b, wa, wb, ha, hb, h => by
    have px := rises_pos ha (by simp : x ∈ x :: a)
    have py := rises_pos hb (by simp : y ∈ y :: b)
    have h1 : Op.bytesLess x.f0.toList y.f0.toList = false := by
      cases hh : Op.bytesLess x.f0.toList y.f0.toList
      · rfl
      · have := h x.f0
        rw [atS_head rfl, atS_above (above_cons hh hb)] at this
        omega
    have h2 : Op.bytesLess y.f0.toList x.f0.toList = false := by
      cases hh : Op.bytesLess y.f0.toList x.f0.toList
      · rfl
      · have := h y.f0
        rw [atS_head rfl, atS_above (above_cons hh ha)] at this
        omega
    have he := bl_tri h1 h2
    have hn := h x.f0
    rw [atS_head rfl, atS_head he.symm] at hn
    have hxy : x = y := by
      have h0 := toList_inj he
      cases x
      cases y
      simp only at h0 hn
      subst h0
      subst hn
      rfl
    subst hxy
    rw [vec_ext a b x.f0 x.f0 (rises_tail ha) (rises_tail hb) (fun n => ?_)]
    by_cases hx : x.f0.toList = n.toList
    · rw [atS_above (above_eq (rises_above a x.f0 (rises_tail ha)) hx), atS_above (above_eq (rises_above b x.f0 (rises_tail hb)) hx)]
    · have := h n
      rwa [atS_else hx, atS_else hx] at this

theorem mx_le (a b : Int) : a ≤ mx a b ∧ b ≤ mx a b := by unfold mx; split <;> omega
theorem mx_cases (a b : Int) : mx a b = a ∨ mx a b = b := by unfold mx; split <;> simp
theorem mn_cases (a b : Int) : mn a b = a ∨ mn a b = b := by unfold mn; split <;> simp
theorem join_at (n : ByteArray) (a b : List S35) : ∀ (wa wb : ByteArray), rises wa a = true → rises wb b = true → atS n (joinL (mrg a b)) = mx (atS n a) (atS n b) := by
  induction a, b using mrg.induct with
  | case1 => intro _ _ _ _; simp [mrg, joinL, atS]; rfl
  | case2 y b ih =>
    intro wa wb ha hb
    rw [mrg_y]
    simp only [joinL, List.map_cons]
    rw [atS_mk, atS_cons n y b]
    by_cases h : y.f0.toList = n.toList
    · rw [if_pos h, if_pos h, atS]
    · rw [if_neg h, if_neg h]; exact ih wa y.f0 rfl (rises_tail hb)
  | case3 x a ih =>
    intro wa wb ha hb
    rw [mrg_x]
    simp only [joinL, List.map_cons]
    rw [atS_mk, atS_cons n x a]
    by_cases h : x.f0.toList = n.toList
    · rw [if_pos h, if_pos h, atS]
    · rw [if_neg h, if_neg h]; exact ih x.f0 wb (rises_tail ha) rfl
  | case4 x a y b h4 ih =>
    intro wa wb ha hb
    rw [mrg_xy, if_pos h4]
    simp only [joinL, List.map_cons]
    rw [atS_mk, atS_cons n x a]
    by_cases h : x.f0.toList = n.toList
    · rw [if_pos h, if_pos h, atS_above (above_eq (above_cons h4 hb) h)]
    · rw [if_neg h, if_neg h]; exact ih x.f0 wb (rises_tail ha) hb
  | case5 x a y b h4 h5 ih =>
    intro wa wb ha hb
    rw [mrg_xy, if_neg h4, if_pos h5]
    simp only [joinL, List.map_cons]
    rw [atS_mk, atS_cons n y b]
    by_cases h : y.f0.toList = n.toList
    · rw [if_pos h, if_pos h, atS_above (above_eq (above_cons h5 ha) h)]
    · rw [if_neg h, if_neg h]; exact ih wa y.f0 ha (rises_tail hb)
  | case6 x a y b h4 h5 ih =>
    intro wa wb ha hb
    have he : x.f0.toList = y.f0.toList := bl_tri (Bool.eq_false_iff.mpr h4) (Bool.eq_false_iff.mpr h5)
    rw [mrg_xy, if_neg h4, if_neg h5]
    simp only [joinL, List.map_cons]
    rw [atS_mk, atS_cons n x a, atS_cons n y b, ← he]
    by_cases h : x.f0.toList = n.toList
    · rw [if_pos h, if_pos h, if_pos h]
    · rw [if_neg h, if_neg h, if_neg h]; exact ih x.f0 y.f0 (rises_tail ha) (rises_tail hb)
theorem rises_cons {x : S35} {l : List S35} {was : ByteArray} (hd : dotOk x = true) (hw : Op.bytesLess was.toList x.f0.toList = true) (hl : rises x.f0 l = true) : rises was (x :: l) = true := by
  simp only [rises, hd, hw, hl, Bool.and_self]
theorem rises_head {x : S35} {l : List S35} {was : ByteArray} (h : rises was (x :: l) = true) : dotOk x = true ∧ Op.bytesLess was.toList x.f0.toList = true := by
  simp only [rises, Bool.and_eq_true] at h
  exact h.1
theorem dotOk_with {x : S35} {m : Int} (h : dotOk x = true) (h1 : 1 ≤ m) (h2 : m ≤ 4611686018427387904) : dotOk ⟨x.f0, m⟩ = true := by
  simp only [dotOk, Bool.and_eq_true, decide_eq_true_eq] at h ⊢
  exact ⟨⟨h.1.1, h1⟩, h2⟩
theorem join_rises (a b : List S35) : ∀ (was : ByteArray), rises was a = true → rises was b = true → rises was (joinL (mrg a b)) = true := by
  induction a, b using mrg.induct with
  | case1 => intro _ _ _; simp [mrg, joinL, rises]
  | case2 y b ih =>
    intro was ha hb
    have hp := rises_pos hb (by simp : y ∈ y :: b)
    rw [mrg_y]
    simp only [joinL, List.map_cons]
    refine rises_cons (dotOk_with (rises_head hb).1 ?_ ?_) (rises_head hb).2 (ih y.f0 rfl (rises_tail hb))
    · have := (mx_le 0 y.f1).2; omega
    · rcases mx_cases 0 y.f1 with h | h <;> omega
  | case3 x a ih =>
    intro was ha hb
    have hp := rises_pos ha (by simp : x ∈ x :: a)
    rw [mrg_x]
    simp only [joinL, List.map_cons]
    refine rises_cons (dotOk_with (rises_head ha).1 ?_ ?_) (rises_head ha).2 (ih x.f0 (rises_tail ha) rfl)
    · have := (mx_le x.f1 0).1; omega
    · rcases mx_cases x.f1 0 with h | h <;> omega
  | case4 x a y b h4 ih =>
    intro was ha hb
    have hp := rises_pos ha (by simp : x ∈ x :: a)
    rw [mrg_xy, if_pos h4]
    simp only [joinL, List.map_cons]
    refine rises_cons (dotOk_with (rises_head ha).1 ?_ ?_) (rises_head ha).2 (ih x.f0 (rises_tail ha) (rises_low _ _ _ hb (above_cons h4 hb)))
    · have := (mx_le x.f1 0).1; omega
    · rcases mx_cases x.f1 0 with h | h <;> omega
  | case5 x a y b h4 h5 ih =>
    intro was ha hb
    have hp := rises_pos hb (by simp : y ∈ y :: b)
    rw [mrg_xy, if_neg h4, if_pos h5]
    simp only [joinL, List.map_cons]
    refine rises_cons (dotOk_with (rises_head hb).1 ?_ ?_) (rises_head hb).2 (ih y.f0 (rises_low _ _ _ ha (above_cons h5 ha)) (rises_tail hb))
    · have := (mx_le 0 y.f1).2; omega
    · rcases mx_cases 0 y.f1 with h | h <;> omega
  | case6 x a y b h4 h5 ih =>
    intro was ha hb
    have he : x.f0.toList = y.f0.toList := bl_tri (Bool.eq_false_iff.mpr h4) (Bool.eq_false_iff.mpr h5)
    have hp := rises_pos ha (by simp : x ∈ x :: a)
    have hq := rises_pos hb (by simp : y ∈ y :: b)
    rw [mrg_xy, if_neg h4, if_neg h5]
    simp only [joinL, List.map_cons]
    refine rises_cons (dotOk_with (rises_head ha).1 ?_ ?_) (rises_head ha).2 (ih x.f0 (rises_tail ha) (by rw [toList_inj he]; exact rises_tail hb))
    · have := (mx_le x.f1 y.f1).1; omega
    · rcases mx_cases x.f1 y.f1 with h | h <;> omega

theorem atS_mem (n : ByteArray) : ∀ l : List S35, atS n l = 0 ∨ ∃ x, x ∈ l ∧ x.f0.toList = n.toList ∧ atS n l = x.f1
  | [] => .inl rfl
  | x :: l => by
    by_cases h : x.f0.toList = n.toList
    · exact .inr ⟨x, by simp, h, atS_head h⟩
    · rw [atS_else h]
      rcases atS_mem n l with e | ⟨y, hy, h1, h2⟩
      · exact .inl e
      · exact .inr ⟨y, by simp [hy], h1, h2⟩
theorem rightS_mk {l : List S35} (h1 : l.length ≤ 64) (h2 : rises ⟨#[]⟩ l = true) : rightS l = true := by
  simp [rightS, h1, h2]
theorem joinS_of {a b : List S35} (ha : rightS a = true) (hb : rightS b = true) : joinS a b = if (64 : Int) < ((joinL (mrg a b)).length : Int) then ([], 70) else (joinL (mrg a b), 0) := by
  unfold joinS
  rw [ha, hb]
  rfl
theorem join_right {a b : List S35} (ha : rightS a = true) (hb : rightS b = true) (h : ¬ (64 : Int) < ((joinL (mrg a b)).length : Int)) : rightS (joinL (mrg a b)) = true :=
  rightS_mk (by omega) (join_rises a b _ (rightS_le ha).2 (rightS_le hb).2)

end Go.Proofs.Ytnnlpelogabokaa.PW
