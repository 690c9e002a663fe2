/- Vectors are told by what they tell of each name: joins and meets of three, the least above and the greatest below: the plain laws. No condition but the sizes that a machine has. -/
import Derived.Test.YtnnlpelogabokaaPTPure
namespace Go.Proofs.Ytnnlpelogabokaa.PT
open Go.RowKit Go.Proofs.YtnnlpelogabokaaW.PrintWords Go.Proofs.YtnnlpelogabokaaW.PrintLast Go.Proofs.YtnnlpelogabokaaW.PrintMore Go.Proofs.Ytnnlpelogabokaa.XW

theorem atS_head {n : ByteArray} {x : S35} {l : List S35} (h : x.f0.toList = n.toList) : atS n (x :: l) = x.f1 := by rw [atS, if_pos h]
theorem atS_else {n : ByteArray} {x : S35} {l : List S35} (h : ¬ x.f0.toList = n.toList) : atS n (x :: l) = atS n l := by rw [atS, if_neg h]
theorem atS_mk (n w : ByteArray) (m : Int) (l : List S35) : atS n (⟨w, m⟩ :: l) = if w.toList = n.toList then m else atS n l := rfl
theorem atS_cons (n : ByteArray) (x : S35) (l : List S35) : atS n (x :: l) = if x.f0.toList = n.toList then x.f1 else atS n l := rfl
theorem above_eq {x : S35} {n : ByteArray} {l : List S35} (h : above x.f0 l) (e : x.f0.toList = n.toList) : above n l := fun z hz => by rw [← e]; exact h z hz
theorem above_cons {x : S35} {y : S35} {b : List S35} {wb : ByteArray} (h : Op.bytesLess x.f0.toList y.f0.toList = true) (hb : rises wb (y :: b) = true) : above x.f0 (y :: b) := fun z hz => by
  rcases List.mem_cons.1 hz with rfl | hz
  · exact h
  · exact bl_trans _ _ _ h (rises_above b y.f0 (rises_tail hb) z hz)
theorem atS_nonneg (n : ByteArray) : ∀ {l : List S35} {was : ByteArray}, rises was l = true → 0 ≤ atS n l
  | [], _, _ => Int.le_refl 0
  | x :: l, was, h => by
    have hp := rises_pos h (by simp : x ∈ x :: l)
    unfold atS
    split
    · omega
    · exact atS_nonneg n (rises_tail h)

/-- Two vectors that tell the same are the same. -/
theorem vec_ext : ∀ (a b : List S35) (wa wb : ByteArray), rises wa a = true → rises wb b = true → (∀ n, atS n a = atS n b) → a = b
  | [], [], _, _, _, _, _ => rfl
  | [], y :: b, wa, wb, _, hb, h => by
    have := h y.f0
    rw [atS_head rfl, atS] at this
    have := rises_pos hb (by simp : y ∈ y :: b)
    omega
  | x :: a, [], wa, wb, ha, _, h => by
    have := h x.f0
    rw [atS_head rfl, atS] at this
    have := rises_pos ha (by simp : x ∈ x :: a)
    omega
  | x :: a, y :: b, wa, wb, ha, hb, h => by
    have px := rises_pos ha (by simp : x ∈ x :: a)
    have py := rises_pos hb (by simp : y ∈ y :: b)
    have h1 : Op.bytesLess x.f0.toList y.f0.toList = false := by
      cases hh : Op.bytesLess x.f0.toList y.f0.toList
      · rfl
      · have := h x.f0
        rw [atS_head rfl, atS_above (above_cons hh hb)] at this
        omega
    have h2 : Op.bytesLess y.f0.toList x.f0.toList = false := by
      cases hh : Op.bytesLess y.f0.toList x.f0.toList
      · rfl
      · have := h y.f0
        rw [atS_head rfl, atS_above (above_cons hh ha)] at this
        omega
    have he := bl_tri h1 h2
    have hn := h x.f0
    rw [atS_head rfl, atS_head he.symm] at hn
    have hxy : x = y := by
      have h0 := toList_inj he
      cases x
      cases y
      simp only at h0 hn
      subst h0
      subst hn
      rfl
    subst hxy
    rw [vec_ext a b x.f0 x.f0 (rises_tail ha) (rises_tail hb) (fun n => ?_)]
    by_cases hx : x.f0.toList = n.toList
    · rw [atS_above (above_eq (rises_above a x.f0 (rises_tail ha)) hx), atS_above (above_eq (rises_above b x.f0 (rises_tail hb)) hx)]
    · have := h n
      rwa [atS_else hx, atS_else hx] at this

theorem mx_le (a b : Int) : a ≤ mx a b ∧ b ≤ mx a b := by unfold mx; split <;> omega
theorem mx_cases (a b : Int) : mx a b = a ∨ mx a b = b := by unfold mx; split <;> simp
theorem mn_cases (a b : Int) : mn a b = a ∨ mn a b = b := by unfold mn; split <;> simp
theorem join_at (n : ByteArray) (a b : List S35) : ∀ (wa wb : ByteArray), rises wa a = true → rises wb b = true → atS n (joinL (mrg a b)) = mx (atS n a) (atS n b) := by
  induction a, b using mrg.induct with
  | case1 => intro _ _ _ _; simp [mrg, joinL, atS]; rfl
  | case2 y b ih =>
    intro wa wb ha hb
    rw [mrg_y]
    simp only [joinL, List.map_cons]
    rw [atS_mk, atS_cons n y b]
    by_cases h : y.f0.toList = n.toList
    · rw [if_pos h, if_pos h, atS]
    · rw [if_neg h, if_neg h]; exact ih wa y.f0 rfl (rises_tail hb)
  | case3 x a ih =>
    intro wa wb ha hb
    rw [mrg_x]
    simp only [joinL, List.map_cons]
    rw [atS_mk, atS_cons n x a]
    by_cases h : x.f0.toList = n.toList
    · rw [if_pos h, if_pos h, atS]
    · rw [if_neg h, if_neg h]; exact ih x.f0 wb (rises_tail ha) rfl
  | case4 x a y b h4 ih =>
    intro wa wb ha hb
    rw [mrg_xy, if_pos h4]
    simp only [joinL, List.map_cons]
    rw [atS_mk, atS_cons n x a]
    by_cases h : x.f0.toList = n.toList
    · rw [if_pos h, if_pos h, atS_above (above_eq (above_cons h4 hb) h)]
    · rw [if_neg h, if_neg h]; exact ih x.f0 wb (rises_tail ha) hb
  | case5 x a y b h4 h5 ih =>
    intro wa wb ha hb
    rw [mrg_xy, if_neg h4, if_pos h5]
    simp only [joinL, List.map_cons]
    rw [atS_mk, atS_cons n y b]
    by_cases h : y.f0.toList = n.toList
    · rw [if_pos h, if_pos h, atS_above (above_eq (above_cons h5 ha) h)]
    · rw [if_neg h, if_neg h]; exact ih wa y.f0 ha (rises_tail hb)
  | case6 x a y b h4 h5 ih =>
    intro wa wb ha hb
    have he : x.f0.toList = y.f0.toList := bl_tri (Bool.eq_false_iff.mpr h4) (Bool.eq_false_iff.mpr h5)
    rw [mrg_xy, if_neg h4, if_neg h5]
    simp only [joinL, List.map_cons]
    rw [atS_mk, atS_cons n x a, atS_cons n y b, ← he]
    by_cases h : x.f0.toList = n.toList
    · rw [if_pos h, if_pos h, if_pos h]
    · rw [if_neg h, if_neg h, if_neg h]; exact ih x.f0 y.f0 (rises_tail ha) (rises_tail hb)
theorem rises_cons {x : S35} {l : List S35} {was : ByteArray} (hd : dotOk x = true) (hw : Op.bytesLess was.toList x.f0.toList = true) (hl : rises x.f0 l = true) : rises was (x :: l) = true := by
  simp only [rises, hd, hw, hl, Bool.and_self]
theorem rises_head {x : S35} {l : List S35} {was : ByteArray} (h : rises was (x :: l) = true) : dotOk x = true ∧ Op.bytesLess was.toList x.f0.toList = true := by
  simp only [rises, Bool.and_eq_true] at h
  exact h.1
theorem dotOk_with {x : S35} {m : Int} (h : dotOk x = true) (h1 : 1 ≤ m) (h2 : m ≤ 4611686018427387904) : dotOk ⟨x.f0, m⟩ = true := by
  simp only [dotOk, Bool.and_eq_true, decide_eq_true_eq] at h ⊢
  exact ⟨⟨h.1.1, h1⟩, h2⟩
theorem join_rises (a b : List S35) : ∀ (was : ByteArray), rises was a = true → rises was b = true → rises was (joinL (mrg a b)) = true := by
  induction a, b using mrg.induct with
  | case1 => intro _ _ _; simp [mrg, joinL, rises]
  | case2 y b ih =>
    intro was ha hb
    have hp := rises_pos hb (by simp : y ∈ y :: b)
    rw [mrg_y]
    simp only [joinL, List.map_cons]
    refine rises_cons (dotOk_with (rises_head hb).1 ?_ ?_) (rises_head hb).2 (ih y.f0 rfl (rises_tail hb))
    · have := (mx_le 0 y.f1).2; omega
    · rcases mx_cases 0 y.f1 with h | h <;> omega
  | case3 x a ih =>
    intro was ha hb
    have hp := rises_pos ha (by simp : x ∈ x :: a)
    rw [mrg_x]
    simp only [joinL, List.map_cons]
    refine rises_cons (dotOk_with (rises_head ha).1 ?_ ?_) (rises_head ha).2 (ih x.f0 (rises_tail ha) rfl)
    · have := (mx_le x.f1 0).1; omega
    · rcases mx_cases x.f1 0 with h | h <;> omega
  | case4 x a y b h4 ih =>
    intro was ha hb
    have hp := rises_pos ha (by simp : x ∈ x :: a)
    rw [mrg_xy, if_pos h4]
    simp only [joinL, List.map_cons]
    refine rises_cons (dotOk_with (rises_head ha).1 ?_ ?_) (rises_head ha).2 (ih x.f0 (rises_tail ha) (rises_low _ _ _ hb (above_cons h4 hb)))
    · have := (mx_le x.f1 0).1; omega
    · rcases mx_cases x.f1 0 with h | h <;> omega
  | case5 x a y b h4 h5 ih =>
    intro was ha hb
    have hp := rises_pos hb (by simp : y ∈ y :: b)
    rw [mrg_xy, if_neg h4, if_pos h5]
    simp only [joinL, List.map_cons]
    refine rises_cons (dotOk_with (rises_head hb).1 ?_ ?_) (rises_head hb).2 (ih y.f0 (rises_low _ _ _ ha (above_cons h5 ha)) (rises_tail hb))
    · have := (mx_le 0 y.f1).2; omega
    · rcases mx_cases 0 y.f1 with h | h <;> omega
  | case6 x a y b h4 h5 ih =>
    intro was ha hb
    have he : x.f0.toList = y.f0.toList := bl_tri (Bool.eq_false_iff.mpr h4) (Bool.eq_false_iff.mpr h5)
    have hp := rises_pos ha (by simp : x ∈ x :: a)
    have hq := rises_pos hb (by simp : y ∈ y :: b)
    rw [mrg_xy, if_neg h4, if_neg h5]
    simp only [joinL, List.map_cons]
    refine rises_cons (dotOk_with (rises_head ha).1 ?_ ?_) (rises_head ha).2 (ih x.f0 (rises_tail ha) (by rw [toList_inj he]; exact rises_tail hb))
    · have := (mx_le x.f1 y.f1).1; omega
    · rcases mx_cases x.f1 y.f1 with h | h <;> omega

theorem mnAll_nonneg : ∀ (vs : List (List S35)) (n : ByteArray) (m : Int), (∀ v, v ∈ vs → rightS v = true) → 0 ≤ m → 0 ≤ mnAll vs n m
  | [], _, _, _, h => h
  | v :: vs, n, m, hv, h => by
    have h0 := atS_nonneg n (rightS_le (hv v (by simp))).2
    exact mnAll_nonneg vs n _ (fun z hz => hv z (by simp [hz])) (by rcases mn_cases m (atS n v) with e | e <;> omega)
theorem gf_at (n : ByteArray) (vs : List (List S35)) (hv : ∀ v, v ∈ vs → rightS v = true) : ∀ (a : List S35) (was : ByteArray), rises was a = true → atS n (gf vs a) = mnAll vs n (atS n a)
  | [], _, _ => by
    rw [gf, atS]
    have h1 := mnAll_nonneg vs n 0 hv (Int.le_refl 0)
    have h2 := mnAll_le vs n 0
    omega
  | x :: a, was, h => by
    have ih := gf_at n vs hv a x.f0 (rises_tail h)
    have hp := rises_pos h (by simp : x ∈ x :: a)
    rw [gf]
    by_cases hx : x.f0.toList = n.toList
    · have hz := atS_above (above_eq (rises_above a x.f0 (rises_tail h)) hx)
      have hxn := toList_inj hx
      rw [atS_head hx]
      split
      · rw [atS_mk, if_pos hx, hxn]
      · rename_i hh
        rw [hxn] at hh
        rw [ih, hz]
        have h1 := mnAll_nonneg vs n 0 hv (Int.le_refl 0)
        have h2 := mnAll_le vs n 0
        have h3 := mnAll_nonneg vs n x.f1 hv (by omega)
        omega
    · rw [atS_else hx]
      split
      · rw [atS_mk, if_neg hx, ih]
      · rw [ih]
theorem gf_above {vs : List (List S35)} {low : ByteArray} : ∀ {a : List S35}, above low a → above low (gf vs a)
  | [], _ => fun x hx => by cases hx
  | y :: a, h => fun x hx => by
    unfold gf at hx
    have hl : above low a := fun z hz => h z (by simp [hz])
    split at hx
    · rcases List.mem_cons.1 hx with e | hx
      · rw [e]; exact h y (by simp)
      · exact gf_above hl x hx
    · exact gf_above hl x hx
theorem gf_rises (vs : List (List S35)) : ∀ (a : List S35) (was : ByteArray), rises was a = true → rises was (gf vs a) = true
  | [], _, _ => rfl
  | x :: a, was, h => by
    have ih := gf_rises vs a x.f0 (rises_tail h)
    have hp := rises_pos h (by simp : x ∈ x :: a)
    have hm := mnAll_le vs x.f0 x.f1
    rw [gf]
    split
    · exact rises_cons (dotOk_with (rises_head h).1 (by omega) (by omega)) (rises_head h).2 ih
    · exact rises_low _ _ _ ih (gf_above (fun z hz => rises_above _ _ h z (by simp [hz])))

theorem atS_mem (n : ByteArray) : ∀ l : List S35, atS n l = 0 ∨ ∃ x, x ∈ l ∧ x.f0.toList = n.toList ∧ atS n l = x.f1
  | [] => .inl rfl
  | x :: l => by
    by_cases h : x.f0.toList = n.toList
    · exact .inr ⟨x, by simp, h, atS_head h⟩
    · rw [atS_else h]
      rcases atS_mem n l with e | ⟨y, hy, h1, h2⟩
      · exact .inl e
      · exact .inr ⟨y, by simp [hy], h1, h2⟩
theorem qf_iff (at' : ByteArray → Int) : ∀ a : List S35, qf at' a = true ↔ ∀ x, x ∈ a → x.f1 ≤ at' x.f0
  | [] => by simp [qf]
  | x :: a => by simp [qf, qf_iff at' a]
theorem leq_iff (a b : List S35) (wa wb : ByteArray) (ha : rises wa a = true) (hb : rises wb b = true) : leqM (mrg a b) = true ↔ ∀ n, atS n a ≤ atS n b := by
  rw [← qf_mrg a b wa wb (fun w => atS w b) ha hb (fun _ _ => rfl), qf_iff]
  constructor
  · intro h n
    rcases atS_mem n a with e | ⟨x, hx, h1, h2⟩
    · rw [e]; exact atS_nonneg n hb
    · rw [h2, ← toList_inj h1]; exact h x hx
  · intro h x hx
    have := h x.f0
    rwa [atS_self ha hx] at this

theorem rightS_mk {l : List S35} (h1 : l.length ≤ 64) (h2 : rises ⟨#[]⟩ l = true) : rightS l = true := by
  simp [rightS, h1, h2]
theorem leqS_iff {a b : List S35} (ha : rightS a = true) (hb : rightS b = true) : leqS a b = true ↔ ∀ n, atS n a ≤ atS n b := by
  rw [← leq_iff a b _ _ (rightS_le ha).2 (rightS_le hb).2]
  simp [leqS, ha, hb]
theorem meetS_of {v : List S35} {vs : List (List S35)} (h : ∀ z, z ∈ v :: vs → rightS z = true) : meetS (v :: vs) = (gf vs v, 0) := by
  unfold meetS
  rw [if_neg (by simp), if_pos (List.all_eq_true.2 h)]
  rfl
theorem meet_right {v : List S35} {vs : List (List S35)} (h : rightS v = true) : rightS (gf vs v) = true :=
  rightS_mk (Nat.le_trans (gf_len vs v) (rightS_le h).1) (gf_rises vs v _ (rightS_le h).2)
theorem joinS_of {a b : List S35} (ha : rightS a = true) (hb : rightS b = true) : joinS a b = if (64 : Int) < ((joinL (mrg a b)).length : Int) then ([], 70) else (joinL (mrg a b), 0) := by
  unfold joinS
  rw [ha, hb]
  rfl
theorem join_right {a b : List S35} (ha : rightS a = true) (hb : rightS b = true) (h : ¬ (64 : Int) < ((joinL (mrg a b)).length : Int)) : rightS (joinL (mrg a b)) = true :=
  rightS_mk (by omega) (join_rises a b _ (rightS_le ha).2 (rightS_le hb).2)

/-- What came in may be read as what is shared. -/
theorem V_of_C {w : World} {A : Option Addr} {c : Nat} {l : List S35} (h : Kd.C k35 w A l.length l) (hc : l.length ≤ c) : Kd.V k35 35 w w.heap.size (fun _ => True) (.slice A l.length c) l :=
  ⟨A, c, rfl, hc, fun _ hW => C_block h (fun ad e hn => by subst e; exact hW ad.block trivial (C_lt h hn))⟩

/-- The law of three vectors. -/
theorem VectorThree_pure (a : List S35) (la : a.length ≤ 9223372036854775807) (_ : ∀ x, x ∈ a → x.f0.size ≤ maxLen) (b : List S35) (lb : b.length ≤ 9223372036854775807) (_ : ∀ x, x ∈ b → x.f0.size ≤ maxLen) (c : List S35) (lc : c.length ≤ 9223372036854775807) (_ : ∀ x, x ∈ c → x.f0.size ≤ maxLen) :
    ∃ k, pannierlaw07_VectorThree.f k a b c = some true := by
  obtain ⟨k, hk⟩ : ∃ k, a.length + b.length + c.length + 1000 < k := ⟨_, Nat.lt_succ_self _⟩
  refine ⟨k + 3, ?_⟩
  have e1 := shown_f (k + 3) (by omega)
  have ra := right_f a la (k + 3) (by omega)
  have rb := right_f b lb (k + 3) (by omega)
  have rc := right_f c lc (k + 3) (by omega)
  unfold pannierlaw07_VectorThree.f
  rw [e1, ra, rb, rc]
  simp only [Option.bind_some]
  have hbad : pannierlaw07_VectorThree.j0 (k + 3) a b c true true = some true := by unfold pannierlaw07_VectorThree.j0; rfl
  cases ha : rightS a
  · exact hbad
  cases hb : rightS b
  · exact hbad
  cases hc : rightS c
  · exact hbad
  have ha2 := rightS_le ha
  have hb2 := rightS_le hb
  have hc2 := rightS_le hc
  have hm1 : vector_Meet.f (k + 2) [a, b, c] = some (gf [b, c] a, 0) := by
    rw [meet_f [a, b, c] 64 (by omega) (fun v hv => by simp at hv; rcases hv with rfl | rfl | rfl <;> omega) (k + 2) (by omega), meetS_of (fun z hz => by simp at hz; rcases hz with rfl | rfl | rfl <;> assumption)]
  have hm2 : vector_Meet.f (k + 2) [c, b, a] = some (gf [b, a] c, 0) := by
    rw [meet_f [c, b, a] 64 (by omega) (fun v hv => by simp at hv; rcases hv with rfl | rfl | rfl <;> omega) (k + 2) (by omega), meetS_of (fun z hz => by simp at hz; rcases hz with rfl | rfl | rfl <;> assumption)]
  have hmm : gf [b, c] a = gf [b, a] c := by
    refine vec_ext _ _ _ _ (gf_rises _ _ _ ha2.2) (gf_rises _ _ _ hc2.2) (fun n => ?_)
    rw [gf_at n _ (fun v hv => by simp at hv; rcases hv with rfl | rfl <;> assumption) a _ ha2.2, gf_at n _ (fun v hv => by simp at hv; rcases hv with rfl | rfl <;> assumption) c _ hc2.2]
    simp only [mnAll]
    unfold mn
    repeat' split
    all_goals omega
  have hs1 := same_f (gf [b, a] c) (by have := gf_len [b, a] c; omega) (k + 2) (by have := gf_len [b, a] c; omega)
  have g0 : pannierlaw07_VectorThree.j0 (k + 3) a b c true false = pannierlaw07_VectorThree.j1 (k + 2) a b c true false := by
    rw [pannierlaw07_VectorThree.j0]
    rw [if_neg (by decide), hm1, hm2, hmm]
    simp only [Option.bind_some, if_true]
    rw [hs1]
    rfl
  refine g0.trans ?_
  have hx : vector_Join.f (k + 1) a b = some (joinS a b) := join_f a b la lb (k + 1) (by omega)
  have hy : vector_Join.f (k + 1) b c = some (joinS b c) := join_f b c lb lc (k + 1) (by omega)
  have hend : ∀ x y : List S35, pannierlaw07_VectorThree.j2 (k + 1) a c true x y true = some true := fun x y => by unfold pannierlaw07_VectorThree.j2; rfl
  rw [pannierlaw07_VectorThree.j1, if_neg (by decide), hx, hy]
  simp only [Option.bind_some]
  rw [joinS_of ha hb, joinS_of hb hc]
  by_cases h1 : (64 : Int) < ((joinL (mrg a b)).length : Int)
  · rw [if_pos h1]
    exact hend [] (if (64 : Int) < ((joinL (mrg b c)).length : Int) then ([], 70) else (joinL (mrg b c), 0) : List S35 × Int).1
  by_cases h2 : (64 : Int) < ((joinL (mrg b c)).length : Int)
  · rw [if_neg h1, if_pos h2]
    exact hend (joinL (mrg a b)) []
  rw [if_neg h1, if_neg h2]
  have rx := join_right ha hb h1
  have ry := join_right hb hc h2
  have rx2 := rightS_le rx
  have ry2 := rightS_le ry
  have hp : joinL (mrg (joinL (mrg a b)) c) = joinL (mrg a (joinL (mrg b c))) := by
    refine vec_ext _ _ _ _ (join_rises _ _ _ rx2.2 hc2.2) (join_rises _ _ _ ha2.2 ry2.2) (fun n => ?_)
    rw [join_at n _ c _ _ rx2.2 hc2.2, join_at n a b _ _ ha2.2 hb2.2, join_at n a _ _ _ ha2.2 ry2.2, join_at n b c _ _ hb2.2 hc2.2]
    unfold mx
    repeat' split
    all_goals omega
  have hjs : joinS (joinL (mrg a b)) c = joinS a (joinL (mrg b c)) := by rw [joinS_of rx hc, joinS_of ha ry, hp]
  have j1 := join_f (joinL (mrg a b)) c (by omega) lc k (by omega)
  have j2 := join_f a (joinL (mrg b c)) la (by omega) k (by omega)
  have hl := joinS_len a (joinL (mrg b c))
  have hs2 := same_f (joinS a (joinL (mrg b c))).1 (by omega) k (by omega)
  show pannierlaw07_VectorThree.j2 (k + 1) a c true (joinL (mrg a b)) (joinL (mrg b c)) false = some true
  rw [pannierlaw07_VectorThree.j2, if_neg (by decide), j1, j2, hjs]
  simp only [Option.bind_some, if_true]
  rw [hs2]
  rfl

/-- The law of the least and the greatest. -/
theorem VectorLeast_pure (a : List S35) (la : a.length ≤ 9223372036854775807) (_ : ∀ x, x ∈ a → x.f0.size ≤ maxLen) (b : List S35) (lb : b.length ≤ 9223372036854775807) (_ : ∀ x, x ∈ b → x.f0.size ≤ maxLen) (c : List S35) (lc : c.length ≤ 9223372036854775807) (_ : ∀ x, x ∈ c → x.f0.size ≤ maxLen) :
    ∃ k, pannierlaw07_VectorLeast.f k a b c = some true := by
  obtain ⟨k, hk⟩ : ∃ k, a.length + b.length + c.length + 1000 < k := ⟨_, Nat.lt_succ_self _⟩
  refine ⟨k + 2, ?_⟩
  have e1 := shown_f (k + 2) (by omega)
  have ra := right_f a la (k + 2) (by omega)
  have rb := right_f b lb (k + 2) (by omega)
  have rc := right_f c lc (k + 2) (by omega)
  unfold pannierlaw07_VectorLeast.f
  rw [e1, ra, rb, rc]
  simp only [Option.bind_some]
  have hbad : pannierlaw07_VectorLeast.j0 (k + 2) a b c true true = some true := by unfold pannierlaw07_VectorLeast.j0; rfl
  cases ha : rightS a
  · exact hbad
  cases hb : rightS b
  · exact hbad
  cases hc : rightS c
  · exact hbad
  have ha2 := rightS_le ha
  have hb2 := rightS_le hb
  have hc2 := rightS_le hc
  have hm1 : vector_Meet.f (k + 1) [a, b] = some (gf [b] a, 0) := by
    rw [meet_f [a, b] 64 (by omega) (fun v hv => by simp at hv; rcases hv with rfl | rfl <;> omega) (k + 1) (by omega), meetS_of (fun z hz => by simp at hz; rcases hz with rfl | rfl <;> assumption)]
  obtain ⟨m, hm⟩ : ∃ m, gf [b] a = m := ⟨_, rfl⟩
  have rm : rightS m = true := by rw [← hm]; exact meet_right ha
  have rm2 := rightS_le rm
  have mat : ∀ n, atS n m = mn (atS n a) (atS n b) := fun n => by
    rw [← hm, gf_at n _ (fun v hv => by simp at hv; rcases hv with rfl; assumption) a _ ha2.2]
    rfl
  rw [hm] at hm1
  have q1 : leqS m a = true := (leqS_iff rm ha).2 (fun n => by rw [mat]; exact (mn_le _ _).1)
  have q2 : leqS m b = true := (leqS_iff rm hb).2 (fun n => by rw [mat]; exact (mn_le _ _).2)
  have q3 : leqS c m = (leqS c a && leqS c b) := by
    rw [Bool.eq_iff_iff, Bool.and_eq_true, leqS_iff hc rm, leqS_iff hc ha, leqS_iff hc hb]
    constructor
    · intro h
      exact ⟨fun n => by have := h n; rw [mat] at this; have := (mn_le (atS n a) (atS n b)).1; omega, fun n => by have := h n; rw [mat] at this; have := (mn_le (atS n a) (atS n b)).2; omega⟩
    · intro h n
      have h1 := h.1 n
      have h2 := h.2 n
      rw [mat]
      rcases mn_cases (atS n a) (atS n b) with e | e <;> omega
  have l1 := leq_f m a (by omega) la (k + 1) (by omega)
  have l2 := leq_f m b (by omega) lb (k + 1) (by omega)
  have l3 := leq_f c m lc (by omega) (k + 1) (by omega)
  have l4 := leq_f c a lc la (k + 1) (by omega)
  have l5 := leq_f c b lc lb (k + 1) (by omega)
  have g0 : pannierlaw07_VectorLeast.j0 (k + 2) a b c true false = pannierlaw07_VectorLeast.j1 (k + 1) a b c true false := by
    rw [pannierlaw07_VectorLeast.j0, if_neg (by decide), hm1]
    simp only [Option.bind_some, if_true]
    rw [l1, l2, l3, l4, l5, q1, q2, q3]
    simp only [Option.bind_some, if_true]
    cases leqS c a <;> cases leqS c b <;> rfl
  refine g0.trans ?_
  rw [pannierlaw07_VectorLeast.j1, if_neg (by decide), join_f a b la lb k (by omega)]
  simp only [Option.bind_some]
  rw [joinS_of ha hb]
  by_cases h1 : (64 : Int) < ((joinL (mrg a b)).length : Int)
  · rw [if_pos h1]
    rfl
  rw [if_neg h1]
  have rj := join_right ha hb h1
  obtain ⟨j, hj⟩ : ∃ j, joinL (mrg a b) = j := ⟨_, rfl⟩
  have jat : ∀ n, atS n j = mx (atS n a) (atS n b) := fun n => by rw [← hj, join_at n a b _ _ ha2.2 hb2.2]
  rw [hj] at rj ⊢
  have rj2 := rightS_le rj
  have p1 : leqS a j = true := (leqS_iff ha rj).2 (fun n => by rw [jat]; exact (mx_le _ _).1)
  have p2 : leqS b j = true := (leqS_iff hb rj).2 (fun n => by rw [jat]; exact (mx_le _ _).2)
  have p3 : leqS j c = (leqS a c && leqS b c) := by
    rw [Bool.eq_iff_iff, Bool.and_eq_true, leqS_iff rj hc, leqS_iff ha hc, leqS_iff hb hc]
    constructor
    · intro h
      exact ⟨fun n => by have := h n; rw [jat] at this; have := (mx_le (atS n a) (atS n b)).1; omega, fun n => by have := h n; rw [jat] at this; have := (mx_le (atS n a) (atS n b)).2; omega⟩
    · intro h n
      have h1 := h.1 n
      have h2 := h.2 n
      rw [jat]
      rcases mx_cases (atS n a) (atS n b) with e | e <;> omega
  simp only [if_true]
  rw [leq_f a j la (by omega) k (by omega), leq_f b j lb (by omega) k (by omega), leq_f j c (by omega) lc k (by omega), leq_f a c la lc k (by omega), leq_f b c lb lc k (by omega), p1, p2, p3]
  simp only [Option.bind_some, if_true]
  cases leqS a c <;> cases leqS b c <;> rfl
end Go.Proofs.Ytnnlpelogabokaa.PT
