/- pannierlaw07.VectorMeets' walk answers true: the meets folded one by one against the reference's loops. No condition but the sizes that a machine has. -/
import Derived.Test.YtnnlpelogabokaaPure2
import Derived.Test.YtnnlpelogabokaaPVx8
import Derived.Test.YtnnlpelogabokaaPureM
namespace Go.Proofs.Ytnnlpelogabokaa.PV
open Go.RowKit Go.Proofs.YtnnlpelogabokaaW.PrintWords Go.Proofs.YtnnlpelogabokaaW.PrintLast Go.Proofs.YtnnlpelogabokaaW.PrintMore Go.Proofs.Ytnnlpelogabokaa.XW

theorem mn_le (a b : Int) : mn a b ≤ a ∧ mn a b ≤ b := by unfold mn; split <;> omega
theorem mn_pos {a b : Int} (h : 0 < a) (k : 0 < b) : 0 < mn a b := by unfold mn; split <;> omega
def mf (at' : ByteArray → Int) : List S35 → List S35
  | [] => []
  | x :: a => if 0 < mn x.f1 (at' x.f0) then ⟨x.f0, mn x.f1 (at' x.f0)⟩ :: mf at' a else mf at' a
theorem mf_mrg (a b : List S35) : ∀ (wa wb : ByteArray) (at' : ByteArray → Int), rises wa a = true → rises wb b = true → (∀ x, x ∈ a → at' x.f0 = atS x.f0 b) → meetL (mrg a b) = mf at' a := by
  induction a, b using mrg.induct with
  | case1 => intro wa wb at' _ _ _; simp [mrg, meetL, mf]
  | case2 y b ih =>
    intro wa wb at' ha hb hat
    have h1 := ih wa y.f0 at' rfl (rises_tail hb) (fun z hz => by cases hz)
    rw [mrg_y, meetL, if_neg (by have := (mn_le 0 y.f1).1; simp only []; omega)]
    exact h1
  | case3 x a ih =>
    intro wa wb at' ha hb hat
    have h1 := ih x.f0 wb at' (rises_tail ha) rfl (fun z hz => by rw [hat z (by simp [hz])])
    rw [mrg_x, mf, hat x (by simp), atS, meetL, if_neg (by have := (mn_le x.f1 0).2; simp only []; omega), if_neg (by have := (mn_le x.f1 0).2; omega)]
    exact h1
  | case4 x a y b h ih =>
    intro wa wb at' ha hb hat
    have hab : above x.f0 (y :: b) := fun z hz => by
      rcases List.mem_cons.1 hz with rfl | hz
      · exact h
      · exact bl_trans _ _ _ h (rises_above b y.f0 (rises_tail hb) z hz)
    have h1 := ih x.f0 wb at' (rises_tail ha) hb (fun z hz => hat z (by simp [hz]))
    rw [mrg_xy, if_pos h, mf, hat x (by simp), atS_above hab, meetL, if_neg (by have := (mn_le x.f1 0).2; simp only []; omega), if_neg (by have := (mn_le x.f1 0).2; omega)]
    exact h1
  | case5 x a y b h h2 ih =>
    intro wa wb at' ha hb hat
    have hxa : ∀ z, z ∈ x :: a → Op.bytesLess y.f0.toList z.f0.toList = true := fun z hz => by
      rcases List.mem_cons.1 hz with rfl | hz
      · exact h2
      · exact bl_trans _ _ _ h2 (rises_above a x.f0 (rises_tail ha) z hz)
    have h1 := ih wa y.f0 at' ha (rises_tail hb) (fun z hz => by rw [hat z hz, atS_skip (hxa z hz)])
    rw [mrg_xy, if_neg h, if_pos h2, meetL, if_neg (by have := (mn_le 0 y.f1).1; simp only []; omega)]
    exact h1
  | case6 x a y b h h2 ih =>
    intro wa wb at' ha hb hat
    have he : x.f0.toList = y.f0.toList := bl_tri (Bool.eq_false_iff.mpr h) (Bool.eq_false_iff.mpr h2)
    have hax := rises_above a x.f0 (rises_tail ha)
    have h1 := ih x.f0 y.f0 at' (rises_tail ha) (rises_tail hb) (fun z hz => by rw [hat z (by simp [hz]), atS_skip (by rw [← he]; exact hax z hz)])
    rw [mrg_xy, if_neg h, if_neg h2, mf, hat x (by simp), atS, if_pos he.symm, meetL, h1]
theorem mf_above {at' : ByteArray → Int} {low : ByteArray} : ∀ {a : List S35}, above low a → above low (mf at' a)
  | [], _ => fun x hx => by cases hx
  | y :: a, h => fun x hx => by
    unfold mf at hx
    have hl : above low a := fun z hz => h z (by simp [hz])
    split at hx
    · rcases List.mem_cons.1 hx with e | hx
      · rw [e]; exact h y (by simp)
      · exact mf_above hl x hx
    · exact mf_above hl x hx
theorem mf_rises (at' : ByteArray → Int) : ∀ (a : List S35) (was : ByteArray), rises was a = true → rises was (mf at' a) = true
  | [], _, _ => rfl
  | x :: a, was, h => by
    have ih := mf_rises at' a x.f0 (rises_tail h)
    have hab := mf_above (at' := at') (rises_above _ _ h)
    have hp := rises_pos h (by simp : x ∈ x :: a)
    unfold mf at hab ⊢
    split
    · rename_i hh
      have hd : dotOk ⟨x.f0, mn x.f1 (at' x.f0)⟩ = true := by
        simp only [rises, dotOk, Bool.and_eq_true, decide_eq_true_eq] at h ⊢
        have := (mn_le x.f1 (at' x.f0)).1
        exact ⟨⟨h.1.1.1.1, by omega⟩, by omega⟩
      have hw : Op.bytesLess was.toList x.f0.toList = true := by simp only [rises, Bool.and_eq_true] at h; exact h.1.2
      simp only [rises, hd, hw, ih, Bool.and_self]
    · rename_i hh
      rw [if_neg hh] at hab
      exact rises_low _ _ _ ih hab
theorem mf_len (at' : ByteArray → Int) : ∀ a : List S35, (mf at' a).length ≤ a.length
  | [] => by simp [mf]
  | x :: a => by have := mf_len at' a; unfold mf; split <;> simp only [List.length_cons] <;> omega

def mnAll : List (List S35) → ByteArray → Int → Int
  | [], _, n => n
  | v :: vs, w, n => mnAll vs w (mn n (atS w v))
theorem mnAll_le : ∀ (vs : List (List S35)) (w : ByteArray) (n : Int), mnAll vs w n ≤ n
  | [], _, n => Int.le_refl n
  | v :: vs, w, n => by have := mnAll_le vs w (mn n (atS w v)); have := (mn_le n (atS w v)).1; unfold mnAll; omega
def gf (vs : List (List S35)) : List S35 → List S35
  | [] => []
  | x :: a => if 0 < mnAll vs x.f0 x.f1 then ⟨x.f0, mnAll vs x.f0 x.f1⟩ :: gf vs a else gf vs a
theorem gf_nil : ∀ (a : List S35) (was : ByteArray), rises was a = true → gf [] a = a
  | [], _, _ => rfl
  | x :: a, was, h => by
    have hp := rises_pos h (by simp : x ∈ x :: a)
    rw [gf, gf_nil a x.f0 (rises_tail h), mnAll, if_pos (by omega)]
theorem gf_mf (v : List S35) (vs : List (List S35)) : ∀ a : List S35, gf vs (mf (fun w => atS w v) a) = gf (v :: vs) a
  | [] => rfl
  | x :: a => by
    have ih := gf_mf v vs a
    rw [gf, mf, mnAll]
    split
    · rename_i hh
      rw [gf, ih]
    · rename_i hh
      have := mnAll_le vs x.f0 (mn x.f1 (atS x.f0 v))
      rw [ih, if_neg (by omega)]
theorem gf_len (vs : List (List S35)) : ∀ a : List S35, (gf vs a).length ≤ a.length
  | [] => by simp [gf]
  | x :: a => by have := gf_len vs a; unfold gf; split <;> simp only [List.length_cons] <;> omega
theorem meetF_gf : ∀ (vs : List (List S35)) (acc : List S35) (was : ByteArray), rises was acc = true → acc.length ≤ 64 → (∀ v, v ∈ vs → rightS v = true) → meetF acc vs = some (gf vs acc)
  | [], acc, was, h, _, _ => by rw [meetF, gf_nil acc was h]
  | v :: vs, acc, was, h, hl, hv => by
    have hr := rightS_le (hv v (by simp))
    have hlen := mrg_len acc v
    have hm := mf_mrg acc v was _ (fun w => atS w v) h hr.2 (fun _ _ => rfl)
    have hml := mf_len (fun w => atS w v) acc
    rw [meetF, if_pos (by omega), hm, meetF_gf vs _ was (mf_rises _ acc was h) (by omega) (fun z hz => hv z (by simp [hz])), gf_mf]

theorem atS_self : ∀ {l : List S35} {was : ByteArray} {x : S35}, rises was l = true → x ∈ l → atS x.f0 l = x.f1
  | y :: l, was, x, h, hx => by
    rcases List.mem_cons.1 hx with rfl | hx
    · rw [atS, if_pos rfl]
    · rw [atS_skip (rises_above l y.f0 (rises_tail h) x hx)]
      exact atS_self (rises_tail h) hx
theorem gf_self (v : List S35) (vs : List (List S35)) : ∀ a : List S35, (∀ x, x ∈ a → atS x.f0 v = x.f1) → gf (v :: vs) a = gf vs a
  | [], _ => rfl
  | x :: a, h => by
    have ih := gf_self v vs a (fun z hz => h z (by simp [hz]))
    rw [gf, gf, mnAll, h x (by simp), ih, show mn x.f1 x.f1 = x.f1 by unfold mn; split <;> rfl]

/-! ### the reference's loops -/
theorem rdL_mem (ls : List (List S35)) (i : Nat) (h : i < ls.length) : rd_L4 ls (i : Int) ∈ ls := by
  have : rd_L4 ls (i : Int) = ls[i] := by simp [rd_L4, List.getD, h]
  rw [this]; exact List.getElem_mem h
theorem rdL_drop (ls : List (List S35)) (i : Nat) (h : i < ls.length) : ls.drop i = rd_L4 ls (i : Int) :: ls.drop (i + 1) := by
  rw [List.drop_eq_getElem_cons h]
  congr 1
  simp [rd_L4, List.getD, h]

theorem refMeet_l2 (ls : List (List S35)) (hls : ls.length ≤ 64) (h0 : 0 < ls.length) (hr : ∀ v, v ∈ ls → v.length ≤ 64) (i : Nat) (hi : i < (rd_L4 ls 0).length) (B : Nat) (hB : 100 ≤ B)
    (R : List S35) (ih : ∀ (k : Nat) (out : List S35), B < k → out.length ≤ i + 1 → pannierref07_Meet.l1 k ls out ((i + 1 : Nat) : Int) = some (out ++ R, 0)) :
    ∀ (k j : Nat) (n : Int) (out : List S35), j ≤ ls.length → B + (ls.length - j) + 1 < k → out.length ≤ i →
      pannierref07_Meet.l2 k ls out (i : Int) n (j : Int) = some (out ++ ((if 0 < mnAll (ls.drop j) (rd_T35 (rd_L4 ls 0) (i : Int)).f0 n then [(⟨(rd_T35 (rd_L4 ls 0) (i : Int)).f0, mnAll (ls.drop j) (rd_T35 (rd_L4 ls 0) (i : Int)).f0 n⟩ : S35)] else []) ++ R), 0)
  | 0, j, n, out, _, h, _ => by omega
  | k + 1, j, n, out, hj, h, ho => by
    have h64 := hr _ (rdL_mem ls 0 h0)
    rw [show ((0 : Nat) : Int) = 0 from rfl] at h64
    unfold pannierref07_Meet.l2
    by_cases hlt : j < ls.length
    · have hjl := hr _ (rdL_mem ls j hlt)
      rw [if_pos (by omega), if_pos (by omega), if_pos (by omega), if_pos (by omega), if_pos (by omega), refAt_f _ _ (by omega) k (by omega), Option.bind_some, wrap_succ hlt (by omega)]
      rw [refMeet_l2 ls hls h0 hr i hi B hB R ih k (j + 1) _ out (by omega) (by omega) ho, rdL_drop ls j hlt, mnAll]
    · rw [if_neg (by omega), List.drop_eq_nil_of_le (by omega), mnAll]
      split
      · rename_i hn
        rw [if_pos (by omega), if_pos (by omega), if_pos (by omega), if_pos (by omega), wrap_succ hi (by omega), ih k _ (by omega) (by simp; omega)]
        simp
      · rename_i hn
        rw [wrap_succ hi (by omega), ih k _ (by omega) (by omega)]
        simp

theorem refMeet_l1 (ls : List (List S35)) (hls : ls.length ≤ 64) (h0 : 0 < ls.length) (hr : ∀ v, v ∈ ls → v.length ≤ 64) : ∀ (d i : Nat), (rd_L4 ls 0).length - i = d → i ≤ (rd_L4 ls 0).length → ∀ (k : Nat) (out : List S35), d * (ls.length + 3) + 100 < k → out.length ≤ i →
    pannierref07_Meet.l1 k ls out (i : Int) = some (out ++ gf ls ((rd_L4 ls 0).drop i), 0)
  | 0, i, hd, hi, k, out, hk, ho => by
    obtain ⟨k, rfl⟩ : ∃ m, k = m + 1 := ⟨k - 1, by omega⟩
    unfold pannierref07_Meet.l1
    rw [if_pos (by omega), if_neg (by omega), List.drop_eq_nil_of_le (by omega), gf]
    simp
  | d + 1, i, hd, hi, k, out, hk, ho => by
    obtain ⟨k, rfl⟩ : ∃ m, k = m + 1 := ⟨k - 1, by omega⟩
    have hmul : (d + 1) * (ls.length + 3) = d * (ls.length + 3) + (ls.length + 3) := by rw [Nat.succ_mul]
    have ih := refMeet_l1 ls hls h0 hr d (i + 1) (by omega) (by omega)
    unfold pannierref07_Meet.l1
    rw [if_pos (by omega), if_pos (by omega), if_pos (by omega)]
    have h2 := refMeet_l2 ls hls h0 hr i (by omega) (d * (ls.length + 3) + 100) (by omega) _ ih k 0 (rd_T35 (rd_L4 ls 0) (i : Int)).f1 out (by omega) (by omega) ho
    rw [show ((0 : Nat) : Int) = 0 from rfl, List.drop_zero] at h2
    rw [h2, rd_drop (rd_L4 ls 0) i (by omega), gf]
    split <;> simp

def meetS (ls : List (List S35)) : List S35 × Int := if ls.length = 0 then ([], 2) else if ls.all rightS then (gf (ls.drop 1) (ls.getD 0 []), 0) else ([], 2)
theorem meetS_len (ls : List (List S35)) : (meetS ls).1.length ≤ 64 := by
  unfold meetS
  split
  · simp
  · split
    · rename_i h0 h
      have hg := gf_len (ls.drop 1) (ls.getD 0 [])
      have hm : ls.getD 0 [] ∈ ls := by
        rw [show ls.getD 0 [] = ls[0]'(by omega) by simp [List.getD, show 0 < ls.length by omega]]
        exact List.getElem_mem _
      have := (rightS_le (List.all_eq_true.1 h _ hm)).1
      simp only []
      omega
    · simp
theorem refMeet_l0 (ls : List (List S35)) (hls : ls.length ≤ 64) (m : Nat) (hm : m ≤ 9223372036854775807) (hz : ∀ v, v ∈ ls → v.length ≤ m ∧ sizes m v) : ∀ (k i : Nat), i ≤ ls.length → (ls.length - i) + 2 * m + 10000 < k → (∀ v, v ∈ ls.take i → rightS v = true) →
    pannierref07_Meet.l0 k ls (i : Int) = some (meetS ls)
  | 0, i, _, h, _ => by omega
  | k + 1, i, hi, h, hA => by
    unfold pannierref07_Meet.l0
    by_cases hlt : i < ls.length
    · have hmem := rdL_mem ls i hlt
      have hzz := hz _ hmem
      rw [if_pos (by omega), if_pos (by omega), refRight_f _ (by omega) m hm hzz.2 k (by omega), Option.bind_some]
      by_cases hri : rightS (rd_L4 ls (i : Int)) = true
      · rw [if_pos hri, wrap_succ hlt (by omega)]
        refine refMeet_l0 ls hls m hm hz k (i + 1) (by omega) (by omega) (fun v hv => ?_)
        rw [List.take_add_one, List.mem_append] at hv
        rcases hv with hv | hv
        · exact hA v hv
        · rw [List.getElem?_eq_getElem hlt] at hv
          simp only [Option.toList_some, List.mem_singleton] at hv
          rw [hv, show ls[i] = rd_L4 ls (i : Int) by simp [rd_L4, List.getD, hlt]]
          exact hri
      · rw [if_neg hri]
        unfold meetS
        rw [if_neg (by omega), if_neg (fun hall => hri (List.all_eq_true.1 hall _ hmem))]
    · rw [if_neg (by omega)]
      have hall : ∀ v, v ∈ ls → rightS v = true := fun v hv => hA v (by rw [List.take_of_length_le (by omega)]; exact hv)
      unfold meetS
      by_cases h0 : ls.length = 0
      · rw [if_pos (by omega), if_pos h0]
      · have hr64 : ∀ v, v ∈ ls → v.length ≤ 64 := fun v hv => (rightS_le (hall v hv)).1
        have hg : rd_L4 ls 0 = ls.getD 0 [] := rfl
        have h64 := hr64 _ (rdL_mem ls 0 (by omega))
        rw [show ((0 : Nat) : Int) = 0 from rfl] at h64
        have hb : (rd_L4 ls 0).length * (ls.length + 3) ≤ 64 * 67 := Nat.mul_le_mul h64 (by omega)
        rw [if_neg (by omega), if_neg h0, if_pos (List.all_eq_true.2 hall)]
        have h1 := refMeet_l1 ls hls (by omega) hr64 (rd_L4 ls 0).length 0 (by omega) (by omega) k [] (by omega) (by simp)
        rw [show ((0 : Nat) : Int) = 0 from rfl, List.drop_zero] at h1
        rw [h1, hg]
        have hr0 := rightS_le (hall _ (rdL_mem ls 0 (by omega)))
        rw [show ((0 : Nat) : Int) = 0 from rfl, hg] at hr0
        have hd : ls = ls.getD 0 [] :: ls.drop 1 := by have := rdL_drop ls 0 (by omega); rw [List.drop_zero] at this; exact this
        have hs := gf_self (ls.getD 0 []) (ls.drop 1) (ls.getD 0 []) (fun x hx => atS_self hr0.2 hx)
        rw [← hd] at hs
        rw [hs]
        rfl
theorem refMeet_f (ls : List (List S35)) (hls : ls.length ≤ 64) (m : Nat) (hm : m ≤ 9223372036854775807) (hz : ∀ v, v ∈ ls → v.length ≤ m ∧ sizes m v) (k : Nat) (hk : ls.length + 2 * m + 10000 < k) : pannierref07_Meet.f k ls = some (meetS ls) := by
  unfold pannierref07_Meet.f
  have := refMeet_l0 ls hls m hm hz k 0 (by omega) (by omega) (fun v hv => by simp at hv)
  exact this

theorem anyBad_f (k m : Nat) (hm : m ≤ 9223372036854775807) (hk : m < k) : ∀ ls : List (List S35), (∀ v, v ∈ ls → v.length ≤ m) → anyBad k ls = some (!(ls.all rightS))
  | [], _ => rfl
  | v :: ls, h => by
    have hv := h v (by simp)
    rw [anyBad, right_f v (by omega) k (by omega), Option.bind_some, anyBad_f k m hm hk ls (fun z hz => h z (by simp [hz])), List.all_cons]
    cases rightS v <;> simp
theorem meet_f (ls : List (List S35)) (m : Nat) (hm : m ≤ 9223372036854775807) (hz : ∀ v, v ∈ ls → v.length ≤ m) (k : Nat) (hk : m < k) : vector_Meet.f k ls = some (meetS ls) := by
  unfold vector_Meet.f meetS
  by_cases h0 : ls.length = 0
  · rw [if_pos h0, if_pos h0]
  rw [if_neg h0, if_neg h0, anyBad_f k m hm hk ls hz, Option.bind_some]
  by_cases ha : ls.all rightS = true
  · have hall := List.all_eq_true.1 ha
    have hm0 : ls.getD 0 [] ∈ ls := by
      rw [show ls.getD 0 [] = ls[0]'(by omega) by simp [List.getD, show 0 < ls.length by omega]]
      exact List.getElem_mem _
    have hr := rightS_le (hall _ hm0)
    rw [if_pos ha, ha, if_neg (by decide)]
    unfold api_Dot_39.f
    rw [if_pos (by omega), Option.bind_some, meetF_gf (ls.drop 1) _ _ hr.2 hr.1 (fun v hv => hall v (List.mem_of_mem_drop hv)), Option.bind_some]
  · rw [if_neg ha, Bool.eq_false_iff.mpr ha, if_pos (by decide)]

/-- The law of meets. -/
theorem VectorMeets_pure (l : List (List S35)) (hl : l.length ≤ 9223372036854775807) (hz : ∀ a, a ∈ l → a.length ≤ maxLen ∧ ∀ b, b ∈ a → b.f0.size ≤ maxLen) : ∃ k, pannierlaw07_VectorMeets.f k l = some true := by
  obtain ⟨m, hm, hz'⟩ : ∃ m, m = 9223372036854775807 ∧ ∀ v, v ∈ l → v.length ≤ m ∧ sizes m v := ⟨maxLen, rfl, hz⟩
  obtain ⟨k, hk⟩ : ∃ k, 64 + 2 * m + 10000 < k := ⟨_, Nat.lt_succ_self _⟩
  refine ⟨k, ?_⟩
  obtain ⟨ls, hls⟩ : ∃ ls, l.take ((mn (l.length : Int) 50) : Int).toNat = ls := ⟨_, rfl⟩
  have hn : ls.length ≤ 50 := by
    have := (mn_le (l.length : Int) 50).2
    rw [← hls, List.length_take]
    omega
  have hzl : ∀ v, v ∈ ls → v.length ≤ m ∧ sizes m v := fun v hv => hz' v (by rw [← hls] at hv; exact List.mem_of_mem_take hv)
  have e1 := shown_f k (by omega)
  have e2 := meet_f ls m (by omega) (fun v hv => (hzl v hv).1) k (by omega)
  have e3 := refMeet_f ls (by omega) m (by omega) hzl k (by omega)
  have hm64 := meetS_len ls
  have e4 := same_f (meetS ls).1 (by omega) k (by omega)
  have c1 : 0 ≤ mn (l.length : Int) 50 := by unfold mn; split <;> omega
  have c2 := (mn_le (l.length : Int) 50).1
  clear hk hm hz' hzl
  unfold pannierlaw07_VectorMeets.f
  rw [e1, Option.bind_some, if_pos c1, if_pos c2, hls, Option.bind_some]
  simp only [e2, e3, e4, Option.bind_some, if_true, beq_self_eq_true]
end Go.Proofs.Ytnnlpelogabokaa.PV
