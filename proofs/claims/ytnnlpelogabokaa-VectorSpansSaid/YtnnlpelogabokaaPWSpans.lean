/- What one vector lacks of another one, dot by dot put to it, makes their join: the plain law. No condition but the sizes that a machine has. -/
import Derived.Test.YtnnlpelogabokaaPWWith
import Derived.Test.YtnnlpelogabokaaPWLaw
import Derived.Test.YtnnlpelogabokaaPWx9

namespace Go.Proofs.Ytnnlpelogabokaa.PW
open Go.RowKit Go.Proofs.YtnnlpelogabokaaW.PrintWords Go.Proofs.YtnnlpelogabokaaW.PrintLast Go.Proofs.YtnnlpelogabokaaW.PrintMore Go.Proofs.Ytnnlpelogabokaa.XW

theorem bl_ne {a b : List UInt8} (h : Op.bytesLess a b = true) : a ≠ b := fun e => by rw [e, bl_irr] at h; cases h
theorem putS_at (n w : ByteArray) (d : Int) : ∀ l : List S35, atS n (putS l w d) = if w.toList = n.toList then d else atS n l
  | [] => by rw [putS, atS_mk]
  | x :: l => by
    rw [putS]
    by_cases h : Op.bytesLess x.f0.toList w.toList = true
    · rw [if_pos h, atS_cons, putS_at n w d l, atS_cons]
      by_cases hx : x.f0.toList = n.toList
      · rw [if_pos hx, if_neg (fun e => bl_ne h (hx.trans e.symm)), if_pos hx]
      · rw [if_neg hx, if_neg hx]
    · rw [if_neg h]
      by_cases hw : x.f0.toList = w.toList
      · rw [if_pos hw, atS_mk, atS_cons]
        by_cases hn : w.toList = n.toList
        · rw [if_pos hn, if_pos hn]
        · rw [if_neg hn, if_neg hn, if_neg (fun e => hn (hw.symm.trans e))]
      · rw [if_neg hw, atS_mk]
theorem putS_rises (w : ByteArray) (d : Int) (hd : dotOk ⟨w, d⟩ = true) : ∀ (l : List S35) (was : ByteArray), rises was l = true → Op.bytesLess was.toList w.toList = true → rises was (putS l w d) = true
  | [], was, _, hw => by rw [putS]; exact rises_cons hd hw rfl
  | x :: l, was, h, hw => by
    have h0 := h
    simp only [rises, Bool.and_eq_true] at h0
    rw [putS]
    by_cases hx : Op.bytesLess x.f0.toList w.toList = true
    · rw [if_pos hx]
      exact rises_cons h0.1.1 h0.1.2 (putS_rises w d hd l x.f0 h0.2 hx)
    · rw [if_neg hx]
      by_cases he : x.f0.toList = w.toList
      · rw [if_pos he]
        have := bytes_inj he
        subst this
        exact rises_cons hd hw h0.2
      · rw [if_neg he]
        have hlt : Op.bytesLess w.toList x.f0.toList = true := by
          cases hq : Op.bytesLess w.toList x.f0.toList with
          | true => rfl
          | false => exact absurd (bl_tri (by simpa using hx) hq) he
        exact rises_cons hd hw (rises_cons h0.1.1 hlt h0.2)
theorem asc_len : ∀ (j l : List S35), asc l → asc j → (∀ x, x ∈ l → ∃ y, y ∈ j ∧ y.f0.toList = x.f0.toList) → l.length ≤ j.length
  | [], [], _, _, _ => Nat.le_refl _
  | [], x :: l, _, _, h => by obtain ⟨y, hy, _⟩ := h x List.mem_cons_self; cases hy
  | y :: j, [], _, _, _ => Nat.zero_le _
  | y :: j, x :: l, hl, hj, h => by
    obtain ⟨z, hz, e⟩ := h x List.mem_cons_self
    rcases List.mem_cons.1 hz with rfl | hz
    · have := asc_len j l hl.2 hj.2 fun x' hx' => by
        obtain ⟨z', hz', e'⟩ := h x' (List.mem_cons_of_mem _ hx')
        rcases List.mem_cons.1 hz' with rfl | hz'
        · exact absurd (e.symm.trans e') (bl_ne (hl.1 x' hx'))
        · exact ⟨z', hz', e'⟩
      simp; omega
    · have hyz := hj.1 z hz
      have := asc_len j (x :: l) hl hj.2 fun x' hx' => by
        obtain ⟨z', hz', e'⟩ := h x' hx'
        rcases List.mem_cons.1 hz' with rfl | hz'
        · rcases List.mem_cons.1 hx' with rfl | hx'
          · exact absurd (e'.trans e.symm) (bl_ne hyz)
          · have h1 := hl.1 x' hx'
            rw [← e', ← e] at h1
            rw [bl_asymm h1] at hyz
            cases hyz
        · exact ⟨z', hz', e'⟩
      simp at this ⊢; omega

/-! ### the spans -/
theorem lf_mem (at' : ByteArray → Int) : ∀ (b : List S35) (s : S52), s ∈ lf at' b → ∃ y, y ∈ b ∧ at' y.f0 < y.f1 ∧ s = ⟨y.f0, wrap64 (at' y.f0 + 1), y.f1⟩
  | [], s, h => by cases h
  | y :: b, s, h => by
    rw [lf] at h
    by_cases hy : at' y.f0 < y.f1
    · rw [if_pos hy, List.mem_cons] at h
      rcases h with rfl | h
      · exact ⟨y, List.mem_cons_self, hy, rfl⟩
      · obtain ⟨z, hz, h⟩ := lf_mem at' b s h
        exact ⟨z, List.mem_cons_of_mem _ hz, h⟩
    · rw [if_neg hy] at h
      obtain ⟨z, hz, h⟩ := lf_mem at' b s h
      exact ⟨z, List.mem_cons_of_mem _ hz, h⟩
theorem lf_apart (at' : ByteArray → Int) : ∀ b : List S35, asc b → List.Pairwise (fun s t : S52 => s.f0.toList ≠ t.f0.toList) (lf at' b)
  | [], _ => List.Pairwise.nil
  | y :: b, h => by
    rw [lf]
    split
    · refine List.Pairwise.cons (fun t ht => ?_) (lf_apart at' b h.2)
      obtain ⟨z, hz, _, rfl⟩ := lf_mem at' b t ht
      exact bl_ne (h.1 z hz)
    · exact lf_apart at' b h.2
theorem lf_all (at' : ByteArray → Int) : ∀ (b : List S35) (y : S35), y ∈ b → at' y.f0 < y.f1 → ∃ s, s ∈ lf at' b ∧ s.f0 = y.f0
  | [], y, h, _ => by cases h
  | z :: b, y, h, hy => by
    rw [lf]
    rcases List.mem_cons.1 h with rfl | h
    · rw [if_pos hy]; exact ⟨_, List.mem_cons_self, rfl⟩
    · obtain ⟨s, hs, e⟩ := lf_all at' b y h hy
      split
      · exact ⟨s, List.mem_cons_of_mem _ hs, e⟩
      · exact ⟨s, hs, e⟩
theorem atS_of_mem : ∀ (l : List S35) (x : S35), asc l → x ∈ l → atS x.f0 l = x.f1
  | [], x, _, h => by cases h
  | y :: l, x, hs, h => by
    rw [atS_cons]
    rcases List.mem_cons.1 h with rfl | h
    · rw [if_pos rfl]
    · rw [if_neg (bl_ne (hs.1 x h)), atS_of_mem l x hs.2 h]
/-- What is known of a vector on the way. -/
structure Way (a b j : List S35) (ss : List S52) (out : List S35) : Prop where
  rises : rises ⟨#[]⟩ out = true
  len : out.length ≤ 64
  told : ∀ s, s ∈ ss → atS s.f0 out = atS s.f0 b
theorem names_len {a b out : List S35} (ha : rightS a = true) (hb : rightS b = true) (hj : ¬ (64 : Int) < ((joinL (mrg a b)).length : Int)) (ho : rises ⟨#[]⟩ out = true) (h : ∀ x, x ∈ out → atS x.f0 a ≠ 0 ∨ atS x.f0 b ≠ 0) : out.length ≤ 64 := by
  have hr := (rightS_le (join_right ha hb hj)).2
  have := asc_len (joinL (mrg a b)) out (rises_asc _ _ ho) (rises_asc _ _ hr) fun x hx => by
    have hat := join_at x.f0 a b _ _ (rightS_le ha).2 (rightS_le hb).2
    have h0 := atS_nonneg x.f0 (rightS_le ha).2
    have h1 := atS_nonneg x.f0 (rightS_le hb).2
    have hm := mx_le (atS x.f0 a) (atS x.f0 b)
    rcases atS_mem x.f0 (joinL (mrg a b)) with h2 | h2
    · rw [hat] at h2
      rcases h x hx with h | h <;> omega
    · obtain ⟨y, hy, e, _⟩ := h2; exact ⟨y, hy, e⟩
  omega

theorem rd52_at (l : List S52) (i : Nat) (h : i < l.length) : rd_T52 l (i : Int) = l[i] := by
  unfold rd_T52; simp [List.getD, h]
theorem w64 {u : Int} (h : -9223372036854775808 ≤ u ∧ u ≤ 9223372036854775807) : wrap64 u = u := by unfold wrap64; omega
section
variable {a b : List S35} (ha : rightS a = true) (hb : rightS b = true) (hj : ¬ (64 : Int) < ((joinL (mrg a b)).length : Int))
/-- A span of these: whose, from what a tells on, up to what b tells. -/
def Fit (a b : List S35) (s : S52) : Prop := s.f1 = atS s.f0 a + 1 ∧ s.f2 = atS s.f0 b ∧ s.f1 ≤ s.f2 ∧ 1 ≤ s.f1 ∧ s.f2 ≤ 4611686018427387904 ∧ dotOk ⟨s.f0, 1⟩ = true
/-- One dot more. -/
theorem step_with {out : List S35} {who : ByteArray} {n : Int} (hr : rises ⟨#[]⟩ out = true) (hl : out.length ≤ 64) (hd : dotOk ⟨who, n⟩ = true) (hn : n - 1 = atS who out) (hlen : (putS out who n).length ≤ 64) :
    withS out who n = (putS out who n, 0) := by
  unfold withS
  rw [rightS_mk hl hr, hd]
  simp only [Bool.and_self, if_true]
  rw [if_pos hn, if_neg (by omega)]
/-- What is known of the vector on the way: all spans so far are in it, all else is as a tells. -/
structure Inv (a b : List S35) (ss : List S52) (out : List S35) : Prop where
  rises : rises ⟨#[]⟩ out = true
  told : ∀ s, s ∈ ss → atS s.f0 out = atS s.f0 b
  else_ : ∀ x : ByteArray, (∀ s, s ∈ ss → s.f0.toList ≠ x.toList) → atS x out = atS x a
structure InvIn (a b : List S35) (ss : List S52) (who : ByteArray) (n : Int) (out : List S35) : Prop where
  rises : rises ⟨#[]⟩ out = true
  told : ∀ s, s ∈ ss → atS s.f0 out = atS s.f0 b
  else_ : ∀ x : ByteArray, (∀ s, s ∈ ss → s.f0.toList ≠ x.toList) → x.toList ≠ who.toList → atS x out = atS x a
  here : atS who out = n - 1
theorem one_of {x : S35} {out : List S35} (hr : rises ⟨#[]⟩ out = true) (hx : x ∈ out) : atS x.f0 out ≠ 0 := by
  rw [atS_of_mem out x (rises_asc _ _ hr) hx]
  have := (rises_pos hr hx).1
  omega
include ha hb hj in
theorem inv_len {ss : List S52} {who : ByteArray} {n : Int} {out : List S35} (h : InvIn a b ss who n out) (hw : atS who b ≠ 0) : out.length ≤ 64 := by
  refine names_len ha hb hj h.rises fun x hx => ?_
  have h1 := one_of h.rises hx
  by_cases e : x.f0.toList = who.toList
  · rw [bytes_inj e]; exact .inr hw
  · by_cases q : ∃ s, s ∈ ss ∧ s.f0.toList = x.f0.toList
    · obtain ⟨s, hs, es⟩ := q
      have := h.told s hs
      rw [bytes_inj es] at this
      rw [this] at h1
      exact .inr h1
    · rw [h.else_ x.f0 (fun s hs es => q ⟨s, hs, es⟩) e] at h1
      exact .inl h1
theorem inv_step {ss : List S52} {who : ByteArray} {n : Int} {out : List S35} (h : InvIn a b ss who n out) (hd : dotOk ⟨who, n⟩ = true) (hss : ∀ s, s ∈ ss → s.f0.toList ≠ who.toList) : InvIn a b ss who (n + 1) (putS out who n) where
  rises := putS_rises who n hd out _ h.rises (dotOk_name hd)
  told := fun s hs => by rw [putS_at, if_neg (fun e => hss s hs e.symm), h.told s hs]
  else_ := fun x hx hw => by rw [putS_at, if_neg (fun e => hw e.symm), h.else_ x hx hw]
  here := by rw [putS_at, if_pos rfl]; omega
theorem inv_enter {ss : List S52} {s : S52} {out : List S35} (h : Inv a b ss out) (hf : Fit a b s) (hss : ∀ t, t ∈ ss → t.f0.toList ≠ s.f0.toList) : InvIn a b ss s.f0 s.f1 out where
  rises := h.rises
  told := h.told
  else_ := fun x hx _ => h.else_ x hx
  here := by rw [h.else_ s.f0 hss, hf.1]; omega
theorem inv_leave {ss : List S52} {s : S52} {out : List S35} (h : InvIn a b ss s.f0 (s.f2 + 1) out) (hf : Fit a b s) : Inv a b (ss ++ [s]) out where
  rises := h.rises
  told := fun t ht => by
    rcases List.mem_append.1 ht with ht | ht
    · exact h.told t ht
    · rw [List.mem_singleton] at ht
      subst ht
      rw [h.here, hf.2.1]; omega
  else_ := fun x hx => h.else_ x (fun t ht => hx t (List.mem_append.2 (.inl ht))) (fun e => hx s (by simp) e.symm)
theorem fit_dot {s : S52} (hf : Fit a b s) {n : Int} (h1 : s.f1 ≤ n) (h2 : n ≤ s.f2) : dotOk ⟨s.f0, n⟩ = true := by
  obtain ⟨_, _, _, h3, h4, h5⟩ := hf
  unfold dotOk at h5 ⊢
  simp at h5 ⊢
  exact ⟨⟨h5, by omega⟩, by omega⟩
include ha hb hj in
theorem spans_in (la : a.length ≤ 64) (lb : b.length ≤ 64) (l : List S52) (hll : l.length ≤ 1000) (j : List S35) (hfit : ∀ s, s ∈ l → Fit a b s) (hap : List.Pairwise (fun s t : S52 => s.f0.toList ≠ t.f0.toList) l)
    (i : Nat) (hi : i < l.length) (left : Int) (F : Nat)
    (hout : ∀ k out', F < k → Inv a b (l.take (i + 1)) out' → pannierlaw07_VectorSpans.l0 k a b true l j out' left ((i + 1 : Nat) : Int) = some true) :
    ∀ (c k : Nat) (n : Int) (out : List S35), n + (c : Int) = l[i].f2 + 1 → l[i].f1 ≤ n → F + 2 * c + 200 < k → InvIn a b (l.take i) l[i].f0 n out →
      pannierlaw07_VectorSpans.l1 k a b true l j out left (i : Int) n = some true
  | 0, k, n, out, hc, hn, hk, h => by
    obtain ⟨k, rfl⟩ : ∃ q, k = q + 1 := ⟨k - 1, by omega⟩
    rw [pannierlaw07_VectorSpans.l1, rd52_at l i hi, if_pos (by omega), if_pos (by omega), if_neg (by omega), w64 (by omega), show (i : Int) + 1 = ((i + 1 : Nat) : Int) by omega]
    refine hout k out (by omega) ?_
    rw [List.take_succ_eq_append_getElem hi]
    have : n = l[i].f2 + 1 := by omega
    subst this
    exact inv_leave h (hfit _ (List.getElem_mem hi))
  | c + 1, k, n, out, hc, hn, hk, h => by
    obtain ⟨k, rfl⟩ : ∃ q, k = q + 2 := ⟨k - 2, by omega⟩
    have hf := hfit _ (List.getElem_mem hi)
    have hd := fit_dot hf hn (by omega)
    have hss : ∀ t, t ∈ l.take i → t.f0.toList ≠ l[i].f0.toList := fun t ht => by
      obtain ⟨q, hq, rfl⟩ := List.getElem_of_mem ht
      rw [List.length_take] at hq
      rw [List.getElem_take]
      exact List.pairwise_iff_getElem.1 hap q i (by omega) hi (by omega)
    have hw : atS l[i].f0 b ≠ 0 := by have := hf.2.1; have := hf.2.2; omega
    have h' := inv_step h hd hss
    have hl := inv_len ha hb hj h hw
    have hl' := inv_len ha hb hj h' hw
    have eA : vector_Has.f (k + 1) a l[i].f0 n = some false := by
      rw [has_f a (by omega) l[i].f0 n (k + 1) (by omega)]
      unfold hasS
      rw [show decide (n ≤ atS l[i].f0 a) = false from decide_eq_false (by have := hf.1; omega)]
      simp
    have eB : vector_Has.f (k + 1) b l[i].f0 n = some true := by
      rw [has_f b (by omega) l[i].f0 n (k + 1) (by omega)]
      unfold hasS
      rw [show decide (n ≤ atS l[i].f0 b) = true from decide_eq_true (by have := hf.2.1; omega), hb, hd]
      rfl
    have eW : vector_With.f k out l[i].f0 n = some (putS out l[i].f0 n, 0) := by
      rw [with_f out (by omega) l[i].f0 n k (by omega), step_with h.rises hl hd h.here.symm hl']
    rw [pannierlaw07_VectorSpans.l1, rd52_at l i hi, if_pos (by omega), if_pos (by omega), if_pos (by omega), eA]
    simp only [Option.bind_some, Bool.false_eq_true, if_false]
    rw [eB]
    simp only [Option.bind_some, Bool.not_true]
    rw [pannierlaw07_VectorSpans.j4, if_neg (by decide), eW]
    simp only [Option.bind_some, if_true]
    rw [w64 (by have := hf.2.2; omega)]
    exact spans_in la lb l hll j hfit hap i hi left F hout c k (n + 1) _ (by omega) (by omega) (by omega) h'
include ha hb hj in
theorem spans_out (la : a.length ≤ 64) (lb : b.length ≤ 64) (l : List S52) (hll : l.length ≤ 1000) (j : List S35) (hfit : ∀ s, s ∈ l → Fit a b s) (hap : List.Pairwise (fun s t : S52 => s.f0.toList ≠ t.f0.toList) l)
    (hend : ∀ k out, 100 < k → Inv a b l out → pannierref07_Same.f k out j = some true) :
    ∀ (c i : Nat) (k : Nat) (left : Int) (out : List S35), i + c = l.length → 0 ≤ left → left ≤ 500 → 300 * c + 2 * left.toNat + 300 < k → Inv a b (l.take i) out →
      pannierlaw07_VectorSpans.l0 k a b true l j out left (i : Int) = some true
  | 0, i, k, left, out, hc, h0, h5, hk, h => by
    obtain ⟨k, rfl⟩ : ∃ q, k = q + 1 := ⟨k - 1, by omega⟩
    rw [pannierlaw07_VectorSpans.l0, if_neg (by omega), if_pos rfl]
    have : l.take i = l := List.take_of_length_le (by omega)
    rw [this] at h
    rw [hend k out (by omega) h]
    rfl
  | c + 1, i, k, left, out, hc, h0, h5, hk, h => by
    obtain ⟨k, rfl⟩ : ∃ q, k = q + 2 := ⟨k - 2, by omega⟩
    have hi : i < l.length := by omega
    have hf := hfit _ (List.getElem_mem hi)
    have hb1 := hf.2.2
    have hss : ∀ t, t ∈ l.take i → t.f0.toList ≠ l[i].f0.toList := fun t ht => by
      obtain ⟨q, hq, rfl⟩ := List.getElem_of_mem ht
      rw [List.length_take] at hq
      rw [List.getElem_take]
      exact List.pairwise_iff_getElem.1 hap q i (by omega) hi (by omega)
    rw [pannierlaw07_VectorSpans.l0, rd52_at l i hi, if_pos (by omega), if_pos (by omega), if_neg (by omega), w64 (by omega), pannierlaw07_VectorSpans.j2, rd52_at l i hi]
    by_cases q : l[i].f2 - l[i].f1 ≥ left
    · rw [decide_eq_true q, if_pos rfl, if_pos rfl, if_pos (by omega), if_pos (by omega), decide_eq_true (by omega)]
    · rw [decide_eq_false q, if_neg (by decide), if_pos (by omega), if_pos (by omega), w64 (u := l[i].f2 - l[i].f1) (by omega), w64 (u := left - (l[i].f2 - l[i].f1)) (by omega), w64 (by omega)]
      refine spans_in ha hb hj la lb l hll j hfit hap i hi _ (300 * c + 2 * (left - (l[i].f2 - l[i].f1) - 1).toNat + 300) (fun k' out' hk' h' => spans_out la lb l hll j hfit hap hend c (i + 1) k' _ out' (by omega) (by omega) (by omega) hk' h') (l[i].f2 - l[i].f1 + 1).toNat k l[i].f1 out (by omega) (by omega) (by omega) (inv_enter h hf hss)
end
/-- What came in may be read as what is shared. -/
theorem V_of_C {w : World} {A : Option Addr} {c : Nat} {l : List S35} (h : Kd.C k35 w A l.length l) (hc : l.length ≤ c) : Kd.V k35 35 w w.heap.size (fun _ => True) (.slice A l.length c) l :=
  ⟨A, c, rfl, hc, fun _ hW => C_block h (fun ad e hn => by subst e; exact hW ad.block trivial (C_lt h hn))⟩
theorem rises_dot : ∀ (l : List S35) (was : ByteArray), rises was l = true → ∀ x, x ∈ l → dotOk x = true
  | [], _, _, x, hx => by cases hx
  | y :: l, was, h, x, hx => by
    simp only [rises, Bool.and_eq_true] at h
    rcases List.mem_cons.1 hx with rfl | hx
    · exact h.1.1
    · exact rises_dot l y.f0 h.2 x hx
theorem VectorSpans_pure (a : List S35) (la : a.length ≤ 9223372036854775807) (_ : ∀ x, x ∈ a → x.f0.size ≤ maxLen) (b : List S35) (lb : b.length ≤ 9223372036854775807) (_ : ∀ x, x ∈ b → x.f0.size ≤ maxLen) : ∃ k, pannierlaw07_VectorSpans.f k a b = some true := by
  obtain ⟨k, hk⟩ : ∃ k, a.length + b.length + 100000 < k := ⟨_, Nat.lt_succ_self _⟩
  refine ⟨k + 1, ?_⟩
  unfold pannierlaw07_VectorSpans.f
  rw [shown_f (k + 1) (by omega), Option.bind_some, lack_f a b la lb (k + 1) (by omega), Option.bind_some, join_f a b la lb (k + 1) (by omega), Option.bind_some]
  have out : ∀ (l : List S52) (j : List S35), pannierlaw07_VectorSpans.j0 (k + 1) a b true l j true = some true := fun l j => by rw [pannierlaw07_VectorSpans.j0, if_pos rfl]
  by_cases hR : (rightS a && rightS b) = true
  case neg =>
    have h0 : ¬ (lackS a b).2 = 0 := by unfold lackS; rw [if_neg hR]; decide
    rw [if_neg h0, out]
  have ha : rightS a = true := by cases hq : rightS a <;> simp [hq] at hR ⊢
  have hb : rightS b = true := by cases hq : rightS b <;> simp [hq] at hR ⊢
  have hla := (rightS_le ha).1
  have hlb := (rightS_le hb).1
  have hra := (rightS_le ha).2
  have hrb := (rightS_le hb).2
  have h0 : (lackS a b).2 = 0 := by unfold lackS; rw [if_pos hR]
  have hL : (lackS a b).1 = lackL (mrg a b) := by unfold lackS; rw [if_pos hR]
  rw [if_pos h0, hL]
  by_cases hj : (64 : Int) < ((joinL (mrg a b)).length : Int)
  · have h1 : (joinS a b).2 = 70 := by rw [joinS_of ha hb, if_pos hj]
    rw [h1]
    exact out _ _
  have h1 : joinS a b = (joinL (mrg a b), 0) := by rw [joinS_of ha hb, if_neg hj]
  rw [h1]
  show pannierlaw07_VectorSpans.j0 (k + 1) a b true (lackL (mrg a b)) (joinL (mrg a b)) false = some true
  have hlf := lf_mrg a b _ _ (fun n => atS n a) hra hrb (fun y _ => rfl)
  rw [← hlf]
  have hlen : (lf (fun n => atS n a) b).length ≤ b.length := by
    clear hlf hrb hlb hb hR h0 hL hj h1 out hk lb
    induction b with
    | nil => exact Nat.le_refl _
    | cons y b ih =>
      rw [lf]
      have := ih (by intro x hx; simp_all)
      split <;> simp <;> omega
  have hfit : ∀ s, s ∈ lf (fun n => atS n a) b → Fit a b s := fun s hs => by
    obtain ⟨y, hy, hlt, rfl⟩ := lf_mem _ b s hs
    have hlt : atS y.f0 a < y.f1 := hlt
    have hp := rises_pos hrb hy
    have hn := atS_nonneg y.f0 hra
    have hd := rises_dot b _ hrb y hy
    have hw : wrap64 (atS y.f0 a + 1) = atS y.f0 a + 1 := w64 (by omega)
    have hat := atS_of_mem b y (rises_asc _ _ hrb) hy
    refine ⟨hw, hat.symm, ?_, ?_, hp.2, ?_⟩
    · show wrap64 (atS y.f0 a + 1) ≤ y.f1
      omega
    · show 1 ≤ wrap64 (atS y.f0 a + 1)
      omega
    · show dotOk ⟨y.f0, 1⟩ = true
      unfold dotOk at hd ⊢
      simp at hd ⊢
      exact hd.1.1
  have hap := lf_apart (fun n => atS n a) b (rises_asc _ _ hrb)
  have hjr := (rightS_le (join_right ha hb hj)).2
  have hjl := (rightS_le (join_right ha hb hj)).1
  rw [pannierlaw07_VectorSpans.j0, if_neg (by decide)]
  refine spans_out ha hb hj hla hlb _ (by omega) _ hfit hap (fun k' o hk' h => ?_) (lf (fun n => atS n a) b).length 0 k 500 a (by omega) (by omega) (by omega) (by omega) ⟨hra, fun s hs => (by simp at hs), fun x _ => rfl⟩
  have : o = joinL (mrg a b) := vec_ext _ _ _ _ h.rises hjr fun n => by
    rw [join_at n a b _ _ hra hrb]
    have hm := mx_le (atS n a) (atS n b)
    have hc := mx_cases (atS n a) (atS n b)
    by_cases q : ∃ s, s ∈ lf (fun n => atS n a) b ∧ s.f0.toList = n.toList
    · obtain ⟨s, hs, e⟩ := q
      have := bytes_inj e
      subst this
      have hf := hfit s hs
      rw [h.told s hs]
      have := hf.1; have := hf.2.1; have := hf.2.2.1
      omega
    · rw [h.else_ n (fun s hs e => q ⟨s, hs, e⟩)]
      have hna := atS_nonneg n hra
      rcases atS_mem n b with h2 | ⟨y, hy, e, e2⟩
      · omega
      · by_cases hlt : atS n a < atS n b
        · exfalso
          have e3 := bytes_inj e
          obtain ⟨s, hs, es⟩ := lf_all (fun n => atS n a) b y hy (by show atS y.f0 a < y.f1; rw [e3]; omega)
          exact q ⟨s, hs, by rw [es, e]⟩
        · omega
  rw [this]
  exact same_f _ (by omega) k' (by omega)
end Go.Proofs.Ytnnlpelogabokaa.PW
