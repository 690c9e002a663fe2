/- What the rows of this claim use, out of the texts of this work (OC). No condition beyond those that each statement names. -/
import Derived.Test.YtenbkljgmgdegaaQbOB
namespace Go.Proofs.Ytenbkljgmgdegaa.PO
open Go.RowKit Go.Proofs.YtenbkljgmgdegaaW.PrintWords Go.Proofs.YtenbkljgmgdegaaW.PrintLast Go.Proofs.YtenbkljgmgdegaaW.PrintMore Go.Proofs.Ytenbkljgmgdegaa.XW
set_option linter.unusedVariables false
set_option linter.unusedSimpArgs false
structure AP where
  L : List S36
  K : List S34
  Q : List S36
def withK (K : List S34) (x : S36) : List S34 × Int := withS K x.f0.f0 x.f0.f1
def canS (K : List S34) (x : S36) : Bool := decide ((withK K x).2 = 0) && leqS x.f1 K
def handA (s : AP) (x : S36) : AP := { s with L := s.L ++ [x], K := (withK s.K x).1 }
def takeA (s : AP) (i : Nat) : AP := { s with Q := s.Q.eraseIdx i }
def drainA : Nat → AP → Nat → AP × Nat
  | 0, s, n => (s, n)
  | f + 1, s, n => match s.Q.findIdx? (canS s.K) with
    | none => (s, n)
    | some i => drainA f (handA (takeA s i) (s.Q.getD i z36)) (n + 1)
def ofDot (l : List S36) (d : S34) : Option S36 := l.find? (fun y => decide (y.f0 = d))
def putA (s : AP) (x : S36) : (Int × Int) × AP :=
  if rightO x = true then
    match ofDot (s.L ++ s.Q) x.f0 with
    | some y => if y = x then ((0, 0), s) else ((0, 81), s)
    | none => if atS x.f0.f0 s.K = 0 ∧ s.K.length = 64 then ((0, 70), s)
      else if leqS x.f1 s.K = true then ((((drainA s.Q.length (handA s x) 1).2 : Int), 0), (drainA s.Q.length (handA s x) 1).1)
      else if s.Q.length = 256 then ((0, 82), s) else ((0, 0), { s with Q := s.Q ++ [x] })
  else ((0, 2), s)
structure InvA (s : AP) : Prop where
  once : ((s.L ++ s.Q).map (·.f0)).Nodup
  right : ∀ x ∈ s.L ++ s.Q, rightO x = true
  known : rightS s.K = true
  know : ∀ d : S34, 1 ≤ d.f1 → (d.f1 ≤ atS d.f0 s.K ↔ ∃ y ∈ s.L, y.f0 = d)
  waits : s.Q.length ≤ 256
theorem rightS_nil : rightS [] = true := rfl
theorem invA_new : InvA ⟨[], [], []⟩ := ⟨by simp, by simp, rightS_nil, fun d hd => by simp [atS]; omega, by simp⟩
theorem withS_ok {v : List S34} {n : ByteArray} {d : Int} (h : (withS v n d).2 = 0) : rightS v = true ∧ dotOk ⟨n, d⟩ = true ∧ d - 1 = atS n v ∧ (putS v n d).length ≤ 64 ∧ (withS v n d).1 = putS v n d := by
  unfold withS at h ⊢
  by_cases h1 : (rightS v && dotOk ⟨n, d⟩) = true
  · rw [if_pos h1] at h ⊢
    by_cases h2 : d - 1 = atS n v
    · rw [if_pos h2] at h ⊢
      by_cases h3 : 64 < (putS v n d).length
      · rw [if_pos h3] at h; simp at h
      · rw [if_neg h3]
        simp only [Bool.and_eq_true] at h1
        exact ⟨h1.1, h1.2, h2, by omega, rfl⟩
    · rw [if_neg h2] at h; simp at h
  · rw [if_neg h1] at h; simp at h
theorem name_above {n : ByteArray} {d : Int} (h : dotOk ⟨n, d⟩ = true) : Op.bytesLess (⟨#[]⟩ : ByteArray).toList n.toList = true := dotOk_name h
theorem withS_right {v : List S34} {n : ByteArray} {d : Int} (h : (withS v n d).2 = 0) : rightS (withS v n d).1 = true := by
  obtain ⟨h1, h2, h3, h4, h5⟩ := withS_ok h
  rw [h5]
  exact rightS_mk h4 (putS_rises n d h2 v _ (rightS_le h1).2 (name_above h2))
theorem withS_at {v : List S34} {n : ByteArray} {d : Int} (h : (withS v n d).2 = 0) (w : ByteArray) : atS w (withS v n d).1 = if n.toList = w.toList then d else atS w v := by
  rw [(withS_ok h).2.2.2.2]
  exact putS_at w n d v
theorem leqS_refl' {a : List S34} (h : rightS a = true) : leqS a a = true := (leqS_iff h h).2 (fun n => Int.le_refl _)
theorem ofDot_some {l : List S36} {d : S34} {y : S36} (h : ofDot l d = some y) : y ∈ l ∧ y.f0 = d := by
  unfold ofDot at h
  exact ⟨List.mem_of_find?_eq_some h, by simpa using List.find?_some h⟩
theorem ofDot_none {l : List S36} {d : S34} (h : ofDot l d = none) : ∀ y ∈ l, y.f0 ≠ d := by
  unfold ofDot at h
  simpa using List.find?_eq_none.1 h
theorem nodup_eq {l : List S36} (h : (l.map (·.f0)).Nodup) {x y : S36} (hx : x ∈ l) (hy : y ∈ l) (he : x.f0 = y.f0) : x = y := by
  induction l with
  | nil => cases hx
  | cons z l ih =>
    simp only [List.map_cons, List.nodup_cons, List.mem_map, not_exists, not_and] at h
    rcases List.mem_cons.1 hx with hx1 | hx1
    · subst hx1
      rcases List.mem_cons.1 hy with hy | hy
      · exact hy.symm
      · exact absurd he.symm (h.1 y hy)
    · rcases List.mem_cons.1 hy with hy | hy
      · subst hy; exact absurd he (h.1 x hx1)
      · exact ih h.2 hx1 hy
theorem ofDot_mem {l : List S36} (h : (l.map (·.f0)).Nodup) {y : S36} (hy : y ∈ l) : ofDot l y.f0 = some y := by
  cases hk : ofDot l y.f0 with
  | none => exact absurd rfl (ofDot_none hk y hy)
  | some z => rw [nodup_eq h (ofDot_some hk).1 hy (ofDot_some hk).2]
theorem ofDot_perm {l l' : List S36} (h : (l.map (·.f0)).Nodup) (hp : l.Perm l') (d : S34) : ofDot l d = ofDot l' d := by
  have h' : (l'.map (·.f0)).Nodup := (hp.map _).nodup_iff.1 h
  cases hk : ofDot l d with
  | none =>
    cases hk' : ofDot l' d with
    | none => rfl
    | some z => exact absurd (ofDot_some hk').2 (ofDot_none hk z (hp.mem_iff.2 (ofDot_some hk').1))
  | some y =>
    have := ofDot_mem h' (hp.mem_iff.1 (ofDot_some hk).1)
    rw [(ofDot_some hk).2] at this
    exact this.symm
theorem getElem_cons_eraseIdx_perm_ {α : Type} : ∀ {l : List α} {i : Nat} (h : i < l.length), (l[i] :: l.eraseIdx i).Perm l
  | [], i, h => by simp at h
  | x :: l, 0, _ => List.Perm.refl _
  | x :: l, i + 1, h => by
    have := getElem_cons_eraseIdx_perm_ (l := l) (i := i) (by simpa using h)
    exact (List.Perm.swap _ _ _).trans (List.Perm.cons x this)
theorem erase_perm {l : List S36} {i : Nat} (h : i < l.length) : (l.getD i z36 :: l.eraseIdx i).Perm l := by
  rw [List.getD_eq_getElem?_getD, List.getElem?_eq_getElem h]; exact getElem_cons_eraseIdx_perm_ h
theorem step_perm (s : AP) {i : Nat} (h : i < s.Q.length) : ((handA (takeA s i) (s.Q.getD i z36)).L ++ (handA (takeA s i) (s.Q.getD i z36)).Q).Perm (s.L ++ s.Q) := by
  show ((s.L ++ [s.Q.getD i z36]) ++ s.Q.eraseIdx i).Perm _
  rw [List.append_assoc]
  exact List.Perm.append_left _ (erase_perm h)
theorem canS_of {K : List S34} {x : S36} (h : canS K x = true) : (withK K x).2 = 0 ∧ leqS x.f1 K = true := by
  unfold canS at h
  simpa using h
theorem first_some {K : List S34} {Q : List S36} {i : Nat} (h : Q.findIdx? (canS K) = some i) : i < Q.length ∧ canS K (Q.getD i z36) = true := by
  obtain ⟨hi, hc, _⟩ := List.findIdx?_eq_some_iff_getElem.1 h
  exact ⟨hi, by rw [List.getD_eq_getElem?_getD, List.getElem?_eq_getElem hi]; exact hc⟩
theorem know_hand {s : AP} (hk : ∀ d : S34, 1 ≤ d.f1 → (d.f1 ≤ atS d.f0 s.K ↔ ∃ y ∈ s.L, y.f0 = d)) {x : S36} (hw : (withK s.K x).2 = 0) :
    ∀ d : S34, 1 ≤ d.f1 → (d.f1 ≤ atS d.f0 (withK s.K x).1 ↔ ∃ y ∈ s.L ++ [x], y.f0 = d) := by
  intro d hd
  have hat := withS_at hw d.f0
  have hn := (withS_ok hw).2.2.1
  unfold withK
  rw [hat]
  by_cases he : x.f0.f0.toList = d.f0.toList
  · have e := bytes_inj he
    rw [if_pos he]
    rw [e] at hn
    constructor
    · intro h
      by_cases h1 : d.f1 ≤ atS d.f0 s.K
      · obtain ⟨y, hy, hyd⟩ := (hk d hd).1 h1
        exact ⟨y, List.mem_append_left _ hy, hyd⟩
      · refine ⟨x, List.mem_append_right _ (List.mem_singleton.2 rfl), ?_⟩
        have : d.f1 = x.f0.f1 := by omega
        cases hd' : d
        cases hx' : x.f0
        rw [hd', hx'] at e this
        simp only at e this
        rw [e, this]
    · rintro ⟨y, hy, rfl⟩
      rcases List.mem_append.1 hy with hy | hy
      · have := (hk _ hd).2 ⟨y, hy, rfl⟩
        omega
      · rw [List.mem_singleton.1 hy]; exact Int.le_refl _
  · rw [if_neg he, hk d hd]
    constructor
    · rintro ⟨y, hy, h⟩; exact ⟨y, List.mem_append_left _ hy, h⟩
    · rintro ⟨y, hy, h⟩
      rcases List.mem_append.1 hy with hy | hy
      · exact ⟨y, hy, h⟩
      · rw [List.mem_singleton.1 hy] at h
        exact absurd (by rw [h]) he
theorem inv_step {s : AP} (h : InvA s) {i : Nat} (hi : s.Q.findIdx? (canS s.K) = some i) : InvA (handA (takeA s i) (s.Q.getD i z36)) := by
  obtain ⟨hlt, hc⟩ := first_some hi
  have hp := step_perm s hlt
  refine ⟨(hp.map _).nodup_iff.2 h.once, fun x hx => h.right x (hp.mem_iff.1 hx), withS_right (canS_of hc).1, know_hand h.know (canS_of hc).1, ?_⟩
  have := h.waits
  show (s.Q.eraseIdx i).length ≤ 256
  rw [List.length_eraseIdx]
  split <;> omega
theorem drainA_inv : ∀ (f : Nat) (s : AP) (n : Nat), InvA s → InvA (drainA f s n).1 ∧ ((drainA f s n).1.L ++ (drainA f s n).1.Q).Perm (s.L ++ s.Q) ∧ n ≤ (drainA f s n).2 ∧ (drainA f s n).2 ≤ n + f ∧ (drainA f s n).1.L.length = s.L.length + ((drainA f s n).2 - n)
  | 0, s, n, h => ⟨h, List.Perm.refl _, Nat.le_refl _, by simp [drainA], by simp [drainA]⟩
  | f + 1, s, n, h => by
    unfold drainA
    cases hi : s.Q.findIdx? (canS s.K) with
    | none => exact ⟨h, List.Perm.refl _, Nat.le_refl _, by simp, by simp⟩
    | some i =>
      obtain ⟨h1, h2, h3, h4, h5⟩ := drainA_inv f (handA (takeA s i) (s.Q.getD i z36)) (n + 1) (inv_step h hi)
      refine ⟨h1, h2.trans (step_perm s (first_some hi).1), by simp only; omega, by simp only; omega, ?_⟩
      simp only
      have e1 : (handA (takeA s i) (s.Q.getD i z36)).L.length = s.L.length + 1 := by
        show (s.L ++ [_]).length = _
        simp
      omega
theorem inv_hand {s : AP} (h : InvA s) {x : S36} (hx : rightO x = true) (hn : ofDot (s.L ++ s.Q) x.f0 = none) (hw : (withK s.K x).2 = 0) : InvA (handA s x) := by
  refine ⟨?_, ?_, withS_right hw, know_hand h.know hw, h.waits⟩
  · show (((s.L ++ [x]) ++ s.Q).map (·.f0)).Nodup
    have hp : ((s.L ++ [x]) ++ s.Q).Perm (x :: (s.L ++ s.Q)) := by
      rw [List.append_assoc]; exact List.perm_middle
    rw [(hp.map _).nodup_iff]
    simp only [List.map_cons, List.nodup_cons]
    exact ⟨fun hm => by obtain ⟨y, hy, he⟩ := List.mem_map.1 hm; exact ofDot_none hn y hy he, h.once⟩
  · intro y hy
    rcases List.mem_append.1 hy with hy | hy
    · rcases List.mem_append.1 hy with hy | hy
      · exact h.right y (List.mem_append_left _ hy)
      · rw [List.mem_singleton.1 hy]; exact hx
    · exact h.right y (List.mem_append_right _ hy)
theorem putS_same (n : ByteArray) (d : Int) : ∀ (l : List S34) (was : ByteArray), rises was l = true → atS n l ≠ 0 → (putS l n d).length = l.length
  | [], _, _, h => absurd rfl h
  | x :: l, was, hr, h => by
    unfold putS
    by_cases h1 : Op.bytesLess x.f0.toList n.toList = true
    · rw [if_pos h1, List.length_cons, List.length_cons, putS_same n d l x.f0 (rises_tail hr) (by rwa [atS_skip h1] at h)]
    · rw [if_neg h1]
      by_cases h2 : x.f0.toList = n.toList
      · rw [if_pos h2]; rfl
      · exfalso
        rw [atS_else h2] at h
        have h3 : Op.bytesLess n.toList x.f0.toList = true := by
          cases h4 : Op.bytesLess n.toList x.f0.toList
          · exact absurd (bl_tri (by simpa using h1) h4) h2
          · rfl
        exact h (atS_above (fun z hz => bl_trans _ _ _ h3 (rises_above l x.f0 (rises_tail hr) z hz)))
theorem with_of_leq {s : AP} (h : InvA s) {x : S36} (hx : rightO x = true) (hl : leqS x.f1 s.K = true) (hroom : ¬ (atS x.f0.f0 s.K = 0 ∧ s.K.length = 64)) (hnew : ofDot (s.L ++ s.Q) x.f0 = none) : (withK s.K x).2 = 0 := by
  obtain ⟨hd, hr, ha, _⟩ := rightO_parts hx
  have h1 := (leqS_iff hr h.known).1 hl x.f0.f0
  have hb := dot_parts (n := x.f0.f0) (d := x.f0.f1) hd
  have h2 : ¬ x.f0.f1 ≤ atS x.f0.f0 s.K := fun hc => by
    obtain ⟨y, hy, he⟩ := (h.know x.f0 hb.1).1 hc
    exact ofDot_none hnew y (List.mem_append_left _ hy) he
  have hk := rightS_le h.known
  unfold withK withS
  rw [if_pos (by simp only [Bool.and_eq_true]; exact ⟨h.known, hd⟩), if_pos (by omega)]
  have h3 : (putS s.K x.f0.f0 x.f0.f1).length ≤ 64 := by
    by_cases h0 : atS x.f0.f0 s.K = 0
    · have := putS_len s.K x.f0.f0 x.f0.f1
      have : ¬ s.K.length = 64 := fun e => hroom ⟨h0, e⟩
      omega
    · rw [putS_same _ _ _ _ hk.2 h0]; exact hk.1
  rw [if_neg (by omega)]
theorem putA_inv {s : AP} (h : InvA s) (x : S36) : InvA (putA s x).2 ∧ (putA s x).2.L.length ≤ s.L.length + 257 := by
  unfold putA
  by_cases hx : rightO x = true
  · rw [if_pos hx]
    cases hn : ofDot (s.L ++ s.Q) x.f0 with
    | some y => simp only; split <;> exact ⟨h, by simp⟩
    | none =>
      simp only
      by_cases hroom : atS x.f0.f0 s.K = 0 ∧ s.K.length = 64
      · rw [if_pos hroom]; exact ⟨h, by simp⟩
      · rw [if_neg hroom]
        by_cases hl : leqS x.f1 s.K = true
        · rw [if_pos hl]
          obtain ⟨h1, h2, h3, h4, h5⟩ := drainA_inv s.Q.length (handA s x) 1 (inv_hand h hx hn (with_of_leq h hx hl hroom hn))
          refine ⟨h1, ?_⟩
          have e1 : (handA s x).L.length = s.L.length + 1 := by show (s.L ++ [_]).length = _; simp
          have := h.waits
          simp only
          omega
        · rw [if_neg hl]
          by_cases h256 : s.Q.length = 256
          · rw [if_pos h256]; exact ⟨h, by simp⟩
          · rw [if_neg h256]
            refine ⟨⟨?_, ?_, h.known, h.know, ?_⟩, by simp⟩
            · have hp : (s.L ++ (s.Q ++ [x])).Perm (x :: (s.L ++ s.Q)) := by
                rw [← List.append_assoc]; exact (List.perm_append_comm (l₁ := s.L ++ s.Q) (l₂ := [x]))
              rw [(hp.map _).nodup_iff]
              simp only [List.map_cons, List.nodup_cons]
              exact ⟨fun hm => by obtain ⟨y, hy, he⟩ := List.mem_map.1 hm; exact ofDot_none hn y hy he, h.once⟩
            · intro y hy
              rw [← List.append_assoc] at hy
              rcases List.mem_append.1 hy with hy | hy
              · exact h.right y hy
              · rw [List.mem_singleton.1 hy]; exact hx
            · have := h.waits
              show (s.Q ++ [x]).length ≤ 256
              simp
              omega
  · rw [if_neg hx]; exact ⟨h, by simp⟩
end Go.Proofs.Ytenbkljgmgdegaa.PO
