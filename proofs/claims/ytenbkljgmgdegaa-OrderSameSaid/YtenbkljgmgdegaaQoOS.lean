/- What the rows of this claim use, out of the texts of this work (OS). No condition beyond those that each statement names. -/
import Derived.Test.YtenbkljgmgdegaaQoOW
namespace Go.Proofs.Ytenbkljgmgdegaa.PO
open Go.RowKit Go.Proofs.YtenbkljgmgdegaaW.PrintWords Go.Proofs.YtenbkljgmgdegaaW.PrintLast Go.Proofs.YtenbkljgmgdegaaW.PrintMore Go.Proofs.Ytenbkljgmgdegaa.XW
set_option linter.unusedVariables false
set_option linter.unusedSimpArgs false
def ShutA (s : AP) : Prop := ∀ x ∈ s.Q, canS s.K x = false
theorem shut_drain : ∀ (f : Nat) (s : AP) (n : Nat), s.Q.length ≤ f → ShutA (drainA f s n).1
  | 0, s, n, h => by
    have : s.Q = [] := List.eq_nil_of_length_eq_zero (by omega)
    intro x hx
    have hx' : x ∈ s.Q := hx
    rw [this] at hx'
    cases hx'
  | f + 1, s, n, h => by
    unfold drainA
    cases hi : s.Q.findIdx? (canS s.K) with
    | none =>
      intro x hx
      have := List.findIdx?_eq_none_iff.1 hi x hx
      simpa using this
    | some i =>
      refine shut_drain f _ _ ?_
      have := (first_some hi).1
      show (s.Q.eraseIdx i).length ≤ f
      rw [List.length_eraseIdx, if_pos this]
      omega
theorem leq_of_can {K : List S34} {x : S36} (h : ¬ leqS x.f1 K = true) : canS K x = false := by
  unfold canS
  cases hl : leqS x.f1 K
  · simp
  · exact absurd hl h
structure OnePut (s t : AP) (x : S36) : Prop where
  new : x ∈ t.L ++ t.Q
  old : ∀ y ∈ s.L ++ s.Q, y ∈ t.L ++ t.Q
  only : ∀ y ∈ t.L ++ t.Q, y ∈ s.L ++ s.Q ∨ y = x
  shut : ShutA s → ShutA t
theorem one_put {s : AP} (h : InvA s) {x : S36} (h0 : (putA s x).1.2 = 0) : OnePut s (putA s x).2 x := by
  unfold putA at h0 ⊢
  by_cases hx : rightO x = true
  · rw [if_pos hx] at h0 ⊢
    cases hn : ofDot (s.L ++ s.Q) x.f0 with
    | some y =>
      rw [hn] at h0
      simp only at h0 ⊢
      by_cases hy : y = x
      · rw [if_pos hy]
        exact ⟨hy ▸ (ofDot_some hn).1, fun y hy => hy, fun y hy => .inl hy, fun h => h⟩
      · rw [if_neg hy] at h0; simp at h0
    | none =>
      rw [hn] at h0
      simp only at h0 ⊢
      by_cases hroom : atS x.f0.f0 s.K = 0 ∧ s.K.length = 64
      · rw [if_pos hroom] at h0; simp at h0
      · rw [if_neg hroom] at h0 ⊢
        by_cases hl : leqS x.f1 s.K = true
        · rw [if_pos hl]
          obtain ⟨h1, h2, _⟩ := drainA_inv s.Q.length (handA s x) 1 (inv_hand h hx hn (with_of_leq h hx hl hroom hn))
          have hp2 : ((handA s x).L ++ (handA s x).Q).Perm (x :: (s.L ++ s.Q)) := by
            show ((s.L ++ [x]) ++ s.Q).Perm _
            rw [List.append_assoc]; exact List.perm_middle
          have hp := h2.trans hp2
          refine ⟨hp.mem_iff.2 List.mem_cons_self, fun y hy => hp.mem_iff.2 (List.mem_cons_of_mem _ hy), fun y hy => ?_, fun _ => shut_drain _ _ _ (Nat.le_refl _)⟩
          rcases List.mem_cons.1 (hp.mem_iff.1 hy) with h | h
          · exact .inr h
          · exact .inl h
        · rw [if_neg hl] at h0 ⊢
          by_cases h256 : s.Q.length = 256
          · rw [if_pos h256] at h0; simp at h0
          · rw [if_neg h256]
            refine ⟨List.mem_append_right _ (List.mem_append_right _ (List.mem_singleton.2 rfl)), fun y hy => ?_, fun y hy => ?_, fun hs y hy => ?_⟩
            · rcases List.mem_append.1 hy with h | h
              · exact List.mem_append_left _ h
              · exact List.mem_append_right _ (List.mem_append_left _ h)
            · rcases List.mem_append.1 hy with h | h
              · exact .inl (List.mem_append_left _ h)
              · rcases List.mem_append.1 h with h | h
                · exact .inl (List.mem_append_right _ h)
                · exact .inr (List.mem_singleton.1 h)
            · rcases List.mem_append.1 hy with h | h
              · exact hs y h
              · rw [List.mem_singleton.1 h]; exact leq_of_can hl
  · rw [if_neg hx] at h0; simp at h0
theorem puts_all : ∀ (l : List S36) (s : AP), InvA s → ShutA s → (putsA l s).2 = true →
    (∀ x ∈ l, x ∈ (putsA l s).1.L ++ (putsA l s).1.Q) ∧ (∀ y ∈ s.L ++ s.Q, y ∈ (putsA l s).1.L ++ (putsA l s).1.Q) ∧ (∀ y ∈ (putsA l s).1.L ++ (putsA l s).1.Q, y ∈ s.L ++ s.Q ∨ y ∈ l) ∧ ShutA (putsA l s).1
  | [], s, _, hs, _ => ⟨(fun x hx => by cases hx), fun y hy => hy, fun y hy => .inl hy, hs⟩
  | x :: l, s, hi, hs, h => by
    rw [putsA_cons] at h ⊢
    by_cases h0 : (putA s x).1.2 = 0
    · rw [if_pos h0] at h ⊢
      have h1 := one_put hi h0
      obtain ⟨h2, h3, h4, h5⟩ := puts_all l _ (putA_inv hi x).1 (h1.shut hs) h
      refine ⟨fun y hy => ?_, fun y hy => h3 y (h1.old y hy), fun y hy => ?_, h5⟩
      · rcases List.mem_cons.1 hy with hy | hy
        · rw [hy]; exact h3 x h1.new
        · exact h2 y hy
      · rcases h4 y hy with h | h
        · rcases h1.only y h with h | h
          · exact .inl h
          · rw [h]; exact .inr List.mem_cons_self
        · exact .inr (List.mem_cons_of_mem _ h)
    · rw [if_neg h0] at h; simp at h
theorem nodup_le {α : Type} [DecidableEq α] : ∀ (a b : List α), a.Nodup → (∀ x ∈ a, x ∈ b) → a.length ≤ b.length
  | [], b, _, _ => by simp
  | x :: a, b, hn, h => by
    have hx := h x List.mem_cons_self
    have := nodup_le a (b.erase x) (List.nodup_cons.1 hn).2 (fun y hy => by
      have hne : y ≠ x := fun e => (List.nodup_cons.1 hn).1 (e ▸ hy)
      exact (List.mem_erase_of_ne hne).2 (h y (List.mem_cons_of_mem _ hy)))
    rw [List.length_erase_of_mem hx] at this
    have : 0 < b.length := List.length_pos_of_mem hx
    simp only [List.length_cons]
    omega
theorem names_once : ∀ (l : List S34) (was : ByteArray), rises was l = true → (l.map (·.f0)).Nodup
  | [], _, _ => by simp
  | x :: l, was, h => by
    simp only [List.map_cons, List.nodup_cons]
    refine ⟨fun hm => ?_, names_once l x.f0 (rises_tail h)⟩
    obtain ⟨y, hy, he⟩ := List.mem_map.1 hm
    have := rises_above l x.f0 (rises_tail h) y hy
    rw [he, bl_irr] at this
    cases this
theorem known_name {s : AP} (hi : InvA s) {z : S34} (hz : z ∈ s.K) : ∃ y ∈ s.L, y.f0.f0 = z.f0 := by
  have hr := (rightS_le hi.known).2
  have hat := atS_of_mem s.K z (rises_asc _ _ hr) hz
  have hp := rises_pos hr hz
  obtain ⟨y, hy, he⟩ := (hi.know z hp.1).1 (by rw [hat]; exact Int.le_refl _)
  exact ⟨y, hy, by rw [he]⟩
theorem atS_zero {n : ByteArray} {l : List S34} {was : ByteArray} (h : rises was l = true) (h0 : atS n l = 0) : ∀ z ∈ l, z.f0 ≠ n := fun z hz he => by
  have := atS_of_mem l z (rises_asc _ _ h) hz
  have hp := (rises_pos h hz).1
  rw [he, h0] at this
  omega
theorem room_of {s : AP} (hi : InvA s) {ns : List ByteArray} (hns : ns.length ≤ 64) (hall : ∀ y ∈ s.L ++ s.Q, y.f0.f0 ∈ ns) {x : S36} (hx : x ∈ s.L ++ s.Q) : ¬ (atS x.f0.f0 s.K = 0 ∧ s.K.length = 64) := by
  rintro ⟨h0, h64⟩
  have hr := (rightS_le hi.known).2
  have := nodup_le (x.f0.f0 :: s.K.map (·.f0)) ns (List.nodup_cons.2 ⟨fun hm => by
    obtain ⟨z, hz, he⟩ := List.mem_map.1 hm
    exact atS_zero hr h0 z hz he, names_once _ _ hr⟩) (fun n hn => by
    rcases List.mem_cons.1 hn with rfl | hn
    · exact hall x hx
    · obtain ⟨z, hz, rfl⟩ := List.mem_map.1 hn
      obtain ⟨y, hy, he⟩ := known_name hi hz
      rw [← he]; exact hall y (List.mem_append_left _ hy))
  simp only [List.length_cons, List.length_map] at this
  omega
theorem with_new {s : AP} (h : InvA s) {x : S36} (hx : rightO x = true) (hl : leqS x.f1 s.K = true) (hroom : ¬ (atS x.f0.f0 s.K = 0 ∧ s.K.length = 64)) (h2 : ¬ x.f0.f1 ≤ atS x.f0.f0 s.K) : (withK s.K x).2 = 0 := by
  obtain ⟨hd, hr, ha, _⟩ := rightO_parts hx
  have h1 := (leqS_iff hr h.known).1 hl x.f0.f0
  have hb := dot_parts (n := x.f0.f0) (d := x.f0.f1) hd
  have hk := rightS_le h.known
  unfold withK withS
  rw [if_pos (by simp only [Bool.and_eq_true]; exact ⟨h.known, hd⟩), if_pos (by omega)]
  have h3 : (putS s.K x.f0.f0 x.f0.f1).length ≤ 64 := by
    by_cases h0 : atS x.f0.f0 s.K = 0
    · have := putS_len s.K x.f0.f0 x.f0.f1
      have : ¬ s.K.length = 64 := fun e => hroom ⟨h0, e⟩
      omega
    · rw [putS_same _ _ _ _ hk.2 h0]; exact hk.1
  rw [if_neg (by omega)]
theorem handed_in {b : AP} (hi : InvA b) (hs : ShutA b) {ns : List ByteArray} (hns : ns.length ≤ 64) (hall : ∀ y ∈ b.L ++ b.Q, y.f0.f0 ∈ ns) : ∀ (l : List S36) (K : List S34), downB K l = true → leqS K b.K = true → (∀ x ∈ l, x ∈ b.L ++ b.Q) → ∀ x ∈ l, x ∈ b.L
  | [], _, _, _, _ => fun x hx => by cases hx
  | y :: l, K, hd, hK, hm => by
    simp only [downB, Bool.and_eq_true] at hd
    obtain ⟨h1, h2⟩ := okD_iff.1 hd.1
    have hyb := hm y List.mem_cons_self
    have hyr := hi.right y hyb
    have hyd := dot_parts (n := y.f0.f0) (d := y.f0.f1) (rightO_parts hyr).1
    have hyL : y ∈ b.L := by
      rcases List.mem_append.1 hyb with h | h
      · exact h
      · exfalso
        have hnot : ¬ y.f0.f1 ≤ atS y.f0.f0 b.K := fun hc => by
          obtain ⟨z, hz, he⟩ := (hi.know y.f0 hyd.1).1 hc
          have hzy : z = y := nodup_eq hi.once (List.mem_append_left _ hz) hyb he
          have hn := hi.once
          rw [List.map_append, List.nodup_append] at hn
          exact hn.2.2 _ (List.mem_map.2 ⟨z, hz, rfl⟩) _ (List.mem_map.2 ⟨y, h, rfl⟩) (by rw [hzy])
        have hl := leqS_trans h1 hK
        have hw := with_new hi hyr hl (room_of hi hns hall hyb) hnot
        have hc := hs y h
        unfold canS at hc
        rw [hw, hl] at hc
        exact absurd hc (by decide)
    have hK' : leqS (withK K y).1 b.K = true := by
      refine (leqS_iff (withS_right h2) hi.known).2 (fun n => ?_)
      have e := withS_at h2 n
      show atS n (withS K y.f0.f0 y.f0.f1).1 ≤ _
      rw [e]
      split
      · rename_i he
        have := (hi.know y.f0 hyd.1).2 ⟨y, hyL, rfl⟩
        rw [← bytes_inj he]
        exact this
      · exact (leqS_iff (leqS_right hK).1 hi.known).1 hK n
    intro x hx
    rcases List.mem_cons.1 hx with rfl | hx
    · exact hyL
    · exact handed_in hi hs hns hall l _ hd.2 hK' (fun x hx => hm x (List.mem_cons_of_mem _ hx)) x hx
theorem nodup_of_map {α β : Type} (f : α → β) : ∀ (l : List α), (l.map f).Nodup → l.Nodup
  | [], _ => by simp
  | x :: l, h => by
    simp only [List.map_cons, List.nodup_cons] at h
    exact List.nodup_cons.2 ⟨fun hm => h.1 (List.mem_map.2 ⟨x, hm, rfl⟩), nodup_of_map f l h.2⟩
theorem once_L {s : AP} (h : InvA s) : s.L.Nodup := by
  have := h.once
  rw [List.map_append, List.nodup_append] at this
  exact nodup_of_map _ _ this.1
theorem once_all {s : AP} (h : InvA s) : (s.L ++ s.Q).Nodup := nodup_of_map _ _ h.once
theorem same_runs {l l' : List S36} (hl : ∀ x, x ∈ l ↔ x ∈ l') {ns : List ByteArray} (hns : ns.length ≤ 64) (hall : ∀ y ∈ l, y.f0.f0 ∈ ns) (h : (putsA l ⟨[], [], []⟩).2 = true) (h' : (putsA l' ⟨[], [], []⟩).2 = true) :
    (putsA l ⟨[], [], []⟩).1.L.length = (putsA l' ⟨[], [], []⟩).1.L.length ∧ (putsA l ⟨[], [], []⟩).1.Q.length = (putsA l' ⟨[], [], []⟩).1.Q.length ∧ (putsA l ⟨[], [], []⟩).1.K = (putsA l' ⟨[], [], []⟩).1.K ∧
      ∀ x ∈ (putsA l ⟨[], [], []⟩).1.L, x ∈ (putsA l' ⟨[], [], []⟩).1.L := by
  have hs0 : ShutA ⟨[], [], []⟩ := fun x hx => by cases hx
  obtain ⟨a1, _, a3, a4⟩ := puts_all l _ invA_new hs0 h
  obtain ⟨b1, _, b3, b4⟩ := puts_all l' _ invA_new hs0 h'
  have ia := (putsA_inv l _ invA_new).1
  have ib := (putsA_inv l' _ invA_new).1
  have da := invD_puts l _ invA_new ⟨rfl, rfl⟩
  have db := invD_puts l' _ invA_new ⟨rfl, rfl⟩
  obtain ⟨a, ha⟩ : ∃ a, (putsA l ⟨[], [], []⟩).1 = a := ⟨_, rfl⟩
  obtain ⟨b, hb⟩ : ∃ b, (putsA l' ⟨[], [], []⟩).1 = b := ⟨_, rfl⟩
  rw [ha] at a1 a3 a4 ia da ⊢
  rw [hb] at b1 b3 b4 ib db ⊢
  have mA : ∀ y ∈ a.L ++ a.Q, y ∈ l := fun y hy => (a3 y hy).resolve_left (fun h => by simp at h)
  have mB : ∀ y ∈ b.L ++ b.Q, y ∈ l := fun y hy => (hl y).2 ((b3 y hy).resolve_left (fun h => by simp at h))
  have ab : ∀ y ∈ a.L ++ a.Q, y ∈ b.L ++ b.Q := fun y hy => b1 y ((hl y).1 (mA y hy))
  have ba : ∀ y ∈ b.L ++ b.Q, y ∈ a.L ++ a.Q := fun y hy => a1 y (mB y hy)
  have lnil : ∀ {K : List S34}, rightS K = true → leqS [] K = true := fun h => leq_nil h
  have sAB := handed_in ib b4 hns (fun y hy => hall y (mB y hy)) a.L [] da.down (lnil ib.known) (fun x hx => ab x (List.mem_append_left _ hx))
  have sBA := handed_in ia a4 hns (fun y hy => hall y (mA y hy)) b.L [] db.down (lnil ia.known) (fun x hx => ba x (List.mem_append_left _ hx))
  have eL : a.L.length = b.L.length := Nat.le_antisymm (nodup_le _ _ (once_L ia) sAB) (nodup_le _ _ (once_L ib) sBA)
  have eA : (a.L ++ a.Q).length = (b.L ++ b.Q).length := Nat.le_antisymm (nodup_le _ _ (once_all ia) ab) (nodup_le _ _ (once_all ib) ba)
  rw [List.length_append, List.length_append] at eA
  refine ⟨eL, by omega, ?_, sAB⟩
  have le : ∀ {u v : AP}, InvA u → InvA v → (∀ x ∈ u.L, x ∈ v.L) → ∀ n, atS n u.K ≤ atS n v.K := by
    intro u v hu hv huv n
    have h0 := atS_nonneg n (rightS_le hu.known).2
    have h1 := atS_nonneg n (rightS_le hv.known).2
    by_cases hp : 1 ≤ atS n u.K
    · obtain ⟨y, hy, he⟩ := (hu.know ⟨n, atS n u.K⟩ hp).1 (Int.le_refl _)
      exact (hv.know ⟨n, atS n u.K⟩ hp).2 ⟨y, huv y hy, he⟩
    · omega
  exact vec_ext _ _ _ _ (rightS_le ia.known).2 (rightS_le ib.known).2 (fun n => Int.le_antisymm (le ia ib sAB n) (le ib ia sBA n))
end Go.Proofs.Ytenbkljgmgdegaa.PO
