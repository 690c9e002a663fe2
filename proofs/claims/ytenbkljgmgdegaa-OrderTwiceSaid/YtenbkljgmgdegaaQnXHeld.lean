/- What the rows of this claim use, out of the texts of this work (YtenbkljgmgdegaaXHeld). No condition beyond those that each statement names. -/
import Derived.Deep.RegionHeld
namespace Go.Proofs.Ytenbkljgmgdegaa.XHeld
open Go
section
variable {P : Program} {ops : Array Oper} {Q : Exit → Act → World → Prop} {G : Array Bool → World → Prop}
def AnyG (P : Program) (ops : Array Oper) (Q : Exit → Act → World → Prop) (G : Array Bool → World → Prop) : Nat → Array Bool → Act → World → Prop
  | 0, L, a, w => Region.ready .any ops L = [] ∧ Q .normal a w
  | n + 1, L, a, w =>
    (Region.ready .any ops L = [] → Q .normal a w) ∧
    ∀ i ∈ Region.ready .any ops L, wpOp P ops Q i (fun a' w' => G (L.setIfInBounds i true) w' ∧ AnyG P ops Q G n (L.setIfInBounds i true) a' w') a w
theorem AnyG.any : ∀ (n : Nat) (L : Array Bool) (a : Act) (w : World), AnyG P ops Q G n L a w → wpAny P .any ops Q n L a w
  | 0, _, _, _, h => h
  | n + 1, _, _, _, h => ⟨h.1, fun i hi => wpOp_mono (fun _ _ h' => AnyG.any n _ _ _ h'.2) (h.2 i hi)⟩
theorem getD_of_set {L : Array Bool} {j k : Nat} (h : j ≠ k) : (L.setIfInBounds j true).getD k true = L.getD k true := getD_set_ne true h
theorem AnyG.first {i k : Nat} {oi ok : Oper} {v : Value} {Gi : World → Prop} (hi : ops[i]? = some oi) (hk : ops[k]? = some ok)
    (hki : ∃ e ∈ ok.after, Region.binds .any e = true ∧ e.on = i)
    (hset : ∀ L w, G (L.setIfInBounds i true) w ↔ G L w) (hG : ∀ L w, L.getD k true = false → G L w → Gi w)
    (hsel : ∀ (j : Nat) (o : Oper) cs b, ops[j]? = some o → o.op ≠ .select cs b)
    (hQ : ∀ c a w, Q (.panic c) (a.put oi.dst v) w → Q (.panic c) a w) :
    ∀ (n : Nat) (L : Array Bool) (a : Act) (w : World),
      (∀ j oj, ops[j]? = some oj → j ≠ i → L.getD j true = false → (∀ e ∈ oj.after, Region.binds .any e = true → e.on ≠ i) → oi.apart ops oj = true) →
      i ∈ Region.ready .any ops L → L.getD k true = false → YieldsIf P ops Gi oi v a → G L w →
      AnyG P ops Q G n (L.setIfInBounds i true) (a.put oi.dst v) w → AnyG P ops Q G (n + 1) L a w := by
  intro n
  induction n with
  | zero =>
    intro L a w _ hr hLk hy hS H
    refine ⟨fun h => (by rw [h] at hr; cases hr), fun j hj => ?_⟩
    by_cases hji : j = i
    · subst hji; exact hy.wpOp hi (hG L w hLk hS) ⟨(hset L w).2 hS, H⟩
    · have := ready_mono hj hji
      rw [H.1] at this
      cases this
  | succ n ih =>
    intro L a w hfree hr hLk hy hS H
    refine ⟨fun h => (by rw [h] at hr; cases hr), fun j hj => ?_⟩
    by_cases hji : j = i
    · subst hji; exact hy.wpOp hi (hG L w hLk hS) ⟨(hset L w).2 hS, H⟩
    obtain ⟨hjun, oj, hoj, hall⟩ := mem_ready.1 hj
    have hnot : ∀ e ∈ oj.after, Region.binds .any e = true → e.on ≠ i := fun e he hb heq => by
      have h1 := hall e he hb
      have h0 := (mem_ready.1 hr).1
      rw [heq] at h1
      rcases Nat.lt_or_ge i L.size with h' | h'
      · simp [h'] at h0 h1; rw [h0] at h1; cases h1
      · simp [Array.getElem?_eq_none h'] at h1
    have hjk : j ≠ k := fun h => by
      subst h
      obtain ⟨e, he, hb, hei⟩ := hki
      rw [hk] at hoj
      cases hoj
      exact hnot e he hb hei
    have h2 := wpOp_putIf hoj (hfree j oj hoj hji hjun hnot) (fun cs b => hsel i oi cs b hi) (fun cs b => hsel j oj cs b hoj) hQ hy (H.2 j (ready_mono hj hji))
    have hLk' : (L.setIfInBounds j true).getD k true = false := by rw [getD_of_set hjk]; exact hLk
    refine wpOp_mono (fun a' w' h3 => ?_) h2
    obtain ⟨hy', hG', hA'⟩ := h3
    rw [Array.setIfInBounds_comm _ _ (Ne.symm hji)] at hG'
    have hS' := (hset _ w').1 hG'
    refine ⟨hS', ih (L.setIfInBounds j true) a' w' (fun m om hm hmi hun hno => hfree m om hm hmi ?_ hno) (ready_mono hr (Ne.symm hji)) hLk' hy' hS' ?_⟩
    · by_cases hjm : j = m
      · subst hjm; exact hjun
      · rw [getD_set_ne true hjm] at hun; exact hun
    · rw [Array.setIfInBounds_comm _ _ hji]
      exact hA'
theorem AnyG.take (i k : Nat) {l : List Oper} {oi ok : Oper} {v : Value} {Gi : World → Prop} {n : Nat} {L : Array Bool} {a : Act} {w : World}
    (hset : ∀ L w, G (L.setIfInBounds i true) w ↔ G L w) (hG : ∀ L w, L.getD k true = false → G L w → Gi w)
    (hi : l[i]? = some oi) (hk : l[k]? = some ok) (hki : (ok.after.any (fun e => Region.binds .any e && e.on == i)) = true)
    (hs : Region.noSelect l.toArray = true) (hf : Region.free .any l.toArray L i = true) (hr : (Region.ready .any l.toArray L).contains i = true) (hLk : L.getD k true = false)
    (hQ : ∀ c a w, Q (.panic c) (a.put oi.dst v) w → Q (.panic c) a w) (hS : G L w) (hw : Region.wanted oi (yielded l.toArray a.tmps) = true)
    (hy : ∀ w, Gi w → (execOp a.eval oi).run P w = .ok (.value v) w)
    (h : G (L.setIfInBounds i true) w → AnyG P l.toArray Q G n (L.setIfInBounds i true) (a.put oi.dst v) w) : AnyG P l.toArray Q G (n + 1) L a w := by
  have hi' : l.toArray[i]? = some oi := by rw [List.getElem?_toArray]; exact hi
  have hk' : l.toArray[k]? = some ok := by rw [List.getElem?_toArray]; exact hk
  refine AnyG.first hi' hk' ?_ hset hG (Region.noSelect_spec hs) hQ n L a w (Region.free_spec hi' hf) (by simpa using hr) hLk (.inl ⟨hw, hy⟩) hS (h ((hset L w).2 hS))
  obtain ⟨e, he, hb⟩ := Array.any_eq_true'.1 hki
  simp only [Bool.and_eq_true, beq_iff_eq] at hb
  exact ⟨e, he, hb.1, hb.2⟩
theorem AnyG.one (i : Nat) {l : List Oper} {o : Oper} {n : Nat} {L : Array Bool} {a : Act} {w : World} (hr : Region.ready .any l.toArray L = [i]) (ho : l[i]? = some o)
    (h : ∀ K : Act → World → Prop, Shut (∀ a w, G (L.setIfInBounds i true) w → (G (L.setIfInBounds i true) w → AnyG P l.toArray Q G n (L.setIfInBounds i true) a w) → K a w) → if Region.wanted o (yielded l.toArray a.tmps) = true then Oper.wp P o a w K Q else K (a.put o.dst undef) w) :
    AnyG P l.toArray Q G (n + 1) L a w := by
  have ho' : l.toArray[i]? = some o := by rw [List.getElem?_toArray]; exact ho
  refine ⟨fun h0 => (by rw [hr] at h0; cases h0), fun j hj => ?_⟩
  rw [hr] at hj
  cases List.mem_singleton.1 hj
  exact wpOp_step ho' (fun K hK => h K (fun a w h1 h2 => hK a w ⟨h1, h2 h1⟩))
theorem AnyG.done {n : Nat} {L : Array Bool} {a : Act} {w : World} (hr : Region.ready .any ops L = []) (h : Q .normal a w) : AnyG P ops Q G n L a w := by
  cases n with
  | zero => exact ⟨hr, h⟩
  | succ n => exact ⟨fun _ => h, by rw [hr]; simp⟩
theorem AnyG.begin {id : Nat} {a : Act} {w : World} (hm : P.follows .mixedOrders = true)
    (hS : G (Array.replicate ops.size false) w.drew) (h : G (Array.replicate ops.size false) w.drew → AnyG P ops Q G ops.size (Array.replicate ops.size false) a w.drew) : (Code.region id ops true).wp P Q a w :=
  wp_region_any hm (AnyG.any _ _ _ _ (h hS))
def Till (k k' : Nat) (A B : World → Prop) (L : Array Bool) (w : World) : Prop := (L.getD k true = false → A w) ∧ (L.getD k' true = false → B w)
theorem Till.set {k k' i : Nat} {A B : World → Prop} (h : i ≠ k) (h' : i ≠ k') (L : Array Bool) (w : World) : Till k k' A B (L.setIfInBounds i true) w ↔ Till k k' A B L w := by
  unfold Till
  rw [getD_of_set h, getD_of_set h']
theorem Till.a {k k' : Nat} {A B : World → Prop} (L : Array Bool) (w : World) (h : L.getD k true = false) (hT : Till k k' A B L w) : A w := hT.1 h
theorem Till.b {k k' : Nat} {A B : World → Prop} (L : Array Bool) (w : World) (h : L.getD k' true = false) (hT : Till k k' A B L w) : B w := hT.2 h
end
end Go.Proofs.Ytenbkljgmgdegaa.XHeld
