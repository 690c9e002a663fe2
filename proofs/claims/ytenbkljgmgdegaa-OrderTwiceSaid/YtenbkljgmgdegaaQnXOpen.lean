/- What the rows of this claim use, out of the texts of this work (YtenbkljgmgdegaaXOpen). No condition beyond those that each statement names. -/
import Derived.Deep.Slices
import Derived.Deep.Fields
import Derived.ChangeSame
import Derived.ProofKit
import Derived.KernelRfl
import Derived.Test.YtenbkljgmgdegaaQnWWords
namespace Go.Proofs.Ytenbkljgmgdegaa.XOpen
open Go Go.RowKit Go.ChangeShapes Go.WideShapes Go.Deep Go.Proofs.YtenbkljgmgdegaaW.PrintWords
def Opens {α : Type} (P : Program) (t : TypeId) (d : Kd α) (wf : α → Prop) : Prop :=
  ∀ (H : Type) (enc : TypeId × Value → H) (w : World) (base : Nat) (sp : Nat → Bool) (hd : Bool) (fuel : Nat) (cs : List Value) (x : DataW H × List MemPlace),
    DataW.trod enc P w base sp hd fuel t cs = some x → ∃ a, d.K w a cs ∧ wf a
theorem opens_int {P : Program} {t : TypeId} {k : IntKind} (h : P.underlying t = some (.int k)) : Opens P t (Kd.int k) (fun n => (Lit.int k n).wf = true) := by
  intro H enc w base sp hd fuel cs x hx
  obtain ⟨n, rfl, _, hw⟩ := DataW.trod_int h hx
  exact ⟨n, rfl, hw⟩
theorem opens_string {P : Program} {t : TypeId} (h : P.underlying t = some .string) : Opens P t Kd.string (fun s => s.size ≤ maxLen) := by
  intro H enc w base sp hd fuel cs x hx
  obtain ⟨s, rfl, _, hw⟩ := DataW.trod_string h hx
  exact ⟨s, rfl, hw⟩
theorem list_of {α : Type} (Q : Nat → α → Prop) : ∀ n, (∀ i, i < n → ∃ a, Q i a) → ∃ xs : List α, xs.length = n ∧ ∀ i a, xs[i]? = some a → Q i a
  | 0, _ => ⟨[], rfl, fun i a h => by simp at h⟩
  | n + 1, h => by
    obtain ⟨xs, hl, hq⟩ := list_of Q n (fun i hi => h i (by omega))
    obtain ⟨a, ha⟩ := h n (by omega)
    refine ⟨xs ++ [a], by simp [hl], fun i b hb => ?_⟩
    rcases Nat.lt_or_ge i xs.length with hi | hi
    · rw [List.getElem?_append_left hi] at hb; exact hq i b hb
    · rw [List.getElem?_append_right hi] at hb
      have : i - xs.length = 0 := by
        rcases Nat.eq_zero_or_pos (i - xs.length) with h0 | h0
        · exact h0
        · rw [List.getElem?_eq_none (by simp; omega)] at hb; cases hb
      rw [this] at hb
      have : i = n := by omega
      subst this
      simp at hb
      subst hb
      exact ha
theorem opens_slice {α : Type} {P : Program} {t e : TypeId} {d : Kd α} {wf : α → Prop} (h : P.underlying t = some (.slice e)) (hc : P.cellsOf e = d.sz) (ho : Opens P e d wf) : Opens P t (Kd.slice e d) (fun xs => ∀ a, a ∈ xs → wf a) := by
  intro H enc w base sp hd fuel cs x hx
  rcases open_slice h hx with ⟨rfl, _⟩ | ⟨a, len, cap, m, n, D, Pl, rfl, hb, hl, hm, hmm, _, hi⟩
  · exact ⟨[], ⟨none, 0, rfl, Nat.le_refl _, Kd.C_nil d w⟩, fun a ha => by cases ha⟩
  · have hlm : len ≤ m := by rw [hmm]; split <;> omega
    obtain ⟨xs, hxl, hq⟩ := list_of (fun i b => wf b ∧ ∃ c, c.length = d.sz ∧ d.K w b c ∧ ∀ j u, c[j]? = some u → w.cell? (a.add (i * d.sz + j)) = some u) len (fun i hi' => by
      obtain ⟨cs', h1, h2⟩ := hi i (by omega)
      obtain ⟨b, hK, hw⟩ := ho H enc w base sp hd n cs' _ h2
      rw [hc] at h1
      obtain ⟨_, hcl, hat⟩ := World.cells?_some h1
      refine ⟨b, hw, cs', hcl, hK, fun j u hu => ?_⟩
      have hj : j < d.sz := by have := (List.getElem?_eq_some_iff.1 hu).1; omega
      rw [← Go.Deep.add_add, hat j hj, hu])
    subst hxl
    refine ⟨xs, ⟨some a, cap, rfl, hl, rfl, by simp only [maxLen] at hm; omega, fun _ => ⟨a, rfl, fun j p hp => (hq j p hp).2⟩⟩, fun b hb => ?_⟩
    obtain ⟨i, hi', he⟩ := List.mem_iff_getElem.1 hb
    exact (hq i b (by rw [List.getElem?_eq_getElem hi', he])).1
theorem opens_iso {α β : Type} {P : Program} {t : TypeId} {d : Kd α} {wf : α → Prop} {wf' : β → Prop} (f : β → α) (g : α → β) (hfg : ∀ a, f (g a) = a) (hw : ∀ a, wf a → wf' (g a)) (ho : Opens P t d wf) : Opens P t (Kd.iso d f) wf' := by
  intro H enc w base sp hd fuel cs x hx
  obtain ⟨a, hK, ha⟩ := ho H enc w base sp hd fuel cs x hx
  exact ⟨g a, by show d.K w (f (g a)) cs; rw [hfg]; exact hK, hw a ha⟩
def Fields {α : Type} (P : Program) (fs : Array Field) (j : Nat) (off : Nat) (d : Kd α) (wf : α → Prop) : Prop :=
  ∀ (H : Type) (enc : TypeId × Value → H) (w : World) (base : Nat) (sp : Nat → Bool) (hd : Bool) (n : Nat) (cs : List Value), cs.length = off + d.sz →
    (∀ i f, j ≤ i → fs[i]? = some f → ∃ y, DataW.trod enc P w base sp hd n f.type ((cs.drop f.offset).take (P.cellsOf f.type)) = some y) → ∃ a, d.K w a (cs.drop off) ∧ wf a
theorem fields_last {α : Type} {P : Program} {fs : Array Field} {j off : Nat} {f : Field} {d : Kd α} {wf : α → Prop} (hf : fs[j]? = some f) (ho : f.offset = off) (hc : P.cellsOf f.type = d.sz) (h : Opens P f.type d wf) : Fields P fs j off d wf := by
  intro H enc w base sp hd n cs hl ht
  obtain ⟨y, hy⟩ := ht j f (Nat.le_refl _) hf
  rw [ho, hc, List.take_of_length_le (by rw [List.length_drop]; omega)] at hy
  exact h H enc w base sp hd n _ _ hy
theorem fields_cons {α β : Type} {P : Program} {fs : Array Field} {j off : Nat} {f : Field} {d : Kd α} {e : Kd β} {wf : α → Prop} {wf' : β → Prop} (hf : fs[j]? = some f) (ho : f.offset = off) (hc : P.cellsOf f.type = d.sz) (h : Opens P f.type d wf) (hr : Fields P fs (j + 1) (off + d.sz) e wf') :
    Fields P fs j off (Kd.pair d e) (fun x => wf x.1 ∧ wf' x.2) := by
  intro H enc w base sp hd n cs hl ht
  obtain ⟨y, hy⟩ := ht j f (Nat.le_refl _) hf
  rw [ho, hc] at hy
  obtain ⟨a, hK, ha⟩ := h H enc w base sp hd n _ _ hy
  have hl' : cs.length = off + d.sz + e.sz := by rw [hl]; show off + (d.sz + e.sz) = _; omega
  obtain ⟨b, hK', hb⟩ := hr H enc w base sp hd n cs hl' (fun i g hi hg => ht i g (by omega) hg)
  refine ⟨(a, b), ⟨(cs.drop off).take d.sz, cs.drop (off + d.sz), ?_, hK, hK'⟩, ha, hb⟩
  rw [← List.drop_drop, List.take_append_drop]
theorem opens_struct {α : Type} {P : Program} {t : TypeId} {fs : Array Field} {d : Kd α} {wf : α → Prop} (h : P.underlying t = some (.struct fs)) (hc : P.cellsOf t = d.sz) (hf : Fields P fs 0 0 d wf) : Opens P t d wf := by
  intro H enc w base sp hd fuel cs x hx
  obtain ⟨xs, n, _, _, hl, hlen, hg⟩ := DataW.trod_struct h hx
  have := hf H enc w base sp hd n cs (by rw [hl, hc]; omega) (fun i f _ hfi => by
    have h1 := hg i f hfi
    have hi : i < xs.length := by rw [hlen]; exact (Array.getElem?_eq_some_iff.1 hfi).1
    exact ⟨xs[i], by rw [h1, List.getElem?_eq_getElem hi]⟩)
  simpa using this
end Go.Proofs.Ytenbkljgmgdegaa.XOpen
