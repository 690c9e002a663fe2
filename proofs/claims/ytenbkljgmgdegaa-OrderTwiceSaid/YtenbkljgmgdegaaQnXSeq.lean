/- What the rows of this claim use, out of the texts of this work (YtenbkljgmgdegaaXSeq). No condition beyond those that each statement names. -/
import Derived.Test.YtenbkljgmgdegaaQnXRange
namespace Go.Proofs.Ytenbkljgmgdegaa.XSeq
open Go Go.RowKit Go.Proofs.Ytenbkljgmgdegaa.XRange
def Loopy (A : World) (k : Nat) : Prop := (∃ d, A.heap[k]? = some (.deferred d)) ∨ (∃ L, A.heap[k]? = some (.loop L))
def KeepsLoops (A A' : World) : Prop := A.heap.size ≤ A'.heap.size ∧ ∀ k, Loopy A k → A'.heap[k]? = A.heap[k]?
theorem KeepsLoops.refl (A : World) : KeepsLoops A A := ⟨Nat.le_refl _, fun _ _ => rfl⟩
theorem KeepsLoops.trans {A B C : World} (h : KeepsLoops A B) (k : KeepsLoops B C) : KeepsLoops A C :=
  ⟨Nat.le_trans h.1 k.1, fun i hi => (k.2 i (by rcases hi with ⟨d, hd⟩ | ⟨L, hL⟩; exact .inl ⟨d, (h.2 i (.inl ⟨d, hd⟩)).trans hd⟩; exact .inr ⟨L, (h.2 i (.inr ⟨L, hL⟩)).trans hL⟩)).trans (h.2 i hi)⟩
theorem Loopy.lt {A : World} {k : Nat} (h : Loopy A k) : k < A.heap.size := by
  rcases h with ⟨d, h⟩ | ⟨d, h⟩ <;> exact (Array.getElem?_eq_some_iff.1 h).1
theorem KeepsLoops.of_keeps {M : Nat → Prop} {A A' : World} (h : Keeps M A A') (hm : ∀ k, M k → ¬ Loopy A k) : KeepsLoops A A' := ⟨h.size, fun k hk => h.block k hk.lt (fun e => hm k e hk)⟩
def SeqS {σ α : Type} (n : Nat) (P : Program) (g : Nat) (lb : Array Value) (encs : α → Array Value) (J : σ → World → Prop) (Y : σ → α → World → Prop) (step : σ → α → σ) (fin : σ → Prop) (s0 : σ) : Prop :=
  ∀ (l : Nat) (Lp : World → Prop) (W : World), (∀ A A', Lp A → KeepsLoops A A' → Lp A') →
    (∀ s x W1, Y s x W1 → Lp W1 → YieldAt Fence.wide (n - 1) P l (encs x) W1 fun e W' => e = .returned (.bool true) ∧ J (step s x) W' ∧ Lp W') →
    J s0 W → Lp W →
    CallsIn Fence.wide n P g (#[.func (.yield l) #[] #[]] ++ lb) W fun e W' => (∃ v, e = .returned v) ∧ ∃ s, fin s ∧ J s W' ∧ Lp W'
def onlyOn (R : World → Prop) : Exit → Act → World → Prop
  | .normal, _, W' => R W'
  | _, _, _ => False
theorem range_lawS {σ α : Type} {n : Nat} {P : Program} {g : Operand} {ps : Array Tmp} {assign body : Code} {Q : Exit → Act → World → Prop} {a : Act} {w : World}
    {gf : Nat} {lb : Array Value} (hg : a.eval g = .func (.func gf) #[] lb) (eg : ∀ args w, (callFunc gf args).run P w = .ok (.enter gf args) w)
    {encs : α → Array Value} {J : σ → World → Prop} {Y : σ → α → World → Prop} {step : σ → α → σ} {fin : σ → Prop} {s0 : σ} (hseq : SeqS (n - 1) P gf lb encs J Y step fin s0) (hps : ∀ x, (encs x).size = ps.size)
    (hJ : ∀ s A A', J s A → (∀ k, k = w.heap.size ∨ k = w.heap.size + 1 → k < A.heap.size → Loopy A k) → Keeps (fun k => k = w.heap.size ∨ k = w.heap.size + 1) A A' → J s A')
    (hY : ∀ s x A A', Y s x A → (∀ k, k = w.heap.size ∨ k = w.heap.size + 1 → k < A.heap.size → Loopy A k) → Keeps (fun k => k = w.heap.size ∨ k = w.heap.size + 1) A A' → Y s x A')
    (h0 : J s0 w)
    (hround : ∀ (s : σ) (x : α) (W : World), Y s x W → w.heap.size + 2 ≤ W.heap.size →
      assign.wpIn (Fence.wide.inRound (w.heap.size + 1)) (n - 1 - 1) P (Exit.then (fun a' W' => Keeps (fun _ => False) W W' ∧
        ∀ Wb, Keeps (fun k => k = w.heap.size + 1) W' Wb → Y s x Wb → body.wpIn (Fence.wide.inRound (w.heap.size + 1)) (n - 1 - 1) P (onlyOn (fun W3 => KeepsLoops Wb W3 ∧ J (step s x) W3)) a' Wb) (fun _ _ _ => False))
        { tmps := (ps.zip (encs x)).foldl (fun t (p, v) => t.setIfInBounds p v) a.tmps, defers := [] } W)
    (hdone : ∀ (s : σ) (W : World), fin s → J s W → w.heap.size + 2 ≤ W.heap.size → W.heap[w.heap.size]? = some (.deferred (some [])) → Q .normal { a with defers := { target := .collected w.heap.size, args := #[] } :: a.defers } W) :
    (Code.rangeFunc g ps assign body).wpIn Fence.wide n P Q a w := by
  refine wpIn_rangeFunc ?_
  intro fn hfn
  obtain ⟨D, hD⟩ : ∃ D, w.heap.size = D := ⟨_, rfl⟩
  obtain ⟨rec, hrec⟩ : ∃ rec : LoopState → Option Code → Loop, rec = fun st pe => { state := st, pending := pe, fn, tmps := a.tmps, params := ps, assign, body, defers := w.heap.size } := ⟨_, rfl⟩
  obtain ⟨W1, hW1⟩ : ∃ W1, (w.alloc (.deferred (some []))).alloc (.loop (rec .ready none)) = W1 := ⟨_, rfl⟩
  have hs1 : W1.heap.size = D + 2 := by rw [← hW1, ← hD]; simp
  have hL1 : W1.heap[D + 1]? = some (.loop (rec .ready none)) := by
    rw [← hW1, ← hD]; have := World.alloc_heap_new (w.alloc (.deferred (some []))) (.loop (rec .ready none)); rwa [World.size_alloc] at this
  have hK1 : W1.heap[D]? = some (.deferred (some [])) := by
    rw [← hW1, ← hD]; exact (Below.heap_alloc _ _ _ (by simp)).trans (World.alloc_heap_new w _)
  have hk01 : Keeps (fun _ => False) w W1 := by rw [← hW1]; exact ((Keeps.refl _ w).alloc _).alloc _
  have sub : ∀ {M' : Nat → Prop} {A B : World}, Keeps (fun _ => False) A B → Keeps M' A B := fun h => ⟨h.os, h.tape, h.output, h.size, fun k hk _ => h.block k hk (fun f => f)⟩
  have fromL : ∀ {A B : World}, Keeps (fun k => k = D + 1) A B → Keeps (fun k => k = D ∨ k = D + 1) A B := fun h => ⟨h.os, h.tape, h.output, h.size, fun k hk hm => h.block k hk (fun e => hm (.inr e))⟩
  rw [hD] at hJ hY hround hdone
  have hI1 : J s0 W1 := hJ _ _ _ h0 (fun k hk hlt => by omega) (sub hk01)
  refine ⟨D + 1, [{ target := .collected D, args := #[] }], W1, { target := .fn (.func gf) lb, args := #[.func (.yield (D + 1)) #[] #[]] }, W1, gf,
    #[.func (.yield (D + 1)) #[] #[]] ++ lb, W1, ?_, ?_, ?_, ?_, (fun h => by cases h), ?_⟩
  · rw [← hW1, hrec, ← hD]; exact run_enterLoop_outer _ _ _ _ _
  · simp only [resolve, hg]
    simp [go_sem]
  · intro f' _; trivial
  · simp [invoke, go_sem, eg]
  · have lpy : ∀ {A : World} {L : Loop} {d : Option (List Deferred)}, A.heap[D + 1]? = some (.loop L) → A.heap[D]? = some (.deferred d) → ∀ k, k = D ∨ k = D + 1 → k < A.heap.size → Loopy A k := fun hl hd k hk _ => by
      rcases hk with rfl | rfl
      · exact .inl ⟨_, hd⟩
      · exact .inr ⟨_, hl⟩
    refine (hseq (D + 1)
      (fun W => D + 2 ≤ W.heap.size ∧ W.heap[D + 1]? = some (.loop (rec .ready none)) ∧ W.heap[D]? = some (.deferred (some [])))
      W1
      (fun A A' hs hk => ⟨Nat.le_trans hs.1 hk.1, (hk.2 _ (.inr ⟨_, hs.2.1⟩)).trans hs.2.1, (hk.2 _ (.inl ⟨_, hs.2.2⟩)).trans hs.2.2⟩)
      ?_ hI1 ⟨by omega, hL1, hK1⟩).mono ?_
    · rintro s x W hi ⟨h2, hl, hd⟩
      have hy := run_yield (P := P) (args := encs x) hl (by rw [hrec]; exact hps x)
      rw [hrec] at hy
      refine ⟨fn, _, assign, body, hy, roundIn_of_wpIn hfn (wpIn_mono (hround s x W hi h2) ?_)⟩
      intro e a' W' hq
      cases e with
      | normal =>
        obtain ⟨hk0, hb⟩ := hq
        have hl' : W'.heap[D + 1]? = some (.loop (rec .ready none)) := (hk0.block _ (by omega) (fun f => f)).trans hl
        have hd' : W'.heap[D]? = some (.deferred (some [])) := (hk0.block _ (by omega) (fun f => f)).trans hd
        refine ⟨_, run_beginRound hl' (by rw [hrec]), ?_⟩
        have hkb := keeps_putObj (fun k => k = D + 1) W' (D + 1) (.loop { rec .ready none with state := .busy }) rfl
        have hlb : (W'.putObj (D + 1) (.loop { rec .ready none with state := .busy })).heap[D + 1]? = some (.loop { rec .ready none with state := .busy }) := World.putObj_heap_same (by have := hk0.size; omega)
        have hdb : (W'.putObj (D + 1) (.loop { rec .ready none with state := .busy })).heap[D]? = some (.deferred (some [])) := (World.putObj_heap_other (by omega)).trans hd'
        refine wpIn_mono (hb _ hkb (hY _ _ _ _ (hY _ _ _ _ hi (lpy hl hd) (sub hk0)) (lpy hl' hd') (fromL hkb))) ?_
        generalize W'.putObj (D + 1) (.loop { rec .ready none with state := .busy }) = Wb at hkb hlb hdb
        rintro e a3 W3 hp
        cases e with
        | normal =>
          obtain ⟨hk3, hi3⟩ := hp
          have hl3 := (hk3.2 (D + 1) (.inr ⟨_, hlb⟩)).trans hlb
          have hd3 := (hk3.2 D (.inl ⟨_, hdb⟩)).trans hdb
          have hr := run_endRound (P := P) none hl3
          rw [hrec] at hr
          refine ⟨_, _, hr, rfl, hJ _ _ _ hi3 (lpy hl3 hd3) (keeps_putObj _ W3 (D + 1) _ (.inr rfl)), ?_, ?_, ?_⟩
          · have := (Array.getElem?_eq_some_iff.1 hl3).1
            simp
            omega
          · rw [hrec]; exact World.putObj_heap_same (Array.getElem?_eq_some_iff.1 hl3).1
          · exact (World.putObj_heap_other (by omega)).trans hd3
        | ret => exact hp.elim
        | exit id => exact hp.elim
        | goto t => exact hp.elim
        | panic ch => exact hp.elim
        | outgrown => exact hp.elim
      | ret => exact hq.elim
      | exit id => exact hq.elim
      | goto t => exact hq.elim
      | panic ch => exact hq.elim
      | outgrown => exact hq.elim
    · rintro e W2 ⟨⟨v, rfl⟩, s, hS, hi, h2, hl, hd⟩
      refine ⟨none, _, by have := run_endLoop (P := P) hl (by rw [hrec]; simp); rw [hrec] at this; exact this, ?_⟩
      exact hdone s _ hS (hJ _ _ _ hi (lpy hl hd) (keeps_putObj _ W2 (D + 1) _ (.inr rfl))) (by simp; omega) ((World.putObj_heap_other (by omega)).trans hd)
end Go.Proofs.Ytenbkljgmgdegaa.XSeq
