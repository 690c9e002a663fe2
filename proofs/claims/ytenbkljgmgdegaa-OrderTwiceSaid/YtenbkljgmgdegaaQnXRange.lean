/- What the rows of this claim use, out of the texts of this work (YtenbkljgmgdegaaXRange). No condition beyond those that each statement names. -/
import Derived.RangeFuncNested
import Derived.RangeFuncBound
import Derived.RangeFuncCalls
import Derived.RangeFuncLeaves
import Derived.RangeFuncKeeps
import Derived.Shelf.Abstract
import Derived.Shelf.RegionOpen
import Derived.WalkKit
import Derived.OwnWalkIn
import Derived.TacticsInMore
import Derived.LoopNIn
import Derived.LoopIn
namespace Go.Proofs.Ytenbkljgmgdegaa.XRange
open Go Go.RowKit
structure Keeps (M : Nat → Prop) (A A' : World) : Prop where
  os : A'.os = A.os
  tape : A'.tape = A.tape
  output : A'.output = A.output
  size : A.heap.size ≤ A'.heap.size
  block : ∀ k, k < A.heap.size → ¬ M k → A'.heap[k]? = A.heap[k]?
theorem Keeps.refl (M : Nat → Prop) (A : World) : Keeps M A A := ⟨rfl, rfl, rfl, Nat.le_refl _, fun _ _ _ => rfl⟩
theorem Keeps.trans {M : Nat → Prop} {A B C : World} (h : Keeps M A B) (k : Keeps M B C) : Keeps M A C :=
  ⟨k.os.trans h.os, k.tape.trans h.tape, k.output.trans h.output, Nat.le_trans h.size k.size, fun i hi hm => (k.block i (Nat.lt_of_lt_of_le hi h.size) hm).trans (h.block i hi hm)⟩
theorem Keeps.drew {M : Nat → Prop} {A B : World} (h : Keeps M A B) : Keeps M A B.drew := ⟨h.os, h.tape, h.output, h.size, h.block⟩
theorem Keeps.alloc {M : Nat → Prop} {A B : World} (h : Keeps M A B) (o : Obj) : Keeps M A (B.alloc o) :=
  h.trans ⟨rfl, rfl, rfl, by simp, fun k hk _ => Below.heap_alloc _ _ _ hk⟩
theorem Keeps.setCell {M : Nat → Prop} {A B : World} (h : Keeps M A B) {p : Addr} (hp : M p.block ∨ A.heap.size ≤ p.block) (u : Value) : Keeps M A (B.setCell p u) :=
  ⟨h.os, h.tape, h.output, by have := h.size; simpa [World.setCell] using this, fun k hk hm => (Below.heap_setCell _ _ _ _ (by rintro rfl; rcases hp with hp | hp; exact hm hp; omega)).trans (h.block k hk hm)⟩
theorem Keeps.of_below {M : Nat → Prop} {A B : World} (h : Below A.heap.size A B) : Keeps M A B := ⟨h.os, h.tape, h.output, h.size, fun k hk _ => h.block k hk⟩
def Abide {β : Type} (M : Nat → Prop) (J : β → World → Prop) : Prop := ∀ s A A', J s A → Keeps M A A' → J s A'
def KeepOn (K : Nat → Prop) (W W' : World) : Prop := W.heap.size ≤ W'.heap.size ∧ ∀ k, K k → W'.heap[k]? = W.heap[k]?
theorem KeepOn.refl (K : Nat → Prop) (W : World) : KeepOn K W W := ⟨Nat.le_refl _, fun _ _ => rfl⟩
theorem KeepOn.trans {K : Nat → Prop} {A B C : World} (h : KeepOn K A B) (k : KeepOn K B C) : KeepOn K A C := ⟨Nat.le_trans h.1 k.1, fun i hi => (k.2 i hi).trans (h.2 i hi)⟩
def SeqC {α : Type} (n : Nat) (P : Program) (g : Nat) (lb : Array Value) (encs : α → Array Value) (K M : Nat → Prop) (S Sp : List α → Prop) (N : Nat) (w : World) : Prop :=
  ∀ (l : Nat) (J Jx : List α → World → Prop) (W : World), Keeps (fun _ => False) w W → Abide M J → Abide M Jx →
    (∀ pre x W1, J pre W1 → pre.length < N → YieldAt Fence.wide (n - 1) P l (encs x) W1 fun e W' =>
      (e = .returned (.bool true) ∧ J (pre ++ [x]) W' ∧ KeepOn K W1 W') ∨ (e = .returned (.bool false) ∧ Jx (pre ++ [x]) W')) →
    J [] W →
    CallsIn Fence.wide n P g (#[.func (.yield l) #[] #[]] ++ lb) W fun e W' => (∃ v, e = .returned v) ∧ ((∃ xs, S xs ∧ J xs W') ∨ (∃ pre, Sp pre ∧ Jx pre W'))
def bodyEnd {α : Type} (K : Nat → Prop) (l D : Nat) (I : List α → World → Prop) (Ix : Code → List α → World → Prop) (xs : List α) (W : World) : Exit → Act → World → Prop
  | .normal, _, W' => KeepOn (fun k => k = l ∨ k = D) W W' ∧ KeepOn K W W' ∧ I xs W'
  | .ret, _, W' => KeepOn (fun k => k = l ∨ k = D) W W' ∧ Ix .ret xs W'
  | .exit id, _, W' => KeepOn (fun k => k = l ∨ k = D) W W' ∧ Ix (.exit id) xs W'
  | .goto t, _, W' => KeepOn (fun k => k = l ∨ k = D) W W' ∧ Ix (.goto t) xs W'
  | .panic _, _, _ => False
  | .outgrown, _, _ => False
def Apart {β : Type} (B : Nat) (I : β → World → Prop) : Prop := ∀ s A A', I s A → Keeps (fun k => k = B ∨ k = B + 1) A A' → I s A'
theorem keeps_putObj (M : Nat → Prop) (W : World) (l : Nat) (o : Obj) (h : M l) : Keeps M W (W.putObj l o) := ⟨rfl, rfl, rfl, by simp, fun k _ hk => World.putObj_heap_other (fun e => hk (by rw [e]; exact h))⟩
theorem range_law {α : Type} {n : Nat} {P : Program} {g : Operand} {ps : Array Tmp} {assign body : Code} {Q : Exit → Act → World → Prop} {a : Act} {w : World}
    {gf : Nat} {lb : Array Value} (hg : a.eval g = .func (.func gf) #[] lb) (eg : ∀ args w, (callFunc gf args).run P w = .ok (.enter gf args) w)
    {encs : α → Array Value} {K M : Nat → Prop} {S Sp : List α → Prop} {N : Nat} (hseq : SeqC (n - 1) P gf lb encs K M S Sp N w) (hps : ∀ x, (encs x).size = ps.size)
    (hK : ∀ k, K k → k < w.heap.size) (hM : ∀ k, M k → k < w.heap.size)
    (I : List α → World → Prop) (Ix : Code → List α → World → Prop)
    (hI : Abide M I) (hIx : ∀ c, Abide M (Ix c)) (hA : Apart w.heap.size I) (hAx : ∀ c, Apart w.heap.size (Ix c)) (h0 : I [] w)
    (hround : ∀ (pre : List α) (x : α) (W : World), I pre W → pre.length < N → w.heap.size + 2 ≤ W.heap.size →
      assign.wpIn (Fence.wide.inRound (w.heap.size + 1)) (n - 1 - 1) P (Exit.then (fun a' W' => Keeps (fun _ => False) W W' ∧
        ∀ Wb, Keeps (fun k => k = w.heap.size + 1) W' Wb → I pre Wb → body.wpIn (Fence.wide.inRound (w.heap.size + 1)) (n - 1 - 1) P (bodyEnd K (w.heap.size + 1) w.heap.size I Ix (pre ++ [x]) Wb) a' Wb) (fun _ _ _ => False))
        { tmps := (ps.zip (encs x)).foldl (fun t (p, v) => t.setIfInBounds p v) a.tmps, defers := [] } W)
    (hdone : ∀ (xs : List α) (W : World), S xs → I xs W → w.heap.size + 2 ≤ W.heap.size → W.heap[w.heap.size]? = some (.deferred (some [])) → Q .normal { a with defers := { target := .collected w.heap.size, args := #[] } :: a.defers } W)
    (hstop : ∀ (c : Code) (pre : List α) (W : World), Sp pre → Ix c pre W → w.heap.size + 2 ≤ W.heap.size → W.heap[w.heap.size]? = some (.deferred (some [])) → c.wpIn Fence.wide n P Q { a with defers := { target := .collected w.heap.size, args := #[] } :: a.defers } W) :
    (Code.rangeFunc g ps assign body).wpIn Fence.wide n P Q a w := by
  refine wpIn_rangeFunc ?_
  intro fn hfn
  obtain ⟨D, hD⟩ : ∃ D, w.heap.size = D := ⟨_, rfl⟩
  obtain ⟨rec, hrec⟩ : ∃ rec : LoopState → Option Code → Loop, rec = fun st pe => { state := st, pending := pe, fn, tmps := a.tmps, params := ps, assign, body, defers := w.heap.size } := ⟨_, rfl⟩
  obtain ⟨W1, hW1⟩ : ∃ W1, (w.alloc (.deferred (some []))).alloc (.loop (rec .ready none)) = W1 := ⟨_, rfl⟩
  have hs1 : W1.heap.size = D + 2 := by rw [← hW1, ← hD]; simp
  have hL1 : W1.heap[D + 1]? = some (.loop (rec .ready none)) := by
    rw [← hW1, ← hD]; have := World.alloc_heap_new (w.alloc (.deferred (some []))) (.loop (rec .ready none)); rwa [World.size_alloc] at this
  have hK1 : W1.heap[D]? = some (.deferred (some [])) := by
    rw [← hW1, ← hD]; exact (Below.heap_alloc _ _ _ (by simp)).trans (World.alloc_heap_new w _)
  have hk01 : Keeps (fun _ => False) w W1 := by rw [← hW1]; exact ((Keeps.refl _ w).alloc _).alloc _
  have sub : ∀ {M' : Nat → Prop} {A B : World}, Keeps (fun _ => False) A B → Keeps M' A B := fun h => ⟨h.os, h.tape, h.output, h.size, fun k hk _ => h.block k hk (fun f => f)⟩
  have fromL : ∀ {A B : World}, Keeps (fun k => k = D + 1) A B → Keeps (fun k => k = D ∨ k = D + 1) A B := fun h => ⟨h.os, h.tape, h.output, h.size, fun k hk hm => h.block k hk (fun e => hm (.inr e))⟩
  have hI1 : I [] W1 := hI _ _ _ h0 (sub hk01)
  rw [hD] at hA hround hdone hstop hK hM
  have hAx' : ∀ c, Apart D (Ix c) := fun c => by have := hAx c; rwa [hD] at this
  refine ⟨D + 1, [{ target := .collected D, args := #[] }], W1, { target := .fn (.func gf) lb, args := #[.func (.yield (D + 1)) #[] #[]] }, W1, gf,
    #[.func (.yield (D + 1)) #[] #[]] ++ lb, W1, ?_, ?_, ?_, ?_, (fun h => by cases h), ?_⟩
  · rw [← hW1, hrec, ← hD]; exact run_enterLoop_outer _ _ _ _ _
  · simp only [resolve, hg]
    simp [go_sem]
  · intro f' _; trivial
  · simp [invoke, go_sem, eg]
  · refine (hseq (D + 1)
      (fun pre W => I pre W ∧ D + 2 ≤ W.heap.size ∧ W.heap[D + 1]? = some (.loop (rec .ready none)) ∧ W.heap[D]? = some (.deferred (some [])))
      (fun pre W => ∃ c, Ix c pre W ∧ D + 2 ≤ W.heap.size ∧ W.heap[D + 1]? = some (.loop (rec .done (some c))) ∧ W.heap[D]? = some (.deferred (some [])))
      W1 hk01
      (fun s A A' hs hk => ⟨hI _ _ _ hs.1 hk, Nat.le_trans hs.2.1 hk.size, (hk.block _ (by omega) (fun h => by have := hM _ h; omega)).trans hs.2.2.1, (hk.block _ (by omega) (fun h => by have := hM _ h; omega)).trans hs.2.2.2⟩)
      (fun s A A' hs hk => by
        obtain ⟨c, hc, h2, hl, hd⟩ := hs
        exact ⟨c, hIx c _ _ _ hc hk, Nat.le_trans h2 hk.size, (hk.block _ (by omega) (fun h => by have := hM _ h; omega)).trans hl, (hk.block _ (by omega) (fun h => by have := hM _ h; omega)).trans hd⟩)
      ?_ ⟨hI1, by omega, hL1, hK1⟩).mono ?_
    · rintro pre x W ⟨hi, h2, hl, hd⟩ hlen
      have hy := run_yield (P := P) (args := encs x) hl (by rw [hrec]; exact hps x)
      rw [hrec] at hy
      refine ⟨fn, _, assign, body, hy, roundIn_of_wpIn hfn (wpIn_mono (hround pre x W hi hlen h2) ?_)⟩
      intro e a' W' hq
      cases e with
      | normal =>
        obtain ⟨hk0, hb⟩ := hq
        have hl' : W'.heap[D + 1]? = some (.loop (rec .ready none)) := (hk0.block _ (by omega) (fun f => f)).trans hl
        have hd' : W'.heap[D]? = some (.deferred (some [])) := (hk0.block _ (by omega) (fun f => f)).trans hd
        refine ⟨_, run_beginRound hl' (by rw [hrec]), ?_⟩
        have hkb := keeps_putObj (fun k => k = D + 1) W' (D + 1) (.loop { rec .ready none with state := .busy }) rfl
        have hlb : (W'.putObj (D + 1) (.loop { rec .ready none with state := .busy })).heap[D + 1]? = some (.loop { rec .ready none with state := .busy }) := World.putObj_heap_same (by have := hk0.size; omega)
        have hdb : (W'.putObj (D + 1) (.loop { rec .ready none with state := .busy })).heap[D]? = some (.deferred (some [])) := (World.putObj_heap_other (by omega)).trans hd'
        refine wpIn_mono (hb _ hkb (hA _ _ _ (hI _ _ _ hi (sub hk0)) (fromL hkb))) ?_
        generalize W'.putObj (D + 1) (.loop { rec .ready none with state := .busy }) = Wb at hkb hlb hdb
        have fin : ∀ (jump : Option Code) (W3 : World), KeepOn (fun k => k = D + 1 ∨ k = D) Wb W3 →
            (Instr.endRound (D + 1) jump).run P W3 = .ok (.bool jump.isNone) (W3.putObj (D + 1) (.loop (rec (if jump.isNone then .ready else .done) jump))) ∧
            D + 2 ≤ (W3.putObj (D + 1) (.loop (rec (if jump.isNone then .ready else .done) jump))).heap.size ∧
            (W3.putObj (D + 1) (.loop (rec (if jump.isNone then .ready else .done) jump))).heap[D + 1]? = some (.loop (rec (if jump.isNone then .ready else .done) jump)) ∧
            (W3.putObj (D + 1) (.loop (rec (if jump.isNone then .ready else .done) jump))).heap[D]? = some (.deferred (some [])) := fun jump W3 hk3 => by
          have hl3 := (hk3.2 (D + 1) (.inl rfl)).trans hlb
          have hr := run_endRound (P := P) jump hl3
          rw [hrec] at hr ⊢
          refine ⟨hr, ?_, World.putObj_heap_same (Array.getElem?_eq_some_iff.1 hl3).1, (World.putObj_heap_other (by omega)).trans ((hk3.2 D (.inr rfl)).trans hdb)⟩
          have := (Array.getElem?_eq_some_iff.1 hl3).1
          simp
          omega
        have toK : ∀ {W3 : World} (o : Obj), KeepOn K Wb W3 → KeepOn K W (W3.putObj (D + 1) o) := fun o h3 => by
          refine ⟨?_, fun k hk => ?_⟩
          · have := hk0.size; have := hkb.size; have := h3.1; simp; omega
          · have hlt := hK k hk
            exact (World.putObj_heap_other (by omega)).trans ((h3.2 k hk).trans ((hkb.block k (by have := hk0.size; omega) (by omega)).trans (hk0.block k (by omega) (fun f => f))))
        have kp : ∀ (W3 : World) (o : Obj), Keeps (fun k => k = D ∨ k = D + 1) W3 (W3.putObj (D + 1) o) := fun W3 o => keeps_putObj _ W3 (D + 1) o (.inr rfl)
        rintro e a3 W3 hp
        cases e with
        | normal =>
          obtain ⟨hk3, hkk, hi3⟩ := hp
          obtain ⟨hr, h5, hl4, hk4⟩ := fin none W3 hk3
          exact ⟨_, _, hr, .inl ⟨rfl, ⟨hA _ _ _ hi3 (kp _ _), h5, hl4, hk4⟩, toK _ hkk⟩⟩
        | ret =>
          obtain ⟨hk3, hi3⟩ := hp
          obtain ⟨hr, h5, hl4, hk4⟩ := fin (some .ret) W3 hk3
          exact ⟨_, _, hr, .inr ⟨rfl, .ret, hAx' _ _ _ _ hi3 (kp _ _), h5, hl4, hk4⟩⟩
        | exit id =>
          obtain ⟨hk3, hi3⟩ := hp
          obtain ⟨hr, h5, hl4, hk4⟩ := fin (some (.exit id)) W3 hk3
          exact ⟨_, _, hr, .inr ⟨rfl, .exit id, hAx' _ _ _ _ hi3 (kp _ _), h5, hl4, hk4⟩⟩
        | goto t =>
          obtain ⟨hk3, hi3⟩ := hp
          obtain ⟨hr, h5, hl4, hk4⟩ := fin (some (.goto t)) W3 hk3
          exact ⟨_, _, hr, .inr ⟨rfl, .goto t, hAx' _ _ _ _ hi3 (kp _ _), h5, hl4, hk4⟩⟩
        | panic ch => exact hp.elim
        | outgrown => exact hp.elim
      | ret => exact hq.elim
      | exit id => exact hq.elim
      | goto t => exact hq.elim
      | panic ch => exact hq.elim
      | outgrown => exact hq.elim
    · rintro e W2 ⟨⟨v, rfl⟩, (⟨xs, hS, hi, h2, hl, hd⟩ | ⟨pre, hSp, c, hi, h2, hl, hd⟩)⟩
      · refine ⟨none, _, by have := run_endLoop (P := P) hl (by rw [hrec]; simp); rw [hrec] at this; exact this, ?_⟩
        exact hdone xs _ hS (hA _ _ _ hi (keeps_putObj _ W2 (D + 1) _ (.inr rfl))) (by simp; omega) ((World.putObj_heap_other (by omega)).trans hd)
      · refine ⟨some c, _, by have := run_endLoop (P := P) hl (by rw [hrec]; simp); rw [hrec] at this; exact this, ?_⟩
        exact hstop c pre _ hSp (hAx' c _ _ _ hi (keeps_putObj _ W2 (D + 1) _ (.inr rfl))) (by simp; omega) ((World.putObj_heap_other (by omega)).trans hd)
end Go.Proofs.Ytenbkljgmgdegaa.XRange
