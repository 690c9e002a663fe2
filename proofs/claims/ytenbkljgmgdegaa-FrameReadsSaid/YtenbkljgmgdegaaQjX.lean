/- What the rows of this claim use, out of the texts of this work (XW, XRange, XHeld, XMake, XConv, XReg, XMap, XSeq). No condition beyond those that each statement names. -/
import Derived.WalkKit
import Derived.WalkMore
import Derived.WalkSpells
import Derived.Lib.SliceRun
import Derived.Laws.RangeAny
import Derived.RangeFuncNested
import Derived.RangeFuncBound
import Derived.RangeFuncCalls
import Derived.RangeFuncLeaves
import Derived.RangeFuncKeeps
import Derived.Shelf.Abstract
import Derived.Shelf.RegionOpen
import Derived.OwnWalkIn
import Derived.TacticsInMore
import Derived.LoopNIn
import Derived.LoopIn
import Derived.Deep.RegionHeld
import Derived.Lib.ConvBytes
import Derived.Laws.IdiomRangeMap
import Derived.MapKept
import Derived.Test.YtenbkljgmgdegaaQjW
section
namespace Go.Proofs.Ytenbkljgmgdegaa.XW
open Go
theorem bytesLess_irrefl : ∀ a : List UInt8, Op.bytesLess a a = false
 | [] => rfl
 | x :: a => by simp [Op.bytesLess, bytesLess_irrefl a]
theorem bytesLess_or_eq : ∀ a b : List UInt8, (Op.bytesLess a b || a == b) = !(Op.bytesLess b a)
 | [], [] => rfl
 | [], y :: b => by simp [Op.bytesLess]
 | x :: a, [] => by simp [Op.bytesLess]
 | x :: a, y :: b => by
   have ih := bytesLess_or_eq a b
   simp only [Op.bytesLess]
   by_cases h1 : x < y
   · have h2 : ¬ y < x := fun h => by have := UInt8.lt_iff_toNat_lt.mp h1; have := UInt8.lt_iff_toNat_lt.mp h; omega
     have h3 : (y == x) = false := by rw [beq_eq_false_iff_ne]; rintro rfl; exact h2 h1
     simp [h1, h2, h3]
   · by_cases h2 : y < x
     · have h3 : (x == y) = false := by rw [beq_eq_false_iff_ne]; rintro rfl; exact h1 h2
       simp [h1, h2, h3]
     · have h3 : x = y := by
        apply UInt8.toNat.inj
        have k1 : ¬ x.toNat < y.toNat := fun h => h1 (UInt8.lt_iff_toNat_lt.mpr h)
        have k2 : ¬ y.toNat < x.toNat := fun h => h2 (UInt8.lt_iff_toNat_lt.mpr h)
        omega
       subst h3
       simp [h1]
       simpa using ih
@[go_sem high] theorem binOp_string_leq' (t : TypeId) (a b : ByteArray) : binOp .leq t (.string a) (.string b) = pure (.bool (!(Op.bytesLess b.toList a.toList))) := by
 rw [← bytesLess_or_eq]; simp [binOp, Op.stringOp]
@[go_sem high] theorem binOp_string_geq' (t : TypeId) (a b : ByteArray) : binOp .geq t (.string a) (.string b) = pure (.bool (!(Op.bytesLess a.toList b.toList))) := by
 simp [binOp, Op.stringOp]
theorem not_bytesLess_or_eq (a b : List UInt8) : (!(Op.bytesLess a b || a == b)) = Op.bytesLess b a := by rw [bytesLess_or_eq]; simp
@[go_sem high] theorem binOp_string_gtr' (t : TypeId) (a b : ByteArray) : binOp .gtr t (.string a) (.string b) = pure (.bool (Op.bytesLess b.toList a.toList)) := by
 rw [← not_bytesLess_or_eq]; simp [binOp, Op.stringOp]
end Go.Proofs.Ytenbkljgmgdegaa.XW
end
section
namespace Go.Proofs.Ytenbkljgmgdegaa.XRange
open Go Go.RowKit
structure Keeps (M : Nat → Prop) (A A' : World) : Prop where
 os : A'.os = A.os
 tape : A'.tape = A.tape
 output : A'.output = A.output
 size : A.heap.size ≤ A'.heap.size
 block : ∀ k, k < A.heap.size → ¬ M k → A'.heap[k]? = A.heap[k]?
theorem Keeps.refl (M : Nat → Prop) (A : World) : Keeps M A A := ⟨rfl, rfl, rfl, Nat.le_refl _, fun _ _ _ => rfl⟩
theorem Keeps.trans {M : Nat → Prop} {A B C : World} (h : Keeps M A B) (k : Keeps M B C) : Keeps M A C :=
 ⟨k.os.trans h.os, k.tape.trans h.tape, k.output.trans h.output, Nat.le_trans h.size k.size, fun i hi hm => (k.block i (Nat.lt_of_lt_of_le hi h.size) hm).trans (h.block i hi hm)⟩
theorem Keeps.drew {M : Nat → Prop} {A B : World} (h : Keeps M A B) : Keeps M A B.drew := ⟨h.os, h.tape, h.output, h.size, h.block⟩
theorem Keeps.alloc {M : Nat → Prop} {A B : World} (h : Keeps M A B) (o : Obj) : Keeps M A (B.alloc o) :=
 h.trans ⟨rfl, rfl, rfl, by simp, fun k hk _ => Below.heap_alloc _ _ _ hk⟩
theorem Keeps.setCell {M : Nat → Prop} {A B : World} (h : Keeps M A B) {p : Addr} (hp : M p.block ∨ A.heap.size ≤ p.block) (u : Value) : Keeps M A (B.setCell p u) :=
 ⟨h.os, h.tape, h.output, by have := h.size; simpa [World.setCell] using this, fun k hk hm => (Below.heap_setCell _ _ _ _ (by rintro rfl; rcases hp with hp | hp; exact hm hp; omega)).trans (h.block k hk hm)⟩
theorem Keeps.of_below {M : Nat → Prop} {A B : World} (h : Below A.heap.size A B) : Keeps M A B := ⟨h.os, h.tape, h.output, h.size, fun k hk _ => h.block k hk⟩
def Abide {β : Type} (M : Nat → Prop) (J : β → World → Prop) : Prop := ∀ s A A', J s A → Keeps M A A' → J s A'
def KeepOn (K : Nat → Prop) (W W' : World) : Prop := W.heap.size ≤ W'.heap.size ∧ ∀ k, K k → W'.heap[k]? = W.heap[k]?
theorem KeepOn.refl (K : Nat → Prop) (W : World) : KeepOn K W W := ⟨Nat.le_refl _, fun _ _ => rfl⟩
theorem KeepOn.trans {K : Nat → Prop} {A B C : World} (h : KeepOn K A B) (k : KeepOn K B C) : KeepOn K A C := ⟨Nat.le_trans h.1 k.1, fun i hi => (k.2 i hi).trans (h.2 i hi)⟩
def SeqC {α : Type} (n : Nat) (P : Program) (g : Nat) (lb : Array Value) (encs : α → Array Value) (K M : Nat → Prop) (S Sp : List α → Prop) (N : Nat) (w : World) : Prop :=
 ∀ (l : Nat) (J Jx : List α → World → Prop) (W : World), Keeps (fun _ => False) w W → Abide M J → Abide M Jx →
  (∀ pre x W1, J pre W1 → pre.length < N → YieldAt Fence.wide (n - 1) P l (encs x) W1 fun e W' =>
   (e = .returned (.bool true) ∧ J (pre ++ [x]) W' ∧ KeepOn K W1 W') ∨ (e = .returned (.bool false) ∧ Jx (pre ++ [x]) W')) →
  J [] W →
  CallsIn Fence.wide n P g (#[.func (.yield l) #[] #[]] ++ lb) W fun e W' => (∃ v, e = .returned v) ∧ ((∃ xs, S xs ∧ J xs W') ∨ (∃ pre, Sp pre ∧ Jx pre W'))
def bodyEnd {α : Type} (K : Nat → Prop) (l D : Nat) (I : List α → World → Prop) (Ix : Code → List α → World → Prop) (xs : List α) (W : World) : Exit → Act → World → Prop
 | .normal, _, W' => KeepOn (fun k => k = l ∨ k = D) W W' ∧ KeepOn K W W' ∧ I xs W'
 | .ret, _, W' => KeepOn (fun k => k = l ∨ k = D) W W' ∧ Ix .ret xs W'
 | .exit id, _, W' => KeepOn (fun k => k = l ∨ k = D) W W' ∧ Ix (.exit id) xs W'
 | .goto t, _, W' => KeepOn (fun k => k = l ∨ k = D) W W' ∧ Ix (.goto t) xs W'
 | .panic _, _, _ => False
 | .outgrown, _, _ => False
def Apart {β : Type} (B : Nat) (I : β → World → Prop) : Prop := ∀ s A A', I s A → Keeps (fun k => k = B ∨ k = B + 1) A A' → I s A'
theorem keeps_putObj (M : Nat → Prop) (W : World) (l : Nat) (o : Obj) (h : M l) : Keeps M W (W.putObj l o) := ⟨rfl, rfl, rfl, by simp, fun k _ hk => World.putObj_heap_other (fun e => hk (by rw [e]; exact h))⟩
theorem range_law {α : Type} {n : Nat} {P : Program} {g : Operand} {ps : Array Tmp} {assign body : Code} {Q : Exit → Act → World → Prop} {a : Act} {w : World}
 {gf : Nat} {lb : Array Value} (hg : a.eval g = .func (.func gf) #[] lb) (eg : ∀ args w, (callFunc gf args).run P w = .ok (.enter gf args) w)
 {encs : α → Array Value} {K M : Nat → Prop} {S Sp : List α → Prop} {N : Nat} (hseq : SeqC (n - 1) P gf lb encs K M S Sp N w) (hps : ∀ x, (encs x).size = ps.size)
 (hK : ∀ k, K k → k < w.heap.size) (hM : ∀ k, M k → k < w.heap.size)
 (I : List α → World → Prop) (Ix : Code → List α → World → Prop)
 (hI : Abide M I) (hIx : ∀ c, Abide M (Ix c)) (hA : Apart w.heap.size I) (hAx : ∀ c, Apart w.heap.size (Ix c)) (h0 : I [] w)
 (hround : ∀ (pre : List α) (x : α) (W : World), I pre W → pre.length < N → w.heap.size + 2 ≤ W.heap.size →
  assign.wpIn (Fence.wide.inRound (w.heap.size + 1)) (n - 1 - 1) P (Exit.then (fun a' W' => Keeps (fun _ => False) W W' ∧
   ∀ Wb, Keeps (fun k => k = w.heap.size + 1) W' Wb → I pre Wb → body.wpIn (Fence.wide.inRound (w.heap.size + 1)) (n - 1 - 1) P (bodyEnd K (w.heap.size + 1) w.heap.size I Ix (pre ++ [x]) Wb) a' Wb) (fun _ _ _ => False))
   { tmps := (ps.zip (encs x)).foldl (fun t (p, v) => t.setIfInBounds p v) a.tmps, defers := [] } W)
 (hdone : ∀ (xs : List α) (W : World), S xs → I xs W → w.heap.size + 2 ≤ W.heap.size → W.heap[w.heap.size]? = some (.deferred (some [])) → Q .normal { a with defers := { target := .collected w.heap.size, args := #[] } :: a.defers } W)
 (hstop : ∀ (c : Code) (pre : List α) (W : World), Sp pre → Ix c pre W → w.heap.size + 2 ≤ W.heap.size → W.heap[w.heap.size]? = some (.deferred (some [])) → c.wpIn Fence.wide n P Q { a with defers := { target := .collected w.heap.size, args := #[] } :: a.defers } W) :
 (Code.rangeFunc g ps assign body).wpIn Fence.wide n P Q a w := by
 refine wpIn_rangeFunc ?_
 intro fn hfn
 obtain ⟨D, hD⟩ : ∃ D, w.heap.size = D := ⟨_, rfl⟩
 obtain ⟨rec, hrec⟩ : ∃ rec : LoopState → Option Code → Loop, rec = fun st pe => { state := st, pending := pe, fn, tmps := a.tmps, params := ps, assign, body, defers := w.heap.size } := ⟨_, rfl⟩
 obtain ⟨W1, hW1⟩ : ∃ W1, (w.alloc (.deferred (some []))).alloc (.loop (rec .ready none)) = W1 := ⟨_, rfl⟩
 have hs1 : W1.heap.size = D + 2 := by rw [← hW1, ← hD]; simp
 have hL1 : W1.heap[D + 1]? = some (.loop (rec .ready none)) := by
  rw [← hW1, ← hD]; have := World.alloc_heap_new (w.alloc (.deferred (some []))) (.loop (rec .ready none)); rwa [World.size_alloc] at this
 have hK1 : W1.heap[D]? = some (.deferred (some [])) := by
  rw [← hW1, ← hD]; exact (Below.heap_alloc _ _ _ (by simp)).trans (World.alloc_heap_new w _)
 have hk01 : Keeps (fun _ => False) w W1 := by rw [← hW1]; exact ((Keeps.refl _ w).alloc _).alloc _
 have sub : ∀ {M' : Nat → Prop} {A B : World}, Keeps (fun _ => False) A B → Keeps M' A B := fun h => ⟨h.os, h.tape, h.output, h.size, fun k hk _ => h.block k hk (fun f => f)⟩
 have fromL : ∀ {A B : World}, Keeps (fun k => k = D + 1) A B → Keeps (fun k => k = D ∨ k = D + 1) A B := fun h => ⟨h.os, h.tape, h.output, h.size, fun k hk hm => h.block k hk (fun e => hm (.inr e))⟩
 have hI1 : I [] W1 := hI _ _ _ h0 (sub hk01)
 rw [hD] at hA hround hdone hstop hK hM
 have hAx' : ∀ c, Apart D (Ix c) := fun c => by have := hAx c; rwa [hD] at this
 refine ⟨D + 1, [{ target := .collected D, args := #[] }], W1, { target := .fn (.func gf) lb, args := #[.func (.yield (D + 1)) #[] #[]] }, W1, gf,
  #[.func (.yield (D + 1)) #[] #[]] ++ lb, W1, ?_, ?_, ?_, ?_, (fun h => by cases h), ?_⟩
 · rw [← hW1, hrec, ← hD]; exact run_enterLoop_outer _ _ _ _ _
 · simp only [resolve, hg]
   simp [go_sem]
 · intro f' _; trivial
 · simp [invoke, go_sem, eg]
 · refine (hseq (D + 1)
    (fun pre W => I pre W ∧ D + 2 ≤ W.heap.size ∧ W.heap[D + 1]? = some (.loop (rec .ready none)) ∧ W.heap[D]? = some (.deferred (some [])))
    (fun pre W => ∃ c, Ix c pre W ∧ D + 2 ≤ W.heap.size ∧ W.heap[D + 1]? = some (.loop (rec .done (some c))) ∧ W.heap[D]? = some (.deferred (some [])))
    W1 hk01
    (fun s A A' hs hk => ⟨hI _ _ _ hs.1 hk, Nat.le_trans hs.2.1 hk.size, (hk.block _ (by omega) (fun h => by have := hM _ h; omega)).trans hs.2.2.1, (hk.block _ (by omega) (fun h => by have := hM _ h; omega)).trans hs.2.2.2⟩)
    (fun s A A' hs hk => by
     obtain ⟨c, hc, h2, hl, hd⟩ := hs
     exact ⟨c, hIx c _ _ _ hc hk, Nat.le_trans h2 hk.size, (hk.block _ (by omega) (fun h => by have := hM _ h; omega)).trans hl, (hk.block _ (by omega) (fun h => by have := hM _ h; omega)).trans hd⟩)
    ?_ ⟨hI1, by omega, hL1, hK1⟩).mono ?_
   · rintro pre x W ⟨hi, h2, hl, hd⟩ hlen
     have hy := run_yield (P := P) (args := encs x) hl (by rw [hrec]; exact hps x)
     rw [hrec] at hy
     refine ⟨fn, _, assign, body, hy, roundIn_of_wpIn hfn (wpIn_mono (hround pre x W hi hlen h2) ?_)⟩
     intro e a' W' hq
     cases e with
     | normal =>
       obtain ⟨hk0, hb⟩ := hq
       have hl' : W'.heap[D + 1]? = some (.loop (rec .ready none)) := (hk0.block _ (by omega) (fun f => f)).trans hl
       have hd' : W'.heap[D]? = some (.deferred (some [])) := (hk0.block _ (by omega) (fun f => f)).trans hd
       refine ⟨_, run_beginRound hl' (by rw [hrec]), ?_⟩
       have hkb := keeps_putObj (fun k => k = D + 1) W' (D + 1) (.loop { rec .ready none with state := .busy }) rfl
       have hlb : (W'.putObj (D + 1) (.loop { rec .ready none with state := .busy })).heap[D + 1]? = some (.loop { rec .ready none with state := .busy }) := World.putObj_heap_same (by have := hk0.size; omega)
       have hdb : (W'.putObj (D + 1) (.loop { rec .ready none with state := .busy })).heap[D]? = some (.deferred (some [])) := (World.putObj_heap_other (by omega)).trans hd'
       refine wpIn_mono (hb _ hkb (hA _ _ _ (hI _ _ _ hi (sub hk0)) (fromL hkb))) ?_
       generalize W'.putObj (D + 1) (.loop { rec .ready none with state := .busy }) = Wb at hkb hlb hdb
       have fin : ∀ (jump : Option Code) (W3 : World), KeepOn (fun k => k = D + 1 ∨ k = D) Wb W3 →
        (Instr.endRound (D + 1) jump).run P W3 = .ok (.bool jump.isNone) (W3.putObj (D + 1) (.loop (rec (if jump.isNone then .ready else .done) jump))) ∧
        D + 2 ≤ (W3.putObj (D + 1) (.loop (rec (if jump.isNone then .ready else .done) jump))).heap.size ∧
        (W3.putObj (D + 1) (.loop (rec (if jump.isNone then .ready else .done) jump))).heap[D + 1]? = some (.loop (rec (if jump.isNone then .ready else .done) jump)) ∧
        (W3.putObj (D + 1) (.loop (rec (if jump.isNone then .ready else .done) jump))).heap[D]? = some (.deferred (some [])) := fun jump W3 hk3 => by
        have hl3 := (hk3.2 (D + 1) (.inl rfl)).trans hlb
        have hr := run_endRound (P := P) jump hl3
        rw [hrec] at hr ⊢
        refine ⟨hr, ?_, World.putObj_heap_same (Array.getElem?_eq_some_iff.1 hl3).1, (World.putObj_heap_other (by omega)).trans ((hk3.2 D (.inr rfl)).trans hdb)⟩
        have := (Array.getElem?_eq_some_iff.1 hl3).1
        simp
        omega
       have toK : ∀ {W3 : World} (o : Obj), KeepOn K Wb W3 → KeepOn K W (W3.putObj (D + 1) o) := fun o h3 => by
        refine ⟨?_, fun k hk => ?_⟩
        · have := hk0.size; have := hkb.size; have := h3.1; simp; omega
        · have hlt := hK k hk
          exact (World.putObj_heap_other (by omega)).trans ((h3.2 k hk).trans ((hkb.block k (by have := hk0.size; omega) (by omega)).trans (hk0.block k (by omega) (fun f => f))))
       have kp : ∀ (W3 : World) (o : Obj), Keeps (fun k => k = D ∨ k = D + 1) W3 (W3.putObj (D + 1) o) := fun W3 o => keeps_putObj _ W3 (D + 1) o (.inr rfl)
       rintro e a3 W3 hp
       cases e with
       | normal =>
         obtain ⟨hk3, hkk, hi3⟩ := hp
         obtain ⟨hr, h5, hl4, hk4⟩ := fin none W3 hk3
         exact ⟨_, _, hr, .inl ⟨rfl, ⟨hA _ _ _ hi3 (kp _ _), h5, hl4, hk4⟩, toK _ hkk⟩⟩
       | ret =>
         obtain ⟨hk3, hi3⟩ := hp
         obtain ⟨hr, h5, hl4, hk4⟩ := fin (some .ret) W3 hk3
         exact ⟨_, _, hr, .inr ⟨rfl, .ret, hAx' _ _ _ _ hi3 (kp _ _), h5, hl4, hk4⟩⟩
       | exit id =>
         obtain ⟨hk3, hi3⟩ := hp
         obtain ⟨hr, h5, hl4, hk4⟩ := fin (some (.exit id)) W3 hk3
         exact ⟨_, _, hr, .inr ⟨rfl, .exit id, hAx' _ _ _ _ hi3 (kp _ _), h5, hl4, hk4⟩⟩
       | goto t =>
         obtain ⟨hk3, hi3⟩ := hp
         obtain ⟨hr, h5, hl4, hk4⟩ := fin (some (.goto t)) W3 hk3
         exact ⟨_, _, hr, .inr ⟨rfl, .goto t, hAx' _ _ _ _ hi3 (kp _ _), h5, hl4, hk4⟩⟩
       | panic ch => exact hp.elim
       | outgrown => exact hp.elim
     | ret => exact hq.elim
     | exit id => exact hq.elim
     | goto t => exact hq.elim
     | panic ch => exact hq.elim
     | outgrown => exact hq.elim
   · rintro e W2 ⟨⟨v, rfl⟩, (⟨xs, hS, hi, h2, hl, hd⟩ | ⟨pre, hSp, c, hi, h2, hl, hd⟩)⟩
     · refine ⟨none, _, by have := run_endLoop (P := P) hl (by rw [hrec]; simp); rw [hrec] at this; exact this, ?_⟩
       exact hdone xs _ hS (hA _ _ _ hi (keeps_putObj _ W2 (D + 1) _ (.inr rfl))) (by simp; omega) ((World.putObj_heap_other (by omega)).trans hd)
     · refine ⟨some c, _, by have := run_endLoop (P := P) hl (by rw [hrec]; simp); rw [hrec] at this; exact this, ?_⟩
       exact hstop c pre _ hSp (hAx' c _ _ _ hi (keeps_putObj _ W2 (D + 1) _ (.inr rfl))) (by simp; omega) ((World.putObj_heap_other (by omega)).trans hd)
end Go.Proofs.Ytenbkljgmgdegaa.XRange
end
section
namespace Go.Proofs.Ytenbkljgmgdegaa.XHeld
open Go
section
variable {P : Program} {ops : Array Oper} {Q : Exit → Act → World → Prop} {G : Array Bool → World → Prop}
def AnyG (P : Program) (ops : Array Oper) (Q : Exit → Act → World → Prop) (G : Array Bool → World → Prop) : Nat → Array Bool → Act → World → Prop
 | 0, L, a, w => Region.ready .any ops L = [] ∧ Q .normal a w
 | n + 1, L, a, w =>
   (Region.ready .any ops L = [] → Q .normal a w) ∧
   ∀ i ∈ Region.ready .any ops L, wpOp P ops Q i (fun a' w' => G (L.setIfInBounds i true) w' ∧ AnyG P ops Q G n (L.setIfInBounds i true) a' w') a w
theorem AnyG.any : ∀ (n : Nat) (L : Array Bool) (a : Act) (w : World), AnyG P ops Q G n L a w → wpAny P .any ops Q n L a w
 | 0, _, _, _, h => h
 | n + 1, _, _, _, h => ⟨h.1, fun i hi => wpOp_mono (fun _ _ h' => AnyG.any n _ _ _ h'.2) (h.2 i hi)⟩
theorem getD_of_set {L : Array Bool} {j k : Nat} (h : j ≠ k) : (L.setIfInBounds j true).getD k true = L.getD k true := getD_set_ne true h
theorem AnyG.first {i k : Nat} {oi ok : Oper} {v : Value} {Gi : World → Prop} (hi : ops[i]? = some oi) (hk : ops[k]? = some ok)
 (hki : ∃ e ∈ ok.after, Region.binds .any e = true ∧ e.on = i)
 (hset : ∀ L w, G (L.setIfInBounds i true) w ↔ G L w) (hG : ∀ L w, L.getD k true = false → G L w → Gi w)
 (hsel : ∀ (j : Nat) (o : Oper) cs b, ops[j]? = some o → o.op ≠ .select cs b)
 (hQ : ∀ c a w, Q (.panic c) (a.put oi.dst v) w → Q (.panic c) a w) :
 ∀ (n : Nat) (L : Array Bool) (a : Act) (w : World),
  (∀ j oj, ops[j]? = some oj → j ≠ i → L.getD j true = false → (∀ e ∈ oj.after, Region.binds .any e = true → e.on ≠ i) → oi.apart ops oj = true) →
  i ∈ Region.ready .any ops L → L.getD k true = false → YieldsIf P ops Gi oi v a → G L w →
  AnyG P ops Q G n (L.setIfInBounds i true) (a.put oi.dst v) w → AnyG P ops Q G (n + 1) L a w := by
 intro n
 induction n with
 | zero =>
   intro L a w _ hr hLk hy hS H
   refine ⟨fun h => (by rw [h] at hr; cases hr), fun j hj => ?_⟩
   by_cases hji : j = i
   · subst hji; exact hy.wpOp hi (hG L w hLk hS) ⟨(hset L w).2 hS, H⟩
   · have := ready_mono hj hji
     rw [H.1] at this
     cases this
 | succ n ih =>
   intro L a w hfree hr hLk hy hS H
   refine ⟨fun h => (by rw [h] at hr; cases hr), fun j hj => ?_⟩
   by_cases hji : j = i
   · subst hji; exact hy.wpOp hi (hG L w hLk hS) ⟨(hset L w).2 hS, H⟩
   obtain ⟨hjun, oj, hoj, hall⟩ := mem_ready.1 hj
   have hnot : ∀ e ∈ oj.after, Region.binds .any e = true → e.on ≠ i := fun e he hb heq => by
    have h1 := hall e he hb
    have h0 := (mem_ready.1 hr).1
    rw [heq] at h1
    rcases Nat.lt_or_ge i L.size with h' | h'
    · simp [h'] at h0 h1; rw [h0] at h1; cases h1
    · simp [Array.getElem?_eq_none h'] at h1
   have hjk : j ≠ k := fun h => by
    subst h
    obtain ⟨e, he, hb, hei⟩ := hki
    rw [hk] at hoj
    cases hoj
    exact hnot e he hb hei
   have h2 := wpOp_putIf hoj (hfree j oj hoj hji hjun hnot) (fun cs b => hsel i oi cs b hi) (fun cs b => hsel j oj cs b hoj) hQ hy (H.2 j (ready_mono hj hji))
   have hLk' : (L.setIfInBounds j true).getD k true = false := by rw [getD_of_set hjk]; exact hLk
   refine wpOp_mono (fun a' w' h3 => ?_) h2
   obtain ⟨hy', hG', hA'⟩ := h3
   rw [Array.setIfInBounds_comm _ _ (Ne.symm hji)] at hG'
   have hS' := (hset _ w').1 hG'
   refine ⟨hS', ih (L.setIfInBounds j true) a' w' (fun m om hm hmi hun hno => hfree m om hm hmi ?_ hno) (ready_mono hr (Ne.symm hji)) hLk' hy' hS' ?_⟩
   · by_cases hjm : j = m
     · subst hjm; exact hjun
     · rw [getD_set_ne true hjm] at hun; exact hun
   · rw [Array.setIfInBounds_comm _ _ hji]
     exact hA'
theorem AnyG.take (i k : Nat) {l : List Oper} {oi ok : Oper} {v : Value} {Gi : World → Prop} {n : Nat} {L : Array Bool} {a : Act} {w : World}
 (hset : ∀ L w, G (L.setIfInBounds i true) w ↔ G L w) (hG : ∀ L w, L.getD k true = false → G L w → Gi w)
 (hi : l[i]? = some oi) (hk : l[k]? = some ok) (hki : (ok.after.any (fun e => Region.binds .any e && e.on == i)) = true)
 (hs : Region.noSelect l.toArray = true) (hf : Region.free .any l.toArray L i = true) (hr : (Region.ready .any l.toArray L).contains i = true) (hLk : L.getD k true = false)
 (hQ : ∀ c a w, Q (.panic c) (a.put oi.dst v) w → Q (.panic c) a w) (hS : G L w) (hw : Region.wanted oi (yielded l.toArray a.tmps) = true)
 (hy : ∀ w, Gi w → (execOp a.eval oi).run P w = .ok (.value v) w)
 (h : G (L.setIfInBounds i true) w → AnyG P l.toArray Q G n (L.setIfInBounds i true) (a.put oi.dst v) w) : AnyG P l.toArray Q G (n + 1) L a w := by
 have hi' : l.toArray[i]? = some oi := by rw [List.getElem?_toArray]; exact hi
 have hk' : l.toArray[k]? = some ok := by rw [List.getElem?_toArray]; exact hk
 refine AnyG.first hi' hk' ?_ hset hG (Region.noSelect_spec hs) hQ n L a w (Region.free_spec hi' hf) (by simpa using hr) hLk (.inl ⟨hw, hy⟩) hS (h ((hset L w).2 hS))
 obtain ⟨e, he, hb⟩ := Array.any_eq_true'.1 hki
 simp only [Bool.and_eq_true, beq_iff_eq] at hb
 exact ⟨e, he, hb.1, hb.2⟩
theorem AnyG.one (i : Nat) {l : List Oper} {o : Oper} {n : Nat} {L : Array Bool} {a : Act} {w : World} (hr : Region.ready .any l.toArray L = [i]) (ho : l[i]? = some o)
 (h : ∀ K : Act → World → Prop, Shut (∀ a w, G (L.setIfInBounds i true) w → (G (L.setIfInBounds i true) w → AnyG P l.toArray Q G n (L.setIfInBounds i true) a w) → K a w) → if Region.wanted o (yielded l.toArray a.tmps) = true then Oper.wp P o a w K Q else K (a.put o.dst undef) w) :
 AnyG P l.toArray Q G (n + 1) L a w := by
 have ho' : l.toArray[i]? = some o := by rw [List.getElem?_toArray]; exact ho
 refine ⟨fun h0 => (by rw [hr] at h0; cases h0), fun j hj => ?_⟩
 rw [hr] at hj
 cases List.mem_singleton.1 hj
 exact wpOp_step ho' (fun K hK => h K (fun a w h1 h2 => hK a w ⟨h1, h2 h1⟩))
theorem AnyG.done {n : Nat} {L : Array Bool} {a : Act} {w : World} (hr : Region.ready .any ops L = []) (h : Q .normal a w) : AnyG P ops Q G n L a w := by
 cases n with
 | zero => exact ⟨hr, h⟩
 | succ n => exact ⟨fun _ => h, by rw [hr]; simp⟩
def Till (k k' : Nat) (A B : World → Prop) (L : Array Bool) (w : World) : Prop := (L.getD k true = false → A w) ∧ (L.getD k' true = false → B w)
theorem Till.set {k k' i : Nat} {A B : World → Prop} (h : i ≠ k) (h' : i ≠ k') (L : Array Bool) (w : World) : Till k k' A B (L.setIfInBounds i true) w ↔ Till k k' A B L w := by
 unfold Till
 rw [getD_of_set h, getD_of_set h']
theorem Till.a {k k' : Nat} {A B : World → Prop} (L : Array Bool) (w : World) (h : L.getD k true = false) (hT : Till k k' A B L w) : A w := hT.1 h
theorem Till.b {k k' : Nat} {A B : World → Prop} (L : Array Bool) (w : World) (h : L.getD k' true = false) (hT : Till k k' A B L w) : B w := hT.2 h
end
end Go.Proofs.Ytenbkljgmgdegaa.XHeld
end
section
namespace Go.Proofs.YtenbkljgmgdegaaW.PrintWords
open Go Go.RowKit
@[go_sem] theorem max_u8 : IntKind.max .u8 = 255 := rfl
@[go_sem] theorem max_u16 : IntKind.max .u16 = 65535 := rfl
@[go_sem] theorem max_u32 : IntKind.max .u32 = 4294967295 := rfl
@[go_sem] theorem max_u64 : IntKind.max .u64 = 18446744073709551615 := rfl
@[go_sem] theorem signed_u8 : IntKind.signed .u8 = false := rfl
namespace Kd
section
variable {α : Type} {P : Program} {ops : Array Oper} {Q : Exit → Act → World → Prop} {Kc : Act → World → Prop} {o : Oper} {rest : List Oper} {a : Act}
theorem made0 (d : Kd α) {W : World} (base e : Nat) {z : Value} (hz : z.cells.size = d.sz) (hs0 : 0 < d.sz) {z0 : α} {ok okp : Nat → Prop} (hzero : d.M W base okp z0 z.cells.toList) (hok : ∀ k, okp k → ok k) (hfresh : ok W.heap.size)
 (hbase : base ≤ W.heap.size) (m : Nat) (hm : m ≤ 9223372036854775807) :
 d.R e (W.alloc (.cells (madeCells z.cells (m * d.sz)) e)) base ok (.slice (some ⟨W.heap.size, 0, none⟩) 0 m) [] := by
 have hrep : Reps (d.M W base okp) d.sz (List.replicate m z0) (madeCells z.cells (m * d.sz)).toList := reps_made hz hs0 hzero m
 have full : d.R e (W.alloc (.cells (madeCells z.cells (m * d.sz)) e)) base ok (.slice (some ⟨W.heap.size, 0, none⟩) m m) (List.replicate m z0) := by
  refine ⟨fun k hk => ?_, (madeCells z.cells (m * d.sz)).toList, ?_, ?_⟩
  · have : W.heap.size = k := by simpa [Value.ownBlock] using hk
    subst this
    exact hfresh
  · have h2 := World.ownsRow_lit (base := base) (e := e) (size := d.sz) W (madeCells z.cells (m * d.sz)) m hbase (by simpa [maxLen] using hm) (by simpa using hrep.1)
    simpa using h2
  · refine hrep.imp_ (fun p c hp => d.M_mono (fun k hk => ⟨hok k hk.1, fun he => ?_⟩) (M_below (d.M_bound hp) (below_alloc (Below.refl _ _) _)))
    have h3 : k = W.heap.size := by simpa [Value.ownBlock] using he
    have := hk.2.2.1
    omega
 have h1 := R_take full (m := 0) (Nat.zero_le _)
 simpa using h1
theorem run_make0 {W : World} {t e : TypeId} {z : Value} {bytes sz : Nat} (ht : P.underlying t = some (.slice e)) (hinfo : (P.info? e).map (fun i => (i.zero, i.size, i.bytes)) = some (some z, sz, bytes)) (hb0 : 0 < bytes) (n : Nat) (hl : n * bytes ≤ 281474976710656) :
 (Instr.makeSlice t (.int .i64 0) (.int .i64 (n : Int))).run P W = .ok (.slice (some ⟨W.heap.size, 0, none⟩) 0 n) (W.alloc (.cells (madeCells z.cells (n * sz)) e)) := by
 obtain ⟨i0, hi, hzz⟩ := Option.map_eq_some_iff.1 hinfo
 simp only [Prod.mk.injEq] at hzz
 obtain ⟨hz0, hz1, hz2⟩ := hzz
 have hm : n ≤ 281474976710656 := Nat.le_trans (Nat.le_mul_of_pos_right _ hb0) hl
 have hr := run_make (P := P) W t e i0 z ht hi hz0 .i64 .i64 (0 : Int) (n : Int) (by omega) (by omega)
  (by
   have h3 : ((i0.bytes * n : Nat) : Int) ≤ 281474976710656 := by rw [hz2, Nat.mul_comm]; omega
   rwa [Int.natCast_mul] at h3) (by omega)
 simp only [Int.toNat_natCast, Int.toNat_zero] at hr
 rw [hz1] at hr
 exact hr
theorem R_make0 (d : Kd α) {w0 W : World} (base e : Nat) (hgd : o.guard = none) {N : Tmp} (_hd : o.dst = some N) (t : TypeId) (x y : Operand) (ho : o.op = .makeSlice t x y) (n : Int) (hx : a.eval x = .int .i64 0) (hy : a.eval y = .int .i64 n)
 (ht : P.underlying t = some (.slice e)) (z : Value) (bytes : Nat) (hinfo : (P.info? e).map (fun i => (i.zero, i.size, i.bytes)) = some (some z, d.sz, bytes)) (hz : z.cells.size = d.sz) (hs0 : 0 < d.sz) (hb0 : 0 < bytes)
 (z0 : α) {ok okp : Nat → Prop} (hzero : d.M W base okp z0 z.cells.toList) (hok : ∀ k, okp k → ok k) (hfresh : ok W.heap.size) (h0 : 0 ≤ n) (hl : n.toNat * bytes ≤ 281474976710656) (HB : Below base w0 W) (hbase : base ≤ W.heap.size)
 (h : ∀ v1 w1, d.R e w1 base ok v1 [] → Below base w0 w1 → W.grownBy w1 none → (∃ b, v1.ownBlock = some b ∧ W.heap.size ≤ b) → wpList P ops Q rest (a.put o.dst v1) w1) : wpList P ops Q (o :: rest) a W := by
 obtain ⟨m, rfl⟩ := Int.eq_ofNat_of_zero_le h0
 simp only [Int.toNat_natCast] at hl
 have hr := run_make0 (P := P) (W := W) ht hinfo hb0 m hl
 have hm : m ≤ 281474976710656 := Nat.le_trans (Nat.le_mul_of_pos_right _ hb0) hl
 exact event_run hgd (by simp [execOp, ho, hx, hy, hr]) (h _ _ (made0 d base e hz hs0 hzero hok hfresh hbase m (by omega)) (HB.alloc hbase _) (World.grownBy_alloc W _ none) ⟨W.heap.size, by simp [Value.ownBlock], Nat.le_refl _⟩)
end
end Kd
end Go.Proofs.YtenbkljgmgdegaaW.PrintWords
end
section
namespace Go.Proofs.YtenbkljgmgdegaaW.PrintWords
open Go Go.RowKit
namespace Kd
section
variable {P : Program} {ops : Array Oper} {Q : Exit → Act → World → Prop} {Kc : Act → World → Prop} {o : Oper} {rest : List Oper} {a : Act}
theorem conv_V {W : World} {e : TypeId} {base : Nat} {ok : Nat → Prop} (y : ByteArray) (hok : ∀ k, W.heap.size ≤ k → ok k) (hl : y.size ≤ 140737488355328) (hc : y.size ≤ grownCap W y.size 0 e) :
 V (Kd.int .u8) e (Lib.bytesWorld W e y) base ok (.slice (some ⟨W.heap.size, 0, none⟩) y.size (grownCap W y.size 0 e)) (bytesOf y) := by
 have h1 : ReadsInt (Lib.bytesWorld W e y) .u8 (some ⟨W.heap.size, 0, none⟩) y.size (bytesOf y) := bytes_reads W e y (by omega)
 have hn := bytesOf_length y
 rw [← hn]
 refine ⟨_, _, rfl, by rw [hn]; exact hc, ?_⟩
 intro W' hW
 have hq := hW W.heap.size (hok _ (Nat.le_refl _)) (by rw [Lib.bytesWorld_size]; omega)
 have hcell : ∀ j, W'.cell? ⟨W.heap.size, j, none⟩ = (Lib.bytesWorld W e y).cell? ⟨W.heap.size, j, none⟩ := fun j => by simp only [World.cell?, hq]
 have h3 : ReadsInt W' .u8 (some ⟨W.heap.size, 0, none⟩) y.size (bytesOf y) := by
  obtain ⟨q1, q2, q3⟩ := h1
  refine ⟨q1, q2, fun hn0 => ?_⟩
  obtain ⟨ad, e1, hc1⟩ := q3 hn0
  cases e1
  exact ⟨_, rfl, fun j hj => by
   have := hc1 j hj
   rw [add_plain] at this ⊢
   rw [hcell j]
   exact this⟩
 rw [hn]
 exact C_of_reads (enc := .int .u8) (d := 0) (h1 := fun _ => rfl) h3
theorem conv_below {W w0 : World} {base : Nat} (e : TypeId) (y : ByteArray) (HB : Below base w0 W) (hbase : base ≤ W.heap.size) : Below base w0 (Lib.bytesWorld W e y) := bytes_below HB hbase e y
theorem conv_grown (W : World) (e : TypeId) (y : ByteArray) : W.grownBy (Lib.bytesWorld W e y) none :=
 ⟨rfl, rfl, rfl, by rw [Lib.bytesWorld_size]; omega, fun k hk _ => Lib.bytesWorld_at_old W e y k hk⟩
theorem V_conv {w0 W : World} (base : Nat) (hgd : o.guard = none) (x : Operand) (src dst e : TypeId) (ho : o.op = .convert src dst x) (hs : P.underlying src = some .string) (hd : P.underlying dst = some (.slice e)) (he : P.underlying e = some (.int .u8))
 (y : ByteArray) {ok : Nat → Prop} (hx : a.eval x = .string y) (hok : ∀ k, W.heap.size ≤ k → ok k) (HB : Below base w0 W) (hbase : base ≤ W.heap.size) (hl : y.size ≤ 140737488355328)
 (h : ∀ v1 w1, V (Kd.int .u8) e w1 base ok v1 (bytesOf y) → Below base w0 w1 → W.grownBy w1 none → (v1.ownBlock = (Value.slice none 0 0).ownBlock ∨ ∃ b, v1.ownBlock = some b ∧ W.heap.size ≤ b) → wpList P ops Q rest (a.put o.dst v1) w1) : wpList P ops Q (o :: rest) a W := by
 have hr := print_bytes (P := P) src dst e hs hd he y W
 exact event_run hgd (by simp [execOp, ho, hx, hr]) (h _ _ (conv_V y hok hl (grownCap_ge W _ _ _)) (conv_below e y HB hbase) (conv_grown W e y) (.inr ⟨W.heap.size, by simp [Value.ownBlock], Nat.le_refl _⟩))
end
end Kd
end Go.Proofs.YtenbkljgmgdegaaW.PrintWords
end
section
namespace Go.Proofs.Ytenbkljgmgdegaa.XReg
open Go Go.RowKit Go.Proofs.YtenbkljgmgdegaaW.PrintWords Go.Proofs.YtenbkljgmgdegaaW.PrintLast Go.Proofs.YtenbkljgmgdegaaW.PrintMore
section
variable {P : Program} {md : Region.Mode} {ops : Array Oper} {Q : Exit → Act → World → Prop} {S : World → Prop} {ds : List Nat}
theorem pu {oi : Oper} {v : Value} {fuel : Nat} {l : Array Bool} {a a' : Act} {w : World} (i N : Nat) (hi : ops[i]? = some oi := by rfl) (hN : oi.dst = some N := by rfl) (hc : (Region.noSelect ops && Region.free md ops l i && (Region.ready md ops l).contains i) = true := by kernel_rfl)
 (hQ : ∀ c a w, Q (.panic c) (a.put oi.dst v) w → Q (.panic c) a w := by exact fun _ _ _ h => h) (hw : Region.wanted oi (yielded ops a.tmps) = true := by rfl) (hy : ∀ w, (execOp a.eval oi).run P w = .ok (.value v) w := by (intro w'; go_simp; with_reducible rfl))
 (ha : a.put (some N) v = a' := by (simp only [Act.put, List.setIfInBounds_toArray, List.set_cons_zero, List.set_cons_succ, i64_w, i32_w]; first | done | rfl))
 (h : wpAnyLast P md ops Q S ds fuel (l.setIfInBounds i true) a' w) : wpAnyLast P md ops Q S ds (fuel + 1) l a w :=
 pure_ _ hi hN (by simp only [Bool.and_eq_true] at hc; have h3 := hc.2; simp [anyB, hc.1.1, hc.1.2]; simpa using h3) hQ (.inl ⟨hw, hy⟩) ha h
theorem tk {oi : Oper} {v : Value} {fuel : Nat} {l : Array Bool} {a a' : Act} {w : World} (i N : Nat) (hi : ops[i]? = some oi := by rfl) (hN : oi.dst = some N := by rfl) (hc : (Region.noSelect ops && Region.free md ops l i && (Region.ready md ops l).contains i && Region.closedB md ops l && Region.lastB md ops l ds i) = true := by kernel_rfl)
 (hQ : ∀ c a w, Q (.panic c) (a.put oi.dst v) w → Q (.panic c) a w := by exact fun _ _ _ h => h) (hw : Region.wanted oi (yielded ops a.tmps) = true := by rfl) (hS : S w := by assumption)
 (hy : ∀ w, S w → (execOp a.eval oi).run P w = .ok (.value v) w := by (intro w' hS_; (try (obtain ⟨s0, s1⟩ := hS_)); (try (obtain ⟨s1, s2⟩ := s1)); (try (obtain ⟨s2, s3⟩ := s2)); (try (obtain ⟨s3, s4⟩ := s3)); (try (obtain ⟨s4, s5⟩ := s4)); (try (obtain ⟨s5, s6⟩ := s5)); (try (obtain ⟨s6, s7⟩ := s6)); (try (obtain ⟨s7, s8⟩ := s7)); (try (obtain ⟨s8, s9⟩ := s8)); (try (obtain ⟨s9, s10⟩ := s9)); (try (obtain ⟨s10, s11⟩ := s10)); go_simp; with_reducible rfl))
 (ha : a.put (some N) v = a' := by (simp only [Act.put, List.setIfInBounds_toArray, List.set_cons_zero, List.set_cons_succ, i64_w, i32_w]; first | done | rfl))
 (h : wpAnyLast P md ops Q S ds fuel (l.setIfInBounds i true) a' w) : wpAnyLast P md ops Q S ds (fuel + 1) l a w :=
 take_ _ hi hN (by simp only [Bool.and_eq_true] at hc; have h3 := hc.1.1.2; simp [takeB, hc.1.1.1.1, hc.1.1.1.2, hc.1.2, hc.2]; simpa using h3) hQ (.inl ⟨hw, hy⟩) hS ha h
theorem pn {oi : Oper} {fuel : Nat} {l : Array Bool} {a a' : Act} {w : World} (i N : Nat) (hi : ops[i]? = some oi := by rfl) (hN : oi.dst = some N := by rfl) (hc : (Region.noSelect ops && Region.free md ops l i && (Region.ready md ops l).contains i) = true := by kernel_rfl)
 (hQ : ∀ c a w, Q (.panic c) (a.put oi.dst undef) w → Q (.panic c) a w := by exact fun _ _ _ h => h) (hw : Region.wanted oi (yielded ops a.tmps) = false := by rfl)
 (ha : a.put (some N) undef = a' := by (simp only [Act.put, List.setIfInBounds_toArray, List.set_cons_zero, List.set_cons_succ, i64_w, i32_w]; first | done | rfl))
 (h : wpAnyLast P md ops Q S ds fuel (l.setIfInBounds i true) a' w) : wpAnyLast P md ops Q S ds (fuel + 1) l a w :=
 pure_ _ hi hN (by simp only [Bool.and_eq_true] at hc; have h3 := hc.2; simp [anyB, hc.1.1, hc.1.2]; simpa using h3) hQ (.inr ⟨hw, rfl⟩) ha h
theorem one {i : Nat} {oi : Oper} {fuel : Nat} {l : Array Bool} {a : Act} {w : World} (N : Option Tmp) (hi : ops[i]? = some oi) (hN : oi.dst = N) (hc : (Region.ready md ops l == [i]) = true) (hd : i ∉ ds)
 (h : ∀ K : Act → World → Prop, Shut (∀ a' w', S w' → (S w' → wpAnyLast P md ops Q S ds fuel (l.setIfInBounds i true) a' w') → K a' w') → if Region.wanted oi (yielded ops a.tmps) = true then Oper.wp P oi a w K Q else K (a.put N undef) w) :
 wpAnyLast P md ops Q S ds (fuel + 1) l a w := one_ _ hi hN (by simp only [readyB, hc, Bool.true_and, beq_self_eq_true]) hd h
theorem last {i : Nat} {oi : Oper} {fuel : Nat} {l : Array Bool} {a : Act} {w : World} (N : Option Tmp) (hi : ops[i]? = some oi) (hN : oi.dst = N) (hc : (Region.ready md ops l == [i]) = true) (hd : i ∈ ds)
 (h : ∀ K : Act → World → Prop, Shut (∀ a' w', wpAnyLast P md ops Q S ds fuel (l.setIfInBounds i true) a' w' → K a' w') → if Region.wanted oi (yielded ops a.tmps) = true then Oper.wp P oi a w K Q else K (a.put N undef) w) :
 wpAnyLast P md ops Q S ds (fuel + 1) l a w := last_ _ hi hN (by simp only [readyB, hc, Bool.true_and, beq_self_eq_true]) hd h
end
end Go.Proofs.Ytenbkljgmgdegaa.XReg
end
section
namespace Go.Proofs.Ytenbkljgmgdegaa.XMap
open Go Go.RowKit Go.Proofs.Ytenbkljgmgdegaa.XRange
structure Keys (P : Program) (kt : TypeId) {κ : Type} [DecidableEq κ] (K : κ → Value) : Prop where
 check : ∀ (em : Bool) (x : κ) (w : World), (Instr.checkKey em 10000 kt (K x)).run P w = .ok () w
 find : ∀ (x : κ) (es : List MapEntry) (ks : List κ) (w : World), es.map (·.key) = ks.map K →
  (Instr.findKey kt (K x) es).run P w = .ok ((ks.findIdx? (· = x)).map fun i => (i, (es.getD i default).val)) w
 stays : ∀ (x : κ) (w : World), (Instr.keyThatStays (K x) (K x)).run P w = .ok (K x) w
section
variable {κ ν : Type} [DecidableEq κ]
structure MapAt (w : World) (b : Nat) (K : κ → Value) (V : ν → Value) (D : List (κ × ν)) : Prop where
 at_ : ∃ es clock, w.heap[b]? = some (.map es clock) ∧ es.toList.map (·.key) = D.map (fun p => K p.1) ∧ es.toList.map (·.val) = D.map (fun p => V p.2) ∧ (∀ e ∈ es.toList, e.born < clock) ∧ es.toList.Pairwise (fun a b => a.born ≠ b.born)
 once : (D.map (·.1)).Nodup
def look (D : List (κ × ν)) (x : κ) : Option ν := (D.find? (fun p => p.1 = x)).map (·.2)
variable {P : Program} {w : World} {b : Nat} {K : κ → Value} {V : ν → Value} {D : List (κ × ν)} {kt mt et : TypeId}
theorem find_at (hk : Keys P kt K) {es : Array MapEntry} (h1 : es.toList.map (·.key) = D.map (fun p => K p.1)) (x : κ) (w : World) :
 (Instr.findKey kt (K x) es.toList).run P w = .ok (((D.map (·.1)).findIdx? (· = x)).map fun i => (i, (es.toList.getD i default).val)) w :=
 hk.find x es.toList (D.map (·.1)) w (by rw [h1, List.map_map]; rfl)
omit [DecidableEq κ] in
theorem MapAt.step {w' : World} (h : MapAt w b K V D) (hh : w'.heap[b]? = w.heap[b]?) : MapAt w' b K V D := by
 obtain ⟨es, clock, hb, h1⟩ := h.at_
 exact ⟨⟨es, clock, hh.trans hb, h1⟩, h.once⟩
omit [DecidableEq κ] in
theorem MapAt.lt (h : MapAt w b K V D) : b < w.heap.size := by
 obtain ⟨es, clock, hb, _⟩ := h.at_
 exact (Array.getElem?_eq_some_iff.1 hb).1
end
end Go.Proofs.Ytenbkljgmgdegaa.XMap
end
section
namespace Go.Proofs.Ytenbkljgmgdegaa.XSeq
open Go Go.RowKit Go.Proofs.Ytenbkljgmgdegaa.XRange
def Loopy (A : World) (k : Nat) : Prop := (∃ d, A.heap[k]? = some (.deferred d)) ∨ (∃ L, A.heap[k]? = some (.loop L))
def KeepsLoops (A A' : World) : Prop := A.heap.size ≤ A'.heap.size ∧ ∀ k, Loopy A k → A'.heap[k]? = A.heap[k]?
theorem KeepsLoops.refl (A : World) : KeepsLoops A A := ⟨Nat.le_refl _, fun _ _ => rfl⟩
theorem KeepsLoops.trans {A B C : World} (h : KeepsLoops A B) (k : KeepsLoops B C) : KeepsLoops A C :=
 ⟨Nat.le_trans h.1 k.1, fun i hi => (k.2 i (by rcases hi with ⟨d, hd⟩ | ⟨L, hL⟩; exact .inl ⟨d, (h.2 i (.inl ⟨d, hd⟩)).trans hd⟩; exact .inr ⟨L, (h.2 i (.inr ⟨L, hL⟩)).trans hL⟩)).trans (h.2 i hi)⟩
theorem Loopy.lt {A : World} {k : Nat} (h : Loopy A k) : k < A.heap.size := by
 rcases h with ⟨d, h⟩ | ⟨d, h⟩ <;> exact (Array.getElem?_eq_some_iff.1 h).1
end Go.Proofs.Ytenbkljgmgdegaa.XSeq
end
