/- What the rows of this claim use, out of the texts of this work (XW, XRange, XHeld, XMake, XMap, XOpen, XSeq, XReg, XRnd, XRangeW, XIter, XYld). No condition beyond those that each statement names. -/
import Derived.WalkKit
import Derived.WalkMore
import Derived.WalkSpells
import Derived.Lib.SliceRun
import Derived.Laws.RangeAny
import Derived.RangeFuncNested
import Derived.RangeFuncBound
import Derived.RangeFuncCalls
import Derived.RangeFuncLeaves
import Derived.RangeFuncKeeps
import Derived.Shelf.Abstract
import Derived.Shelf.RegionOpen
import Derived.OwnWalkIn
import Derived.TacticsInMore
import Derived.LoopNIn
import Derived.LoopIn
import Derived.Deep.RegionHeld
import Derived.Laws.IdiomRangeMap
import Derived.MapKept
import Derived.Deep.Slices
import Derived.Deep.Fields
import Derived.ChangeSame
import Derived.ProofKit
import Derived.KernelRfl
import Derived.OrdersIn
import Derived.Test.YtjejhgjdmbodiaaZdW
section
namespace Go.Proofs.Ytjejhgjdmbodiaa.XW
open Go
theorem bytesLess_irrefl : ∀ a : List UInt8, Op.bytesLess a a = false
 | [] => rfl
 | x :: a => by simp [Op.bytesLess, bytesLess_irrefl a]
theorem bytesLess_or_eq : ∀ a b : List UInt8, (Op.bytesLess a b || a == b) = !(Op.bytesLess b a)
 | [], [] => rfl
 | [], y :: b => by simp [Op.bytesLess]
 | x :: a, [] => by simp [Op.bytesLess]
 | x :: a, y :: b => by
   have ih := bytesLess_or_eq a b
   simp only [Op.bytesLess]
   by_cases h1 : x < y
   · have h2 : ¬ y < x := fun h => by have := UInt8.lt_iff_toNat_lt.mp h1; have := UInt8.lt_iff_toNat_lt.mp h; omega
     have h3 : (y == x) = false := by rw [beq_eq_false_iff_ne]; rintro rfl; exact h2 h1
     simp [h1, h2, h3]
   · by_cases h2 : y < x
     · have h3 : (x == y) = false := by rw [beq_eq_false_iff_ne]; rintro rfl; exact h1 h2
       simp [h1, h2, h3]
     · have h3 : x = y := by
        apply UInt8.toNat.inj
        have k1 : ¬ x.toNat < y.toNat := fun h => h1 (UInt8.lt_iff_toNat_lt.mpr h)
        have k2 : ¬ y.toNat < x.toNat := fun h => h2 (UInt8.lt_iff_toNat_lt.mpr h)
        omega
       subst h3
       simp [h1]
       simpa using ih
@[go_sem high] theorem binOp_string_leq' (t : TypeId) (a b : ByteArray) : binOp .leq t (.string a) (.string b) = pure (.bool (!(Op.bytesLess b.toList a.toList))) := by
 rw [← bytesLess_or_eq]; simp [binOp, Op.stringOp]
@[go_sem high] theorem binOp_string_geq' (t : TypeId) (a b : ByteArray) : binOp .geq t (.string a) (.string b) = pure (.bool (!(Op.bytesLess a.toList b.toList))) := by
 simp [binOp, Op.stringOp]
theorem not_bytesLess_or_eq (a b : List UInt8) : (!(Op.bytesLess a b || a == b)) = Op.bytesLess b a := by rw [bytesLess_or_eq]; simp
@[go_sem high] theorem binOp_string_gtr' (t : TypeId) (a b : ByteArray) : binOp .gtr t (.string a) (.string b) = pure (.bool (Op.bytesLess b.toList a.toList)) := by
 rw [← not_bytesLess_or_eq]; simp [binOp, Op.stringOp]
end Go.Proofs.Ytjejhgjdmbodiaa.XW
end
section
namespace Go.Proofs.Ytjejhgjdmbodiaa.XRange
open Go Go.RowKit
structure Keeps (M : Nat → Prop) (A A' : World) : Prop where
 os : A'.os = A.os
 tape : A'.tape = A.tape
 output : A'.output = A.output
 size : A.heap.size ≤ A'.heap.size
 block : ∀ k, k < A.heap.size → ¬ M k → A'.heap[k]? = A.heap[k]?
theorem Keeps.refl (M : Nat → Prop) (A : World) : Keeps M A A := ⟨rfl, rfl, rfl, Nat.le_refl _, fun _ _ _ => rfl⟩
theorem Keeps.trans {M : Nat → Prop} {A B C : World} (h : Keeps M A B) (k : Keeps M B C) : Keeps M A C :=
 ⟨k.os.trans h.os, k.tape.trans h.tape, k.output.trans h.output, Nat.le_trans h.size k.size, fun i hi hm => (k.block i (Nat.lt_of_lt_of_le hi h.size) hm).trans (h.block i hi hm)⟩
theorem Keeps.drew {M : Nat → Prop} {A B : World} (h : Keeps M A B) : Keeps M A B.drew := ⟨h.os, h.tape, h.output, h.size, h.block⟩
theorem Keeps.alloc {M : Nat → Prop} {A B : World} (h : Keeps M A B) (o : Obj) : Keeps M A (B.alloc o) :=
 h.trans ⟨rfl, rfl, rfl, by simp, fun k hk _ => Below.heap_alloc _ _ _ hk⟩
theorem Keeps.setCell {M : Nat → Prop} {A B : World} (h : Keeps M A B) {p : Addr} (hp : M p.block ∨ A.heap.size ≤ p.block) (u : Value) : Keeps M A (B.setCell p u) :=
 ⟨h.os, h.tape, h.output, by have := h.size; simpa [World.setCell] using this, fun k hk hm => (Below.heap_setCell _ _ _ _ (by rintro rfl; rcases hp with hp | hp; exact hm hp; omega)).trans (h.block k hk hm)⟩
theorem Keeps.of_below {M : Nat → Prop} {A B : World} (h : Below A.heap.size A B) : Keeps M A B := ⟨h.os, h.tape, h.output, h.size, fun k hk _ => h.block k hk⟩
def Abide {β : Type} (M : Nat → Prop) (J : β → World → Prop) : Prop := ∀ s A A', J s A → Keeps M A A' → J s A'
def KeepOn (K : Nat → Prop) (W W' : World) : Prop := W.heap.size ≤ W'.heap.size ∧ ∀ k, K k → W'.heap[k]? = W.heap[k]?
theorem KeepOn.refl (K : Nat → Prop) (W : World) : KeepOn K W W := ⟨Nat.le_refl _, fun _ _ => rfl⟩
theorem KeepOn.trans {K : Nat → Prop} {A B C : World} (h : KeepOn K A B) (k : KeepOn K B C) : KeepOn K A C := ⟨Nat.le_trans h.1 k.1, fun i hi => (k.2 i hi).trans (h.2 i hi)⟩
def SeqC {α : Type} (n : Nat) (P : Program) (g : Nat) (lb : Array Value) (encs : α → Array Value) (K M : Nat → Prop) (S Sp : List α → Prop) (N : Nat) (w : World) : Prop :=
 ∀ (l : Nat) (J Jx : List α → World → Prop) (W : World), Keeps (fun _ => False) w W → Abide M J → Abide M Jx →
  (∀ pre x W1, J pre W1 → pre.length < N → YieldAt Fence.wide (n - 1) P l (encs x) W1 fun e W' =>
   (e = .returned (.bool true) ∧ J (pre ++ [x]) W' ∧ KeepOn K W1 W') ∨ (e = .returned (.bool false) ∧ Jx (pre ++ [x]) W')) →
  J [] W →
  CallsIn Fence.wide n P g (#[.func (.yield l) #[] #[]] ++ lb) W fun e W' => (∃ v, e = .returned v) ∧ ((∃ xs, S xs ∧ J xs W') ∨ (∃ pre, Sp pre ∧ Jx pre W'))
def bodyEnd {α : Type} (K : Nat → Prop) (l D : Nat) (I : List α → World → Prop) (Ix : Code → List α → World → Prop) (xs : List α) (W : World) : Exit → Act → World → Prop
 | .normal, _, W' => KeepOn (fun k => k = l ∨ k = D) W W' ∧ KeepOn K W W' ∧ I xs W'
 | .ret, _, W' => KeepOn (fun k => k = l ∨ k = D) W W' ∧ Ix .ret xs W'
 | .exit id, _, W' => KeepOn (fun k => k = l ∨ k = D) W W' ∧ Ix (.exit id) xs W'
 | .goto t, _, W' => KeepOn (fun k => k = l ∨ k = D) W W' ∧ Ix (.goto t) xs W'
 | .panic _, _, _ => False
 | .outgrown, _, _ => False
def Apart {β : Type} (B : Nat) (I : β → World → Prop) : Prop := ∀ s A A', I s A → Keeps (fun k => k = B ∨ k = B + 1) A A' → I s A'
theorem keeps_putObj (M : Nat → Prop) (W : World) (l : Nat) (o : Obj) (h : M l) : Keeps M W (W.putObj l o) := ⟨rfl, rfl, rfl, by simp, fun k _ hk => World.putObj_heap_other (fun e => hk (by rw [e]; exact h))⟩
theorem range_law {α : Type} {n : Nat} {P : Program} {g : Operand} {ps : Array Tmp} {assign body : Code} {Q : Exit → Act → World → Prop} {a : Act} {w : World}
 {gf : Nat} {lb : Array Value} (hg : a.eval g = .func (.func gf) #[] lb) (eg : ∀ args w, (callFunc gf args).run P w = .ok (.enter gf args) w)
 {encs : α → Array Value} {K M : Nat → Prop} {S Sp : List α → Prop} {N : Nat} (hseq : SeqC (n - 1) P gf lb encs K M S Sp N w) (hps : ∀ x, (encs x).size = ps.size)
 (hK : ∀ k, K k → k < w.heap.size) (hM : ∀ k, M k → k < w.heap.size)
 (I : List α → World → Prop) (Ix : Code → List α → World → Prop)
 (hI : Abide M I) (hIx : ∀ c, Abide M (Ix c)) (hA : Apart w.heap.size I) (hAx : ∀ c, Apart w.heap.size (Ix c)) (h0 : I [] w)
 (hround : ∀ (pre : List α) (x : α) (W : World), I pre W → pre.length < N → w.heap.size + 2 ≤ W.heap.size →
  assign.wpIn (Fence.wide.inRound (w.heap.size + 1)) (n - 1 - 1) P (Exit.then (fun a' W' => Keeps (fun _ => False) W W' ∧
   ∀ Wb, Keeps (fun k => k = w.heap.size + 1) W' Wb → I pre Wb → body.wpIn (Fence.wide.inRound (w.heap.size + 1)) (n - 1 - 1) P (bodyEnd K (w.heap.size + 1) w.heap.size I Ix (pre ++ [x]) Wb) a' Wb) (fun _ _ _ => False))
   { tmps := (ps.zip (encs x)).foldl (fun t (p, v) => t.setIfInBounds p v) a.tmps, defers := [] } W)
 (hdone : ∀ (xs : List α) (W : World), S xs → I xs W → w.heap.size + 2 ≤ W.heap.size → W.heap[w.heap.size]? = some (.deferred (some [])) → Q .normal { a with defers := { target := .collected w.heap.size, args := #[] } :: a.defers } W)
 (hstop : ∀ (c : Code) (pre : List α) (W : World), Sp pre → Ix c pre W → w.heap.size + 2 ≤ W.heap.size → W.heap[w.heap.size]? = some (.deferred (some [])) → c.wpIn Fence.wide n P Q { a with defers := { target := .collected w.heap.size, args := #[] } :: a.defers } W) :
 (Code.rangeFunc g ps assign body).wpIn Fence.wide n P Q a w := by
 refine wpIn_rangeFunc ?_
 intro fn hfn
 obtain ⟨D, hD⟩ : ∃ D, w.heap.size = D := ⟨_, rfl⟩
 obtain ⟨rec, hrec⟩ : ∃ rec : LoopState → Option Code → Loop, rec = fun st pe => { state := st, pending := pe, fn, tmps := a.tmps, params := ps, assign, body, defers := w.heap.size } := ⟨_, rfl⟩
 obtain ⟨W1, hW1⟩ : ∃ W1, (w.alloc (.deferred (some []))).alloc (.loop (rec .ready none)) = W1 := ⟨_, rfl⟩
 have hs1 : W1.heap.size = D + 2 := by rw [← hW1, ← hD]; simp
 have hL1 : W1.heap[D + 1]? = some (.loop (rec .ready none)) := by
  rw [← hW1, ← hD]; have := World.alloc_heap_new (w.alloc (.deferred (some []))) (.loop (rec .ready none)); rwa [World.size_alloc] at this
 have hK1 : W1.heap[D]? = some (.deferred (some [])) := by
  rw [← hW1, ← hD]; exact (Below.heap_alloc _ _ _ (by simp)).trans (World.alloc_heap_new w _)
 have hk01 : Keeps (fun _ => False) w W1 := by rw [← hW1]; exact ((Keeps.refl _ w).alloc _).alloc _
 have sub : ∀ {M' : Nat → Prop} {A B : World}, Keeps (fun _ => False) A B → Keeps M' A B := fun h => ⟨h.os, h.tape, h.output, h.size, fun k hk _ => h.block k hk (fun f => f)⟩
 have fromL : ∀ {A B : World}, Keeps (fun k => k = D + 1) A B → Keeps (fun k => k = D ∨ k = D + 1) A B := fun h => ⟨h.os, h.tape, h.output, h.size, fun k hk hm => h.block k hk (fun e => hm (.inr e))⟩
 have hI1 : I [] W1 := hI _ _ _ h0 (sub hk01)
 rw [hD] at hA hround hdone hstop hK hM
 have hAx' : ∀ c, Apart D (Ix c) := fun c => by have := hAx c; rwa [hD] at this
 refine ⟨D + 1, [{ target := .collected D, args := #[] }], W1, { target := .fn (.func gf) lb, args := #[.func (.yield (D + 1)) #[] #[]] }, W1, gf,
  #[.func (.yield (D + 1)) #[] #[]] ++ lb, W1, ?_, ?_, ?_, ?_, (fun h => by cases h), ?_⟩
 · rw [← hW1, hrec, ← hD]; exact run_enterLoop_outer _ _ _ _ _
 · simp only [resolve, hg]
   simp [go_sem]
 · intro f' _; trivial
 · simp [invoke, go_sem, eg]
 · refine (hseq (D + 1)
    (fun pre W => I pre W ∧ D + 2 ≤ W.heap.size ∧ W.heap[D + 1]? = some (.loop (rec .ready none)) ∧ W.heap[D]? = some (.deferred (some [])))
    (fun pre W => ∃ c, Ix c pre W ∧ D + 2 ≤ W.heap.size ∧ W.heap[D + 1]? = some (.loop (rec .done (some c))) ∧ W.heap[D]? = some (.deferred (some [])))
    W1 hk01
    (fun s A A' hs hk => ⟨hI _ _ _ hs.1 hk, Nat.le_trans hs.2.1 hk.size, (hk.block _ (by omega) (fun h => by have := hM _ h; omega)).trans hs.2.2.1, (hk.block _ (by omega) (fun h => by have := hM _ h; omega)).trans hs.2.2.2⟩)
    (fun s A A' hs hk => by
     obtain ⟨c, hc, h2, hl, hd⟩ := hs
     exact ⟨c, hIx c _ _ _ hc hk, Nat.le_trans h2 hk.size, (hk.block _ (by omega) (fun h => by have := hM _ h; omega)).trans hl, (hk.block _ (by omega) (fun h => by have := hM _ h; omega)).trans hd⟩)
    ?_ ⟨hI1, by omega, hL1, hK1⟩).mono ?_
   · rintro pre x W ⟨hi, h2, hl, hd⟩ hlen
     have hy := run_yield (P := P) (args := encs x) hl (by rw [hrec]; exact hps x)
     rw [hrec] at hy
     refine ⟨fn, _, assign, body, hy, roundIn_of_wpIn hfn (wpIn_mono (hround pre x W hi hlen h2) ?_)⟩
     intro e a' W' hq
     cases e with
     | normal =>
       obtain ⟨hk0, hb⟩ := hq
       have hl' : W'.heap[D + 1]? = some (.loop (rec .ready none)) := (hk0.block _ (by omega) (fun f => f)).trans hl
       have hd' : W'.heap[D]? = some (.deferred (some [])) := (hk0.block _ (by omega) (fun f => f)).trans hd
       refine ⟨_, run_beginRound hl' (by rw [hrec]), ?_⟩
       have hkb := keeps_putObj (fun k => k = D + 1) W' (D + 1) (.loop { rec .ready none with state := .busy }) rfl
       have hlb : (W'.putObj (D + 1) (.loop { rec .ready none with state := .busy })).heap[D + 1]? = some (.loop { rec .ready none with state := .busy }) := World.putObj_heap_same (by have := hk0.size; omega)
       have hdb : (W'.putObj (D + 1) (.loop { rec .ready none with state := .busy })).heap[D]? = some (.deferred (some [])) := (World.putObj_heap_other (by omega)).trans hd'
       refine wpIn_mono (hb _ hkb (hA _ _ _ (hI _ _ _ hi (sub hk0)) (fromL hkb))) ?_
       generalize W'.putObj (D + 1) (.loop { rec .ready none with state := .busy }) = Wb at hkb hlb hdb
       have fin : ∀ (jump : Option Code) (W3 : World), KeepOn (fun k => k = D + 1 ∨ k = D) Wb W3 →
        (Instr.endRound (D + 1) jump).run P W3 = .ok (.bool jump.isNone) (W3.putObj (D + 1) (.loop (rec (if jump.isNone then .ready else .done) jump))) ∧
        D + 2 ≤ (W3.putObj (D + 1) (.loop (rec (if jump.isNone then .ready else .done) jump))).heap.size ∧
        (W3.putObj (D + 1) (.loop (rec (if jump.isNone then .ready else .done) jump))).heap[D + 1]? = some (.loop (rec (if jump.isNone then .ready else .done) jump)) ∧
        (W3.putObj (D + 1) (.loop (rec (if jump.isNone then .ready else .done) jump))).heap[D]? = some (.deferred (some [])) := fun jump W3 hk3 => by
        have hl3 := (hk3.2 (D + 1) (.inl rfl)).trans hlb
        have hr := run_endRound (P := P) jump hl3
        rw [hrec] at hr ⊢
        refine ⟨hr, ?_, World.putObj_heap_same (Array.getElem?_eq_some_iff.1 hl3).1, (World.putObj_heap_other (by omega)).trans ((hk3.2 D (.inr rfl)).trans hdb)⟩
        have := (Array.getElem?_eq_some_iff.1 hl3).1
        simp
        omega
       have toK : ∀ {W3 : World} (o : Obj), KeepOn K Wb W3 → KeepOn K W (W3.putObj (D + 1) o) := fun o h3 => by
        refine ⟨?_, fun k hk => ?_⟩
        · have := hk0.size; have := hkb.size; have := h3.1; simp; omega
        · have hlt := hK k hk
          exact (World.putObj_heap_other (by omega)).trans ((h3.2 k hk).trans ((hkb.block k (by have := hk0.size; omega) (by omega)).trans (hk0.block k (by omega) (fun f => f))))
       have kp : ∀ (W3 : World) (o : Obj), Keeps (fun k => k = D ∨ k = D + 1) W3 (W3.putObj (D + 1) o) := fun W3 o => keeps_putObj _ W3 (D + 1) o (.inr rfl)
       rintro e a3 W3 hp
       cases e with
       | normal =>
         obtain ⟨hk3, hkk, hi3⟩ := hp
         obtain ⟨hr, h5, hl4, hk4⟩ := fin none W3 hk3
         exact ⟨_, _, hr, .inl ⟨rfl, ⟨hA _ _ _ hi3 (kp _ _), h5, hl4, hk4⟩, toK _ hkk⟩⟩
       | ret =>
         obtain ⟨hk3, hi3⟩ := hp
         obtain ⟨hr, h5, hl4, hk4⟩ := fin (some .ret) W3 hk3
         exact ⟨_, _, hr, .inr ⟨rfl, .ret, hAx' _ _ _ _ hi3 (kp _ _), h5, hl4, hk4⟩⟩
       | exit id =>
         obtain ⟨hk3, hi3⟩ := hp
         obtain ⟨hr, h5, hl4, hk4⟩ := fin (some (.exit id)) W3 hk3
         exact ⟨_, _, hr, .inr ⟨rfl, .exit id, hAx' _ _ _ _ hi3 (kp _ _), h5, hl4, hk4⟩⟩
       | goto t =>
         obtain ⟨hk3, hi3⟩ := hp
         obtain ⟨hr, h5, hl4, hk4⟩ := fin (some (.goto t)) W3 hk3
         exact ⟨_, _, hr, .inr ⟨rfl, .goto t, hAx' _ _ _ _ hi3 (kp _ _), h5, hl4, hk4⟩⟩
       | panic ch => exact hp.elim
       | outgrown => exact hp.elim
     | ret => exact hq.elim
     | exit id => exact hq.elim
     | goto t => exact hq.elim
     | panic ch => exact hq.elim
     | outgrown => exact hq.elim
   · rintro e W2 ⟨⟨v, rfl⟩, (⟨xs, hS, hi, h2, hl, hd⟩ | ⟨pre, hSp, c, hi, h2, hl, hd⟩)⟩
     · refine ⟨none, _, by have := run_endLoop (P := P) hl (by rw [hrec]; simp); rw [hrec] at this; exact this, ?_⟩
       exact hdone xs _ hS (hA _ _ _ hi (keeps_putObj _ W2 (D + 1) _ (.inr rfl))) (by simp; omega) ((World.putObj_heap_other (by omega)).trans hd)
     · refine ⟨some c, _, by have := run_endLoop (P := P) hl (by rw [hrec]; simp); rw [hrec] at this; exact this, ?_⟩
       exact hstop c pre _ hSp (hAx' c _ _ _ hi (keeps_putObj _ W2 (D + 1) _ (.inr rfl))) (by simp; omega) ((World.putObj_heap_other (by omega)).trans hd)
end Go.Proofs.Ytjejhgjdmbodiaa.XRange
end
section
namespace Go.Proofs.Ytjejhgjdmbodiaa.XHeld
open Go
section
variable {P : Program} {ops : Array Oper} {Q : Exit → Act → World → Prop} {G : Array Bool → World → Prop}
def AnyG (P : Program) (ops : Array Oper) (Q : Exit → Act → World → Prop) (G : Array Bool → World → Prop) : Nat → Array Bool → Act → World → Prop
 | 0, L, a, w => Region.ready .any ops L = [] ∧ Q .normal a w
 | n + 1, L, a, w =>
   (Region.ready .any ops L = [] → Q .normal a w) ∧
   ∀ i ∈ Region.ready .any ops L, wpOp P ops Q i (fun a' w' => G (L.setIfInBounds i true) w' ∧ AnyG P ops Q G n (L.setIfInBounds i true) a' w') a w
theorem AnyG.any : ∀ (n : Nat) (L : Array Bool) (a : Act) (w : World), AnyG P ops Q G n L a w → wpAny P .any ops Q n L a w
 | 0, _, _, _, h => h
 | n + 1, _, _, _, h => ⟨h.1, fun i hi => wpOp_mono (fun _ _ h' => AnyG.any n _ _ _ h'.2) (h.2 i hi)⟩
theorem getD_of_set {L : Array Bool} {j k : Nat} (h : j ≠ k) : (L.setIfInBounds j true).getD k true = L.getD k true := getD_set_ne true h
theorem AnyG.first {i k : Nat} {oi ok : Oper} {v : Value} {Gi : World → Prop} (hi : ops[i]? = some oi) (hk : ops[k]? = some ok)
 (hki : ∃ e ∈ ok.after, Region.binds .any e = true ∧ e.on = i)
 (hset : ∀ L w, G (L.setIfInBounds i true) w ↔ G L w) (hG : ∀ L w, L.getD k true = false → G L w → Gi w)
 (hsel : ∀ (j : Nat) (o : Oper) cs b, ops[j]? = some o → o.op ≠ .select cs b)
 (hQ : ∀ c a w, Q (.panic c) (a.put oi.dst v) w → Q (.panic c) a w) :
 ∀ (n : Nat) (L : Array Bool) (a : Act) (w : World),
  (∀ j oj, ops[j]? = some oj → j ≠ i → L.getD j true = false → (∀ e ∈ oj.after, Region.binds .any e = true → e.on ≠ i) → oi.apart ops oj = true) →
  i ∈ Region.ready .any ops L → L.getD k true = false → YieldsIf P ops Gi oi v a → G L w →
  AnyG P ops Q G n (L.setIfInBounds i true) (a.put oi.dst v) w → AnyG P ops Q G (n + 1) L a w := by
 intro n
 induction n with
 | zero =>
   intro L a w _ hr hLk hy hS H
   refine ⟨fun h => (by rw [h] at hr; cases hr), fun j hj => ?_⟩
   by_cases hji : j = i
   · subst hji; exact hy.wpOp hi (hG L w hLk hS) ⟨(hset L w).2 hS, H⟩
   · have := ready_mono hj hji
     rw [H.1] at this
     cases this
 | succ n ih =>
   intro L a w hfree hr hLk hy hS H
   refine ⟨fun h => (by rw [h] at hr; cases hr), fun j hj => ?_⟩
   by_cases hji : j = i
   · subst hji; exact hy.wpOp hi (hG L w hLk hS) ⟨(hset L w).2 hS, H⟩
   obtain ⟨hjun, oj, hoj, hall⟩ := mem_ready.1 hj
   have hnot : ∀ e ∈ oj.after, Region.binds .any e = true → e.on ≠ i := fun e he hb heq => by
    have h1 := hall e he hb
    have h0 := (mem_ready.1 hr).1
    rw [heq] at h1
    rcases Nat.lt_or_ge i L.size with h' | h'
    · simp [h'] at h0 h1; rw [h0] at h1; cases h1
    · simp [Array.getElem?_eq_none h'] at h1
   have hjk : j ≠ k := fun h => by
    subst h
    obtain ⟨e, he, hb, hei⟩ := hki
    rw [hk] at hoj
    cases hoj
    exact hnot e he hb hei
   have h2 := wpOp_putIf hoj (hfree j oj hoj hji hjun hnot) (fun cs b => hsel i oi cs b hi) (fun cs b => hsel j oj cs b hoj) hQ hy (H.2 j (ready_mono hj hji))
   have hLk' : (L.setIfInBounds j true).getD k true = false := by rw [getD_of_set hjk]; exact hLk
   refine wpOp_mono (fun a' w' h3 => ?_) h2
   obtain ⟨hy', hG', hA'⟩ := h3
   rw [Array.setIfInBounds_comm _ _ (Ne.symm hji)] at hG'
   have hS' := (hset _ w').1 hG'
   refine ⟨hS', ih (L.setIfInBounds j true) a' w' (fun m om hm hmi hun hno => hfree m om hm hmi ?_ hno) (ready_mono hr (Ne.symm hji)) hLk' hy' hS' ?_⟩
   · by_cases hjm : j = m
     · subst hjm; exact hjun
     · rw [getD_set_ne true hjm] at hun; exact hun
   · rw [Array.setIfInBounds_comm _ _ hji]
     exact hA'
theorem AnyG.take (i k : Nat) {l : List Oper} {oi ok : Oper} {v : Value} {Gi : World → Prop} {n : Nat} {L : Array Bool} {a : Act} {w : World}
 (hset : ∀ L w, G (L.setIfInBounds i true) w ↔ G L w) (hG : ∀ L w, L.getD k true = false → G L w → Gi w)
 (hi : l[i]? = some oi) (hk : l[k]? = some ok) (hki : (ok.after.any (fun e => Region.binds .any e && e.on == i)) = true)
 (hs : Region.noSelect l.toArray = true) (hf : Region.free .any l.toArray L i = true) (hr : (Region.ready .any l.toArray L).contains i = true) (hLk : L.getD k true = false)
 (hQ : ∀ c a w, Q (.panic c) (a.put oi.dst v) w → Q (.panic c) a w) (hS : G L w) (hw : Region.wanted oi (yielded l.toArray a.tmps) = true)
 (hy : ∀ w, Gi w → (execOp a.eval oi).run P w = .ok (.value v) w)
 (h : G (L.setIfInBounds i true) w → AnyG P l.toArray Q G n (L.setIfInBounds i true) (a.put oi.dst v) w) : AnyG P l.toArray Q G (n + 1) L a w := by
 have hi' : l.toArray[i]? = some oi := by rw [List.getElem?_toArray]; exact hi
 have hk' : l.toArray[k]? = some ok := by rw [List.getElem?_toArray]; exact hk
 refine AnyG.first hi' hk' ?_ hset hG (Region.noSelect_spec hs) hQ n L a w (Region.free_spec hi' hf) (by simpa using hr) hLk (.inl ⟨hw, hy⟩) hS (h ((hset L w).2 hS))
 obtain ⟨e, he, hb⟩ := Array.any_eq_true'.1 hki
 simp only [Bool.and_eq_true, beq_iff_eq] at hb
 exact ⟨e, he, hb.1, hb.2⟩
theorem AnyG.one (i : Nat) {l : List Oper} {o : Oper} {n : Nat} {L : Array Bool} {a : Act} {w : World} (hr : Region.ready .any l.toArray L = [i]) (ho : l[i]? = some o)
 (h : ∀ K : Act → World → Prop, Shut (∀ a w, G (L.setIfInBounds i true) w → (G (L.setIfInBounds i true) w → AnyG P l.toArray Q G n (L.setIfInBounds i true) a w) → K a w) → if Region.wanted o (yielded l.toArray a.tmps) = true then Oper.wp P o a w K Q else K (a.put o.dst undef) w) :
 AnyG P l.toArray Q G (n + 1) L a w := by
 have ho' : l.toArray[i]? = some o := by rw [List.getElem?_toArray]; exact ho
 refine ⟨fun h0 => (by rw [hr] at h0; cases h0), fun j hj => ?_⟩
 rw [hr] at hj
 cases List.mem_singleton.1 hj
 exact wpOp_step ho' (fun K hK => h K (fun a w h1 h2 => hK a w ⟨h1, h2 h1⟩))
theorem AnyG.done {n : Nat} {L : Array Bool} {a : Act} {w : World} (hr : Region.ready .any ops L = []) (h : Q .normal a w) : AnyG P ops Q G n L a w := by
 cases n with
 | zero => exact ⟨hr, h⟩
 | succ n => exact ⟨fun _ => h, by rw [hr]; simp⟩
def Till (k k' : Nat) (A B : World → Prop) (L : Array Bool) (w : World) : Prop := (L.getD k true = false → A w) ∧ (L.getD k' true = false → B w)
theorem Till.set {k k' i : Nat} {A B : World → Prop} (h : i ≠ k) (h' : i ≠ k') (L : Array Bool) (w : World) : Till k k' A B (L.setIfInBounds i true) w ↔ Till k k' A B L w := by
 unfold Till
 rw [getD_of_set h, getD_of_set h']
theorem Till.a {k k' : Nat} {A B : World → Prop} (L : Array Bool) (w : World) (h : L.getD k true = false) (hT : Till k k' A B L w) : A w := hT.1 h
theorem Till.b {k k' : Nat} {A B : World → Prop} (L : Array Bool) (w : World) (h : L.getD k' true = false) (hT : Till k k' A B L w) : B w := hT.2 h
end
end Go.Proofs.Ytjejhgjdmbodiaa.XHeld
end
section
namespace Go.Proofs.YtjejhgjdmbodiaaW.PrintWords
open Go Go.RowKit
@[go_sem] theorem max_u8 : IntKind.max .u8 = 255 := rfl
@[go_sem] theorem max_u16 : IntKind.max .u16 = 65535 := rfl
@[go_sem] theorem max_u32 : IntKind.max .u32 = 4294967295 := rfl
@[go_sem] theorem max_u64 : IntKind.max .u64 = 18446744073709551615 := rfl
@[go_sem] theorem signed_u8 : IntKind.signed .u8 = false := rfl
namespace Kd
section
variable {α : Type} {P : Program} {ops : Array Oper} {Q : Exit → Act → World → Prop} {Kc : Act → World → Prop} {o : Oper} {rest : List Oper} {a : Act}
theorem made0 (d : Kd α) {W : World} (base e : Nat) {z : Value} (hz : z.cells.size = d.sz) (hs0 : 0 < d.sz) {z0 : α} {ok okp : Nat → Prop} (hzero : d.M W base okp z0 z.cells.toList) (hok : ∀ k, okp k → ok k) (hfresh : ok W.heap.size)
 (hbase : base ≤ W.heap.size) (m : Nat) (hm : m ≤ 9223372036854775807) :
 d.R e (W.alloc (.cells (madeCells z.cells (m * d.sz)) e)) base ok (.slice (some ⟨W.heap.size, 0, none⟩) 0 m) [] := by
 have hrep : Reps (d.M W base okp) d.sz (List.replicate m z0) (madeCells z.cells (m * d.sz)).toList := reps_made hz hs0 hzero m
 have full : d.R e (W.alloc (.cells (madeCells z.cells (m * d.sz)) e)) base ok (.slice (some ⟨W.heap.size, 0, none⟩) m m) (List.replicate m z0) := by
  refine ⟨fun k hk => ?_, (madeCells z.cells (m * d.sz)).toList, ?_, ?_⟩
  · have : W.heap.size = k := by simpa [Value.ownBlock] using hk
    subst this
    exact hfresh
  · have h2 := World.ownsRow_lit (base := base) (e := e) (size := d.sz) W (madeCells z.cells (m * d.sz)) m hbase (by simpa [maxLen] using hm) (by simpa using hrep.1)
    simpa using h2
  · refine hrep.imp_ (fun p c hp => d.M_mono (fun k hk => ⟨hok k hk.1, fun he => ?_⟩) (M_below (d.M_bound hp) (below_alloc (Below.refl _ _) _)))
    have h3 : k = W.heap.size := by simpa [Value.ownBlock] using he
    have := hk.2.2.1
    omega
 have h1 := R_take full (m := 0) (Nat.zero_le _)
 simpa using h1
theorem run_make0 {W : World} {t e : TypeId} {z : Value} {bytes sz : Nat} (ht : P.underlying t = some (.slice e)) (hinfo : (P.info? e).map (fun i => (i.zero, i.size, i.bytes)) = some (some z, sz, bytes)) (hb0 : 0 < bytes) (n : Nat) (hl : n * bytes ≤ 281474976710656) :
 (Instr.makeSlice t (.int .i64 0) (.int .i64 (n : Int))).run P W = .ok (.slice (some ⟨W.heap.size, 0, none⟩) 0 n) (W.alloc (.cells (madeCells z.cells (n * sz)) e)) := by
 obtain ⟨i0, hi, hzz⟩ := Option.map_eq_some_iff.1 hinfo
 simp only [Prod.mk.injEq] at hzz
 obtain ⟨hz0, hz1, hz2⟩ := hzz
 have hm : n ≤ 281474976710656 := Nat.le_trans (Nat.le_mul_of_pos_right _ hb0) hl
 have hr := run_make (P := P) W t e i0 z ht hi hz0 .i64 .i64 (0 : Int) (n : Int) (by omega) (by omega)
  (by
   have h3 : ((i0.bytes * n : Nat) : Int) ≤ 281474976710656 := by rw [hz2, Nat.mul_comm]; omega
   rwa [Int.natCast_mul] at h3) (by omega)
 simp only [Int.toNat_natCast, Int.toNat_zero] at hr
 rw [hz1] at hr
 exact hr
theorem R_make0 (d : Kd α) {w0 W : World} (base e : Nat) (hgd : o.guard = none) {N : Tmp} (_hd : o.dst = some N) (t : TypeId) (x y : Operand) (ho : o.op = .makeSlice t x y) (n : Int) (hx : a.eval x = .int .i64 0) (hy : a.eval y = .int .i64 n)
 (ht : P.underlying t = some (.slice e)) (z : Value) (bytes : Nat) (hinfo : (P.info? e).map (fun i => (i.zero, i.size, i.bytes)) = some (some z, d.sz, bytes)) (hz : z.cells.size = d.sz) (hs0 : 0 < d.sz) (hb0 : 0 < bytes)
 (z0 : α) {ok okp : Nat → Prop} (hzero : d.M W base okp z0 z.cells.toList) (hok : ∀ k, okp k → ok k) (hfresh : ok W.heap.size) (h0 : 0 ≤ n) (hl : n.toNat * bytes ≤ 281474976710656) (HB : Below base w0 W) (hbase : base ≤ W.heap.size)
 (h : ∀ v1 w1, d.R e w1 base ok v1 [] → Below base w0 w1 → W.grownBy w1 none → (∃ b, v1.ownBlock = some b ∧ W.heap.size ≤ b) → wpList P ops Q rest (a.put o.dst v1) w1) : wpList P ops Q (o :: rest) a W := by
 obtain ⟨m, rfl⟩ := Int.eq_ofNat_of_zero_le h0
 simp only [Int.toNat_natCast] at hl
 have hr := run_make0 (P := P) (W := W) ht hinfo hb0 m hl
 have hm : m ≤ 281474976710656 := Nat.le_trans (Nat.le_mul_of_pos_right _ hb0) hl
 exact event_run hgd (by simp [execOp, ho, hx, hy, hr]) (h _ _ (made0 d base e hz hs0 hzero hok hfresh hbase m (by omega)) (HB.alloc hbase _) (World.grownBy_alloc W _ none) ⟨W.heap.size, by simp [Value.ownBlock], Nat.le_refl _⟩)
theorem R_make0_step (d : Kd α) {w0 W : World} (base e : Nat) (hw : Region.wanted o (yielded ops a.tmps) = true) {N : Tmp} (_hd : o.dst = some N) (t : TypeId) (x y : Operand) (ho : o.op = .makeSlice t x y) (n : Int) (hx : a.eval x = .int .i64 0) (hy : a.eval y = .int .i64 n)
 (ht : P.underlying t = some (.slice e)) (z : Value) (bytes : Nat) (hinfo : (P.info? e).map (fun i => (i.zero, i.size, i.bytes)) = some (some z, d.sz, bytes)) (hz : z.cells.size = d.sz) (hs0 : 0 < d.sz) (hb0 : 0 < bytes)
 (z0 : α) {ok okp : Nat → Prop} (hzero : d.M W base okp z0 z.cells.toList) (hok : ∀ k, okp k → ok k) (hfresh : ok W.heap.size) (h0 : 0 ≤ n) (hl : n.toNat * bytes ≤ 281474976710656) (HB : Below base w0 W) (hbase : base ≤ W.heap.size)
 (h : ∀ v1 w1, d.R e w1 base ok v1 [] → Below base w0 w1 → W.grownBy w1 none → (∃ b, v1.ownBlock = some b ∧ W.heap.size ≤ b) → Kc (a.put o.dst v1) w1) : if Region.wanted o (yielded ops a.tmps) = true then Oper.wp P o a W Kc Q else Kc (a.put o.dst undef) W := by
 obtain ⟨m, rfl⟩ := Int.eq_ofNat_of_zero_le h0
 simp only [Int.toNat_natCast] at hl
 have hr := run_make0 (P := P) (W := W) ht hinfo hb0 m hl
 have hm : m ≤ 281474976710656 := Nat.le_trans (Nat.le_mul_of_pos_right _ hb0) hl
 exact event_step hw (by simp [execOp, ho, hx, hy, hr]) (h _ _ (made0 d base e hz hs0 hzero hok hfresh hbase m (by omega)) (HB.alloc hbase _) (World.grownBy_alloc W _ none) ⟨W.heap.size, by simp [Value.ownBlock], Nat.le_refl _⟩)
end
end Kd
end Go.Proofs.YtjejhgjdmbodiaaW.PrintWords
end
section
namespace Go.Proofs.Ytjejhgjdmbodiaa.XMap
open Go Go.RowKit Go.Proofs.Ytjejhgjdmbodiaa.XRange
structure Keys (P : Program) (kt : TypeId) {κ : Type} [DecidableEq κ] (K : κ → Value) : Prop where
 check : ∀ (em : Bool) (x : κ) (w : World), (Instr.checkKey em 10000 kt (K x)).run P w = .ok () w
 find : ∀ (x : κ) (es : List MapEntry) (ks : List κ) (w : World), es.map (·.key) = ks.map K →
  (Instr.findKey kt (K x) es).run P w = .ok ((ks.findIdx? (· = x)).map fun i => (i, (es.getD i default).val)) w
 stays : ∀ (x : κ) (w : World), (Instr.keyThatStays (K x) (K x)).run P w = .ok (K x) w
section
variable {κ ν : Type} [DecidableEq κ]
structure MapAt (w : World) (b : Nat) (K : κ → Value) (V : ν → Value) (D : List (κ × ν)) : Prop where
 at_ : ∃ es clock, w.heap[b]? = some (.map es clock) ∧ es.toList.map (·.key) = D.map (fun p => K p.1) ∧ es.toList.map (·.val) = D.map (fun p => V p.2) ∧ (∀ e ∈ es.toList, e.born < clock) ∧ es.toList.Pairwise (fun a b => a.born ≠ b.born)
 once : (D.map (·.1)).Nodup
def look (D : List (κ × ν)) (x : κ) : Option ν := (D.find? (fun p => p.1 = x)).map (·.2)
def upd : List (κ × ν) → κ → ν → List (κ × ν)
 | [], x, v => [(x, v)]
 | p :: D, x, v => if p.1 = x then (x, v) :: D else p :: upd D x v
theorem look_nil (x : κ) : look ([] : List (κ × ν)) x = none := rfl
theorem look_cons (p : κ × ν) (D : List (κ × ν)) (x : κ) : look (p :: D) x = if p.1 = x then some p.2 else look D x := by
 unfold look
 rw [List.find?_cons]
 by_cases h : p.1 = x <;> simp [h]
theorem look_upd (D : List (κ × ν)) (x y : κ) (v : ν) : look (upd D x v) y = if x = y then some v else look D y := by
 induction D with
 | nil => simp [upd, look_cons, look_nil]
 | cons p D ih =>
   rw [upd]
   by_cases h : p.1 = x
   · rw [if_pos h, look_cons, look_cons]
     by_cases hy : x = y
     · simp [hy]
     · simp [hy, h]
   · rw [if_neg h, look_cons, look_cons, ih]
     by_cases hy : p.1 = y
     · rw [if_pos hy, if_pos hy, if_neg (fun e => h (hy.trans e.symm))]
     · rw [if_neg hy, if_neg hy]
theorem find_some {D : List (κ × ν)} {x : κ} {v : ν} (h : look D x = some v) : ∃ i, (D.map (·.1)).findIdx? (· = x) = some i ∧ ∃ hi : i < D.length, D[i] = (x, v) := by
 induction D with
 | nil => simp [look_nil] at h
 | cons p D ih =>
   rw [look_cons] at h
   by_cases hp : p.1 = x
   · rw [if_pos hp] at h
     refine ⟨0, by simp [List.findIdx?_cons, hp], by simp, ?_⟩
     cases h
     rw [← hp]
     rfl
   · rw [if_neg hp] at h
     obtain ⟨i, h1, h2, h3⟩ := ih h
     exact ⟨i + 1, by simp [List.findIdx?_cons, hp, h1], by simpa using h2, by simpa using h3⟩
theorem find_none {D : List (κ × ν)} {x : κ} (h : look D x = none) : (D.map (·.1)).findIdx? (· = x) = none := by
 induction D with
 | nil => rfl
 | cons p D ih =>
   rw [look_cons] at h
   by_cases hp : p.1 = x
   · rw [if_pos hp] at h; cases h
   · rw [if_neg hp] at h
     simp [List.findIdx?_cons, hp, ih h]
variable {P : Program} {w : World} {b : Nat} {K : κ → Value} {V : ν → Value} {D : List (κ × ν)} {kt mt et : TypeId}
theorem find_at (hk : Keys P kt K) {es : Array MapEntry} (h1 : es.toList.map (·.key) = D.map (fun p => K p.1)) (x : κ) (w : World) :
 (Instr.findKey kt (K x) es.toList).run P w = .ok (((D.map (·.1)).findIdx? (· = x)).map fun i => (i, (es.toList.getD i default).val)) w :=
 hk.find x es.toList (D.map (·.1)) w (by rw [h1, List.map_map]; rfl)
omit [DecidableEq κ] in
theorem val_at {es : Array MapEntry} (h2 : es.toList.map (·.val) = D.map (fun p => V p.2)) {i : Nat} (hi : i < D.length) : (es.toList.getD i default).val = V D[i].2 := by
 have hl : es.toList.length = D.length := by have := congrArg List.length h2; simpa using this
 have := congrArg (fun l => l[i]?) h2
 simp only [List.getElem?_map] at this
 rw [List.getElem?_eq_getElem hi, List.getElem?_eq_getElem (by omega)] at this
 simp at this
 rw [List.getD_eq_getElem?_getD, List.getElem?_eq_getElem (by omega)]
 simpa using this
theorem run_lookup_hit (ht : P.underlying mt = some (.map kt et)) (hk : Keys P kt K) (h : MapAt w b K V D) (x : κ) (v : ν) (hv : look D x = some v) (ok : Bool) :
 (Instr.lookup mt (.map (some b)) (K x) ok).run P w = .ok (if ok then .tuple #[V v, .bool true] else V v) w := by
 obtain ⟨es, clock, hb, h1, h2, _, _⟩ := h.at_
 obtain ⟨i, hi, hlt, hD⟩ := find_some hv
 have hf := find_at hk h1 x w
 rw [hi] at hf
 have hq := val_at h2 hlt
 rw [hD] at hq
 simp [Instr.lookup, run_underlying ht, MapKept.run_getObj_map hb, hk.check, hf]
 rw [List.getD_eq_getElem?_getD] at hq
 simp at hq
 rw [hq]
theorem run_lookup_miss (ht : P.underlying mt = some (.map kt et)) (hk : Keys P kt K) (h : MapAt w b K V D) (x : κ) (hv : look D x = none) (z : Value) (hz : (zeroValue et).run P w = .ok z w) (ok : Bool) :
 (Instr.lookup mt (.map (some b)) (K x) ok).run P w = .ok (if ok then .tuple #[z, .bool false] else z) w := by
 obtain ⟨es, clock, hb, h1, h2, _, _⟩ := h.at_
 have hf := find_at hk h1 x w
 rw [find_none hv] at hf
 simp [Instr.lookup, run_underlying ht, MapKept.run_getObj_map hb, hk.check, hf, hz]
theorem upd_some {D : List (κ × ν)} {x : κ} (v' : ν) : ∀ {i : Nat}, (D.map (·.1)).findIdx? (· = x) = some i → upd D x v' = D.set i (x, v') := by
 induction D with
 | nil => intro i h; simp at h
 | cons p D ih =>
   intro i h
   rw [upd]
   rw [List.map_cons, List.findIdx?_cons] at h
   by_cases hp : p.1 = x
   · simp [hp] at h
     subst h
     rw [if_pos hp]; rfl
   · simp [hp] at h
     obtain ⟨j, hj, rfl⟩ := h
     rw [if_neg hp, ih (i := j) (by simpa using hj)]
     rfl
theorem upd_none {D : List (κ × ν)} {x : κ} (v' : ν) (h : look D x = none) : upd D x v' = D ++ [(x, v')] := by
 induction D with
 | nil => rfl
 | cons p D ih =>
   rw [look_cons] at h
   by_cases hp : p.1 = x
   · rw [if_pos hp] at h; cases h
   · rw [if_neg hp] at h
     rw [upd, if_neg hp, ih h]; rfl
theorem upd_keys {D : List (κ × ν)} {x : κ} (v' : ν) : (upd D x v').map (·.1) = if look D x = none then D.map (·.1) ++ [x] else D.map (·.1) := by
 cases h : look D x with
 | none => rw [upd_none v' h]; simp
 | some v =>
   obtain ⟨i, h1, h2, h3⟩ := find_some h
   rw [upd_some v' h1, List.map_set]
   simp only [reduceCtorEq, if_false]
   refine List.ext_getElem (by simp) fun j hj1 hj2 => ?_
   rw [List.getElem_set]
   split
   · rename_i e; subst e; simp [h3]
   · rfl
theorem look_none {D : List (κ × ν)} {x : κ} : look D x = none ↔ x ∉ D.map (·.1) := by
 induction D with
 | nil => simp [look_nil]
 | cons p D ih =>
   rw [look_cons]
   by_cases hp : p.1 = x
   · simp [hp]
   · rw [if_neg hp, ih]; simp [Ne.symm hp]
theorem upd_once {D : List (κ × ν)} (h : (D.map (·.1)).Nodup) (x : κ) (v' : ν) : ((upd D x v').map (·.1)).Nodup := by
 rw [upd_keys]
 split
 · rename_i hn
   rw [List.nodup_append]
   exact ⟨h, by simp, fun a ha b hb => by rw [List.mem_singleton] at hb; subst hb; exact fun e => look_none.1 hn (e ▸ ha)⟩
 · exact h
theorem set_obj {es : Array MapEntry} {clock : Nat} (hb : w.heap[b]? = some (.map es clock)) (o : Obj) : (setObj b o).run P w = .ok () (w.putObj b o) := by
 rw [MapKept.run_setObj_map o hb]; rfl
omit [DecidableEq κ] in
theorem keys_len {es : Array MapEntry} (h1 : es.toList.map (·.key) = D.map (fun p => K p.1)) : es.size = D.length := by have := congrArg List.length h1; simpa using this
theorem mod_map {α β : Type} (g : α → β) (f : α → α) (c : β) (hc : ∀ e, g (f e) = c) : ∀ (l : List α) (i : Nat), (l.modify i f).map g = (l.map g).set i c
 | [], i => by simp
 | e :: l, 0 => by simp [hc]
 | e :: l, i + 1 => by simp [mod_map g f c hc l i]
theorem mod_same {α β : Type} (g : α → β) (f : α → α) (hc : ∀ e, g (f e) = g e) : ∀ (l : List α) (i : Nat), (l.modify i f).map g = l.map g
 | [], i => by simp
 | e :: l, 0 => by simp [hc]
 | e :: l, i + 1 => by simp [mod_same g f hc l i]
theorem run_update (ht : P.underlying mt = some (.map kt et)) (hk : Keys P kt K) (h : MapAt w b K V D) (x : κ) (v : ν) :
 ∃ w', (Instr.mapUpdate mt (.map (some b)) (K x) (V v)).run P w = .ok () w' ∧ MapAt w' b K V (upd D x v) ∧ Keeps (fun k => k = b) w w' := by
 obtain ⟨es, clock, hb, h1, h2, h3, h4⟩ := h.at_
 have hbl : b < w.heap.size := (Array.getElem?_eq_some_iff.1 hb).1
 have hl := keys_len h1
 cases hv : look D x with
 | some v0 =>
   obtain ⟨i, hi, hlt, hD⟩ := find_some hv
   have hf := find_at hk h1 x w
   rw [hi] at hf
   have hkey : (es.toList.getD i default).key = K x := by
    have := congrArg (fun l => l[i]?) h1
    simp only [List.getElem?_map] at this
    rw [List.getElem?_eq_getElem hlt, List.getElem?_eq_getElem (by simp; omega)] at this
    simp [hD] at this
    rw [List.getD_eq_getElem?_getD, List.getElem?_eq_getElem (by simp; omega)]
    simpa using this
   have hget : ((es[i]?).map (·.key)).getD (K x) = K x := by
    rw [Array.getElem?_eq_getElem (by omega)]
    rw [List.getD_eq_getElem?_getD, List.getElem?_eq_getElem (by simp; omega)] at hkey
    simpa using hkey
   refine ⟨w.putObj b (.map (es.modify i fun e => { e with key := K x, val := V v }) clock), ?_, ⟨⟨_, _, World.putObj_heap_same hbl, ?_, ?_, ?_, ?_⟩, upd_once h.once x v⟩, keeps_putObj _ w b _ rfl⟩
   · simp [Instr.mapUpdate, run_underlying ht, MapKept.run_getObj_map hb, hk.check, hf, hget, hk.stays, set_obj hb]
   · rw [upd_some v hi, List.map_set, ← h1, Array.toList_modify]
     exact mod_map MapEntry.key _ (K x) (fun _ => rfl) _ _
   · rw [upd_some v hi, List.map_set, ← h2, Array.toList_modify]
     exact mod_map MapEntry.val _ (V v) (fun _ => rfl) _ _
   · have hq : (es.modify i fun e => { e with key := K x, val := V v }).toList.map (·.born) = es.toList.map (·.born) := by rw [Array.toList_modify]; exact mod_same MapEntry.born (fun e => { e with key := K x, val := V v }) (fun _ => rfl) _ _
     intro e he
     have hm : e.born ∈ es.toList.map (·.born) := by rw [← hq]; exact List.mem_map_of_mem he
     obtain ⟨e', he', hb'⟩ := List.mem_map.1 hm
     rw [← hb']
     exact h3 e' he'
   · have hq : (es.modify i fun e => { e with key := K x, val := V v }).toList.map (·.born) = es.toList.map (·.born) := by rw [Array.toList_modify]; exact mod_same MapEntry.born (fun e => { e with key := K x, val := V v }) (fun _ => rfl) _ _
     have h5 : (es.toList.map (·.born)).Pairwise (· ≠ ·) := List.pairwise_map.2 h4
     rw [← hq] at h5
     exact List.pairwise_map.1 h5
 | none =>
   have hf := find_at hk h1 x w
   rw [find_none hv] at hf
   refine ⟨w.putObj b (.map (es.push { key := K x, val := V v, born := clock }) (clock + 1)), ?_, ⟨⟨_, _, World.putObj_heap_same hbl, ?_, ?_, ?_, ?_⟩, upd_once h.once x v⟩, keeps_putObj _ w b _ rfl⟩
   · simp [Instr.mapUpdate, run_underlying ht, MapKept.run_getObj_map hb, hk.check, hf, set_obj hb]
   · rw [upd_none v hv]; simp [h1]
   · rw [upd_none v hv]; simp [h2]
   · intro e he
     simp at he
     rcases he with he | rfl
     · exact Nat.lt_succ_of_lt (h3 e (by simpa using he))
     · exact Nat.lt_succ_self _
   · simp only [Array.toList_push, List.pairwise_append]
     exact ⟨h4, by simp, fun a ha c hc => by simp at hc; subst hc; exact Nat.ne_of_lt (h3 a ha)⟩
theorem erase_map {α β : Type} (f : α → β) : ∀ (l : List α) (i : Nat), (l.eraseIdx i).map f = (l.map f).eraseIdx i
 | [], i => by simp
 | e :: l, 0 => by simp
 | e :: l, i + 1 => by simp [erase_map f l i]
omit [DecidableEq κ] in
theorem made (w : World) (K : κ → Value) (V : ν → Value) : MapAt (w.alloc (.map #[] 0)) w.heap.size K V ([] : List (κ × ν)) :=
 ⟨⟨#[], 0, heap_alloc_new w _, rfl, rfl, fun e he => by simp at he, by simp⟩, by simp⟩
omit [DecidableEq κ] in
theorem MapAt.step {w' : World} (h : MapAt w b K V D) (hh : w'.heap[b]? = w.heap[b]?) : MapAt w' b K V D := by
 obtain ⟨es, clock, hb, h1⟩ := h.at_
 exact ⟨⟨es, clock, hh.trans hb, h1⟩, h.once⟩
omit [DecidableEq κ] in
theorem MapAt.lt (h : MapAt w b K V D) : b < w.heap.size := by
 obtain ⟨es, clock, hb, _⟩ := h.at_
 exact (Array.getElem?_eq_some_iff.1 hb).1
def _root_.Go.World.mapClock (w : World) (b : Nat) : Nat := match w.heap[b]? with | some (.map _ c) => c | _ => 0
theorem erase_by {α : Type} (f : α → Nat) : ∀ (l : List α) (i : Nat) (hi : i < l.length), l.Pairwise (fun a b => f a ≠ f b) → l.filter (fun q => !decide (f q = f l[i])) = l.eraseIdx i
 | [], i, hi, _ => by simp at hi
 | e :: l, 0, _, h => by
   rw [List.pairwise_cons] at h
   simp only [List.getElem_cons_zero, List.eraseIdx_zero, List.tail_cons, List.filter_cons, decide_true, Bool.not_true, Bool.false_eq_true, if_false]
   refine List.filter_eq_self.2 fun q hq => ?_
   have := h.1 q hq
   simp [Ne.symm this]
 | e :: l, i + 1, hi, h => by
   rw [List.pairwise_cons] at h
   have hlt : i < l.length := by simpa using hi
   have := h.1 l[i] (List.getElem_mem hlt)
   simp only [List.getElem_cons_succ, List.eraseIdx_cons_succ, List.filter_cons]
   rw [erase_by f l i hlt h.2]
   simp [this]
structure IterAt (w : World) (r m : Nat) (K : κ → Value) (V : ν → Value) (D : List (κ × ν)) (rem : List (κ × ν)) : Prop where
 at_ : ∃ es clock seen last, w.heap[m]? = some (.map es clock) ∧ es.toList.map (·.key) = D.map (fun p => K p.1) ∧ es.toList.map (·.val) = D.map (fun p => V p.2) ∧ (∀ e ∈ es.toList, e.born < clock) ∧ es.toList.Pairwise (fun a b => a.born ≠ b.born) ∧
  w.heap[r]? = some (.mapIter (some m) clock seen last) ∧ clock ≤ last ∧ rem = ((es.toList.zip D).filter (fun q => !seen.contains q.1.born)).map (·.2)
 ne : r ≠ m
omit [DecidableEq κ] in
theorem run_range_at (ht : P.underlying mt = some (.map kt et)) (h : MapAt w b K V D) :
 (Instr.range mt (.map (some b))).run P w = .ok (.pointer (some ⟨w.heap.size, 0, none⟩)) (w.alloc (.mapIter (some b) (w.mapClock b) #[] (w.mapClock b))) := by
 obtain ⟨es, clock, hb, _⟩ := h.at_
 have : w.mapClock b = clock := by simp [World.mapClock, hb]
 rw [this]
 exact run_range_map w mt kt et b es clock ht hb
omit [DecidableEq κ] in
theorem iter_start (h : MapAt w b K V D) : IterAt (w.alloc (.mapIter (some b) (w.mapClock b) #[] (w.mapClock b))) w.heap.size b K V D D := by
 have hlt := h.lt
 obtain ⟨es, clock, hb, h1, h2, h3, h4⟩ := h.at_
 have hc : w.mapClock b = clock := by simp [World.mapClock, hb]
 rw [hc]
 have hl : es.toList.length = D.length := by have := congrArg List.length h1; simpa using this
 refine ⟨⟨es, clock, #[], clock, (Below.heap_alloc w _ _ hlt).trans hb, h1, h2, h3, h4, heap_alloc_new w _, Nat.le_refl _, ?_⟩, by omega⟩
 rw [List.filter_eq_self.2 (fun _ _ => by simp), List.map_snd_zip (by simpa using Nat.le_of_eq hl.symm)]
omit [DecidableEq κ] in
theorem run_next_at {r m : Nat} {rem : List (κ × ν)} (h : IterAt w r m K V D rem) (ty : TypeId) :
 (rem = [] ∧ (Instr.next (.pointer (some ⟨r, 0, none⟩)) false ty).run P w = .ok (.tuple #[.bool false]) w) ∨
 ∃ c, ∃ hc : c < rem.length, ∃ w', (Instr.next (.pointer (some ⟨r, 0, none⟩)) false ty).run P w = .ok (.tuple #[.bool true, K rem[c].1, V rem[c].2]) w' ∧ IterAt w' r m K V D (rem.eraseIdx c) ∧ Keeps (fun k => k = r) w w' ∧
  ∀ W : World, W.heap[r]? = w'.heap[r]? → W.heap[m]? = w'.heap[m]? → (Instr.entry (.pointer (some ⟨r, 0, none⟩))).run P W = .ok (.tuple #[K rem[c].1, V rem[c].2]) W := by
 obtain ⟨es, clock, seen, last, hm, h1, h2, h3, h4, hr, hcl, hrem⟩ := h.at_
 have hl : es.toList.length = D.length := by have := congrArg List.length h1; simpa using this
 have hrl : r < w.heap.size := (Array.getElem?_eq_some_iff.1 hr).1
 obtain ⟨L, hL⟩ : ∃ L, L = (es.toList.zip D).filter (fun q => !seen.contains q.1.born) := ⟨_, rfl⟩
 have hfst : L.map (·.1) = (es.filter fun e => !seen.contains e.born).toList := by
  rw [hL, Array.toList_filter]
  have : es.toList = (es.toList.zip D).map (·.1) := by rw [List.map_fst_zip (by simpa using Nat.le_of_eq hl)]
  conv => rhs; rw [this]
  rw [List.filter_map]
  rfl
 have hpair : ∀ q ∈ L, q.1.key = K q.2.1 ∧ q.1.val = V q.2.2 ∧ q.1.born < clock := fun q hq => by
  rw [hL] at hq
  have hz := (List.mem_filter.1 hq).1
  obtain ⟨j, hj, rfl⟩ := List.getElem_of_mem hz
  rw [List.length_zip] at hj
  have hj1 : j < es.toList.length := by omega
  have hj2 : j < D.length := by omega
  have e1 := congrArg (fun l => l[j]?) h1
  have e2 := congrArg (fun l => l[j]?) h2
  simp only [List.getElem?_map, List.getElem?_eq_getElem hj1, List.getElem?_eq_getElem hj2, Option.map_some, Option.some.injEq] at e1 e2
  rw [List.getElem_zip]
  exact ⟨e1, e2, h3 _ (List.getElem_mem hj1)⟩
 have hdist : L.Pairwise (fun a b => a.1.born ≠ b.1.born) := by
  rw [hL]
  refine List.Pairwise.filter _ ?_
  have : ((es.toList.zip D).map (·.1)).Pairwise (fun a b => a.born ≠ b.born) := by rw [List.map_fst_zip (by simpa using Nat.le_of_eq hl)]; exact h4
  exact (List.pairwise_map (f := Prod.fst)).1 this
 have htest := next_test_false seen es clock last h3 hcl
 have hold : ((es.filter fun e => !seen.contains e.born).filter fun x => decide (x.born < clock)) = es.filter fun e => !seen.contains e.born := by
  refine Array.filter_eq_self.2 fun x hx => ?_
  have := h3 x (by have := (Array.mem_filter.1 hx).1; simpa using this)
  simpa using this
 have hnew : ((es.filter fun e => !seen.contains e.born).filter fun x => decide (x.born ≥ clock)) = #[] := by
  rw [Array.filter_eq_empty_iff]
  intro x hx
  have := h3 x (by have := (Array.mem_filter.1 hx).1; simpa using this)
  simp
  omega
 obtain ⟨LA, hLA⟩ : ∃ LA, LA = es.filter fun e => !seen.contains e.born := ⟨_, rfl⟩
 rw [← hLA] at hfst hold hnew
 have hsz : LA.size = rem.length := by
  have e1 := congrArg List.length hfst
  rw [hrem, ← hL]
  simpa using e1.symm
 have hgo : ∀ ty, (Instr.next (.pointer (some ⟨r, 0, none⟩)) false ty).run P w =
  ((choose (.mapNext ((if LA.isEmpty then #[none] else #[]) ++ LA.map some).size)).run P w).andThen fun c w1 =>
   Sem.run P (match ((if LA.isEmpty then #[none] else #[]) ++ LA.map some)[c]? with
    | some (some e) => do setObj r (.mapIter (some m) clock (seen.push e.born) clock); pure (.tuple #[.bool true, e.key, e.val])
    | some none => pure (.tuple #[.bool false])
    | none => stuck "Next: no such candidate") w1 := fun ty => by
  have hgr : (getObj r).run P w = .ok (.mapIter (some m) clock seen last) w := by simp [getObj, Sem.run, hr]
  have hgm : (getObj m).run P w = .ok (.map es clock) w := MapKept.run_getObj_map hm
  have he : ∀ (b : Bool), (if LA.isEmpty then #[none] else #[]) = (if LA.isEmpty = true then (#[none] : Array (Option MapEntry)) else #[]) := fun _ => rfl
  simp only [Instr.next, Sem.run_bind, hgr, hgm, Result.andThen_ok, htest, Bool.false_eq_true, if_false, ← hLA, hold, hnew, Array.append_empty]
  rfl
 by_cases h0 : rem = []
 · refine .inl ⟨h0, ?_⟩
   have hL0 : LA = #[] := Array.eq_empty_of_size_eq_zero (by rw [hsz, h0]; rfl)
   rw [hgo, hL0]
   simp [Question.forced, Sem.run]
 · have hpos : 0 < LA.size := by rw [hsz]; exact List.length_pos_iff.2 h0
   have hne : LA.isEmpty = false := by simpa [Array.isEmpty] using Nat.ne_of_gt hpos
   have hask : ∃ c w1, c < LA.size ∧ (w1 = w ∨ w1 = w.drew) ∧ (choose (.mapNext LA.size)).run P w = .ok c w1 := by
    by_cases h1 : LA.size ≤ 1
    · refine ⟨0, w, hpos, .inl rfl, ?_⟩
      rw [run_choose_drew]
      have : (Question.mapNext LA.size).forced = true := by simp [Question.forced]; exact h1
      simp [this]
    · refine ⟨w.tape w.drawn (.mapNext LA.size) % LA.size, w.drew, Nat.mod_lt _ hpos, .inr rfl, ?_⟩
      rw [run_choose_drew]
      have : (Question.mapNext LA.size).forced = false := by simp [Question.forced]; omega
      simp [this, Question.cut]
   obtain ⟨c, w1, hc, hw1, hrun⟩ := hask
   have hcr : c < rem.length := by omega
   have hcL : c < L.length := by rw [hrem, ← hL, List.length_map] at hcr; exact hcr
   have hh : w1.heap = w.heap := by rcases hw1 with rfl | rfl <;> rfl
   have hat : LA[c] = L[c].1 := by
    have := congrArg (fun l => l[c]?) hfst
    simp only [List.getElem?_map, List.getElem?_eq_getElem hcL, Option.map_some, Array.getElem?_toList, Array.getElem?_eq_getElem hc, Option.some.injEq] at this
    exact this.symm
   have hrL : rem = L.map (·.2) := by rw [hrem, ← hL]
   have hrc : rem[c] = L[c].2 := by simp only [hrL, List.getElem_map]
   obtain ⟨k1, k2, k3⟩ := hpair L[c] (List.getElem_mem hcL)
   have hr1 : w1.heap[r]? = some (.mapIter (some m) clock seen last) := by rw [hh]; exact hr
   have hset : ∀ o, (setObj r o).run P w1 = .ok () (w1.putObj r o) := fun o => by
    simp [setObj, Sem.run, hr1, World.putObj]
   refine .inr ⟨c, hcr, w1.putObj r (.mapIter (some m) clock (seen.push L[c].1.born) clock), ?_, ⟨⟨es, clock, seen.push L[c].1.born, clock, ?_, h1, h2, h3, h4, World.putObj_heap_same (by rw [hh]; exact hrl), Nat.le_refl _, ?_⟩, h.ne⟩, ?_, ?_⟩
   · rw [hgo, hne]
     simp only [Bool.false_eq_true, if_false, Array.empty_append, Array.size_map, hrun, Result.andThen_ok, Array.getElem?_map, Array.getElem?_eq_getElem hc, Option.map_some, hat, Sem.run_bind, hset]
     rw [hrc, ← k1, ← k2]
     rfl
   · rw [World.putObj_heap_other (Ne.symm h.ne), hh]; exact hm
   · obtain ⟨bn, hbn⟩ : ∃ bn, bn = L[c].1.born := ⟨_, rfl⟩
     have e1 : L.filter (fun q => !decide (q.1.born = bn)) = L.eraseIdx c := by rw [hbn]; exact erase_by (fun q : MapEntry × (κ × ν) => q.1.born) L c hcL hdist
     rw [← hbn]
     have e2 : (es.toList.zip D).filter (fun q => !(seen.push bn).contains q.1.born) = L.filter (fun q => !decide (q.1.born = bn)) := by
      rw [hL, List.filter_filter]
      refine List.filter_congr fun q _ => ?_
      by_cases hq : q.1.born = bn <;> simp [hq]
     rw [e2, e1, hrL, erase_map]
   · refine (Keeps.trans ?_ (keeps_putObj _ w1 r _ rfl))
     rcases hw1 with rfl | rfl
     · exact Keeps.refl _ _
     · exact (Keeps.refl _ _).drew
   · intro W hWr hWm
     have h1r : W.heap[r]? = some (.mapIter (some m) clock (seen.push L[c].1.born) clock) := hWr.trans (World.putObj_heap_same (by rw [hh]; exact hrl))
     have h1m : W.heap[m]? = some (.map es clock) := hWm.trans ((World.putObj_heap_other (Ne.symm h.ne)).trans (by rw [hh]; exact hm))
     have hmem : L[c].1 ∈ es.toList := by
      have h5 : ∀ q, q ∈ L → q ∈ es.toList.zip D := fun q hq => by rw [hL] at hq; exact (List.mem_filter.1 hq).1
      exact (List.of_mem_zip (h5 _ (List.getElem_mem hcL))).1
     have hfind : es.find? (fun x => x.born == L[c].1.born) = some L[c].1 := by
      rw [← Array.find?_toList]
      exact find_born L[c].1 es.toList (by rw [List.nodup_iff_pairwise_ne, List.pairwise_map]; exact h4) hmem
     simp only [Instr.entry, getObj, Sem.run_bind, Sem.run, h1r, h1m, Result.andThen, Array.back?_push, bne_self_eq_false, Bool.false_eq_true, if_false, hfind]
     rw [hrc, ← k1, ← k2]
     rfl
theorem asking {kt : TypeId} {K : κ → Value} (heq : ∀ (x y : κ) (w : World), (Op.equal kt (K x) (K y)).run P w = .ok (decide (y = x)) w) (x : κ) (w : World) : ∀ (es : List MapEntry) (ks : List κ) (i : Nat), es.map (·.key) = ks.map K →
 (Instr.findAsking kt (K x) es i).run P w = .ok ((ks.findIdx? (· = x)).map fun j => (i + j, (es.getD j default).val)) w
 | [], [], i, _ => by simp [Instr.findAsking]
 | e :: es, k :: ks, i, h => by
   simp only [List.map_cons, List.cons.injEq] at h
   have ih := asking heq x w es ks (i + 1) h.2
   rw [Instr.findAsking, h.1]
   simp only [Sem.run_bind, heq, Result.andThen_ok, List.findIdx?_cons]
   by_cases hk : k = x
   · simp [hk]
   · simp only [hk, decide_false, Bool.false_eq_true, if_false]
     rw [ih]
     cases hq : ks.findIdx? (· = x) with
     | none => simp
     | some j => simp [Nat.add_assoc, Nat.add_comm 1 j]
theorem keys_struct {kt : TypeId} {K : κ → Value} {fs : Array Field} (hu : P.underlying kt = some (.struct fs)) (hc : ∀ (em : Bool) (x : κ) (w : World), (Instr.checkKey em 10000 kt (K x)).run P w = .ok () w)
 (heq : ∀ (x y : κ) (w : World), (Op.equal kt (K x) (K y)).run P w = .ok (decide (y = x)) w) (hs : ∀ x, Instr.sameBits 10000 (K x) (K x) = true) : Keys P kt K where
 check := hc
 find := fun x es ks w h => by
  have ha := asking (P := P) heq x w es ks 0 h
  unfold Instr.findKey
  simp only [Sem.run_bind, run_underlying hu, Result.andThen_ok]
  cases es with
  | nil =>
    cases ks with
    | nil => simp [Instr.findNow]
    | cons k ks => simp at h
  | cons e es =>
    simp only [Instr.findNow, Instr.sameNow]
    rw [ha]
    simp
 stays := fun x w => by
  unfold Instr.keyThatStays
  rw [if_pos (hs x)]
  rfl
theorem ba_beq (a b : ByteArray) : (a == b) = decide (a = b) := by
 cases a; cases b
 rename_i x y
 show (x == y) = _
 rw [Bool.eq_iff_iff]; simp
end
end Go.Proofs.Ytjejhgjdmbodiaa.XMap
end
section
namespace Go.Proofs.Ytjejhgjdmbodiaa.XOpen
open Go Go.RowKit Go.ChangeShapes Go.WideShapes Go.Deep Go.Proofs.YtjejhgjdmbodiaaW.PrintWords
def Opens {α : Type} (P : Program) (t : TypeId) (d : Kd α) (wf : α → Prop) : Prop :=
 ∀ (H : Type) (enc : TypeId × Value → H) (w : World) (base : Nat) (sp : Nat → Bool) (hd : Bool) (fuel : Nat) (cs : List Value) (x : DataW H × List MemPlace),
  DataW.trod enc P w base sp hd fuel t cs = some x → ∃ a, d.K w a cs ∧ wf a
theorem opens_int {P : Program} {t : TypeId} {k : IntKind} (h : P.underlying t = some (.int k)) : Opens P t (Kd.int k) (fun n => (Lit.int k n).wf = true) := by
 intro H enc w base sp hd fuel cs x hx
 obtain ⟨n, rfl, _, hw⟩ := DataW.trod_int h hx
 exact ⟨n, rfl, hw⟩
theorem opens_string {P : Program} {t : TypeId} (h : P.underlying t = some .string) : Opens P t Kd.string (fun s => s.size ≤ maxLen) := by
 intro H enc w base sp hd fuel cs x hx
 obtain ⟨s, rfl, _, hw⟩ := DataW.trod_string h hx
 exact ⟨s, rfl, hw⟩
theorem list_of {α : Type} (Q : Nat → α → Prop) : ∀ n, (∀ i, i < n → ∃ a, Q i a) → ∃ xs : List α, xs.length = n ∧ ∀ i a, xs[i]? = some a → Q i a
 | 0, _ => ⟨[], rfl, fun i a h => by simp at h⟩
 | n + 1, h => by
   obtain ⟨xs, hl, hq⟩ := list_of Q n (fun i hi => h i (by omega))
   obtain ⟨a, ha⟩ := h n (by omega)
   refine ⟨xs ++ [a], by simp [hl], fun i b hb => ?_⟩
   rcases Nat.lt_or_ge i xs.length with hi | hi
   · rw [List.getElem?_append_left hi] at hb; exact hq i b hb
   · rw [List.getElem?_append_right hi] at hb
     have : i - xs.length = 0 := by
      rcases Nat.eq_zero_or_pos (i - xs.length) with h0 | h0
      · exact h0
      · rw [List.getElem?_eq_none (by simp; omega)] at hb; cases hb
     rw [this] at hb
     have : i = n := by omega
     subst this
     simp at hb
     subst hb
     exact ha
theorem opens_slice {α : Type} {P : Program} {t e : TypeId} {d : Kd α} {wf : α → Prop} (h : P.underlying t = some (.slice e)) (hc : P.cellsOf e = d.sz) (ho : Opens P e d wf) : Opens P t (Kd.slice e d) (fun xs => ∀ a, a ∈ xs → wf a) := by
 intro H enc w base sp hd fuel cs x hx
 rcases open_slice h hx with ⟨rfl, _⟩ | ⟨a, len, cap, m, n, D, Pl, rfl, hb, hl, hm, hmm, _, hi⟩
 · exact ⟨[], ⟨none, 0, rfl, Nat.le_refl _, Kd.C_nil d w⟩, fun a ha => by cases ha⟩
 · have hlm : len ≤ m := by rw [hmm]; split <;> omega
   obtain ⟨xs, hxl, hq⟩ := list_of (fun i b => wf b ∧ ∃ c, c.length = d.sz ∧ d.K w b c ∧ ∀ j u, c[j]? = some u → w.cell? (a.add (i * d.sz + j)) = some u) len (fun i hi' => by
    obtain ⟨cs', h1, h2⟩ := hi i (by omega)
    obtain ⟨b, hK, hw⟩ := ho H enc w base sp hd n cs' _ h2
    rw [hc] at h1
    obtain ⟨_, hcl, hat⟩ := World.cells?_some h1
    refine ⟨b, hw, cs', hcl, hK, fun j u hu => ?_⟩
    have hj : j < d.sz := by have := (List.getElem?_eq_some_iff.1 hu).1; omega
    rw [← Go.Deep.add_add, hat j hj, hu])
   subst hxl
   refine ⟨xs, ⟨some a, cap, rfl, hl, rfl, by simp only [maxLen] at hm; omega, fun _ => ⟨a, rfl, fun j p hp => (hq j p hp).2⟩⟩, fun b hb => ?_⟩
   obtain ⟨i, hi', he⟩ := List.mem_iff_getElem.1 hb
   exact (hq i b (by rw [List.getElem?_eq_getElem hi', he])).1
theorem opens_iso {α β : Type} {P : Program} {t : TypeId} {d : Kd α} {wf : α → Prop} {wf' : β → Prop} (f : β → α) (g : α → β) (hfg : ∀ a, f (g a) = a) (hw : ∀ a, wf a → wf' (g a)) (ho : Opens P t d wf) : Opens P t (Kd.iso d f) wf' := by
 intro H enc w base sp hd fuel cs x hx
 obtain ⟨a, hK, ha⟩ := ho H enc w base sp hd fuel cs x hx
 exact ⟨g a, by show d.K w (f (g a)) cs; rw [hfg]; exact hK, hw a ha⟩
def Fields {α : Type} (P : Program) (fs : Array Field) (j : Nat) (off : Nat) (d : Kd α) (wf : α → Prop) : Prop :=
 ∀ (H : Type) (enc : TypeId × Value → H) (w : World) (base : Nat) (sp : Nat → Bool) (hd : Bool) (n : Nat) (cs : List Value), cs.length = off + d.sz →
  (∀ i f, j ≤ i → fs[i]? = some f → ∃ y, DataW.trod enc P w base sp hd n f.type ((cs.drop f.offset).take (P.cellsOf f.type)) = some y) → ∃ a, d.K w a (cs.drop off) ∧ wf a
theorem fields_last {α : Type} {P : Program} {fs : Array Field} {j off : Nat} {f : Field} {d : Kd α} {wf : α → Prop} (hf : fs[j]? = some f) (ho : f.offset = off) (hc : P.cellsOf f.type = d.sz) (h : Opens P f.type d wf) : Fields P fs j off d wf := by
 intro H enc w base sp hd n cs hl ht
 obtain ⟨y, hy⟩ := ht j f (Nat.le_refl _) hf
 rw [ho, hc, List.take_of_length_le (by rw [List.length_drop]; omega)] at hy
 exact h H enc w base sp hd n _ _ hy
theorem fields_cons {α β : Type} {P : Program} {fs : Array Field} {j off : Nat} {f : Field} {d : Kd α} {e : Kd β} {wf : α → Prop} {wf' : β → Prop} (hf : fs[j]? = some f) (ho : f.offset = off) (hc : P.cellsOf f.type = d.sz) (h : Opens P f.type d wf) (hr : Fields P fs (j + 1) (off + d.sz) e wf') :
 Fields P fs j off (Kd.pair d e) (fun x => wf x.1 ∧ wf' x.2) := by
 intro H enc w base sp hd n cs hl ht
 obtain ⟨y, hy⟩ := ht j f (Nat.le_refl _) hf
 rw [ho, hc] at hy
 obtain ⟨a, hK, ha⟩ := h H enc w base sp hd n _ _ hy
 have hl' : cs.length = off + d.sz + e.sz := by rw [hl]; show off + (d.sz + e.sz) = _; omega
 obtain ⟨b, hK', hb⟩ := hr H enc w base sp hd n cs hl' (fun i g hi hg => ht i g (by omega) hg)
 refine ⟨(a, b), ⟨(cs.drop off).take d.sz, cs.drop (off + d.sz), ?_, hK, hK'⟩, ha, hb⟩
 rw [← List.drop_drop, List.take_append_drop]
theorem opens_struct {α : Type} {P : Program} {t : TypeId} {fs : Array Field} {d : Kd α} {wf : α → Prop} (h : P.underlying t = some (.struct fs)) (hc : P.cellsOf t = d.sz) (hf : Fields P fs 0 0 d wf) : Opens P t d wf := by
 intro H enc w base sp hd fuel cs x hx
 obtain ⟨xs, n, _, _, hl, hlen, hg⟩ := DataW.trod_struct h hx
 have := hf H enc w base sp hd n cs (by rw [hl, hc]; omega) (fun i f _ hfi => by
  have h1 := hg i f hfi
  have hi : i < xs.length := by rw [hlen]; exact (Array.getElem?_eq_some_iff.1 hfi).1
  exact ⟨xs[i], by rw [h1, List.getElem?_eq_getElem hi]⟩)
 simpa using this
end Go.Proofs.Ytjejhgjdmbodiaa.XOpen
end
section
namespace Go.Proofs.Ytjejhgjdmbodiaa.XSeq
open Go Go.RowKit Go.Proofs.Ytjejhgjdmbodiaa.XRange
def Loopy (A : World) (k : Nat) : Prop := (∃ d, A.heap[k]? = some (.deferred d)) ∨ (∃ L, A.heap[k]? = some (.loop L))
def KeepsLoops (A A' : World) : Prop := A.heap.size ≤ A'.heap.size ∧ ∀ k, Loopy A k → A'.heap[k]? = A.heap[k]?
theorem KeepsLoops.refl (A : World) : KeepsLoops A A := ⟨Nat.le_refl _, fun _ _ => rfl⟩
theorem KeepsLoops.trans {A B C : World} (h : KeepsLoops A B) (k : KeepsLoops B C) : KeepsLoops A C :=
 ⟨Nat.le_trans h.1 k.1, fun i hi => (k.2 i (by rcases hi with ⟨d, hd⟩ | ⟨L, hL⟩; exact .inl ⟨d, (h.2 i (.inl ⟨d, hd⟩)).trans hd⟩; exact .inr ⟨L, (h.2 i (.inr ⟨L, hL⟩)).trans hL⟩)).trans (h.2 i hi)⟩
theorem Loopy.lt {A : World} {k : Nat} (h : Loopy A k) : k < A.heap.size := by
 rcases h with ⟨d, h⟩ | ⟨d, h⟩ <;> exact (Array.getElem?_eq_some_iff.1 h).1
theorem KeepsLoops.of_keeps {M : Nat → Prop} {A A' : World} (h : Keeps M A A') (hm : ∀ k, M k → ¬ Loopy A k) : KeepsLoops A A' := ⟨h.size, fun k hk => h.block k hk.lt (fun e => hm k e hk)⟩
end Go.Proofs.Ytjejhgjdmbodiaa.XSeq
end
section
namespace Go.Proofs.Ytjejhgjdmbodiaa.XReg
open Go Go.RowKit Go.Proofs.YtjejhgjdmbodiaaW.PrintWords Go.Proofs.YtjejhgjdmbodiaaW.PrintLast Go.Proofs.YtjejhgjdmbodiaaW.PrintMore
section
variable {P : Program} {md : Region.Mode} {ops : Array Oper} {Q : Exit → Act → World → Prop} {S : World → Prop} {ds : List Nat}
theorem pu {oi : Oper} {v : Value} {fuel : Nat} {l : Array Bool} {a a' : Act} {w : World} (i N : Nat) (hi : ops[i]? = some oi := by rfl) (hN : oi.dst = some N := by rfl) (hc : (Region.noSelect ops && Region.free md ops l i && (Region.ready md ops l).contains i) = true := by kernel_rfl)
 (hQ : ∀ c a w, Q (.panic c) (a.put oi.dst v) w → Q (.panic c) a w := by exact fun _ _ _ h => h) (hw : Region.wanted oi (yielded ops a.tmps) = true := by rfl) (hy : ∀ w, (execOp a.eval oi).run P w = .ok (.value v) w := by (intro w'; go_simp; with_reducible rfl))
 (ha : a.put (some N) v = a' := by (simp only [Act.put, List.setIfInBounds_toArray, List.set_cons_zero, List.set_cons_succ, i64_w, i32_w]; first | done | rfl))
 (h : wpAnyLast P md ops Q S ds fuel (l.setIfInBounds i true) a' w) : wpAnyLast P md ops Q S ds (fuel + 1) l a w :=
 pure_ _ hi hN (by simp only [Bool.and_eq_true] at hc; have h3 := hc.2; simp [anyB, hc.1.1, hc.1.2]; simpa using h3) hQ (.inl ⟨hw, hy⟩) ha h
theorem tk {oi : Oper} {v : Value} {fuel : Nat} {l : Array Bool} {a a' : Act} {w : World} (i N : Nat) (hi : ops[i]? = some oi := by rfl) (hN : oi.dst = some N := by rfl) (hc : (Region.noSelect ops && Region.free md ops l i && (Region.ready md ops l).contains i && Region.closedB md ops l && Region.lastB md ops l ds i) = true := by kernel_rfl)
 (hQ : ∀ c a w, Q (.panic c) (a.put oi.dst v) w → Q (.panic c) a w := by exact fun _ _ _ h => h) (hw : Region.wanted oi (yielded ops a.tmps) = true := by rfl) (hS : S w := by assumption)
 (hy : ∀ w, S w → (execOp a.eval oi).run P w = .ok (.value v) w := by (intro w' hS_; (try (obtain ⟨s0, s1⟩ := hS_)); (try (obtain ⟨s1, s2⟩ := s1)); (try (obtain ⟨s2, s3⟩ := s2)); (try (obtain ⟨s3, s4⟩ := s3)); (try (obtain ⟨s4, s5⟩ := s4)); (try (obtain ⟨s5, s6⟩ := s5)); (try (obtain ⟨s6, s7⟩ := s6)); (try (obtain ⟨s7, s8⟩ := s7)); (try (obtain ⟨s8, s9⟩ := s8)); (try (obtain ⟨s9, s10⟩ := s9)); (try (obtain ⟨s10, s11⟩ := s10)); go_simp; with_reducible rfl))
 (ha : a.put (some N) v = a' := by (simp only [Act.put, List.setIfInBounds_toArray, List.set_cons_zero, List.set_cons_succ, i64_w, i32_w]; first | done | rfl))
 (h : wpAnyLast P md ops Q S ds fuel (l.setIfInBounds i true) a' w) : wpAnyLast P md ops Q S ds (fuel + 1) l a w :=
 take_ _ hi hN (by simp only [Bool.and_eq_true] at hc; have h3 := hc.1.1.2; simp [takeB, hc.1.1.1.1, hc.1.1.1.2, hc.1.2, hc.2]; simpa using h3) hQ (.inl ⟨hw, hy⟩) hS ha h
theorem pn {oi : Oper} {fuel : Nat} {l : Array Bool} {a a' : Act} {w : World} (i N : Nat) (hi : ops[i]? = some oi := by rfl) (hN : oi.dst = some N := by rfl) (hc : (Region.noSelect ops && Region.free md ops l i && (Region.ready md ops l).contains i) = true := by kernel_rfl)
 (hQ : ∀ c a w, Q (.panic c) (a.put oi.dst undef) w → Q (.panic c) a w := by exact fun _ _ _ h => h) (hw : Region.wanted oi (yielded ops a.tmps) = false := by rfl)
 (ha : a.put (some N) undef = a' := by (simp only [Act.put, List.setIfInBounds_toArray, List.set_cons_zero, List.set_cons_succ, i64_w, i32_w]; first | done | rfl))
 (h : wpAnyLast P md ops Q S ds fuel (l.setIfInBounds i true) a' w) : wpAnyLast P md ops Q S ds (fuel + 1) l a w :=
 pure_ _ hi hN (by simp only [Bool.and_eq_true] at hc; have h3 := hc.2; simp [anyB, hc.1.1, hc.1.2]; simpa using h3) hQ (.inr ⟨hw, rfl⟩) ha h
theorem one {i : Nat} {oi : Oper} {fuel : Nat} {l : Array Bool} {a : Act} {w : World} (N : Option Tmp) (hi : ops[i]? = some oi) (hN : oi.dst = N) (hc : (Region.ready md ops l == [i]) = true) (hd : i ∉ ds)
 (h : ∀ K : Act → World → Prop, Shut (∀ a' w', S w' → (S w' → wpAnyLast P md ops Q S ds fuel (l.setIfInBounds i true) a' w') → K a' w') → if Region.wanted oi (yielded ops a.tmps) = true then Oper.wp P oi a w K Q else K (a.put N undef) w) :
 wpAnyLast P md ops Q S ds (fuel + 1) l a w := one_ _ hi hN (by simp only [readyB, hc, Bool.true_and, beq_self_eq_true]) hd h
theorem last {i : Nat} {oi : Oper} {fuel : Nat} {l : Array Bool} {a : Act} {w : World} (N : Option Tmp) (hi : ops[i]? = some oi) (hN : oi.dst = N) (hc : (Region.ready md ops l == [i]) = true) (hd : i ∈ ds)
 (h : ∀ K : Act → World → Prop, Shut (∀ a' w', wpAnyLast P md ops Q S ds fuel (l.setIfInBounds i true) a' w' → K a' w') → if Region.wanted oi (yielded ops a.tmps) = true then Oper.wp P oi a w K Q else K (a.put N undef) w) :
 wpAnyLast P md ops Q S ds (fuel + 1) l a w := last_ _ hi hN (by simp only [readyB, hc, Bool.true_and, beq_self_eq_true]) hd h
end
end Go.Proofs.Ytjejhgjdmbodiaa.XReg
end
section
namespace Go.Proofs.Ytjejhgjdmbodiaa.XRnd
open Go Go.RowKit Go.Proofs.YtjejhgjdmbodiaaW.PrintWords Go.Proofs.YtjejhgjdmbodiaaW.PrintLast Go.Proofs.YtjejhgjdmbodiaaW.PrintMore
def noDefer (ops : Array Oper) : Bool := ops.all fun o => match o.op with | .defer _ => false | _ => true
theorem noDefer_spec {ops : Array Oper} (h : noDefer ops = true) {i : Nat} {o : Oper} (hi : ops[i]? = some o) (c : Call) : o.op ≠ .defer c := by
 intro e
 have h1 := (Array.all_eq_true'.1 h) o (Array.mem_of_getElem? hi)
 rw [e] at h1
 cases h1
section
variable {P : Program} {ops : Array Oper} {Q : Exit → Act → World → Prop} {md : Region.Mode} {S : World → Prop} {ds : List Nat} {l n : Nat}
theorem opIn (o : Oper) (a : Act) (w : World) {K K' : Act → World → Prop} (hd : ∀ c, o.op ≠ .defer c) (hK : ∀ a w, K a w → K' a w) (h : o.wp P a w K Q) : o.wpIn (Fence.wide.inRound l) n P a w K' Q := by
 refine ⟨fun _ _ => trivial, ?_⟩
 rw [Fence.inRound_round, Oper.semAt_eq _ _ _ hd]
 unfold Oper.wp at h
 generalize (execOp a.eval o).run P w = r at h
 unfold Oper.upon at h
 unfold Oper.uponIn
 split at h
 · exact hK _ _ h
 · exact hK _ _ h
 · exact hK _ _ h
 · refine ⟨fun e => (by cases e), CallsIn.inRound l ((callsIn_wide.2 h).mono ?_)⟩
   intro e w' hr
   cases e with
   | returned v => exact hK _ _ hr
   | panicked c => exact hr
   | outgrown => exact hr
 · refine ⟨fun e => (by cases e), ?_⟩
   intro c cs hroom
   obtain ⟨v, w', hr, hs⟩ := h c cs
   exact ⟨v, w', hK _ _ hr, stepsIn_wide.2 hs⟩
 · exact h
 · exact h.elim
theorem anyIn (hd : noDefer ops = true) (hQ : ¬ LetsOut Q) : ∀ (fuel : Nat) (listed : Array Bool) (a : Act) (w : World), wpAny P md ops Q fuel listed a w → wpAnyIn (Fence.wide.inRound l) n P md ops Q fuel listed a w
 | 0, _, _, _, h => h
 | fuel + 1, listed, a, w, h => ⟨h.1, fun i hi => by
   have h1 := h.2 i hi
   unfold wpOp at h1
   unfold wpOpIn
   cases ho : ops[i]? with
   | none => rw [ho] at h1; exact anyIn hd hQ fuel _ _ _ h1
   | some o =>
     rw [ho] at h1
     simp only at h1 ⊢
     by_cases hw : Region.wanted o (yielded ops a.tmps) = true
     · rw [if_pos hw] at h1 ⊢
       rcases h1 with h1 | ⟨_, h1⟩
       · exact opIn o a w (noDefer_spec hd ho) (fun a w hk => anyIn hd hQ fuel _ a w hk) h1
       · exact absurd h1 hQ
     · rw [if_neg hw] at h1 ⊢
       exact ⟨fun _ _ => trivial, anyIn hd hQ fuel _ _ _ h1⟩⟩
theorem listIn (hQ : ¬ LetsOut Q) : ∀ (rest : List Oper) (a : Act) (w : World), (∀ o, o ∈ rest → ∀ c, o.op ≠ .defer c) → wpList P ops Q rest a w → wpListIn (Fence.wide.inRound l) n P ops Q rest a w
 | [], _, _, _, h => h
 | o :: rest, a, w, hd, h => by
   unfold wpList at h
   unfold wpListIn
   by_cases hw : Region.wanted o (yielded ops a.tmps) = true
   · rw [if_pos hw] at h ⊢
     rcases h with h | ⟨_, h⟩
     · exact opIn o a w (hd o List.mem_cons_self) (fun a w hk => listIn hQ rest a w (fun o' ho' => hd o' (List.mem_cons_of_mem _ ho')) hk) h
     · exact absurd h hQ
   · rw [if_neg hw] at h ⊢
     exact ⟨fun _ _ => trivial, listIn hQ rest _ _ (fun o' ho' => hd o' (List.mem_cons_of_mem _ ho')) h⟩
theorem regionR_ {id : Nat} {a : Act} {w : World} (hd : noDefer ops = true) (hQ : ¬ LetsOut Q) (h : wpList P ops Q ops.toList a w) : (Code.region id ops false).wpIn (Fence.wide.inRound l) n P Q a w :=
 wpIn_region_list (listIn hQ _ _ _ (fun o ho c e => by
  have h1 := (Array.all_eq_true'.1 hd) o (Array.mem_toList_iff.1 ho)
  rw [e] at h1
  cases h1) h)
theorem startR_ {id k : Nat} {a : Act} {w : World} (L : Array Bool) (hm : P.follows .mixedOrders = true) (hn : ops.size = k) (hl : Array.replicate k false = L) (hd : noDefer ops = true) (hQ : ¬ LetsOut Q) (hS : S w.drew)
 (h : S w.drew → wpAnyLast P .any ops Q S ds k L a w.drew) : (Code.region id ops true).wpIn (Fence.wide.inRound l) n P Q a w := by
 subst hn
 subst hl
 exact wpIn_region_any hm (anyIn hd hQ _ _ _ _ (wpAny_of_last _ _ _ _ (h hS)))
end
end Go.Proofs.Ytjejhgjdmbodiaa.XRnd
end
section
namespace Go.Proofs.Ytjejhgjdmbodiaa.XRangeW
open Go Go.RowKit Go.Proofs.Ytjejhgjdmbodiaa.XRange
def Walk (A : World) (k : Nat) : Prop := ∃ m c s l, A.heap[k]? = some (.mapIter m c s l)
theorem Walk.lt {A : World} {k : Nat} (h : Walk A k) : k < A.heap.size := by obtain ⟨_, _, _, _, h⟩ := h; exact (Array.getElem?_eq_some_iff.1 h).1
theorem Walk.of_eq {A B : World} {k : Nat} (h : Walk A k) (e : B.heap[k]? = A.heap[k]?) : Walk B k := by obtain ⟨a, b, c, d, h⟩ := h; exact ⟨a, b, c, d, e.trans h⟩
theorem not_walk {A : World} {k : Nat} {o : Obj} (h : A.heap[k]? = some o) (hn : ∀ m c s l, o ≠ .mapIter m c s l) : ¬ Walk A k := by
 rintro ⟨a, b, c, d, h1⟩
 rw [h] at h1
 exact hn _ _ _ _ (Option.some.inj h1)
theorem not_walk_cells {A : World} {k : Nat} {c : Array Value} {t : TypeId} {f : Nat × Nat} (h : A.heap[k]? = some (.cells c t f)) : ¬ Walk A k := not_walk h (fun _ _ _ _ => by simp)
def Fix (T : List TypeId) (A : World) (k : Nat) : Prop := Walk A k ∨ ∃ c t f, t ∈ T ∧ A.heap[k]? = some (.cells c t f)
theorem Fix.lt {T : List TypeId} {A : World} {k : Nat} (h : Fix T A k) : k < A.heap.size := by
 rcases h with h | ⟨_, _, _, _, h⟩
 · exact h.lt
 · exact (Array.getElem?_eq_some_iff.1 h).1
theorem Fix.of_eq {T : List TypeId} {A B : World} {k : Nat} (h : Fix T A k) (e : B.heap[k]? = A.heap[k]?) : Fix T B k := by
 rcases h with h | ⟨c, t, f, ht, h⟩
 · exact .inl (h.of_eq e)
 · exact .inr ⟨c, t, f, ht, e.trans h⟩
theorem not_fix {T : List TypeId} {A : World} {k : Nat} {o : Obj} (h : A.heap[k]? = some o) (hn : ∀ m c s l, o ≠ .mapIter m c s l) (hc : ∀ c t f, t ∈ T → o ≠ .cells c t f) : ¬ Fix T A k := by
 rintro (hw | ⟨c, t, f, ht, h1⟩)
 · exact not_walk h hn hw
 · rw [h] at h1
   exact hc c t f ht (Option.some.inj h1)
theorem not_fix_cells {T : List TypeId} {A : World} {k : Nat} {c : Array Value} {t : TypeId} {f : Nat × Nat} (h : A.heap[k]? = some (.cells c t f)) (ht : t ∉ T) : ¬ Fix T A k :=
 not_fix h (fun _ _ _ _ => by simp) (fun c' t' f' ht' e => ht (by cases e; exact ht'))
structure KeepsW (n0 : Nat) (M : Nat → Prop) (A A' : World) : Prop where
 os : A'.os = A.os
 tape : A'.tape = A.tape
 output : A'.output = A.output
 size : A.heap.size ≤ A'.heap.size
 block : ∀ k, k < A.heap.size → ¬ M k → ¬ (n0 ≤ k ∧ Walk A k) → A'.heap[k]? = A.heap[k]?
theorem KeepsW.refl (n0 : Nat) (M : Nat → Prop) (A : World) : KeepsW n0 M A A := ⟨rfl, rfl, rfl, Nat.le_refl _, fun _ _ _ _ => rfl⟩
theorem KeepsW.trans {n0 : Nat} {M : Nat → Prop} {A B C : World} (h : KeepsW n0 M A B) (k : KeepsW n0 M B C) : KeepsW n0 M A C :=
 ⟨k.os.trans h.os, k.tape.trans h.tape, k.output.trans h.output, Nat.le_trans h.size k.size, fun i hi hm hw =>
  (k.block i (Nat.lt_of_lt_of_le hi h.size) hm (fun hB => hw ⟨hB.1, hB.2.of_eq (h.block i hi hm hw).symm⟩)).trans (h.block i hi hm hw)⟩
theorem KeepsW.of_keeps {n0 : Nat} {M : Nat → Prop} {A B : World} (h : Keeps M A B) : KeepsW n0 M A B := ⟨h.os, h.tape, h.output, h.size, fun k hk hm _ => h.block k hk hm⟩
theorem KeepsW.of_walk {n0 : Nat} {M : Nat → Prop} {A B : World} {r : Nat} (h : Keeps (fun k => k = r) A B) (hn : n0 ≤ r) (hr : Walk A r) : KeepsW n0 M A B :=
 ⟨h.os, h.tape, h.output, h.size, fun k hk hm hw => h.block k hk (fun e => hw ⟨e ▸ hn, e ▸ hr⟩)⟩
def AbideW {β : Type} (n0 : Nat) (M : Nat → Prop) (J : β → World → Prop) : Prop := ∀ s A A', J s A → KeepsW n0 M A A' → J s A'
theorem AbideW.keeps {β : Type} {n0 : Nat} {M : Nat → Prop} {J : β → World → Prop} (h : AbideW n0 M J) {s : β} {A A' : World} (hj : J s A) (hk : Keeps (fun _ => False) A A') : J s A' :=
 h s A A' hj ⟨hk.os, hk.tape, hk.output, hk.size, fun k hk' _ _ => hk.block k hk' (fun f => f)⟩
def KeepOnW (K : Nat → Prop) (T : List TypeId) (W W' : World) : Prop := W.heap.size ≤ W'.heap.size ∧ ∀ k, K k ∨ Fix T W k → W'.heap[k]? = W.heap[k]?
theorem KeepOnW.refl (K : Nat → Prop) (T : List TypeId) (W : World) : KeepOnW K T W W := ⟨Nat.le_refl _, fun _ _ => rfl⟩
theorem KeepOnW.trans {K : Nat → Prop} {T : List TypeId} {A B C : World} (h : KeepOnW K T A B) (k : KeepOnW K T B C) : KeepOnW K T A C :=
 ⟨Nat.le_trans h.1 k.1, fun i hi => (k.2 i (hi.imp id (fun hw => hw.of_eq (h.2 i (.inr hw))))).trans (h.2 i hi)⟩
theorem KeepOnW.of_keeps {M K : Nat → Prop} {T : List TypeId} {A B : World} (h : Keeps M A B) (hK : ∀ k, K k → k < A.heap.size ∧ ¬ M k) (hM : ∀ k, M k → ¬ Fix T A k) : KeepOnW K T A B :=
 ⟨h.size, fun k hk => by
  rcases hk with hk | hk
  · exact h.block k (hK k hk).1 (hK k hk).2
  · exact h.block k hk.lt (fun hm => hM k hm hk)⟩
def SeqW {α : Type} (n0 n : Nat) (P : Program) (g : Nat) (lb : Array Value) (encs : α → Array Value) (E : α → Prop) (K M : Nat → Prop) (T : List TypeId) (S Sp : List α → Prop) (N : Nat) (w : World) : Prop :=
 ∀ (l : Nat) (J Jx : List α → World → Prop) (W : World), Keeps (fun _ => False) w W → AbideW n0 M J → AbideW n0 M Jx →
  (∀ pre x W1, J pre W1 → pre.length < N → E x → YieldAt Fence.wide (n - 1) P l (encs x) W1 fun e W' =>
   (e = .returned (.bool true) ∧ J (pre ++ [x]) W' ∧ KeepOnW K T W1 W') ∨ (e = .returned (.bool false) ∧ Jx (pre ++ [x]) W')) →
  J [] W →
  CallsIn Fence.wide n P g (#[.func (.yield l) #[] #[]] ++ lb) W fun e W' => (∃ v, e = .returned v) ∧ ((∃ xs, S xs ∧ J xs W') ∨ (∃ pre, Sp pre ∧ Jx pre W'))
theorem SeqW.keeps {α : Type} {n0 n : Nat} {P : Program} {g : Nat} {lb : Array Value} {encs : α → Array Value} {E : α → Prop} {K M : Nat → Prop} {T : List TypeId} {S Sp : List α → Prop} {N : Nat} {w w1 : World} (h : SeqW n0 n P g lb encs E K M T S Sp N w) (hk : Keeps (fun _ => False) w w1) : SeqW n0 n P g lb encs E K M T S Sp N w1 :=
 fun l J Jx W hW => h l J Jx W (hk.trans hW)
def bodyEndW {α : Type} (K : Nat → Prop) (T : List TypeId) (l D : Nat) (I : List α → World → Prop) (Ix : Code → List α → World → Prop) (xs : List α) (W : World) : Exit → Act → World → Prop
 | .normal, _, W' => KeepOnW (fun k => k = l ∨ k = D) [] W W' ∧ KeepOnW K T W W' ∧ I xs W'
 | .ret, _, W' => KeepOnW (fun k => k = l ∨ k = D) [] W W' ∧ Ix .ret xs W'
 | .exit id, _, W' => KeepOnW (fun k => k = l ∨ k = D) [] W W' ∧ Ix (.exit id) xs W'
 | .goto t, _, W' => KeepOnW (fun k => k = l ∨ k = D) [] W W' ∧ Ix (.goto t) xs W'
 | .panic _, _, _ => False
 | .outgrown, _, _ => False
theorem range_lawW {α : Type} {n0 n : Nat} {P : Program} {g : Operand} {ps : Array Tmp} {assign body : Code} {Q : Exit → Act → World → Prop} {a : Act} {w : World}
 {gf : Nat} {lb : Array Value} (hg : a.eval g = .func (.func gf) #[] lb) (eg : ∀ args w, (callFunc gf args).run P w = .ok (.enter gf args) w)
 {encs : α → Array Value} {E : α → Prop} {K M : Nat → Prop} {T : List TypeId} {S Sp : List α → Prop} {N : Nat} (hseq : SeqW n0 (n - 1) P gf lb encs E K M T S Sp N w) (hps : ∀ x, (encs x).size = ps.size)
 (hK : ∀ k, K k → k < w.heap.size) (hM : ∀ k, M k → k < w.heap.size)
 (I : List α → World → Prop) (Ix : Code → List α → World → Prop)
 (hI : AbideW n0 M I) (hIx : ∀ c, AbideW n0 M (Ix c)) (hA : Apart w.heap.size I) (hAx : ∀ c, Apart w.heap.size (Ix c)) (h0 : I [] w)
 (hround : ∀ (pre : List α) (x : α) (W : World), I pre W → pre.length < N → E x → w.heap.size + 2 ≤ W.heap.size →
  assign.wpIn (Fence.wide.inRound (w.heap.size + 1)) (n - 1 - 1) P (Exit.then (fun a' W' => Keeps (fun _ => False) W W' ∧
   ∀ Wb, Keeps (fun k => k = w.heap.size + 1) W' Wb → I pre Wb → body.wpIn (Fence.wide.inRound (w.heap.size + 1)) (n - 1 - 1) P (bodyEndW K T (w.heap.size + 1) w.heap.size I Ix (pre ++ [x]) Wb) a' Wb) (fun _ _ _ => False))
   { tmps := (ps.zip (encs x)).foldl (fun t (p, v) => t.setIfInBounds p v) a.tmps, defers := [] } W)
 (hdone : ∀ (xs : List α) (W : World), S xs → I xs W → w.heap.size + 2 ≤ W.heap.size → W.heap[w.heap.size]? = some (.deferred (some [])) → Q .normal { a with defers := { target := .collected w.heap.size, args := #[] } :: a.defers } W)
 (hstop : ∀ (c : Code) (pre : List α) (W : World), Sp pre → Ix c pre W → w.heap.size + 2 ≤ W.heap.size → W.heap[w.heap.size]? = some (.deferred (some [])) → c.wpIn Fence.wide n P Q { a with defers := { target := .collected w.heap.size, args := #[] } :: a.defers } W) :
 (Code.rangeFunc g ps assign body).wpIn Fence.wide n P Q a w := by
 refine wpIn_rangeFunc ?_
 intro fn hfn
 obtain ⟨D, hD⟩ : ∃ D, w.heap.size = D := ⟨_, rfl⟩
 obtain ⟨rec, hrec⟩ : ∃ rec : LoopState → Option Code → Loop, rec = fun st pe => { state := st, pending := pe, fn, tmps := a.tmps, params := ps, assign, body, defers := w.heap.size } := ⟨_, rfl⟩
 obtain ⟨W1, hW1⟩ : ∃ W1, (w.alloc (.deferred (some []))).alloc (.loop (rec .ready none)) = W1 := ⟨_, rfl⟩
 have hs1 : W1.heap.size = D + 2 := by rw [← hW1, ← hD]; simp
 have hL1 : W1.heap[D + 1]? = some (.loop (rec .ready none)) := by
  rw [← hW1, ← hD]; have := World.alloc_heap_new (w.alloc (.deferred (some []))) (.loop (rec .ready none)); rwa [World.size_alloc] at this
 have hK1 : W1.heap[D]? = some (.deferred (some [])) := by
  rw [← hW1, ← hD]; exact (Below.heap_alloc _ _ _ (by simp)).trans (World.alloc_heap_new w _)
 have hk01 : Keeps (fun _ => False) w W1 := by rw [← hW1]; exact ((Keeps.refl _ w).alloc _).alloc _
 have sub : ∀ {M' : Nat → Prop} {A B : World}, Keeps (fun _ => False) A B → Keeps M' A B := fun h => ⟨h.os, h.tape, h.output, h.size, fun k hk _ => h.block k hk (fun f => f)⟩
 have fromL : ∀ {A B : World}, Keeps (fun k => k = D + 1) A B → Keeps (fun k => k = D ∨ k = D + 1) A B := fun h => ⟨h.os, h.tape, h.output, h.size, fun k hk hm => h.block k hk (fun e => hm (.inr e))⟩
 have hI1 : I [] W1 := hI.keeps h0 hk01
 rw [hD] at hA hround hdone hstop hK hM
 have hAx' : ∀ c, Apart D (Ix c) := fun c => by have := hAx c; rwa [hD] at this
 refine ⟨D + 1, [{ target := .collected D, args := #[] }], W1, { target := .fn (.func gf) lb, args := #[.func (.yield (D + 1)) #[] #[]] }, W1, gf,
  #[.func (.yield (D + 1)) #[] #[]] ++ lb, W1, ?_, ?_, ?_, ?_, (fun h => by cases h), ?_⟩
 · rw [← hW1, hrec, ← hD]; exact run_enterLoop_outer _ _ _ _ _
 · simp only [resolve, hg]
   simp [go_sem]
 · intro f' _; trivial
 · simp [invoke, go_sem, eg]
 · refine (hseq (D + 1)
    (fun pre W => I pre W ∧ D + 2 ≤ W.heap.size ∧ W.heap[D + 1]? = some (.loop (rec .ready none)) ∧ W.heap[D]? = some (.deferred (some [])))
    (fun pre W => ∃ c, Ix c pre W ∧ D + 2 ≤ W.heap.size ∧ W.heap[D + 1]? = some (.loop (rec .done (some c))) ∧ W.heap[D]? = some (.deferred (some [])))
    W1 hk01
    (fun s A A' hs hk => ⟨hI _ _ _ hs.1 hk, Nat.le_trans hs.2.1 hk.size, (hk.block _ (by have := hs.2.1; omega) (fun h => by have := hM _ h; omega) (fun h => not_walk hs.2.2.1 (by intros; simp) h.2)).trans hs.2.2.1, (hk.block _ (by have := hs.2.1; omega) (fun h => by have := hM _ h; omega) (fun h => not_walk hs.2.2.2 (by intros; simp) h.2)).trans hs.2.2.2⟩)
    (fun s A A' hs hk => by
     obtain ⟨c, hc, h2, hl, hd⟩ := hs
     exact ⟨c, hIx c _ _ _ hc hk, Nat.le_trans h2 hk.size, (hk.block _ (by omega) (fun h => by have := hM _ h; omega) (fun h => not_walk hl (by intros; simp) h.2)).trans hl, (hk.block _ (by omega) (fun h => by have := hM _ h; omega) (fun h => not_walk hd (by intros; simp) h.2)).trans hd⟩)
    ?_ ⟨hI1, by omega, hL1, hK1⟩).mono ?_
   · rintro pre x W ⟨hi, h2, hl, hd⟩ hlen hE
     have hy := run_yield (P := P) (args := encs x) hl (by rw [hrec]; exact hps x)
     rw [hrec] at hy
     refine ⟨fn, _, assign, body, hy, roundIn_of_wpIn hfn (wpIn_mono (hround pre x W hi hlen hE h2) ?_)⟩
     intro e a' W' hq
     cases e with
     | normal =>
       obtain ⟨hk0, hb⟩ := hq
       have hl' : W'.heap[D + 1]? = some (.loop (rec .ready none)) := (hk0.block _ (by omega) (fun f => f)).trans hl
       have hd' : W'.heap[D]? = some (.deferred (some [])) := (hk0.block _ (by omega) (fun f => f)).trans hd
       refine ⟨_, run_beginRound hl' (by rw [hrec]), ?_⟩
       have hkb := keeps_putObj (fun k => k = D + 1) W' (D + 1) (.loop { rec .ready none with state := .busy }) rfl
       have hlb : (W'.putObj (D + 1) (.loop { rec .ready none with state := .busy })).heap[D + 1]? = some (.loop { rec .ready none with state := .busy }) := World.putObj_heap_same (by have := hk0.size; omega)
       have hdb : (W'.putObj (D + 1) (.loop { rec .ready none with state := .busy })).heap[D]? = some (.deferred (some [])) := (World.putObj_heap_other (by omega)).trans hd'
       refine wpIn_mono (hb _ hkb (hA _ _ _ (hI.keeps hi hk0) (fromL hkb))) ?_
       generalize W'.putObj (D + 1) (.loop { rec .ready none with state := .busy }) = Wb at hkb hlb hdb
       have fin : ∀ (jump : Option Code) (W3 : World), KeepOnW (fun k => k = D + 1 ∨ k = D) [] Wb W3 →
        (Instr.endRound (D + 1) jump).run P W3 = .ok (.bool jump.isNone) (W3.putObj (D + 1) (.loop (rec (if jump.isNone then .ready else .done) jump))) ∧
        D + 2 ≤ (W3.putObj (D + 1) (.loop (rec (if jump.isNone then .ready else .done) jump))).heap.size ∧
        (W3.putObj (D + 1) (.loop (rec (if jump.isNone then .ready else .done) jump))).heap[D + 1]? = some (.loop (rec (if jump.isNone then .ready else .done) jump)) ∧
        (W3.putObj (D + 1) (.loop (rec (if jump.isNone then .ready else .done) jump))).heap[D]? = some (.deferred (some [])) := fun jump W3 hk3 => by
        have hl3 := (hk3.2 (D + 1) (.inl (.inl rfl))).trans hlb
        have hr := run_endRound (P := P) jump hl3
        rw [hrec] at hr ⊢
        refine ⟨hr, ?_, World.putObj_heap_same (Array.getElem?_eq_some_iff.1 hl3).1, (World.putObj_heap_other (by omega)).trans ((hk3.2 D (.inl (.inr rfl))).trans hdb)⟩
        have := (Array.getElem?_eq_some_iff.1 hl3).1
        simp
        omega
       have toK : ∀ {W3 : World} (o : Obj), KeepOnW K T Wb W3 → KeepOnW K T W (W3.putObj (D + 1) o) := fun o h3 => by
        refine ⟨?_, fun k hk => ?_⟩
        · have := hk0.size; have := hkb.size; have := h3.1; simp; omega
        · have hlt : k < W.heap.size ∧ k ≠ D + 1 := by
           rcases hk with hk | hk
           · have := hK k hk; exact ⟨by omega, by omega⟩
           · refine ⟨hk.lt, fun e => ?_⟩
             rw [e] at hk
             exact not_fix hl (by intros; simp) (by intros; simp) hk
          have e1 : (W'.putObj (D + 1) (.loop { rec .ready none with state := .busy })).heap[k]? = W.heap[k]? := (World.putObj_heap_other hlt.2).trans (hk0.block k hlt.1 (fun f => f))
          have e2 := hkb.block k (by have := hk0.size; omega) hlt.2
          exact (World.putObj_heap_other hlt.2).trans ((h3.2 k (hk.imp id (fun hw => hw.of_eq (e2.trans (hk0.block k hlt.1 (fun f => f)))))).trans (e2.trans (hk0.block k hlt.1 (fun f => f))))
       have kp : ∀ (W3 : World) (o : Obj), Keeps (fun k => k = D ∨ k = D + 1) W3 (W3.putObj (D + 1) o) := fun W3 o => keeps_putObj _ W3 (D + 1) o (.inr rfl)
       rintro e a3 W3 hp
       cases e with
       | normal =>
         obtain ⟨hk3, hkk, hi3⟩ := hp
         obtain ⟨hr, h5, hl4, hk4⟩ := fin none W3 hk3
         exact ⟨_, _, hr, .inl ⟨rfl, ⟨hA _ _ _ hi3 (kp _ _), h5, hl4, hk4⟩, toK _ hkk⟩⟩
       | ret =>
         obtain ⟨hk3, hi3⟩ := hp
         obtain ⟨hr, h5, hl4, hk4⟩ := fin (some .ret) W3 hk3
         exact ⟨_, _, hr, .inr ⟨rfl, .ret, hAx' _ _ _ _ hi3 (kp _ _), h5, hl4, hk4⟩⟩
       | exit id =>
         obtain ⟨hk3, hi3⟩ := hp
         obtain ⟨hr, h5, hl4, hk4⟩ := fin (some (.exit id)) W3 hk3
         exact ⟨_, _, hr, .inr ⟨rfl, .exit id, hAx' _ _ _ _ hi3 (kp _ _), h5, hl4, hk4⟩⟩
       | goto t =>
         obtain ⟨hk3, hi3⟩ := hp
         obtain ⟨hr, h5, hl4, hk4⟩ := fin (some (.goto t)) W3 hk3
         exact ⟨_, _, hr, .inr ⟨rfl, .goto t, hAx' _ _ _ _ hi3 (kp _ _), h5, hl4, hk4⟩⟩
       | panic ch => exact hp.elim
       | outgrown => exact hp.elim
     | ret => exact hq.elim
     | exit id => exact hq.elim
     | goto t => exact hq.elim
     | panic ch => exact hq.elim
     | outgrown => exact hq.elim
   · rintro e W2 ⟨⟨v, rfl⟩, (⟨xs, hS, hi, h2, hl, hd⟩ | ⟨pre, hSp, c, hi, h2, hl, hd⟩)⟩
     · refine ⟨none, _, by have := run_endLoop (P := P) hl (by rw [hrec]; simp); rw [hrec] at this; exact this, ?_⟩
       exact hdone xs _ hS (hA _ _ _ hi (keeps_putObj _ W2 (D + 1) _ (.inr rfl))) (by simp; omega) ((World.putObj_heap_other (by omega)).trans hd)
     · refine ⟨some c, _, by have := run_endLoop (P := P) hl (by rw [hrec]; simp); rw [hrec] at this; exact this, ?_⟩
       exact hstop c pre _ hSp (hAx' c _ _ _ hi (keeps_putObj _ W2 (D + 1) _ (.inr rfl))) (by simp; omega) ((World.putObj_heap_other (by omega)).trans hd)
end Go.Proofs.Ytjejhgjdmbodiaa.XRangeW
end
section
namespace Go.Proofs.Ytjejhgjdmbodiaa.XMap
open Go Go.RowKit Go.Proofs.Ytjejhgjdmbodiaa.XRange Go.Proofs.Ytjejhgjdmbodiaa.XRangeW
section
variable {κ ν : Type} {K : κ → Value} {V : ν → Value} {D : List (κ × ν)}
def leftN (w : World) (r m : Nat) : Nat := match w.heap[r]?, w.heap[m]? with
 | some (.mapIter _ _ seen _), some (.map es _) => (es.toList.filter fun e => !seen.contains e.born).length
 | _, _ => 0
theorem IterAt.left {w : World} {r m : Nat} {rem : List (κ × ν)} (h : IterAt w r m K V D rem) : leftN w r m = rem.length := by
 obtain ⟨es, clock, seen, last, hm, h1, h2, h3, h4, hr, hcl, hrem⟩ := h.at_
 have hl : es.toList.length = D.length := by have := congrArg List.length h1; simpa using this
 unfold leftN
 rw [hr, hm, hrem, List.length_map]
 show (es.toList.filter fun e => !seen.contains e.born).length = _
 have : es.toList = (es.toList.zip D).map (·.1) := by rw [List.map_fst_zip (by simpa using Nat.le_of_eq hl)]
 conv => lhs; rw [this]
 rw [List.filter_map, List.length_map]
 rfl
theorem IterAt.walk {w : World} {r m : Nat} {rem : List (κ × ν)} (h : IterAt w r m K V D rem) : Walk w r := by
 obtain ⟨es, clock, seen, last, hm, h1, h2, h3, h4, hr, _⟩ := h.at_
 exact ⟨_, _, _, _, hr⟩
theorem IterAt.step {w w' : World} {r m : Nat} {rem : List (κ × ν)} (h : IterAt w r m K V D rem) (hr : w'.heap[r]? = w.heap[r]?) (hm : w'.heap[m]? = w.heap[m]?) : IterAt w' r m K V D rem := by
 obtain ⟨⟨es, clock, seen, last, h0, h1, h2, h3, h4, h5, h6, h7⟩, hne⟩ := h
 exact ⟨⟨es, clock, seen, last, hm.trans h0, h1, h2, h3, h4, hr.trans h5, h6, h7⟩, hne⟩
theorem IterAt.map_lt {w : World} {r m : Nat} {rem : List (κ × ν)} (h : IterAt w r m K V D rem) : m < w.heap.size := by
 obtain ⟨es, clock, seen, last, h0, _⟩ := h.at_
 exact (Array.getElem?_eq_some_iff.1 h0).1
theorem perm_erase {α : Type} (l : List α) (c : Nat) (hc : c < l.length) : l.Perm (l[c] :: l.eraseIdx c) := by
 have h : l = l.take c ++ l[c] :: l.drop (c + 1) := by rw [List.getElem_cons_drop, List.take_append_drop]
 rw [List.eraseIdx_eq_take_drop_succ]
 conv => lhs; rw [h]
 exact List.perm_middle
end
end Go.Proofs.Ytjejhgjdmbodiaa.XMap
end
section
namespace Go.Proofs.Ytjejhgjdmbodiaa.XYld
open Go Go.RowKit Go.Proofs.YtjejhgjdmbodiaaW.PrintWords Go.Proofs.YtjejhgjdmbodiaaW.PrintLast Go.Proofs.Ytjejhgjdmbodiaa.XRnd
def allB : Nat → (List Bool → Bool) → Bool
 | 0, f => f []
 | k + 1, f => allB k (fun l => f (true :: l)) && allB k (fun l => f (false :: l))
theorem allB_spec : ∀ (k : Nat) (f : List Bool → Bool), allB k f = true → ∀ l : List Bool, l.length = k → f l = true
 | 0, f, h, l, hl => by
   have : l = [] := List.eq_nil_of_length_eq_zero hl
   rw [this]; exact h
 | k + 1, f, h, l, hl => by
   unfold allB at h
   rw [Bool.and_eq_true] at h
   cases l with
   | nil => cases hl
   | cons b l =>
     have hl2 : l.length = k := by simpa using hl
     cases b with
     | true => exact allB_spec k _ h.1 l hl2
     | false => exact allB_spec k _ h.2 l hl2
def clo (ops1 : Array Oper) (l : List Bool) : Bool :=
 (List.range ops1.size).all fun i => !(l.getD i false) || ((ops1[i]?).map (·.after.all fun e => !Region.binds .any e || l.getD e.on false)).getD false
def chk (ops ops1 : Array Oper) (k t : Nat) : Bool :=
 allB k (fun l => if l.all id || !(clo ops1 l) then true else
  let r := Region.ready .any ops1 l.toArray
  (r == Region.ready .any ops (l ++ List.replicate t false).toArray) && !r.isEmpty && r.all (fun i => decide (i < k) && !(l.getD i true) && clo ops1 (l.set i true))) &&
 (List.range (t + 1)).all (fun j => Region.ready .any ops (List.replicate (k + j) true ++ List.replicate (t - j) false).toArray == (if j < t then [k + j] else [])) &&
 ops1.all (fun o => o.guard.isNone) && clo ops1 (List.replicate k false)
section
variable {P : Program} {ops ops1 : Array Oper} {Q : Exit → Act → World → Prop} {n k t : Nat}
def stop (R : Act → World → Prop) : Exit → Act → World → Prop
 | .normal, a, w => R a w
 | _, _, _ => False
theorem opW {R : Act → World → Prop} (o : Oper) (a : Act) (w : World) {K K' : Act → World → Prop} (hd : ∀ c, o.op ≠ .defer c) (hK : ∀ a w, K a w → K' a w) (h : o.wp P a w K (stop R)) : o.wpIn Fence.wide n P a w K' Q := by
 refine ⟨fun _ _ => trivial, ?_⟩
 rw [Oper.semAt_eq _ _ _ hd]
 unfold Oper.wp at h
 generalize (execOp a.eval o).run P w = r at h
 unfold Oper.upon at h
 unfold Oper.uponIn
 split at h
 · exact hK _ _ h
 · exact hK _ _ h
 · exact hK _ _ h
 · refine ⟨fun e => (by cases e), (callsIn_wide.2 h).mono ?_⟩
   intro e w' hr
   cases e with
   | returned v => exact hK _ _ hr
   | panicked c => exact hr.elim
   | outgrown => obtain ⟨_, _, h⟩ := hr; exact h.elim
 · refine ⟨fun e => (by cases e), ?_⟩
   intro c cs hroom
   obtain ⟨v, w', hr, hs⟩ := h c cs
   exact ⟨v, w', hK _ _ hr, stepsIn_wide.2 hs⟩
 · exact h.elim
 · exact h.elim
theorem count_set {l : List Bool} {i : Nat} (hi : i < l.length) (h : l.getD i true = false) : (l.set i true).count false + 1 = l.count false := by
 induction l generalizing i with
 | nil => simp at hi
 | cons b l ih =>
   cases i with
   | zero =>
     have hb : b = false := by simpa using h
     subst hb
     simp
   | succ i =>
     have := ih (by simpa using hi) (by simpa using h)
     cases b <;> simp [List.count_cons, this] <;> omega
theorem all_true {l : List Bool} (h : l.count false = 0) : l = List.replicate l.length true := by
 induction l with
 | nil => rfl
 | cons b l ih =>
   cases b with
   | false => simp at h
   | true => rw [List.length_cons, List.replicate_succ, ← ih (by simpa using h)]
theorem tail_in {tail : List Oper} (hk : ops1.size = k) (ht : tail.length = t) (hops : ops.toList = ops1.toList ++ tail) (hc : chk ops ops1 k t = true) : ∀ (d j : Nat) (a : Act) (w : World), j + d = t →
 wpListIn Fence.wide n P ops Q (tail.drop j) a w → wpAnyIn Fence.wide n P .any ops Q d (List.replicate (k + j) true ++ List.replicate d false).toArray a w := by
 intro d
 unfold chk at hc
 simp only [Bool.and_eq_true, List.all_eq_true, List.mem_range] at hc
 have hr : ∀ j, j < t + 1 → Region.ready .any ops (List.replicate (k + j) true ++ List.replicate (t - j) false).toArray = (if j < t then [k + j] else []) := fun j hj => by simpa using hc.1.1.2 j hj
 induction d with
 | zero =>
   intro j a w hj h
   have h1 := hr j (by omega)
   rw [show t - j = 0 by omega, if_neg (by omega)] at h1
   rw [List.drop_eq_nil_of_le (by omega)] at h
   exact ⟨h1, h⟩
 | succ d ih =>
   intro j a w hj h
   have h1 := hr j (by omega)
   rw [show t - j = d + 1 by omega, if_pos (by omega)] at h1
   have hjt : j < tail.length := by omega
   rw [List.drop_eq_getElem_cons hjt] at h
   have hget : ops[k + j]? = some tail[j] := by
    rw [← Array.getElem?_toList, hops, List.getElem?_append_right (by simp [hk]), Array.length_toList, hk, Nat.add_sub_cancel_left, List.getElem?_eq_getElem hjt]
   refine ⟨fun e => (by rw [h1] at e; cases e), fun i hi => ?_⟩
   rw [h1, List.mem_singleton] at hi
   subst hi
   have hop : wpOpIn Fence.wide n P ops Q (k + j) (wpListIn Fence.wide n P ops Q (tail.drop (j + 1))) a w := by
    unfold wpOpIn
    rw [hget]
    exact h
   refine wpOpIn_mono (fun a' w' h' => ?_) hop
   have h2 := ih (j + 1) a' w' (by omega) h'
   have e : (List.replicate (k + j) true ++ List.replicate (d + 1) false).toArray.setIfInBounds (k + j) true = (List.replicate (k + (j + 1)) true ++ List.replicate d false).toArray := by
    rw [List.setIfInBounds_toArray, List.set_append_right _ _ (by simp), List.length_replicate, Nat.sub_self, List.replicate_succ, List.set_cons_zero, ← Nat.add_assoc, List.replicate_succ']
    simp
   rw [e]
   exact h2
theorem head_in {tail : List Oper} (hk : ops1.size = k) (ht : tail.length = t) (hops : ops.toList = ops1.toList ++ tail) (hc : chk ops ops1 k t = true) (hd : noDefer ops1 = true) : ∀ (fuel : Nat) (l : List Bool) (a : Act) (w : World), l.length = k → l.count false = fuel → clo ops1 l = true →
 wpAny P .any ops1 (stop (fun a w => wpListIn Fence.wide n P ops Q tail a w)) fuel l.toArray a w → wpAnyIn Fence.wide n P .any ops Q (fuel + t) (l ++ List.replicate t false).toArray a w := by
 intro fuel
 have hc0 := hc
 unfold chk at hc
 simp only [Bool.and_eq_true] at hc
 have hall := allB_spec _ _ hc.1.1.1
 have hg : ∀ (i : Nat) (o : Oper), ops1[i]? = some o → o.guard = none := fun i o ho => by
  have h1 := (Array.all_eq_true'.1 hc.1.2) o (Array.mem_of_getElem? ho)
  simpa using h1
 induction fuel with
 | zero =>
   intro l a w hl hcn hcl h
   have hl1 := all_true hcn
   rw [hl] at hl1
   rw [hl1, Nat.zero_add]
   exact tail_in hk ht hops hc0 t 0 a w (by omega) h.2
 | succ fuel ih =>
   intro l a w hl hcn hcl h
   have hna : l.all id = false := by
    cases hx : l.all id with
    | false => rfl
    | true =>
      exfalso
      have : l.count false = 0 := List.count_eq_zero.2 (fun hm => by have := List.all_eq_true.1 hx _ hm; simp at this)
      omega
   have hf := hall l hl
   simp only [hna, hcl, Bool.not_true, Bool.or_false, Bool.false_eq_true, if_false, Bool.and_eq_true, List.all_eq_true, beq_iff_eq, decide_eq_true_eq, Bool.not_eq_true'] at hf
   obtain ⟨⟨h1, h2⟩, h3⟩ := hf
   rw [show fuel + 1 + t = (fuel + t) + 1 by omega]
   refine ⟨fun e => ?_, fun i hi => ?_⟩
   · rw [← h1] at e
     rw [e] at h2
     cases h2
   · rw [← h1] at hi
     have hio := h.2 i hi
     obtain ⟨⟨hik, hif⟩, hcl2⟩ := h3 i hi
     have hs : ∃ o, ops1[i]? = some o := ⟨_, Array.getElem?_eq_getElem (by rw [hk]; exact hik)⟩
     obtain ⟨o, ho⟩ := hs
     have ho2 : ops[i]? = some o := by
      rw [← Array.getElem?_toList, hops, List.getElem?_append_left (by simp [hk, hik]), Array.getElem?_toList, ho]
     unfold wpOp at hio
     unfold wpOpIn
     rw [ho] at hio
     rw [ho2]
     have hw : ∀ y, Region.wanted o y = true := fun y => by unfold Region.wanted; rw [hg i o ho]
     simp only [hw, if_true] at hio ⊢
     rcases hio with hio | ⟨_, ⟨_, _, hf⟩⟩
     · refine opW o a w (noDefer_spec hd ho) (fun a' w' hk' => ?_) hio
       have e1 : l.toArray.setIfInBounds i true = (l.set i true).toArray := by simp
       have e2 : (l ++ List.replicate t false).toArray.setIfInBounds i true = (l.set i true ++ List.replicate t false).toArray := by
        rw [List.setIfInBounds_toArray, List.set_append_left _ _ (by rw [hl]; exact hik)]
       rw [e1] at hk'
       rw [e2]
       exact ih _ a' w' (by simp [hl]) (by have := count_set (l := l) (by rw [hl]; exact hik) hif; omega) hcl2 hk'
     · exact hf.elim
theorem region_yield {id : Nat} {a : Act} {w : World} (ops1 : Array Oper) (tail : List Oper) (k t : Nat) (hm : P.follows .mixedOrders = true) (hk : ops1.size = k) (ht : tail.length = t) (hops : ops.toList = ops1.toList ++ tail) (hc : chk ops ops1 k t = true) (hd : noDefer ops1 = true)
 (h : wpAny P .any ops1 (stop (fun a w => wpListIn Fence.wide n P ops Q tail a w)) k (Array.replicate k false) a w.drew) : (Code.region id ops true).wpIn Fence.wide n P Q a w := by
 refine wpIn_region_any hm ?_
 have hs : ops.size = k + t := by rw [← Array.length_toList, hops, List.length_append, Array.length_toList, hk, ht]
 have e : Array.replicate ops.size false = (List.replicate k false ++ List.replicate t false).toArray := by
  rw [hs, List.replicate_append_replicate]
  simp
 rw [e, hs]
 have hcl : clo ops1 (List.replicate k false) = true := by unfold chk at hc; simp only [Bool.and_eq_true] at hc; exact hc.2
 exact head_in hk ht hops hc hd k (List.replicate k false) a _ (by simp) (by simp) hcl (by simpa using h)
theorem region_yield' {id : Nat} {a : Act} {w : World} (k t : Nat) (S : World → Prop) (hm : P.follows .mixedOrders = true) (hk : (ops.extract 0 k).size = k) (ht : (ops.toList.drop k).length = t) (hc : chk ops (ops.extract 0 k) k t = true) (hd : noDefer (ops.extract 0 k) = true) (hS : S w.drew)
 (h : S w.drew → wpAnyLast P .any (ops.extract 0 k) (stop (fun a w => wpListIn Fence.wide n P ops Q (ops.toList.drop k) a w)) S [] k (Array.replicate k false) a w.drew) : (Code.region id ops true).wpIn Fence.wide n P Q a w :=
 region_yield (ops.extract 0 k) (ops.toList.drop k) k t hm hk ht (by rw [Array.toList_extract]; simp) hc hd (wpAny_of_last _ _ _ _ (h hS))
end
end Go.Proofs.Ytjejhgjdmbodiaa.XYld
end
