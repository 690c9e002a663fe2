/- What the rows of this claim use, out of the texts of this work (UPOx10, UPD10, UPD14, UOJ). No condition beyond those that each statement names. -/
import Derived.WalkKit
import Derived.WalkMore
import Derived.WalkSpells
import Derived.Lib.SliceRun
import Derived.Laws.RangeAny
import Derived.RangeFuncNested
import Derived.RangeFuncBound
import Derived.RangeFuncCalls
import Derived.RangeFuncLeaves
import Derived.RangeFuncKeeps
import Derived.Shelf.Abstract
import Derived.Shelf.RegionOpen
import Derived.OwnWalkIn
import Derived.TacticsInMore
import Derived.LoopNIn
import Derived.LoopIn
import Derived.Deep.RegionHeld
import Derived.Lib.ConvBytes
import Derived.Laws.IdiomRangeMap
import Derived.MapKept
import Derived.Deep.Slices
import Derived.Deep.Fields
import Derived.ChangeSame
import Derived.ProofKit
import Derived.KernelRfl
import Derived.Below
import Derived.Deep.Draws
import Derived.Deep.AppendLies
import Derived.Maps.AppendAt
import Derived.OwnWalk
import Derived.Laws.BytesArg
import Derived.Laws.MakeOwn
import Derived.Laws.OwnMore
import Derived.Deep.OwnRows
import Derived.Tactics
import Derived.Laws.Slices
import Derived.RowKit3
import Derived.Deep.LoopGhost
import Derived.Deep.QuietTactic
import Derived.BigQuiet
import Derived.WideLaws
import Derived.Deep.DeepCutAuto
import Derived.Deep.CutBlock
import Derived.Deep.RegionHeld3
import Derived.Laws.Rows
import Derived.Lib.AppendStr
import Derived.ArgAppend
import Derived.Laws.IdiomCopy
import Derived.RowKit
import Derived.OrdersHeld
import Derived.Laws.BitsLemmas
import Derived.Laws.StructEq
import Derived.Laws.CopyRow
import Derived.Laws.Tables
import Derived.Test.YtjejhgjdmbodiaaZbUPOx0
import Derived.Test.YtjejhgjdmbodiaaZbUPOx3
import Derived.Test.YtjejhgjdmbodiaaZbUOV
import Derived.Test.YtjejhgjdmbodiaaZbW
import Derived.Test.YtjejhgjdmbodiaaZbX
section
section
namespace Go.Proofs.Ytjejhgjdmbodiaa.PO
open Go.RowKit Go.Proofs.YtjejhgjdmbodiaaW.PrintWords Go.Proofs.YtjejhgjdmbodiaaW.PrintLast Go.Proofs.YtjejhgjdmbodiaaW.PrintMore
attribute [local go_sem] max2_int min2_int max_two min_two max_three min_three max_four min_four   -- for this text's walks alone
set_option linter.unusedVariables false
set_option linter.unusedSimpArgs false
end Go.Proofs.Ytjejhgjdmbodiaa.PO
end
section
namespace Go.Proofs.Ytjejhgjdmbodiaa.PO
open Go.RowKit Go.Proofs.YtjejhgjdmbodiaaW.PrintWords Go.Proofs.YtjejhgjdmbodiaaW.PrintLast Go.Proofs.YtjejhgjdmbodiaaW.PrintMore
attribute [local go_sem] max2_int min2_int max_two min_two max_three min_three max_four min_four   -- for this text's walks alone
set_option linter.unusedVariables false
set_option linter.unusedSimpArgs false
attribute [local go_sem high] eqA34
def pannierref07_Same.l0 : Nat → List (S72) → List (S72) → Int → Option (Bool)
 | 0, _, _, _ => none
 | k + 1, x0, x1, x5 => if x5 < (x0.length : Int) then (if 0 ≤ x5 then (if x5 < (x1.length : Int) then (if (!((((rd_T72 x0 x5).f0).toList) == (((rd_T72 x1 x5).f0).toList)) || (!(((rd_T72 x0 x5).f1) == ((rd_T72 x1 x5).f1)))) = true then (some false) else (pannierref07_Same.l0 k x0 x1 (wrap64 (x5 + 1)))) else (none)) else (none)) else (some true)
def pannierref07_Same.f (k : Nat) (l0 : List (S72)) (l1 : List (S72)) : Option (Bool) := if (l0.length : Int) = (l1.length : Int) then (pannierref07_Same.l0 k l0 l1 0) else (some false)
set_option maxHeartbeats 8000000 in
set_option maxRecDepth 100000 in
theorem pannierref07_Same.calls (k : Nat) (A0 : Option Addr) (c0 : Nat) (l0 : List (S72)) (A1 : Option Addr) (c1 : Nat) (l1 : List (S72)) (r : Bool) (w : World) (hr0 : Kd.C k72 w A0 l0.length l0) (hc0 : l0.length ≤ c0) (hr1 : Kd.C k72 w A1 l1.length l1) (hc1 : l1.length ≤ c1) (h : pannierref07_Same.f k l0 l1 = some r) :
 Calls Try.prog 45 #[.slice A0 l0.length c0, .slice A1 l1.length c1] w fun e w' => e = .returned (.bool r) ∧ Drawn0 w w' := by
 have hu34 := Try.underlying72
 have HR0 := Aside0.mk hr0
 have HC0 := Aside0.mk hc0
 clear hr0 hc0
 have HR1 := Aside0.mk hr1
 have HC1 := Aside0.mk hc1
 clear hr1 hc1
 have H : (if (l0.length : Int) = (l1.length : Int) then (pannierref07_Same.l0 k l0 l1 0) else (some false)) = some r := h
 clear h
 by_cases c3 : (l0.length : Int) = (l1.length : Int)
 · rw [if_pos c3] at H
   have c3b0 : ((l0.length : Int) == (l1.length : Int)) = true := beq_iff_eq.mpr c3
   have c3b1 : ((l0.length : Int) != (l1.length : Int)) = false := bne_eq_false_iff_eq.mpr c3
   have c3b2 : (l0.length == l1.length) = true := by first | simpa using c3 | (simp at c3 ⊢; omega)
   clear c3
   have H' := Aside0.mk H
   clear H
   go_enter Try.func45, Try.ntmps45
   go_wp2
   repeat (go_quiet (fail); try go_wp2)
   go_loopg [5] k (fun kq v5 w' => ∃ (x5_1 : Int), v5 = .int .i64 x5_1 ∧ Aside0 (pannierref07_Same.l0 kq l0 l1 x5_1 = some r) ∧ Aside0 (kq ≤ k) ∧ Drawn0 w w')
   case atStart => exact ⟨(0), (by first | rfl | (simp; done) | (simp [*]; done)), H', ⟨Nat.le_refl _⟩, by repeat (first | exact Drawn0.refl _ | apply Drawn0.step)⟩
   case round =>
    clear H'
    try clear c1
    try clear c2
    try clear p2
    try clear c3
    try clear c3b0
    try clear c3b1
    try clear c3b2
    obtain ⟨x5_1, rfl, HA, HK1, ⟨m1, rfl⟩⟩ := hrel
    cases gk with
    | zero => exact absurd HA.out (by simp [pannierref07_Same.l0])
    | succ k1 =>
     have H := HA.out
     clear HA
     simp only [pannierref07_Same.l0] at H
     by_cases c4 : x5_1 < (l0.length : Int)
     · rw [if_pos c4] at H
       have c4b0 : decide (x5_1 < (l0.length : Int)) = true := decide_eq_true c4
       clear c4
       by_cases c5 : 0 ≤ x5_1
       · rw [if_pos c5] at H
         have c5b0 : decide (0 ≤ x5_1) = true := decide_eq_true c5
         clear c5
         by_cases c6 : x5_1 < (l1.length : Int)
         · rw [if_pos c6] at H
           have c6b0 : decide (x5_1 < (l1.length : Int)) = true := decide_eq_true c6
           clear c6
           by_cases c7 : (!((((rd_T72 l0 x5_1).f0).toList) == (((rd_T72 l1 x5_1).f0).toList)) || (!(((rd_T72 l0 x5_1).f1) == ((rd_T72 l1 x5_1).f1)))) = true
           · rw [if_pos c7] at H
             have c7b0 : (!((((rd_T72 l0 x5_1).f0).toList) == (((rd_T72 l1 x5_1).f0).toList)) || (!(((rd_T72 l0 x5_1).f1) == ((rd_T72 l1 x5_1).f1)))) = true := c7
             clear c7
             obtain rfl := Option.some.inj H
             have p178 : 0 ≤ (x5_1 : Int) := of_decide_eq_true (by first | (with_reducible assumption) | assumption)
             have q178 : x5_1 < (l0.length : Int) := of_decide_eq_true (by first | (with_reducible assumption) | assumption)
             obtain ⟨ad178, e178, hx178_0, hx178_1⟩ := at_T72 HR0.out x5_1 p178 q178
             cases e178
             replace p178 := eq_true p178
             replace q178 := eq_true q178
             have p179 : 0 ≤ (x5_1 : Int) := of_decide_eq_true (by first | (with_reducible assumption) | assumption)
             have q179 : x5_1 < (l1.length : Int) := of_decide_eq_true (by first | (with_reducible assumption) | assumption)
             obtain ⟨ad179, e179, hx179_0, hx179_1⟩ := at_T72 HR1.out x5_1 p179 q179
             cases e179
             replace p179 := eq_true p179
             replace q179 := eq_true q179
             go_wp2
             repeat (go_quiet (fail); try go_wp2)
             go_ret
             exact ⟨by first | rfl | (simp; done) | (simp [*]; done), by repeat (first | exact Drawn0.refl _ | apply Drawn0.step)⟩
           · rw [if_neg c7] at H
             have c7b0 : (!((((rd_T72 l0 x5_1).f0).toList) == (((rd_T72 l1 x5_1).f0).toList)) || (!(((rd_T72 l0 x5_1).f1) == ((rd_T72 l1 x5_1).f1)))) = false := by simpa using c7
             clear c7
             have H' := Aside0.mk H
             clear H
             have p178 : 0 ≤ (x5_1 : Int) := of_decide_eq_true (by first | (with_reducible assumption) | assumption)
             have q178 : x5_1 < (l0.length : Int) := of_decide_eq_true (by first | (with_reducible assumption) | assumption)
             obtain ⟨ad178, e178, hx178_0, hx178_1⟩ := at_T72 HR0.out x5_1 p178 q178
             cases e178
             replace p178 := eq_true p178
             replace q178 := eq_true q178
             have p179 : 0 ≤ (x5_1 : Int) := of_decide_eq_true (by first | (with_reducible assumption) | assumption)
             have q179 : x5_1 < (l1.length : Int) := of_decide_eq_true (by first | (with_reducible assumption) | assumption)
             obtain ⟨ad179, e179, hx179_0, hx179_1⟩ := at_T72 HR1.out x5_1 p179 q179
             cases e179
             replace p179 := eq_true p179
             replace q179 := eq_true q179
             go_wp2
             repeat (go_quiet (fail); try go_wp2)
             go_roundg k1
             case measure => have := HK1.out; omega
             case rel => exact ⟨(wrap64 (x5_1 + 1)), (by first | rfl | (simp; done) | (simp [*]; done)), H', ⟨by have := HK1.out; omega⟩, by repeat (first | exact Drawn0.refl _ | apply Drawn0.step)⟩
         · rw [if_neg c6] at H
           exact absurd H (by simp)
       · rw [if_neg c5] at H
         exact absurd H (by simp)
     · rw [if_neg c4] at H
       have c4b0 : decide (x5_1 < (l0.length : Int)) = false := decide_eq_false c4
       clear c4
       obtain rfl := Option.some.inj H
       go_wp2
       repeat (go_quiet (fail); try go_wp2)
       go_ret
       exact ⟨by first | rfl | (simp; done) | (simp [*]; done), by repeat (first | exact Drawn0.refl _ | apply Drawn0.step)⟩
 · rw [if_neg c3] at H
   have c3b0 : ((l0.length : Int) == (l1.length : Int)) = false := beq_eq_false_iff_ne.mpr c3
   have c3b1 : ((l0.length : Int) != (l1.length : Int)) = true := bne_iff_ne.mpr c3
   have c3b2 : (l0.length == l1.length) = false := by first | simpa using c3 | (simp at c3 ⊢; omega)
   obtain rfl := Option.some.inj H
   go_enter Try.func45, Try.ntmps45
   go_wp2
   repeat (go_quiet (fail); try go_wp2)
   go_ret
   exact ⟨by first | rfl | (simp; done) | (simp [*]; done), by repeat (first | exact Drawn0.refl _ | apply Drawn0.step)⟩
end Go.Proofs.Ytjejhgjdmbodiaa.PO
end
section
namespace Go.Proofs.Ytjejhgjdmbodiaa.PO
open Go.RowKit Go.Proofs.YtjejhgjdmbodiaaW.PrintWords Go.Proofs.YtjejhgjdmbodiaaW.PrintLast Go.Proofs.YtjejhgjdmbodiaaW.PrintMore Go.Proofs.Ytjejhgjdmbodiaa.XW
set_option linter.unusedVariables false
set_option linter.unusedSimpArgs false
section
end
end Go.Proofs.Ytjejhgjdmbodiaa.PO
end
section
namespace Go.Proofs.Ytjejhgjdmbodiaa.PO
open Go.RowKit Go.Proofs.YtjejhgjdmbodiaaW.PrintWords Go.Proofs.YtjejhgjdmbodiaaW.PrintLast Go.Proofs.YtjejhgjdmbodiaaW.PrintMore Go.Proofs.Ytjejhgjdmbodiaa.XW
set_option linter.unusedVariables false
set_option linter.unusedSimpArgs false
structure AP where
 L : List S74
 K : List S72
 Q : List S74
end Go.Proofs.Ytjejhgjdmbodiaa.PO
end
section
namespace Go.Proofs.Ytjejhgjdmbodiaa.PO
open Go.RowKit Go.Proofs.YtjejhgjdmbodiaaW.PrintWords Go.Proofs.YtjejhgjdmbodiaaW.PrintLast Go.Proofs.YtjejhgjdmbodiaaW.PrintMore Go.Proofs.Ytjejhgjdmbodiaa.XW
set_option linter.unusedVariables false
set_option linter.unusedSimpArgs false
theorem inj_l (x y : ByteArray) : (x.toList = y.toList) ↔ x = y := ⟨bytes_inj, fun h => by rw [h]⟩
theorem inj_b (x y : ByteArray) : (x.toList == y.toList) = decide (x = y) := by rw [Bool.eq_iff_iff]; simp [inj_l]
theorem refSame_l0 (a b : List S72) (hl : a.length = b.length) (ha : a.length ≤ 9223372036854775807) : ∀ (k i : Nat), i ≤ a.length → a.length - i < k →
 pannierref07_Same.l0 k a b (i : Int) = some (decide (a.drop i = b.drop i))
 | 0, i, _, h => by omega
 | k + 1, i, hi, h => by
   unfold pannierref07_Same.l0
   by_cases hlt : i < a.length
   · rw [if_pos (by omega), if_pos (by omega), if_pos (by omega), rd_drop a i hlt, rd_drop b i (by omega)]
     have ih := refSame_l0 a b hl ha k (i + 1) (by omega) (by omega)
     rw [wrap_succ hlt ha, ih]
     obtain ⟨x0, x1⟩ := rd_T72 a i
     obtain ⟨y0, y1⟩ := rd_T72 b i
     simp only [inj_b]
     by_cases e0 : x0 = y0
     · by_cases e1 : x1 = y1
       · subst e0; subst e1; simp
       · simp [e1]
     · simp [e0]
   · rw [if_neg (by omega), List.drop_eq_nil_of_le (by omega), List.drop_eq_nil_of_le (by omega)]
     simp
theorem refSame_f (a b : List S72) (ha : a.length ≤ 9223372036854775807) (k : Nat) (hk : a.length < k) : pannierref07_Same.f k a b = some (decide (a = b)) := by
 unfold pannierref07_Same.f
 by_cases hl : a.length = b.length
 · have := refSame_l0 a b hl ha k 0 (by omega) (by omega)
   rw [if_pos (by omega), show (0 : Int) = ((0 : Nat) : Int) from rfl, this]; simp
 · rw [if_neg (by omega)]
   have : ¬ a = b := fun h => hl (by rw [h])
   simp [this]
end Go.Proofs.Ytjejhgjdmbodiaa.PO
end
section
namespace Go.Proofs.Ytjejhgjdmbodiaa.PO
open Go.RowKit Go.Proofs.YtjejhgjdmbodiaaW.PrintWords Go.Proofs.YtjejhgjdmbodiaaW.PrintLast Go.Proofs.YtjejhgjdmbodiaaW.PrintMore Go.Proofs.Ytjejhgjdmbodiaa.XW
set_option linter.unusedVariables false
set_option linter.unusedSimpArgs false
end Go.Proofs.Ytjejhgjdmbodiaa.PO
end
section
namespace Go.Proofs.Ytjejhgjdmbodiaa.PO
open Go.RowKit Go.Proofs.YtjejhgjdmbodiaaW.PrintWords Go.Proofs.YtjejhgjdmbodiaaW.PrintLast Go.Proofs.YtjejhgjdmbodiaaW.PrintMore
attribute [local go_sem] max2_int min2_int max_two min_two max_three min_three max_four min_four   -- for this text's walks alone
set_option linter.unusedVariables false
set_option linter.unusedSimpArgs false
section
variable {P : Program}
section
set_option maxHeartbeats 4000000
set_option maxRecDepth 100000
end
end
end Go.Proofs.Ytjejhgjdmbodiaa.PO
end
end
section
namespace Go.Proofs.Ytjejhgjdmbodiaa.PO
open Go.Proofs.Ytjejhgjdmbodiaa
open Go.RowKit Go.Proofs.YtjejhgjdmbodiaaW.PrintWords Go.Proofs.YtjejhgjdmbodiaaW.PrintLast Go.Proofs.YtjejhgjdmbodiaaW.PrintMore
attribute [local go_sem] max2_int min2_int max_two min_two max_three min_three max_four min_four   -- for this text's walks alone
set_option linter.unusedVariables false
set_option linter.unusedSimpArgs false
def order_layDot.T1 : Bool × List (List Nat × List Nat) := (true, [([], []), ([], []), ([1], [1]), ([0, 2], [0, 2]), ([], []), ([4], [4]), ([5], [5]), ([3, 6, 3], [3, 6]), ([7, 7, 0, 1, 2, 3, 4, 5, 6, 7], [7])])
def order_layDot.B1 : List Nat := [0, 0, 2, 7, 0, 16, 48, 127, 255]
theorem order_layDot.bits1 : waitsOk order_layDot.T1.2 order_layDot.B1 = true := by kernel_rfl
end Go.Proofs.Ytjejhgjdmbodiaa.PO
end
section
section
namespace Go.Proofs.Ytjejhgjdmbodiaa.PO
open Go.Proofs.Ytjejhgjdmbodiaa
open Go.RowKit Go.Proofs.YtjejhgjdmbodiaaW.PrintWords Go.Proofs.YtjejhgjdmbodiaaW.PrintLast Go.Proofs.YtjejhgjdmbodiaaW.PrintMore
attribute [local go_sem] max2_int min2_int max_two min_two max_three min_three max_four min_four   -- for this text's walks alone
set_option linter.unusedVariables false
set_option linter.unusedSimpArgs false
end Go.Proofs.Ytjejhgjdmbodiaa.PO
end
section
namespace Go.Proofs.Ytjejhgjdmbodiaa.PO
open Go.Proofs.Ytjejhgjdmbodiaa
open Go.RowKit Go.Proofs.YtjejhgjdmbodiaaW.PrintWords Go.Proofs.YtjejhgjdmbodiaaW.PrintLast Go.Proofs.YtjejhgjdmbodiaaW.PrintMore
attribute [local go_sem] max2_int min2_int max_two min_two max_three min_three max_four min_four   -- for this text's walks alone
set_option linter.unusedVariables false
set_option linter.unusedSimpArgs false
def pannierref08_dot.T1 : Bool × List (List Nat × List Nat) := (true, [([], []), ([], []), ([1], [1]), ([0, 2], [0, 2]), ([], []), ([4], [4]), ([5], [5]), ([3, 6, 3], [3, 6]), ([7, 7, 0, 1, 2, 3, 4, 5, 6, 7], [7])])
def pannierref08_dot.B1 : List Nat := [0, 0, 2, 7, 0, 16, 48, 127, 255]
theorem pannierref08_dot.bits1 : waitsOk pannierref08_dot.T1.2 pannierref08_dot.B1 = true := by kernel_rfl
end Go.Proofs.Ytjejhgjdmbodiaa.PO
end
section
namespace Go.Proofs.Ytjejhgjdmbodiaa.PO
open Go.Proofs.Ytjejhgjdmbodiaa
open Go.RowKit Go.Proofs.YtjejhgjdmbodiaaW.PrintWords Go.Proofs.YtjejhgjdmbodiaaW.PrintLast Go.Proofs.YtjejhgjdmbodiaaW.PrintMore
attribute [local go_sem] max2_int min2_int max_two min_two max_three min_three max_four min_four   -- for this text's walks alone
set_option linter.unusedVariables false
set_option linter.unusedSimpArgs false
end Go.Proofs.Ytjejhgjdmbodiaa.PO
end
end
section
section
namespace Go.Proofs.Ytjejhgjdmbodiaa.PO
open Go.RowKit Go.Proofs.YtjejhgjdmbodiaaW.PrintWords Go.Proofs.YtjejhgjdmbodiaaW.PrintLast Go.Proofs.YtjejhgjdmbodiaaW.PrintMore Go.Proofs.Ytjejhgjdmbodiaa.XW
set_option linter.unusedVariables false
set_option linter.unusedSimpArgs false
theorem w_id {u : Int} (h : -9223372036854775808 ≤ u ∧ u ≤ 9223372036854775807) : wrap64 u = u := by unfold wrap64; omega
def bitV (x : Int) (k : Nat) : Bool := decide (Go.bits .and .u8 (shr .u8 x (7 - (k : Int))) 1 = 1)
def rl (x : Int) : Nat → Nat → Nat
 | 0, k => k
 | f + 1, k => if bitV x k = true then rl x f (k + 1) else k
def lo (x : Int) : Nat := rl x 8 0
end Go.Proofs.Ytjejhgjdmbodiaa.PO
end
section
namespace Go.Proofs.Ytjejhgjdmbodiaa.PO
open Go.RowKit Go.Proofs.YtjejhgjdmbodiaaW.PrintWords Go.Proofs.YtjejhgjdmbodiaaW.PrintLast Go.Proofs.YtjejhgjdmbodiaaW.PrintMore
open Go.Proofs.Ytjejhgjdmbodiaa.XRange
set_option linter.unusedVariables false
set_option linter.unusedSimpArgs false
section
structure RdAt (T : Nat) (w : World) (g : Nat) (A : Option Addr) (c : Nat) (l : List Int) (at_ : Int) (flag : Bool) : Prop where
 blk : w.heap[g]? = some (.cells #[.slice A l.length c, .int .i64 at_, .bool flag] T (0, 0))
 le : l.length ≤ c
 foot : Kd.F (Kd.int .u8) w (fun k => k ≠ g) A l.length l
theorem RdAt.keep {T : Nat} {w w' : World} {g : Nat} {A : Option Addr} {c : Nat} {l : List Int} {at_ : Int} {flag : Bool} (h : RdAt T w g A c l at_ flag) (hk : Keeps (fun _ => False) w w') : RdAt T w' g A c l at_ flag :=
 ⟨(hk.block g (blk_lt h.blk) (fun f => f)).trans h.blk, h.le, Kd.F_step h.foot (fun k _ hlt => hk.block k hlt (fun f => f))⟩
theorem RdAt.put {T : Nat} {w : World} {g : Nat} {A : Option Addr} {c : Nat} {l : List Int} {at_ : Int} {flag : Bool} (h : RdAt T w g A c l at_ flag) (a' : Int) : RdAt T (w.setCell ⟨g, 1, none⟩ (.int .i64 a')) g A c l a' flag :=
 ⟨blk_set h.blk 1 _, h.le, Kd.F_far h.foot (fun _ hk => hk) _⟩
theorem RdAt.flag {T : Nat} {w : World} {g : Nat} {A : Option Addr} {c : Nat} {l : List Int} {at_ : Int} {flag : Bool} (h : RdAt T w g A c l at_ flag) (b' : Bool) : RdAt T (w.setCell ⟨g, 2, none⟩ (.bool b')) g A c l at_ b' :=
 ⟨blk_set h.blk 2 _, h.le, Kd.F_far h.foot (fun _ hk => hk) _⟩
end
end Go.Proofs.Ytjejhgjdmbodiaa.PO
end
section
namespace Go.Proofs.Ytjejhgjdmbodiaa.PO
open Go.RowKit Go.Proofs.YtjejhgjdmbodiaaW.PrintWords Go.Proofs.YtjejhgjdmbodiaaW.PrintLast Go.Proofs.YtjejhgjdmbodiaaW.PrintMore Go.Proofs.Ytjejhgjdmbodiaa.XW
set_option linter.unusedVariables false
set_option linter.unusedSimpArgs false
def fine32 (l : List S72) : Prop := ∀ x, x ∈ l → x.f0.size ≤ 32 ∧ 0 ≤ x.f1 ∧ x.f1 ≤ 4611686018427387904
theorem dotOk_32 {d : S72} (h : dotOk d = true) : d.f0.size ≤ 24 ∧ 1 ≤ d.f1 ∧ d.f1 ≤ 4611686018427387904 := by
 simp only [dotOk, isNameB, Bool.and_eq_true, decide_eq_true_eq] at h
 omega
theorem seenS_fine (deps : List S72) : ∀ (l : List S72) (p : Option S72), seenS deps p l = true → fine32 l
 | [], p, _ => fun x hx => by cases hx
 | y :: l, p, h => fun x hx => by
   have h' : hasS deps y.f0 y.f1 = true ∧ seenS deps (some y) l = true := by
    unfold seenS at h
    simp only [Bool.and_eq_true] at h
    exact ⟨h.1.1, h.2⟩
   rcases List.mem_cons.1 hx with rfl | hx
   · have h1 := h'.1
     unfold hasS at h1
     simp only [Bool.and_eq_true] at h1
     have h3 : x.f0.size ≤ 24 ∧ 1 ≤ x.f1 ∧ x.f1 ≤ 4611686018427387904 := dotOk_32 h1.1.2
     omega
   · exact seenS_fine deps l (some y) h'.2 x hx
theorem rightO_all {o : S74} (h : rightO o = true) : dotOk o.f0 = true ∧ rightS o.f1 = true ∧ o.f2.size ≤ 32 ∧ o.f4.size ≤ 32 ∧ o.f6.length ≤ 128 ∧ fine32 o.f6 ∧ (1 ≤ o.f3 ∧ o.f3 ≤ 3) ∧ 0 ≤ o.f5 ∧ o.f5 ≤ 9999 := by
 unfold rightO at h
 simp only [Bool.and_eq_true, decide_eq_true_eq] at h
 obtain ⟨⟨⟨⟨⟨⟨⟨h1, h2⟩, h3⟩, h4⟩, h5⟩, h6⟩, h7⟩, h8⟩ := h
 refine ⟨h1, h2, h4.2, h5.2, h6, seenS_fine _ _ _ h7, ?_⟩
 unfold kindS at h8
 by_cases q1 : o.f3 = 1
 · rw [if_pos q1] at h8
   simp only [Bool.and_eq_true, decide_eq_true_eq] at h8
   omega
 · rw [if_neg q1] at h8
   by_cases q2 : o.f3 = 2
   · rw [if_pos q2] at h8
     simp only [Bool.and_eq_true, decide_eq_true_eq] at h8
     omega
   · rw [if_neg q2] at h8
     simp only [Bool.and_eq_true, decide_eq_true_eq] at h8
     omega
end Go.Proofs.Ytjejhgjdmbodiaa.PO
end
section
namespace Go.Proofs.Ytjejhgjdmbodiaa.PO
open Go.RowKit Go.Proofs.YtjejhgjdmbodiaaW.PrintWords Go.Proofs.YtjejhgjdmbodiaaW.PrintLast Go.Proofs.YtjejhgjdmbodiaaW.PrintMore
open Go.Proofs.Ytjejhgjdmbodiaa.XRange Go.Proofs.Ytjejhgjdmbodiaa.XMap
set_option linter.unusedVariables false
set_option linter.unusedSimpArgs false
section
variable {P : Program} {md : Region.Mode} {ops : Array Oper} {Q : Exit → Act → World → Prop} {S : World → Prop} {ds : List Nat}
theorem oneL {i : Nat} {oi : Oper} {fuel : Nat} {l : Array Bool} {a : Act} {w : World} (N : Option Tmp) (hi : ops[i]? = some oi) (hN : oi.dst = N) (hc : (Region.ready md ops l == [i]) = true) (hd : i ∉ ds)
 (h : ∀ K : Act → World → Prop, Shut (∀ a' w', S w' → (S w' → wpAnyLast P md ops Q S ds fuel (l.setIfInBounds i true) a' w') → K a' w') → if Region.wanted oi (yielded ops a.tmps) = true then Oper.wp P oi a w K Q else K (a.put N undef) w) :
 wpAnyLast P md ops Q S ds (fuel + 1) l a w := one_ _ hi hN (by simp only [readyB, hc, Bool.true_and, beq_self_eq_true]) hd h
end
theorem info74 : (Try.prog.info? 74).map (fun i => (i.zero, i.size, i.bytes)) = some (some (.agg #[(.string ⟨#[]⟩), (.int .i64 0), .slice none 0 0, (.string ⟨#[]⟩), (.int .i64 0), (.string ⟨#[]⟩), (.int .i64 0), .slice none 0 0]), 8, 120) := by kernel_rfl
theorem keeps_grown {w w1 : World} {row : Option Nat} (h : w.grownBy w1 row) : Keeps (fun k => some k = row) w w1 := ⟨h.os, h.tape, h.output, h.size, fun k hk hne => h.block k hk hne⟩
theorem keeps_weak {M M' : Nat → Prop} {A B : World} (h : Keeps M A B) (hm : ∀ k, M k → M' k) : Keeps M' A B := ⟨h.os, h.tape, h.output, h.size, fun k hk hne => h.block k hk (fun e => hne (hm k e))⟩
section
variable {G : Nat → Prop} {w w1 : World} {base g : Nat} {vl vk vw : Value} {m : Nat} {L : List S74} {K : List S72} {Q : List S74} {D : List (S72 × (S74 × List Value))}
end
end Go.Proofs.Ytjejhgjdmbodiaa.PO
end
section
namespace Go.Proofs.Ytjejhgjdmbodiaa.PO
open Go.RowKit Go.Proofs.YtjejhgjdmbodiaaW.PrintWords Go.Proofs.YtjejhgjdmbodiaaW.PrintLast Go.Proofs.YtjejhgjdmbodiaaW.PrintMore
open Go.Proofs.Ytjejhgjdmbodiaa.XRange Go.Proofs.Ytjejhgjdmbodiaa.XMap
set_option linter.unusedVariables false
set_option linter.unusedSimpArgs false
end Go.Proofs.Ytjejhgjdmbodiaa.PO
end
end
