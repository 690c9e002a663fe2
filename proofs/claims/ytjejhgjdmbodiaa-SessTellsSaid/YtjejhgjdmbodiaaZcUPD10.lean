/- What the rows of this claim use, out of the texts of this work (UPD10, UPD14, UOJ). No condition beyond those that each statement names. -/
import Derived.WalkKit
import Derived.WalkMore
import Derived.WalkSpells
import Derived.Lib.SliceRun
import Derived.Laws.RangeAny
import Derived.RangeFuncNested
import Derived.RangeFuncBound
import Derived.RangeFuncCalls
import Derived.RangeFuncLeaves
import Derived.RangeFuncKeeps
import Derived.Shelf.Abstract
import Derived.Shelf.RegionOpen
import Derived.OwnWalkIn
import Derived.TacticsInMore
import Derived.LoopNIn
import Derived.LoopIn
import Derived.Deep.RegionHeld
import Derived.Lib.ConvBytes
import Derived.Laws.IdiomRangeMap
import Derived.MapKept
import Derived.Deep.Slices
import Derived.Deep.Fields
import Derived.ChangeSame
import Derived.ProofKit
import Derived.KernelRfl
import Derived.Below
import Derived.Deep.Draws
import Derived.Deep.AppendLies
import Derived.Maps.AppendAt
import Derived.OwnWalk
import Derived.Laws.BytesArg
import Derived.Laws.MakeOwn
import Derived.Laws.OwnMore
import Derived.Deep.OwnRows
import Derived.Tactics
import Derived.Laws.Slices
import Derived.RowKit3
import Derived.Deep.LoopGhost
import Derived.Deep.QuietTactic
import Derived.BigQuiet
import Derived.WideLaws
import Derived.Deep.DeepCutAuto
import Derived.Deep.CutBlock
import Derived.Deep.RegionHeld3
import Derived.Laws.Rows
import Derived.Lib.AppendStr
import Derived.ArgAppend
import Derived.Laws.IdiomCopy
import Derived.RowKit
import Derived.OrdersHeld
import Derived.Laws.BitsLemmas
import Derived.Laws.StructEq
import Derived.Laws.CopyRow
import Derived.Laws.Tables
import Derived.Test.YtjejhgjdmbodiaaZcW
import Derived.Test.YtjejhgjdmbodiaaZcX
import Derived.Test.YtjejhgjdmbodiaaZcUPOx0
import Derived.Test.YtjejhgjdmbodiaaZcUOV
import Derived.Test.YtjejhgjdmbodiaaZcUPOx10
import Derived.Test.YtjejhgjdmbodiaaZcUPOx3
section
namespace Go.Proofs.Ytjejhgjdmbodiaa.PO
open Go.Proofs.Ytjejhgjdmbodiaa
open Go.RowKit Go.Proofs.YtjejhgjdmbodiaaW.PrintWords Go.Proofs.YtjejhgjdmbodiaaW.PrintLast Go.Proofs.YtjejhgjdmbodiaaW.PrintMore
attribute [local go_sem] max2_int min2_int max_two min_two max_three min_three max_four min_four   -- for this text's walks alone
set_option linter.unusedVariables false
set_option linter.unusedSimpArgs false
def order_layDot.T1 : Bool × List (List Nat × List Nat) := (true, [([], []), ([], []), ([1], [1]), ([0, 2], [0, 2]), ([], []), ([4], [4]), ([5], [5]), ([3, 6, 3], [3, 6]), ([7, 7, 0, 1, 2, 3, 4, 5, 6, 7], [7])])
def order_layDot.B1 : List Nat := [0, 0, 2, 7, 0, 16, 48, 127, 255]
theorem order_layDot.bits1 : waitsOk order_layDot.T1.2 order_layDot.B1 = true := by kernel_rfl
end Go.Proofs.Ytjejhgjdmbodiaa.PO
end
section
section
namespace Go.Proofs.Ytjejhgjdmbodiaa.PO
open Go.Proofs.Ytjejhgjdmbodiaa
open Go.RowKit Go.Proofs.YtjejhgjdmbodiaaW.PrintWords Go.Proofs.YtjejhgjdmbodiaaW.PrintLast Go.Proofs.YtjejhgjdmbodiaaW.PrintMore
attribute [local go_sem] max2_int min2_int max_two min_two max_three min_three max_four min_four   -- for this text's walks alone
set_option linter.unusedVariables false
set_option linter.unusedSimpArgs false
end Go.Proofs.Ytjejhgjdmbodiaa.PO
end
section
namespace Go.Proofs.Ytjejhgjdmbodiaa.PO
open Go.Proofs.Ytjejhgjdmbodiaa
open Go.RowKit Go.Proofs.YtjejhgjdmbodiaaW.PrintWords Go.Proofs.YtjejhgjdmbodiaaW.PrintLast Go.Proofs.YtjejhgjdmbodiaaW.PrintMore
attribute [local go_sem] max2_int min2_int max_two min_two max_three min_three max_four min_four   -- for this text's walks alone
set_option linter.unusedVariables false
set_option linter.unusedSimpArgs false
def pannierref08_dot.T1 : Bool × List (List Nat × List Nat) := (true, [([], []), ([], []), ([1], [1]), ([0, 2], [0, 2]), ([], []), ([4], [4]), ([5], [5]), ([3, 6, 3], [3, 6]), ([7, 7, 0, 1, 2, 3, 4, 5, 6, 7], [7])])
def pannierref08_dot.B1 : List Nat := [0, 0, 2, 7, 0, 16, 48, 127, 255]
theorem pannierref08_dot.bits1 : waitsOk pannierref08_dot.T1.2 pannierref08_dot.B1 = true := by kernel_rfl
end Go.Proofs.Ytjejhgjdmbodiaa.PO
end
section
namespace Go.Proofs.Ytjejhgjdmbodiaa.PO
open Go.Proofs.Ytjejhgjdmbodiaa
open Go.RowKit Go.Proofs.YtjejhgjdmbodiaaW.PrintWords Go.Proofs.YtjejhgjdmbodiaaW.PrintLast Go.Proofs.YtjejhgjdmbodiaaW.PrintMore
attribute [local go_sem] max2_int min2_int max_two min_two max_three min_three max_four min_four   -- for this text's walks alone
set_option linter.unusedVariables false
set_option linter.unusedSimpArgs false
end Go.Proofs.Ytjejhgjdmbodiaa.PO
end
end
section
section
namespace Go.Proofs.Ytjejhgjdmbodiaa.PO
open Go.RowKit Go.Proofs.YtjejhgjdmbodiaaW.PrintWords Go.Proofs.YtjejhgjdmbodiaaW.PrintLast Go.Proofs.YtjejhgjdmbodiaaW.PrintMore Go.Proofs.Ytjejhgjdmbodiaa.XW
set_option linter.unusedVariables false
set_option linter.unusedSimpArgs false
theorem w_id {u : Int} (h : -9223372036854775808 ≤ u ∧ u ≤ 9223372036854775807) : wrap64 u = u := by unfold wrap64; omega
def bitV (x : Int) (k : Nat) : Bool := decide (Go.bits .and .u8 (shr .u8 x (7 - (k : Int))) 1 = 1)
def rl (x : Int) : Nat → Nat → Nat
 | 0, k => k
 | f + 1, k => if bitV x k = true then rl x f (k + 1) else k
def lo (x : Int) : Nat := rl x 8 0
end Go.Proofs.Ytjejhgjdmbodiaa.PO
end
section
namespace Go.Proofs.Ytjejhgjdmbodiaa.PO
open Go.RowKit Go.Proofs.YtjejhgjdmbodiaaW.PrintWords Go.Proofs.YtjejhgjdmbodiaaW.PrintLast Go.Proofs.YtjejhgjdmbodiaaW.PrintMore
open Go.Proofs.Ytjejhgjdmbodiaa.XRange
set_option linter.unusedVariables false
set_option linter.unusedSimpArgs false
section
structure RdAt (T : Nat) (w : World) (g : Nat) (A : Option Addr) (c : Nat) (l : List Int) (at_ : Int) (flag : Bool) : Prop where
 blk : w.heap[g]? = some (.cells #[.slice A l.length c, .int .i64 at_, .bool flag] T (0, 0))
 le : l.length ≤ c
 foot : Kd.F (Kd.int .u8) w (fun k => k ≠ g) A l.length l
theorem RdAt.keep {T : Nat} {w w' : World} {g : Nat} {A : Option Addr} {c : Nat} {l : List Int} {at_ : Int} {flag : Bool} (h : RdAt T w g A c l at_ flag) (hk : Keeps (fun _ => False) w w') : RdAt T w' g A c l at_ flag :=
 ⟨(hk.block g (blk_lt h.blk) (fun f => f)).trans h.blk, h.le, Kd.F_step h.foot (fun k _ hlt => hk.block k hlt (fun f => f))⟩
theorem RdAt.put {T : Nat} {w : World} {g : Nat} {A : Option Addr} {c : Nat} {l : List Int} {at_ : Int} {flag : Bool} (h : RdAt T w g A c l at_ flag) (a' : Int) : RdAt T (w.setCell ⟨g, 1, none⟩ (.int .i64 a')) g A c l a' flag :=
 ⟨blk_set h.blk 1 _, h.le, Kd.F_far h.foot (fun _ hk => hk) _⟩
theorem RdAt.flag {T : Nat} {w : World} {g : Nat} {A : Option Addr} {c : Nat} {l : List Int} {at_ : Int} {flag : Bool} (h : RdAt T w g A c l at_ flag) (b' : Bool) : RdAt T (w.setCell ⟨g, 2, none⟩ (.bool b')) g A c l at_ b' :=
 ⟨blk_set h.blk 2 _, h.le, Kd.F_far h.foot (fun _ hk => hk) _⟩
end
end Go.Proofs.Ytjejhgjdmbodiaa.PO
end
section
namespace Go.Proofs.Ytjejhgjdmbodiaa.PO
open Go.RowKit Go.Proofs.YtjejhgjdmbodiaaW.PrintWords Go.Proofs.YtjejhgjdmbodiaaW.PrintLast Go.Proofs.YtjejhgjdmbodiaaW.PrintMore Go.Proofs.Ytjejhgjdmbodiaa.XW
set_option linter.unusedVariables false
set_option linter.unusedSimpArgs false
def fine32 (l : List S72) : Prop := ∀ x, x ∈ l → x.f0.size ≤ 32 ∧ 0 ≤ x.f1 ∧ x.f1 ≤ 4611686018427387904
theorem dotOk_32 {d : S72} (h : dotOk d = true) : d.f0.size ≤ 24 ∧ 1 ≤ d.f1 ∧ d.f1 ≤ 4611686018427387904 := by
 simp only [dotOk, isNameB, Bool.and_eq_true, decide_eq_true_eq] at h
 omega
theorem seenS_fine (deps : List S72) : ∀ (l : List S72) (p : Option S72), seenS deps p l = true → fine32 l
 | [], p, _ => fun x hx => by cases hx
 | y :: l, p, h => fun x hx => by
   have h' : hasS deps y.f0 y.f1 = true ∧ seenS deps (some y) l = true := by
    unfold seenS at h
    simp only [Bool.and_eq_true] at h
    exact ⟨h.1.1, h.2⟩
   rcases List.mem_cons.1 hx with rfl | hx
   · have h1 := h'.1
     unfold hasS at h1
     simp only [Bool.and_eq_true] at h1
     have h3 : x.f0.size ≤ 24 ∧ 1 ≤ x.f1 ∧ x.f1 ≤ 4611686018427387904 := dotOk_32 h1.1.2
     omega
   · exact seenS_fine deps l (some y) h'.2 x hx
theorem rightO_all {o : S74} (h : rightO o = true) : dotOk o.f0 = true ∧ rightS o.f1 = true ∧ o.f2.size ≤ 32 ∧ o.f4.size ≤ 32 ∧ o.f6.length ≤ 128 ∧ fine32 o.f6 ∧ (1 ≤ o.f3 ∧ o.f3 ≤ 3) ∧ 0 ≤ o.f5 ∧ o.f5 ≤ 9999 := by
 unfold rightO at h
 simp only [Bool.and_eq_true, decide_eq_true_eq] at h
 obtain ⟨⟨⟨⟨⟨⟨⟨h1, h2⟩, h3⟩, h4⟩, h5⟩, h6⟩, h7⟩, h8⟩ := h
 refine ⟨h1, h2, h4.2, h5.2, h6, seenS_fine _ _ _ h7, ?_⟩
 unfold kindS at h8
 by_cases q1 : o.f3 = 1
 · rw [if_pos q1] at h8
   simp only [Bool.and_eq_true, decide_eq_true_eq] at h8
   omega
 · rw [if_neg q1] at h8
   by_cases q2 : o.f3 = 2
   · rw [if_pos q2] at h8
     simp only [Bool.and_eq_true, decide_eq_true_eq] at h8
     omega
   · rw [if_neg q2] at h8
     simp only [Bool.and_eq_true, decide_eq_true_eq] at h8
     omega
end Go.Proofs.Ytjejhgjdmbodiaa.PO
end
section
namespace Go.Proofs.Ytjejhgjdmbodiaa.PO
open Go.RowKit Go.Proofs.YtjejhgjdmbodiaaW.PrintWords Go.Proofs.YtjejhgjdmbodiaaW.PrintLast Go.Proofs.YtjejhgjdmbodiaaW.PrintMore
open Go.Proofs.Ytjejhgjdmbodiaa.XRange Go.Proofs.Ytjejhgjdmbodiaa.XMap
set_option linter.unusedVariables false
set_option linter.unusedSimpArgs false
section
variable {P : Program} {md : Region.Mode} {ops : Array Oper} {Q : Exit → Act → World → Prop} {S : World → Prop} {ds : List Nat}
theorem oneL {i : Nat} {oi : Oper} {fuel : Nat} {l : Array Bool} {a : Act} {w : World} (N : Option Tmp) (hi : ops[i]? = some oi) (hN : oi.dst = N) (hc : (Region.ready md ops l == [i]) = true) (hd : i ∉ ds)
 (h : ∀ K : Act → World → Prop, Shut (∀ a' w', S w' → (S w' → wpAnyLast P md ops Q S ds fuel (l.setIfInBounds i true) a' w') → K a' w') → if Region.wanted oi (yielded ops a.tmps) = true then Oper.wp P oi a w K Q else K (a.put N undef) w) :
 wpAnyLast P md ops Q S ds (fuel + 1) l a w := one_ _ hi hN (by simp only [readyB, hc, Bool.true_and, beq_self_eq_true]) hd h
end
theorem info74 : (Try.prog.info? 74).map (fun i => (i.zero, i.size, i.bytes)) = some (some (.agg #[(.string ⟨#[]⟩), (.int .i64 0), .slice none 0 0, (.string ⟨#[]⟩), (.int .i64 0), (.string ⟨#[]⟩), (.int .i64 0), .slice none 0 0]), 8, 120) := by kernel_rfl
theorem keeps_grown {w w1 : World} {row : Option Nat} (h : w.grownBy w1 row) : Keeps (fun k => some k = row) w w1 := ⟨h.os, h.tape, h.output, h.size, fun k hk hne => h.block k hk hne⟩
theorem keeps_weak {M M' : Nat → Prop} {A B : World} (h : Keeps M A B) (hm : ∀ k, M k → M' k) : Keeps M' A B := ⟨h.os, h.tape, h.output, h.size, fun k hk hne => h.block k hk (fun e => hne (hm k e))⟩
section
variable {G : Nat → Prop} {w w1 : World} {base g : Nat} {vl vk vw : Value} {m : Nat} {L : List S74} {K : List S72} {Q : List S74} {D : List (S72 × (S74 × List Value))}
end
end Go.Proofs.Ytjejhgjdmbodiaa.PO
end
section
namespace Go.Proofs.Ytjejhgjdmbodiaa.PO
open Go.RowKit Go.Proofs.YtjejhgjdmbodiaaW.PrintWords Go.Proofs.YtjejhgjdmbodiaaW.PrintLast Go.Proofs.YtjejhgjdmbodiaaW.PrintMore
open Go.Proofs.Ytjejhgjdmbodiaa.XRange Go.Proofs.Ytjejhgjdmbodiaa.XMap
set_option linter.unusedVariables false
set_option linter.unusedSimpArgs false
end Go.Proofs.Ytjejhgjdmbodiaa.PO
end
end
