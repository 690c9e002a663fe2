/- What the rows of this claim use, out of the texts of this work (UTS, UPE7, UFQ). No condition beyond those that each statement names. -/
import Derived.Deep.RegionHeld3
import Derived.Carry
import Derived.Deep.DeepCutAuto
import Derived.Deep.CutBlock
import Derived.WalkKit
import Derived.WalkMore
import Derived.WalkSpells
import Derived.Lib.SliceRun
import Derived.Laws.RangeAny
import Derived.RangeFuncNested
import Derived.RangeFuncBound
import Derived.RangeFuncCalls
import Derived.RangeFuncLeaves
import Derived.RangeFuncKeeps
import Derived.Shelf.Abstract
import Derived.Shelf.RegionOpen
import Derived.OwnWalkIn
import Derived.TacticsInMore
import Derived.LoopNIn
import Derived.LoopIn
import Derived.Deep.RegionHeld
import Derived.Lib.ConvBytes
import Derived.Laws.IdiomRangeMap
import Derived.MapKept
import Derived.Deep.Slices
import Derived.Deep.Fields
import Derived.ChangeSame
import Derived.ProofKit
import Derived.KernelRfl
import Derived.Below
import Derived.Deep.Draws
import Derived.Deep.AppendLies
import Derived.Maps.AppendAt
import Derived.OwnWalk
import Derived.Laws.BytesArg
import Derived.Laws.MakeOwn
import Derived.Laws.OwnMore
import Derived.Deep.OwnRows
import Derived.Tactics
import Derived.Laws.Slices
import Derived.RowKit3
import Derived.Deep.LoopGhost
import Derived.Deep.QuietTactic
import Derived.BigQuiet
import Derived.WideLaws
import Derived.Laws.Rows
import Derived.Lib.AppendStr
import Derived.ArgAppend
import Derived.Laws.IdiomCopy
import Derived.RowKit
import Derived.OrdersHeld
import Derived.Laws.BitsLemmas
import Derived.Laws.StructEq
import Derived.Test.YtjejhgjdmbodiaaZdUOJ
import Derived.Test.YtjejhgjdmbodiaaZdW
import Derived.Test.YtjejhgjdmbodiaaZdX
import Derived.Test.YtjejhgjdmbodiaaZdUOV
import Derived.Test.YtjejhgjdmbodiaaZdUPOx10
import Derived.Test.YtjejhgjdmbodiaaZdUPOx0
import Derived.Test.YtjejhgjdmbodiaaZdUPD10
import Derived.Test.YtjejhgjdmbodiaaZdUPOx3
section
section
namespace Go.Proofs.Ytjejhgjdmbodiaa.PO
open Go.RowKit Go.Proofs.YtjejhgjdmbodiaaW.PrintWords Go.Proofs.YtjejhgjdmbodiaaW.PrintLast Go.Proofs.YtjejhgjdmbodiaaW.PrintMore
open Go.Proofs.Ytjejhgjdmbodiaa.XRange Go.Proofs.Ytjejhgjdmbodiaa.XMap Go.Proofs.Ytjejhgjdmbodiaa.XSeq
set_option linter.unusedVariables false
set_option linter.unusedSimpArgs false
section
variable {G : Nat → Prop} {w w1 : World} {base g : Nat} {vl vk vw : Value} {m : Nat} {L : List S74} {K : List S72} {Q : List S74} {D : List (S72 × (S74 × List Value))}
end
end Go.Proofs.Ytjejhgjdmbodiaa.PO
end
section
namespace Go.Proofs.Ytjejhgjdmbodiaa.PO
open Go.RowKit Go.Proofs.YtjejhgjdmbodiaaW.PrintWords Go.Proofs.YtjejhgjdmbodiaaW.PrintLast Go.Proofs.YtjejhgjdmbodiaaW.PrintMore
open Go.Proofs.Ytjejhgjdmbodiaa.XRange Go.Proofs.Ytjejhgjdmbodiaa.XMap Go.Proofs.Ytjejhgjdmbodiaa.XSeq
set_option linter.unusedVariables false
set_option linter.unusedSimpArgs false
attribute [local go_sem] Oper.semAt_some
end Go.Proofs.Ytjejhgjdmbodiaa.PO
end
section
namespace Go.Proofs.Ytjejhgjdmbodiaa.PO
open Go.RowKit Go.Proofs.YtjejhgjdmbodiaaW.PrintWords Go.Proofs.YtjejhgjdmbodiaaW.PrintLast Go.Proofs.YtjejhgjdmbodiaaW.PrintMore
open Go.Proofs.Ytjejhgjdmbodiaa.XRange Go.Proofs.Ytjejhgjdmbodiaa.XMap Go.Proofs.Ytjejhgjdmbodiaa.XSeq
set_option linter.unusedVariables false
set_option linter.unusedSimpArgs false
section
variable {G G' : Nat → Prop} {w w1 : World} {base g : Nat} {vl vk vw : Value} {m : Nat} {L : List S74} {K : List S72} {Q : List S74} {D : List (S72 × (S74 × List Value))}
end
end Go.Proofs.Ytjejhgjdmbodiaa.PO
end
section
namespace Go.Proofs.Ytjejhgjdmbodiaa.PO
open Go.RowKit Go.Proofs.YtjejhgjdmbodiaaW.PrintWords Go.Proofs.YtjejhgjdmbodiaaW.PrintLast Go.Proofs.YtjejhgjdmbodiaaW.PrintMore Go.Proofs.Ytjejhgjdmbodiaa.XW
open Go.Proofs.Ytjejhgjdmbodiaa.XRange Go.Proofs.Ytjejhgjdmbodiaa.XMap Go.Proofs.Ytjejhgjdmbodiaa.XSeq
set_option linter.unusedVariables false
set_option linter.unusedSimpArgs false
end Go.Proofs.Ytjejhgjdmbodiaa.PO
end
section
namespace Go.Proofs.Ytjejhgjdmbodiaa.PO
open Go.RowKit Go.Proofs.YtjejhgjdmbodiaaW.PrintWords Go.Proofs.YtjejhgjdmbodiaaW.PrintLast Go.Proofs.YtjejhgjdmbodiaaW.PrintMore Go.Proofs.Ytjejhgjdmbodiaa.XW
open Go.Proofs.Ytjejhgjdmbodiaa.XRange Go.Proofs.Ytjejhgjdmbodiaa.XMap Go.Proofs.Ytjejhgjdmbodiaa.XSeq
set_option linter.unusedVariables false
set_option linter.unusedSimpArgs false
def sA : ByteArray := ⟨#[97]⟩
def sC : ByteArray := ⟨#[99]⟩
def sI : ByteArray := ⟨#[105]⟩
def x1 : S74 := ⟨⟨sA, 2⟩, [⟨sA, 1⟩], sC, 1, sI, 1, []⟩
def x2 : S74 := ⟨⟨sA, 1⟩, [], sC, 1, sI, 1, []⟩
end Go.Proofs.Ytjejhgjdmbodiaa.PO
end
section
namespace Go.Proofs.Ytjejhgjdmbodiaa.PO
open Go.RowKit Go.Proofs.YtjejhgjdmbodiaaW.PrintWords Go.Proofs.YtjejhgjdmbodiaaW.PrintLast Go.Proofs.YtjejhgjdmbodiaaW.PrintMore Go.Proofs.Ytjejhgjdmbodiaa.XW
open Go.Proofs.Ytjejhgjdmbodiaa.XRange Go.Proofs.Ytjejhgjdmbodiaa.XMap Go.Proofs.Ytjejhgjdmbodiaa.XSeq
set_option linter.unusedVariables false
set_option linter.unusedSimpArgs false
structure OpAt (w : World) (p : Addr) (x : S74) (A2 : Option Addr) (c2 : Nat) (A7 : Option Addr) (c7 : Nat) : Prop where
 e0 : w.cell? p = some (.string x.f0.f0)
 e1 : w.cell? ⟨p.block, p.off + 1, none⟩ = some (.int .i64 x.f0.f1)
 e2 : w.cell? ⟨p.block, p.off + 2, none⟩ = some (.slice A2 x.f1.length c2)
 e3 : w.cell? ⟨p.block, p.off + 3, none⟩ = some (.string x.f2)
 e4 : w.cell? ⟨p.block, p.off + 4, none⟩ = some (.int .i64 x.f3)
 e5 : w.cell? ⟨p.block, p.off + 5, none⟩ = some (.string x.f4)
 e6 : w.cell? ⟨p.block, p.off + 6, none⟩ = some (.int .i64 x.f5)
 e7 : w.cell? ⟨p.block, p.off + 7, none⟩ = some (.slice A7 x.f6.length c7)
 l2 : x.f1.length ≤ c2
 g2 : Kd.C k72 w A2 x.f1.length x.f1
 l7 : x.f6.length ≤ c7
 g7 : Kd.C k72 w A7 x.f6.length x.f6
theorem opAt {w : World} {A : Option Addr} {n : Nat} {xs : List S74} (h : Kd.C k74 w A n xs) (i : Nat) (h1 : i < n) : ∃ ad A2 c2 A7 c7, A = some ad ∧ OpAt w (ad.add (i * 8)) (rd_T74 xs i) A2 c2 A7 c7 := by
 obtain ⟨ad, A2, c2, A7, c7, e, x0, x1, x2, x3, x4, x5, x6, x7, l2, g2, l7, g7⟩ := at_T74 h (i : Int) (by omega) (by omega)
 exact ⟨ad, A2, c2, A7, c7, e, ⟨x0, x1, x2, x3, x4, x5, x6, x7, l2, g2, l7, g7⟩⟩
end Go.Proofs.Ytjejhgjdmbodiaa.PO
end
section
namespace Go.Proofs.Ytjejhgjdmbodiaa.PO
open Go.RowKit Go.Proofs.YtjejhgjdmbodiaaW.PrintWords Go.Proofs.YtjejhgjdmbodiaaW.PrintLast Go.Proofs.YtjejhgjdmbodiaaW.PrintMore Go.Proofs.Ytjejhgjdmbodiaa.XW
open Go.Proofs.Ytjejhgjdmbodiaa.XRange Go.Proofs.Ytjejhgjdmbodiaa.XMap Go.Proofs.Ytjejhgjdmbodiaa.XSeq
set_option linter.unusedVariables false
set_option linter.unusedSimpArgs false
structure OpAt0 (w0 w : World) (p : Addr) (x : S74) (A2 : Option Addr) (c2 : Nat) (A7 : Option Addr) (c7 : Nat) : Prop where
 e0 : w.cell? p = some (.string x.f0.f0)
 e1 : w.cell? ⟨p.block, p.off + 1, none⟩ = some (.int .i64 x.f0.f1)
 e2 : w.cell? ⟨p.block, p.off + 2, none⟩ = some (.slice A2 x.f1.length c2)
 e3 : w.cell? ⟨p.block, p.off + 3, none⟩ = some (.string x.f2)
 e4 : w.cell? ⟨p.block, p.off + 4, none⟩ = some (.int .i64 x.f3)
 e5 : w.cell? ⟨p.block, p.off + 5, none⟩ = some (.string x.f4)
 e6 : w.cell? ⟨p.block, p.off + 6, none⟩ = some (.int .i64 x.f5)
 e7 : w.cell? ⟨p.block, p.off + 7, none⟩ = some (.slice A7 x.f6.length c7)
 l2 : x.f1.length ≤ c2
 g2 : Kd.C k72 w0 A2 x.f1.length x.f1
 l7 : x.f6.length ≤ c7
 g7 : Kd.C k72 w0 A7 x.f6.length x.f6
theorem OpAt.below {w w1 : World} {p : Addr} {x : S74} {A2 A7 : Option Addr} {c2 c7 : Nat} (h : OpAt w p x A2 c2 A7 c7) (hb : Below w.heap.size w w1) : OpAt w1 p x A2 c2 A7 c7 := by
 have st : ∀ {q : Addr} {u : Value}, w.cell? q = some u → w1.cell? q = some u := fun hq => (hb.cell (World.block_lt_of_cell? w _ hq)).trans hq
 exact ⟨st h.e0, st h.e1, st h.e2, st h.e3, st h.e4, st h.e5, st h.e6, st h.e7, h.l2, Kd.C_below h.g2 hb, h.l7, Kd.C_below h.g7 hb⟩
end Go.Proofs.Ytjejhgjdmbodiaa.PO
end
section
namespace Go.Proofs.Ytjejhgjdmbodiaa.PO
open Go.RowKit Go.Proofs.YtjejhgjdmbodiaaW.PrintWords Go.Proofs.YtjejhgjdmbodiaaW.PrintLast Go.Proofs.YtjejhgjdmbodiaaW.PrintMore Go.Proofs.Ytjejhgjdmbodiaa.XW
open Go.Proofs.Ytjejhgjdmbodiaa.XRange Go.Proofs.Ytjejhgjdmbodiaa.XMap Go.Proofs.Ytjejhgjdmbodiaa.XSeq
set_option linter.unusedVariables false
set_option linter.unusedSimpArgs false
section
variable {w0 w w1 : World} {G G' : Nat → Prop} {g : Nat} {vl vk vw : Value} {a : AP}
end
theorem OpAt0.below {w0 w w1 : World} {p : Addr} {x : S74} {A2 A7 : Option Addr} {c2 c7 : Nat} (h : OpAt0 w0 w p x A2 c2 A7 c7) (hb : Below w.heap.size w w1) : OpAt0 w0 w1 p x A2 c2 A7 c7 := by
 have st : ∀ {q : Addr} {u : Value}, w.cell? q = some u → w1.cell? q = some u := fun hq => (hb.cell (World.block_lt_of_cell? w _ hq)).trans hq
 exact ⟨st h.e0, st h.e1, st h.e2, st h.e3, st h.e4, st h.e5, st h.e6, st h.e7, h.l2, h.g2, h.l7, h.g7⟩
end Go.Proofs.Ytjejhgjdmbodiaa.PO
end
section
namespace Go.Proofs.Ytjejhgjdmbodiaa.PO
open Go.RowKit Go.Proofs.YtjejhgjdmbodiaaW.PrintWords Go.Proofs.YtjejhgjdmbodiaaW.PrintLast Go.Proofs.YtjejhgjdmbodiaaW.PrintMore Go.Proofs.Ytjejhgjdmbodiaa.XW
open Go.Proofs.Ytjejhgjdmbodiaa.XRange Go.Proofs.Ytjejhgjdmbodiaa.XMap Go.Proofs.Ytjejhgjdmbodiaa.XSeq
set_option linter.unusedVariables false
set_option linter.unusedSimpArgs false
end Go.Proofs.Ytjejhgjdmbodiaa.PO
end
section
namespace Go.Proofs.Ytjejhgjdmbodiaa.PO
open Go.RowKit Go.Proofs.YtjejhgjdmbodiaaW.PrintWords Go.Proofs.YtjejhgjdmbodiaaW.PrintLast Go.Proofs.YtjejhgjdmbodiaaW.PrintMore Go.Proofs.Ytjejhgjdmbodiaa.XW
open Go.Proofs.Ytjejhgjdmbodiaa.XRange Go.Proofs.Ytjejhgjdmbodiaa.XMap Go.Proofs.Ytjejhgjdmbodiaa.XSeq
set_option linter.unusedVariables false
set_option linter.unusedSimpArgs false
section
variable {w wq w1 : World} {G g N : Nat} {A : Option Addr} {c : Nat} {l : List Int} {p p' : Int} {b b' : Bool} {cs : Array Value}
end
end Go.Proofs.Ytjejhgjdmbodiaa.PO
end
section
namespace Go.Proofs.Ytjejhgjdmbodiaa.PO
open Go.RowKit Go.Proofs.YtjejhgjdmbodiaaW.PrintWords Go.Proofs.YtjejhgjdmbodiaaW.PrintLast Go.Proofs.YtjejhgjdmbodiaaW.PrintMore Go.Proofs.Ytjejhgjdmbodiaa.XW
open Go.Proofs.Ytjejhgjdmbodiaa.XRange
set_option linter.unusedVariables false
set_option linter.unusedSimpArgs false
set_option maxHeartbeats 8000000 in
set_option maxRecDepth 100000 in
theorem refHasS_calls (l : List S72) (d : S72) (A : Option Addr) (c : Nat) (w : World) (hl : l.length ≤ c) (hg : Kd.C k72 w A l.length l) (m : Nat) (hm : m ≤ 9223372036854775807) (hz : sizes m l) (hn : d.f0.size ≤ m) :
 Calls Try.prog 75 #[.slice A l.length c, .agg #[.string d.f0, .int .i64 d.f1]] w fun e w' => e = .returned (.bool (hasS l d.f0 d.f1)) ∧ Below w.heap.size w w' := by
 have HL := Aside0.mk hl
 have HG := Aside0.mk hg
 have HR := Aside0.mk (refRight_f l hg.2.1 m hm hz (l.length + m + 3) (by omega))
 have HD := Aside0.mk (refDot_f d.f0 (by omega) d.f1 (m + 1) (by omega))
 have HA := Aside0.mk (refAt_f d.f0 l hg.2.1 (l.length + 1) (by omega))
 have e0 : hasS l d.f0 d.f1 = (rightS l && dotOk d && decide (d.f1 ≤ atS d.f0 l)) := rfl
 rw [e0]
 obtain ⟨b1, hb1⟩ : ∃ b, rightS l = b := ⟨_, rfl⟩
 obtain ⟨b2, hb2⟩ : ∃ b, dotOk d = b := ⟨_, rfl⟩
 rw [hb1] at HR ⊢
 rw [hb2]
 have HD := Aside0.mk (show pannierref07_IsDot.f (m + 1) d.f0 d.f1 = some b2 from by rw [HD.out]; exact congrArg some hb2)
 clear hl hg hm hz hn e0 hb1 hb2
 obtain ⟨N, hN⟩ : ∃ N, w.heap.size = N := ⟨_, rfl⟩
 go_enter Try.func75, Try.ntmps75
 go_wp2_with fail
 obtain ⟨w0, hw0⟩ : ∃ w0, w.alloc (.cells #[.string d.f0, .int .i64 d.f1] 72) = w0 := ⟨_, rfl⟩
 have HB := Aside0.mk (show Below w.heap.size w w0 from by rw [← hw0]; exact (Below.refl _ w).alloc (Nat.le_refl _) _)
 have KD := Aside0.mk (show w0.heap[N]? = some (.cells #[.string d.f0, .int .i64 d.f1] 72 (0, 0)) from by rw [← hw0, ← hN]; exact World.alloc_heap_new w _)
 try rw [hw0]
 try rw [hN]
 clear hw0
 refine (pannierref07_Right.calls _ A c l _ _ (Kd.C_below HG.out HB.out) HL.out HR.out).mono ?_
 rintro e w1 ⟨rfl, hb1⟩
 have HB1 := Aside0.mk (HB.out.trans (hb1.mono HB.out.size))
 have KD1 := Aside0.mk (blk_below KD.out hb1)
 have d0 : w1.cell? ⟨N, 0, none⟩ = some (.string d.f0) := (blk_cell KD1.out 0).trans rfl
 have d1 : w1.cell? ⟨N, 1, none⟩ = some (.int .i64 d.f1) := (blk_cell KD1.out 1).trans rfl
 clear hb1 HB KD
 go_wp2_with fail
 refine (pannierref07_IsDot.calls _ d.f0 d.f1 _ _ HD.out).mono ?_
 rintro e w2 ⟨rfl, hb2⟩
 have HB2 := Aside0.mk (HB1.out.trans (hb2.mono HB1.out.size))
 have KD2 := Aside0.mk (blk_below KD1.out hb2)
 clear hb2 HB1 KD1 d0 d1
 clear HR HD
 go_wp2
 have HBd := Aside0.mk (below_drew1 HB2.out)
 refine start_ (n := 14) (ds := []) (S := fun w' => w'.cell? ⟨N, 0, none⟩ = some (.string d.f0) ∧ w'.cell? ⟨N, 1, none⟩ = some (.int .i64 d.f1)) _ (by kernel_rfl) rfl rfl ⟨(blk_cell (blk_drew KD2.out) 0).trans rfl, (blk_cell (blk_drew KD2.out) 1).trans rfl⟩ (fun hH => ?_)
 refine XReg.pu 0 11 (h := ?_)
 refine XReg.pu 1 12 (h := ?_)
 cases b1 with
 | false =>
   refine XReg.pn 2 13 (h := ?_)
   refine XReg.pu 3 14 (h := ?_)
   refine XReg.pu 4 15 (h := ?_)
   refine XReg.pn 5 16 (h := ?_)
   refine XReg.pn 6 17 (h := ?_)
   refine XReg.pn 7 18 (h := ?_)
   refine XReg.pn 8 19 (h := ?_)
   refine XReg.pn 9 20 (h := ?_)
   refine XReg.pn 10 21 (h := ?_)
   refine XReg.pn 11 22 (h := ?_)
   refine XReg.pu 12 23 (h := ?_)
   refine XReg.pu 13 4 (h := ?_)
   refine done_ (by kernel_rfl) ?_
   go_wp2
   go_ret
   exact ⟨rfl, by first | exact HBd.out | (rw [← hN]; exact HBd.out)⟩
 | true =>
   refine XReg.pu 2 13 (h := ?_)
   cases b2 with
   | false =>
     refine XReg.pu 3 14 (h := ?_)
     refine XReg.pu 4 15 (h := ?_)
     refine XReg.pn 5 16 (h := ?_)
     refine XReg.pn 6 17 (h := ?_)
     refine XReg.pn 7 18 (h := ?_)
     refine XReg.pn 8 19 (h := ?_)
     refine XReg.pn 9 20 (h := ?_)
     refine XReg.pn 10 21 (h := ?_)
     refine XReg.pn 11 22 (h := ?_)
     refine XReg.pu 12 23 (h := ?_)
     refine XReg.pu 13 4 (h := ?_)
     refine done_ (by kernel_rfl) ?_
     go_wp2
     go_ret
     exact ⟨rfl, by first | exact HBd.out | (rw [← hN]; exact HBd.out)⟩
   | true =>
     refine XReg.pu 3 14 (h := ?_)
     refine XReg.pu 4 15 (h := ?_)
     refine XReg.pu 5 16 (h := ?_)
     refine XReg.tk 6 17 (h := ?_)
     refine XReg.pu 7 18 (h := ?_)
     refine XReg.pu 8 19 (h := ?_)
     refine XReg.tk 9 20 (h := ?_)
     refine XReg.one (i := 10) (some 21) rfl rfl (by kernel_rfl) (by decide) (fun Kc hKc => ?_)
     refine goes_ Try.func74 (by kernel_rfl) rfl #[.slice A l.length c, .string d.f0] (by rfl) rfl rfl (by (try simp only [List.map_toArray, List.map_cons, List.map_nil]); first | done | rfl) ?_
     refine (pannierref07_At.calls _ A c l d.f0 _ _ (Kd.C_drew (Kd.C_below HG.out HB2.out)) HL.out HA.out).mono ?_
     rintro e w3 ⟨rfl, hb3⟩
     refine ⟨_, rfl, ?_⟩
     have KD3 := Aside0.mk (blk_below (blk_drew KD2.out) hb3.below)
     refine hKc.out _ _ ⟨(blk_cell KD3.out 0).trans rfl, (blk_cell KD3.out 1).trans rfl⟩ (fun hH2 => ?_)
     refine XReg.pu 11 22 (h := ?_)
     refine XReg.pu 12 23 (h := ?_)
     refine XReg.pu 13 4 (h := ?_)
     refine done_ (by kernel_rfl) ?_
     go_wp2
     go_ret
     exact ⟨rfl, HBd.out.trans (hb3.below.mono HBd.out.size)⟩
set_option maxHeartbeats 8000000 in
set_option maxRecDepth 100000 in
theorem refRightO_calls (x : S74) (A2 : Option Addr) (c2 : Nat) (A7 : Option Addr) (c7 : Nat) (w : World) (l2 : x.f1.length ≤ c2) (g2 : Kd.C k72 w A2 x.f1.length x.f1) (l7 : x.f6.length ≤ c7) (g7 : Kd.C k72 w A7 x.f6.length x.f6) (m : Nat) (hm : m ≤ 9223372036854775807) (hz0 : x.f0.f0.size ≤ m) (hz1 : sizes m x.f1) (hz6 : sizes m x.f6) :
 Calls Try.prog 43 #[.agg #[.string x.f0.f0, .int .i64 x.f0.f1, .slice A2 x.f1.length c2, .string x.f2, .int .i64 x.f3, .string x.f4, .int .i64 x.f5, .slice A7 x.f6.length c7]] w fun e w' => e = .returned (.bool (rightO x)) ∧ Below w.heap.size w w' := by
 have HL2 := Aside0.mk l2
 have HL7 := Aside0.mk l7
 have HG2 := Aside0.mk g2
 have HG7 := Aside0.mk g7
 have HM2 := Aside0.mk g2.2.1
 have HM7 := Aside0.mk g7.2.1
 have HM := Aside0.mk hm
 have HZ1 := Aside0.mk hz1
 have HZ6 := Aside0.mk hz6
 have HD := Aside0.mk (refDot_f x.f0.f0 (by omega) x.f0.f1 (m + 1) (by omega))
 have HR := Aside0.mk (refRight_f x.f1 g2.2.1 m hm hz1 (x.f1.length + m + 3) (by omega))
 have HA := Aside0.mk (refAt_f x.f0.f0 x.f1 g2.2.1 (x.f1.length + 1) (by omega))
 obtain ⟨N, hN⟩ : ∃ N, w.heap.size = N := ⟨_, rfl⟩
 obtain ⟨b1, hb1⟩ : ∃ b, dotOk x.f0 = b := ⟨_, rfl⟩
 obtain ⟨b2, hb2⟩ : ∃ b, rightS x.f1 = b := ⟨_, rfl⟩
 have HD := Aside0.mk (show pannierref07_IsDot.f (m + 1) x.f0.f0 x.f0.f1 = some b1 from by rw [HD.out]; exact congrArg some hb1)
 rw [hb2] at HR
 have HO1 := Aside0.mk hb1
 have HO2 := Aside0.mk hb2
 clear l2 l7 g2 g7 hm hz0 hz1 hz6 hb1 hb2
 go_enter Try.func43, Try.ntmps43
 obtain ⟨w3, hw3⟩ : ∃ w3, w.alloc (.cells #[.string x.f0.f0, .int .i64 x.f0.f1, .slice A2 x.f1.length c2, .string x.f2, .int .i64 x.f3, .string x.f4, .int .i64 x.f5, .slice A7 x.f6.length c7] 74) = w3 := ⟨_, rfl⟩
 have HB3 := Aside0.mk (show Below w.heap.size w w3 from by rw [← hw3]; exact (Below.refl _ w).alloc (Nat.le_refl _) _)
 have HX3 := Aside0.mk (show w3.heap[N]? = some (.cells #[.string x.f0.f0, .int .i64 x.f0.f1, .slice A2 x.f1.length c2, .string x.f2, .int .i64 x.f3, .string x.f4, .int .i64 x.f5, .slice A7 x.f6.length c7] 74 (0, 0)) from by rw [← hw3, ← hN]; exact World.alloc_heap_new w _)
 obtain ⟨n0, n1, n2, n3, n4, n5, n6, n7⟩ := cells8 HX3.out
 go_wp2_with fail
 refine (pannierref07_IsDot.calls _ x.f0.f0 x.f0.f1 _ _ HD.out).mono ?_
 rintro e w4 ⟨rfl, hb4⟩
 have HB4 := Aside0.mk (HB3.out.trans (hb4.mono HB3.out.size))
 have HX4 := Aside0.mk (blk_below HX3.out hb4)
 clear n0 n1 n2 n3 n4 n5 n6 n7 hb4 HX3 HB3 hw3
 obtain ⟨n0, n1, n2, n3, n4, n5, n6, n7⟩ := cells8 HX4.out
 go_wp2_with fail
 refine (pannierref07_Right.calls _ A2 c2 x.f1 _ _ (Kd.C_below HG2.out HB4.out) HL2.out HR.out).mono ?_
 rintro e w5 ⟨rfl, hb5⟩
 have HB5 := Aside0.mk (HB4.out.trans (hb5.mono HB4.out.size))
 have HX5 := Aside0.mk (blk_below HX4.out hb5)
 clear n0 n1 n2 n3 n4 n5 n6 n7 hb5 HX4 HB4 HD HR
 go_wp2
 have s6d : ∀ w' : World, w'.heap[N]? = some (.cells #[.string x.f0.f0, .int .i64 x.f0.f1, .slice A2 x.f1.length c2, .string x.f2, .int .i64 x.f3, .string x.f4, .int .i64 x.f5, .slice A7 x.f6.length c7] 74 (0, 0)) → S6 N x A2 c2 A7 c7 w' := fun w' h => ⟨(blk_cell h 0).trans rfl, (blk_cell h 1).trans rfl, (blk_cell h 2).trans rfl, (blk_cell h 3).trans rfl, (blk_cell h 5).trans rfl, (blk_cell h 7).trans rfl⟩
 have SX := Aside0.mk s6d
 clear s6d
 have HBd := Aside0.mk (below_drew1 HB5.out)
 refine start_ (n := 25) (ds := []) (S := S6 N x A2 c2 A7 c7) _ (by kernel_rfl) rfl rfl (SX.out _ (blk_drew HX5.out)) (fun hH => ?_)
 refine XReg.pu 0 14 (h := ?_)
 refine XReg.pu 1 15 (h := ?_)
 refine XReg.pu 2 16 (h := ?_)
 cases b1 with
 | false =>
   have HF := Aside0.mk (not_right (x := x) (fun h _ _ _ _ _ _ _ => by rw [HO1.out] at h; cases h))
   refine XReg.pn 3 17 (h := ?_)
   refine XReg.pn 4 18 (h := ?_)
   refine XReg.pu 5 19 (h := ?_)
   refine XReg.pu 6 20 (h := ?_)
   refine XReg.pn 7 21 (h := ?_)
   refine XReg.pn 8 22 (h := ?_)
   refine XReg.pn 9 23 (h := ?_)
   refine XReg.pn 10 24 (h := ?_)
   refine XReg.pn 11 25 (h := ?_)
   refine XReg.pn 12 26 (h := ?_)
   refine XReg.pn 13 27 (h := ?_)
   refine XReg.pn 14 28 (h := ?_)
   refine XReg.pn 15 29 (h := ?_)
   refine XReg.pn 16 30 (h := ?_)
   refine XReg.pn 17 31 (h := ?_)
   refine XReg.pu 18 32 (h := ?_)
   refine XReg.pu 19 33 (h := ?_)
   refine XReg.pn 20 34 (h := ?_)
   refine XReg.pn 21 35 (h := ?_)
   refine XReg.pn 22 36 (h := ?_)
   refine XReg.pn 23 37 (h := ?_)
   refine XReg.pu 24 38 (h := ?_)
   refine done_ (by kernel_rfl) ?_
   go_wp2
   go_ret
   exact ⟨by rw [HF.out]; rfl, by first | exact HBd.out | (rw [← hN]; exact HBd.out)⟩
 | true =>
   refine XReg.pu 3 17 (h := ?_)
   refine XReg.pu 4 18 (h := ?_)
   refine XReg.pu 5 19 (h := ?_)
   refine XReg.pu 6 20 (h := ?_)
   cases b2 with
   | false =>
     have HF := Aside0.mk (not_right (x := x) (fun _ h _ _ _ _ _ _ => by rw [HO2.out] at h; cases h))
     refine XReg.pn 7 21 (h := ?_)
     refine XReg.pn 8 22 (h := ?_)
     refine XReg.pn 9 23 (h := ?_)
     refine XReg.pn 10 24 (h := ?_)
     refine XReg.pn 11 25 (h := ?_)
     refine XReg.pn 12 26 (h := ?_)
     refine XReg.pn 13 27 (h := ?_)
     refine XReg.pn 14 28 (h := ?_)
     refine XReg.pn 15 29 (h := ?_)
     refine XReg.pn 16 30 (h := ?_)
     refine XReg.pn 17 31 (h := ?_)
     refine XReg.pu 18 32 (h := ?_)
     refine XReg.pu 19 33 (h := ?_)
     refine XReg.pn 20 34 (h := ?_)
     refine XReg.pn 21 35 (h := ?_)
     refine XReg.pn 22 36 (h := ?_)
     refine XReg.pn 23 37 (h := ?_)
     refine XReg.pu 24 38 (h := ?_)
     refine done_ (by kernel_rfl) ?_
     go_wp2
     go_ret
     exact ⟨by rw [HF.out]; rfl, by first | exact HBd.out | (rw [← hN]; exact HBd.out)⟩
   | true =>
     refine XReg.pu 7 21 (h := ?_)
     refine XReg.tk 8 22 (hy := by (intro w' hS_; obtain ⟨s0, s1, s2, s3, s4, s5⟩ := hS_; go_simp; with_reducible rfl)) (h := ?_)
     refine XReg.pu 9 23 (h := ?_)
     refine XReg.pu 10 24 (h := ?_)
     refine XReg.tk 11 25 (hy := by (intro w' hS_; obtain ⟨s0, s1, s2, s3, s4, s5⟩ := hS_; go_simp; with_reducible rfl)) (h := ?_)
     refine XReg.pu 13 27 (h := ?_)
     refine XReg.pu 14 28 (h := ?_)
     refine XReg.tk 15 29 (hy := by (intro w' hS_; obtain ⟨s0, s1, s2, s3, s4, s5⟩ := hS_; go_simp; with_reducible rfl)) (h := ?_)
     refine XReg.pu 16 30 (h := ?_)
     refine XReg.one (i := 12) (some 26) rfl rfl (by kernel_rfl) (by decide) (fun Kc hKc => ?_)
     refine goes_ Try.func74 (by kernel_rfl) rfl #[.slice A2 x.f1.length c2, .string x.f0.f0] (by rfl) rfl rfl (by (try simp only [List.map_toArray, List.map_cons, List.map_nil]); first | done | rfl) ?_
     refine (pannierref07_At.calls _ A2 c2 x.f1 x.f0.f0 _ _ (Kd.C_drew (Kd.C_below HG2.out HB5.out)) HL2.out HA.out).mono ?_
     rintro e w6 ⟨rfl, hb6⟩
     refine ⟨_, rfl, ?_⟩
     have HB6 := Aside0.mk (HBd.out.trans (hb6.below.mono HBd.out.size))
     have HX6 := Aside0.mk (blk_below (blk_drew HX5.out) hb6.below)
     refine hKc.out _ _ (SX.out _ HX6.out) (fun hH2 => ?_)
     clear hKc Kc hH hb6 HBd HX5 HB5
     have hwr : wrap64 (x.f0.f1 - 1) = x.f0.f1 - 1 := by have := dot_parts (n := x.f0.f0) (d := x.f0.f1) HO1.out; unfold wrap64; omega
     rw [hwr]
     clear hwr
     refine XReg.pu 17 31 (h := ?_)
     obtain ⟨b3, hb3⟩ : ∃ b, (atS x.f0.f0 x.f1 != x.f0.f1 - 1) = b := ⟨_, rfl⟩
     rw [hb3]
     refine XReg.pu 18 32 (h := ?_)
     refine XReg.pu 19 33 (h := ?_)
     cases b3 with
     | true =>
       have HF := Aside0.mk (not_right (x := x) (fun _ _ h _ _ _ _ _ => by rw [h] at hb3; simp at hb3))
       clear hb3
       refine XReg.pn 20 34 (h := ?_)
       refine XReg.pn 21 35 (h := ?_)
       refine XReg.pn 22 36 (h := ?_)
       refine XReg.pn 23 37 (h := ?_)
       refine XReg.pu 24 38 (h := ?_)
       refine done_ (by kernel_rfl) ?_
       go_wp2
       go_ret
       exact ⟨by rw [HF.out]; rfl, by first | exact HB6.out | (rw [← hN]; exact HB6.out)⟩
     | false =>
       have HO3 := Aside0.mk (show atS x.f0.f0 x.f1 = x.f0.f1 - 1 from by simpa using hb3)
       clear hb3
       refine XReg.pu 20 34 (h := ?_)
       refine XReg.tk 21 35 (hy := by (intro w' hS_; obtain ⟨s0, s1, s2, s3, s4, s5⟩ := hS_; go_simp; with_reducible rfl)) (h := ?_)
       refine XReg.pu 22 36 (h := ?_)
       refine XReg.pu 23 37 (h := ?_)
       obtain ⟨b6, hb6⟩ : ∃ b, decide ((128 : Int) < (x.f6.length : Int)) = b := ⟨_, rfl⟩
       rw [hb6]
       refine XReg.pu 24 38 (h := ?_)
       refine done_ (by kernel_rfl) ?_
       cases b6 with
       | true =>
         have HF := Aside0.mk (not_right (x := x) (fun _ _ _ _ _ h _ _ => by simp at hb6; omega))
         clear hb6
         go_wp2
         go_ret
         exact ⟨by rw [HF.out]; rfl, by first | exact HB6.out | (rw [← hN]; exact HB6.out)⟩
       | false =>
         have HO6 := Aside0.mk (show x.f6.length ≤ 128 from by simp at hb6; omega)
         clear hb6 hH2
         obtain ⟨n0, n1, n2, n3, n4, n5, n6, n7⟩ := cells8 HX6.out
         go_wp2
         all_goals try (go_ret; exact ⟨by rw [not_right (x := x) (fun _ _ _ h4 h5 _ _ _ => by simp only [Bool.and_eq_true, decide_eq_true_eq] at h4 h5; omega)]; rfl, by first | exact HB6.out | (rw [← hN]; exact HB6.out)⟩)
         clear n0 n1 n2 n3 n4 n5 n6 n7
         have HO4 := Aside0.mk (show (decide (1 ≤ x.f2.size) && decide (x.f2.size ≤ 32)) = true from by simp only [Bool.and_eq_true, decide_eq_true_eq]; omega)
         have HO5 := Aside0.mk (show (decide (1 ≤ x.f4.size) && decide (x.f4.size ≤ 32)) = true from by simp only [Bool.and_eq_true, decide_eq_true_eq]; omega)
         have HW6 := Aside0.mk (Below.refl w6.heap.size w6)
         go_loopw [5] (fun v5 wr => ∃ i : Nat, v5 = .int .i64 i ∧ i ≤ x.f6.length ∧ Aside0 (seenS x.f1 none x.f6 = seenS x.f1 (if i = 0 then none else some (rd_T72 x.f6 ((i - 1 : Nat) : Int))) (x.f6.drop i)) ∧ Aside0 (Below w6.heap.size w6 wr)) (fun v5 _ => x.f6.length - (intOf v5).toNat)
         case atStart => exact ⟨0, rfl, by omega, ⟨rfl⟩, HW6⟩
         case round =>
          clear HW6
          obtain ⟨i, rfl, hile, HSi, HBi⟩ := hrel
          have HXi := Aside0.mk (blk_below HX6.out HBi.out)
          have e7 : wr.cell? ⟨N, 7, none⟩ = some (.slice A7 x.f6.length c7) := (blk_cell HXi.out 7).trans rfl
          have hib : i ≤ 128 := by have := HO6.out; omega
          by_cases hlt : i < x.f6.length
          · have q1 : decide ((i : Int) < (x.f6.length : Int)) = true := by simp; omega
            go_wp2
            obtain ⟨ad, had, _, _⟩ := at_T72 (Kd.C_below HG7.out (HB6.out.trans (HBi.out.mono HB6.out.size))) (i : Int) (by omega) (by omega)
            subst had
            obtain ⟨d, hd⟩ : ∃ d, rd_T72 x.f6 (i : Int) = d := ⟨_, rfl⟩
            have hsn := HSi.out
            rw [rd_drop x.f6 i hlt, hd, seenS_cons] at hsn
            have HSN := Aside0.mk hsn
            have hzd : d.f0.size ≤ m := by rw [← hd]; exact HZ6.out _ (by unfold rd_T72; rw [Int.toNat_natCast, List.getD_eq_getElem?_getD, List.getElem?_eq_getElem hlt]; exact List.getElem_mem hlt)
            have HZD := Aside0.mk hzd
            have hb3 : 0 ≤ (i : Int) ∧ (i : Int) < (x.f6.length : Int) := by omega
            have cellsT : ∀ w' : World, Below w6.heap.size w6 w' → S6 N x A2 c2 (some ad) c7 w' ∧ ∀ q : Nat, q < x.f6.length → w'.cell? (ad.add (q * 2)) = some (.string (rd_T72 x.f6 (q : Int)).f0) ∧ w'.cell? ⟨(ad.add (q * 2)).block, (ad.add (q * 2)).off + 1, none⟩ = some (.int .i64 (rd_T72 x.f6 (q : Int)).f1) := fun w' hb => ⟨SX.out _ (blk_below HX6.out hb), fun q hq => by
             obtain ⟨ad', had', f0, f1⟩ := at_T72 (Kd.C_below HG7.out (HB6.out.trans (hb.mono HB6.out.size))) (q : Int) (by omega) (by omega)
             cases had'
             exact ⟨f0, f1⟩⟩
            have CT := Aside0.mk cellsT
            have HBid := Aside0.mk (HBi.out.trans ((below_drew1 (Below.refl _ wr)).mono HBi.out.size))
            clear hsn hzd cellsT e7 q1
            refine start_ (n := 9) (ds := []) (S := fun w' => S6 N x A2 c2 (some ad) c7 w' ∧ ∀ q : Nat, q < x.f6.length → w'.cell? (ad.add (q * 2)) = some (.string (rd_T72 x.f6 (q : Int)).f0) ∧ w'.cell? ⟨(ad.add (q * 2)).block, (ad.add (q * 2)).off + 1, none⟩ = some (.int .i64 (rd_T72 x.f6 (q : Int)).f1)) _ (by kernel_rfl) rfl rfl (CT.out _ HBid.out) (fun hH => ?_)
            refine XReg.pu 0 68 (h := ?_)
            refine XReg.tk 1 69 (hy := by (intro w' hS_; obtain ⟨⟨s0, s1, s2, s3, s4, s5⟩, _⟩ := hS_; go_simp; with_reducible rfl)) (h := ?_)
            refine XReg.pu 2 70 (h := ?_)
            refine XReg.tk 3 71 (hy := by (intro w' hS_; obtain ⟨⟨s0, s1, s2, s3, s4, s5⟩, _⟩ := hS_; go_simp; with_reducible rfl)) (h := ?_)
            refine XReg.pu 4 72 (h := ?_)
            refine XReg.pu 5 73 (h := ?_)
            refine XReg.tk 6 74 (hy := by (intro w' hS_; obtain ⟨_, s8⟩ := hS_; go_simp; with_reducible rfl)) (h := ?_)
            try rw [hd]
            refine XReg.one (i := 7) (some 75) rfl rfl (by kernel_rfl) (by decide) (fun Kc hKc => ?_)
            refine goes_ Try.func75 (by kernel_rfl) rfl #[.slice A2 x.f1.length c2, .agg #[.string d.f0, .int .i64 d.f1]] (by rfl) rfl rfl (by (try simp only [List.map_toArray, List.map_cons, List.map_nil]); first | done | rfl) ?_
            refine (refHasS_calls x.f1 d A2 c2 _ HL2.out (Kd.C_below HG2.out (HB6.out.trans (HBid.out.mono HB6.out.size))) m HM.out HZ1.out HZD.out).mono ?_
            rintro e wb ⟨rfl, hbb⟩
            refine ⟨_, rfl, ?_⟩
            have HBb := Aside0.mk (HBid.out.trans (hbb.mono HBid.out.size))
            refine hKc.out _ _ (CT.out _ HBb.out) (fun hH2 => ?_)
            refine XReg.pu 8 6 (h := ?_)
            refine done_ (by kernel_rfl) ?_
            clear hKc Kc hH hH2 hbb HBid
            obtain ⟨bh, hbh⟩ : ∃ b, hasS x.f1 d.f0 d.f1 = b := ⟨_, rfl⟩
            rw [hbh]
            have hsn := HSN.out
            rw [hbh] at hsn
            go_wp2
            have HBbd := Aside0.mk (HBb.out.trans ((below_drew1 (Below.refl _ wb)).mono HBb.out.size))
            refine start_ (n := 21) (ds := []) (S := fun w' => S6 N x A2 c2 (some ad) c7 w' ∧ ∀ q : Nat, q < x.f6.length → w'.cell? (ad.add (q * 2)) = some (.string (rd_T72 x.f6 (q : Int)).f0) ∧ w'.cell? ⟨(ad.add (q * 2)).block, (ad.add (q * 2)).off + 1, none⟩ = some (.int .i64 (rd_T72 x.f6 (q : Int)).f1)) _ (by kernel_rfl) rfl rfl (CT.out _ HBbd.out) (fun hH => ?_)
            refine XReg.pu 0 76 (h := ?_)
            refine XReg.pu 1 77 (h := ?_)
            refine XReg.pu 2 78 (h := ?_)
            cases bh with
            | false =>
              have HF := Aside0.mk (not_right (x := x) (fun _ _ _ _ _ _ h _ => by rw [hsn] at h; simp at h))
              clear hbh hsn
              refine XReg.pn 3 79 (h := ?_)
              refine XReg.pn 4 80 (h := ?_)
              refine XReg.pn 5 81 (h := ?_)
              refine XReg.pn 6 82 (h := ?_)
              refine XReg.pn 7 83 (h := ?_)
              refine XReg.pn 8 84 (h := ?_)
              refine XReg.pn 9 85 (h := ?_)
              refine XReg.pn 10 86 (h := ?_)
              refine XReg.pn 11 87 (h := ?_)
              refine XReg.pn 12 88 (h := ?_)
              refine XReg.pn 13 89 (h := ?_)
              refine XReg.pn 14 90 (h := ?_)
              refine XReg.pn 15 91 (h := ?_)
              refine XReg.pn 16 92 (h := ?_)
              refine XReg.pn 17 93 (h := ?_)
              refine XReg.pn 18 94 (h := ?_)
              refine XReg.pn 19 95 (h := ?_)
              refine XReg.pu 20 96 (h := ?_)
              refine done_ (by kernel_rfl) ?_
              go_wp2
              go_ret
              exact ⟨by rw [HF.out]; rfl, HB6.out.trans (HBbd.out.mono HB6.out.size)⟩
            | true =>
              by_cases h0 : i = 0
              · have HSN' := Aside0.mk (show seenS x.f1 none x.f6 = seenS x.f1 (some d) (x.f6.drop (i + 1)) from by rw [hsn, if_pos h0]; simp)
                have hz : decide (0 < i) = false := by simp; omega
                clear hsn hbh h0
                refine XReg.pu 3 79 (h := ?_)
                refine XReg.pu 4 80 (h := ?_)
                refine XReg.pu 5 81 (h := ?_)
                refine XReg.pn 6 82 (h := ?_)
                refine XReg.pn 7 83 (h := ?_)
                refine XReg.pn 8 84 (h := ?_)
                refine XReg.pn 9 85 (h := ?_)
                refine XReg.pn 10 86 (h := ?_)
                refine XReg.pn 11 87 (h := ?_)
                refine XReg.pn 12 88 (h := ?_)
                refine XReg.pn 13 89 (h := ?_)
                refine XReg.pn 14 90 (h := ?_)
                refine XReg.pn 15 91 (h := ?_)
                refine XReg.pn 16 92 (h := ?_)
                refine XReg.pn 17 93 (h := ?_)
                refine XReg.pn 18 94 (h := ?_)
                refine XReg.pu 19 95 (h := ?_)
                refine XReg.pu 20 96 (h := ?_)
                refine done_ (by kernel_rfl) ?_
                go_wp2
                go_round
                case rel => exact ⟨i + 1, by go_num, by omega, ⟨by rw [if_neg (by omega), Nat.add_sub_cancel, hd]; exact HSN'.out⟩, HBbd⟩
                case measure => simp [intOf]; omega
              · obtain ⟨c, hcc⟩ : ∃ c, rd_T72 x.f6 ((i - 1 : Nat) : Int) = c := ⟨_, rfl⟩
                rw [if_neg h0, hcc] at hsn
                simp only [Bool.true_and] at hsn
                have hz : decide (0 < i) = true := by simp; omega
                have hwr : wrap64 ((i : Int) - 1) = ((i - 1 : Nat) : Int) := by unfold wrap64; omega
                have hb4 : 0 ≤ ((i - 1 : Nat) : Int) ∧ ((i - 1 : Nat) : Int) < (x.f6.length : Int) := by omega
                have hlt1 : i - 1 < x.f6.length := by omega
                clear hbh
                refine XReg.pu 3 79 (h := ?_)
                refine XReg.pu 4 80 (h := ?_)
                refine XReg.pu 5 81 (h := ?_)
                refine XReg.pu 6 82 (h := ?_)
                refine XReg.tk 7 83 (hy := by (intro w' hS_; obtain ⟨⟨s0, s1, s2, s3, s4, s5⟩, _⟩ := hS_; go_simp; with_reducible rfl)) (h := ?_)
                refine XReg.pu 8 84 (h := ?_)
                refine XReg.pu 9 85 (h := ?_)
                try rw [hwr]
                refine XReg.pu 10 86 (h := ?_)
                refine XReg.tk 11 87 (hy := by (intro w' hS_; obtain ⟨_, s8⟩ := hS_; go_simp; with_reducible rfl)) (h := ?_)
                try rw [hcc]
                refine XReg.pu 12 88 (h := ?_)
                refine XReg.tk 13 89 (hy := by (intro w' hS_; obtain ⟨⟨s0, s1, s2, s3, s4, s5⟩, _⟩ := hS_; go_simp; with_reducible rfl)) (h := ?_)
                refine XReg.pu 14 90 (h := ?_)
                refine XReg.pu 15 91 (h := ?_)
                refine XReg.tk 16 92 (hy := by (intro w' hS_; obtain ⟨_, s8⟩ := hS_; go_simp; with_reducible rfl)) (h := ?_)
                try rw [hd]
                refine XReg.one (i := 17) (some 93) rfl rfl (by kernel_rfl) (by decide) (fun Kc hKc => ?_)
                refine goes_ Try.func76 (by kernel_rfl) rfl #[.agg #[.string c.f0, .int .i64 c.f1], .agg #[.string d.f0, .int .i64 d.f1]] (by rfl) rfl rfl (by (try simp only [List.map_toArray, List.map_cons, List.map_nil]); first | done | rfl) ?_
                refine (pannierref08_ahead.calls c.f0 c.f1 d.f0 d.f1 _ _ (ahead_f c d)).mono ?_
                rintro e wc ⟨rfl, hbc⟩
                refine ⟨_, rfl, ?_⟩
                have HBc := Aside0.mk (HBbd.out.trans (hbc.mono HBbd.out.size))
                refine hKc.out _ _ (CT.out _ HBc.out) (fun hH2 => ?_)
                clear hKc Kc hH hbc
                obtain ⟨bt, hbt⟩ : ∃ b, lessD c d = b := ⟨_, rfl⟩
                rw [hbt] at hsn ⊢
                refine XReg.pu 18 94 (h := ?_)
                refine XReg.pu 19 95 (h := ?_)
                refine XReg.pu 20 96 (h := ?_)
                refine done_ (by kernel_rfl) ?_
                clear hH2 hbt
                cases bt with
                | false =>
                  have HF := Aside0.mk (not_right (x := x) (fun _ _ _ _ _ _ h _ => by rw [hsn] at h; simp at h))
                  clear hsn
                  go_wp2
                  go_ret
                  exact ⟨by rw [HF.out]; rfl, HB6.out.trans (HBc.out.mono HB6.out.size)⟩
                | true =>
                  simp only [Bool.true_and] at hsn
                  have HSN' := Aside0.mk hsn
                  clear hsn
                  go_wp2
                  go_round
                  case rel => exact ⟨i + 1, by go_num, by omega, ⟨by rw [if_neg (by omega), Nat.add_sub_cancel, hd]; exact HSN'.out⟩, HBc⟩
                  case measure => simp [intOf]; omega
          · have q1 : decide ((i : Int) < (x.f6.length : Int)) = false := by simp; omega
            have hsn := HSi.out
            rw [List.drop_eq_nil_of_le (by omega)] at hsn
            have HS := Aside0.mk (show seenS x.f1 none x.f6 = true from by rw [hsn]; rfl)
            have HK := Aside0.mk (show rightO x = kindS x from by
             unfold rightO
             rw [HO1.out, HO2.out, HS.out]
             have h4 := HO4.out
             have h5 := HO5.out
             rw [h4, h5]
             simp [HO3.out, HO6.out])
            have e4 : wr.cell? ⟨N, 4, none⟩ = some (.int .i64 x.f3) := (blk_cell HXi.out 4).trans rfl
            have e6 : wr.cell? ⟨N, 6, none⟩ = some (.int .i64 x.f5) := (blk_cell HXi.out 6).trans rfl
            have HBf := Aside0.mk (HB6.out.trans (HBi.out.mono HB6.out.size))
            clear hsn
            go_wp2
            all_goals
             go_ret
             refine ⟨?_, by first | exact HBf.out | (rw [← hN]; exact HBf.out)⟩
             rw [HK.out]
             refine congrArg (fun b => Ending.returned (Value.bool b)) ?_
             unfold kindS
             first | (simp_all; done) | (rw [Bool.eq_iff_iff]; simp_all; done) | (rw [Bool.eq_iff_iff]; simp_all; omega)
end Go.Proofs.Ytjejhgjdmbodiaa.PO
end
section
namespace Go.Proofs.Ytjejhgjdmbodiaa.PO
open Go.RowKit Go.Proofs.YtjejhgjdmbodiaaW.PrintWords Go.Proofs.YtjejhgjdmbodiaaW.PrintLast Go.Proofs.YtjejhgjdmbodiaaW.PrintMore Go.Proofs.Ytjejhgjdmbodiaa.XW
open Go.Proofs.Ytjejhgjdmbodiaa.XRange
set_option linter.unusedVariables false
set_option linter.unusedSimpArgs false
def WfO (m : Nat) (x : S74) : Prop := x.f0.f0.size ≤ m ∧ sizes m x.f1 ∧ sizes m x.f6
structure WfF (m : Nat) (f : Fr) : Prop where
 a : f.fa.size ≤ m
 b : f.fb.size ≤ m
 c : f.ct.size ≤ m
 kn : sizes m f.kn
 op : ∀ x, x ∈ f.op → WfO m x
 m : m ≤ 9223372036854775807
theorem rd_memF (l : List S74) (i : Nat) (h : i < l.length) : rd_T74 l (i : Int) ∈ l := by
 have : rd_T74 l (i : Int) = l[i] := by simp [rd_T74, List.getD, h]
 rw [this]
 exact List.getElem_mem h
set_option maxHeartbeats 8000000 in
set_option maxRecDepth 100000 in
theorem refOps_calls (l : List S74) (cart : ByteArray) (A : Option Addr) (c : Nat) (w : World) (hc : l.length ≤ c) (hC : Kd.C k74 w A l.length l) (m : Nat) (hm : m ≤ 9223372036854775807) (hz : ∀ x, x ∈ l → WfO m x) :
 Calls Try.prog 79 #[.slice A l.length c, .string cart] w fun e w' => e = .returned (.bool (!l.any (badO cart) && decide (0 < l.length) && decide (l.length ≤ 8))) ∧ Below w.heap.size w w' := by
 have HC := Aside0.mk hC
 have HM := Aside0.mk hm
 have HZ := Aside0.mk hz
 have hlm : l.length ≤ 9223372036854775807 := hC.2.1
 clear hC hm hz
 go_enter Try.func79, Try.ntmps79
 go_wp2
 go_loopw [5, 6] (fun v5 _ wr => ∃ j : Nat, j ≤ l.length ∧ v5 = .int .i64 j ∧ Aside0 ((l.drop j).any (badO cart) = l.any (badO cart)) ∧ Aside0 (Below w.heap.size w wr)) (fun v5 _ _ => l.length - (intOf v5).toNat)
 case atStart => exact ⟨0, Nat.zero_le _, rfl, ⟨by simp⟩, ⟨Below.refl _ _⟩⟩
 case round =>
  obtain ⟨j, hj, rfl, HJ, HB⟩ := hrel
  by_cases hlt : j < l.length
  · obtain ⟨ad, A2, c2, A7, c7, rfl, f0, f1, f2, f3, f4, f5, f6, f7, l2, g2, l7, g7⟩ := at_T74 (Kd.C_below HC.out HB.out) (j : Int) (by omega) (by omega)
    simp only [Int.toNat_natCast] at f0 f1 f2 f3 f4 f5 f6 f7
    have HW := Aside0.mk (HZ.out _ (rd_memF l j hlt))
    obtain ⟨x, hx⟩ : ∃ x, rd_T74 l (j : Int) = x := ⟨_, rfl⟩
    rw [hx] at f0 f1 f2 f3 f4 f5 f6 f7 l2 g2 l7 g7 HW
    have HD := Aside0.mk (show l.drop j = x :: l.drop (j + 1) from by rw [← hx]; exact rd_drop36' l j hlt)
    have HL2 := Aside0.mk l2
    have HG2 := Aside0.mk g2
    have HL7 := Aside0.mk l7
    have HG7 := Aside0.mk g7
    have hb3 : 0 ≤ (j : Int) ∧ (j : Int) < (l.length : Int) := by omega
    have q1 : decide ((j : Int) < (l.length : Int)) = true := by simp; omega
    have hbk := World.block_lt_of_cell? wr _ f3
    clear l2 g2 l7 g7 hx
    go_wp2_with fail
    refine (refRightO_calls x A2 c2 A7 c7 _ HL2.out HG2.out HL7.out HG7.out m HM.out HW.out.1 HW.out.2.1 HW.out.2.2).mono ?_
    rintro e w1 ⟨rfl, hb1⟩
    have HB1 := Aside0.mk (HB.out.trans (hb1.mono HB.out.size))
    have f3' := (hb1.cell (p := ⟨(ad.add (j * 8)).block, (ad.add (j * 8)).off + 3, none⟩) hbk).trans f3
    obtain ⟨b, hb⟩ : ∃ b, rightO x = b := ⟨_, rfl⟩
    have HBX := Aside0.mk hb
    rw [hb]
    clear hb hb1 f0 f1 f2 f3 f4 f5 f6 f7 hbk
    cases b with
    | false =>
      go_wp2
      go_ret
      refine ⟨?_, HB1.out⟩
      rw [← HJ.out, HD.out, List.any_cons]
      unfold badO
      rw [HBX.out]
      simp
    | true =>
      by_cases he : x.f2.toList = cart.toList
      · have q2 : (x.f2.toList == cart.toList) = true := by simp [he]
        have HE := Aside0.mk (bytes_inj he)
        go_wp2
        refine ⟨⟨j + 1, by omega, by go_num, ⟨by rw [← HJ.out, HD.out, List.any_cons]; unfold badO; rw [HBX.out, HE.out]; simp⟩, HB1⟩, ?_⟩
        simp [intOf]
        omega
      · have q2 : (x.f2.toList == cart.toList) = false := by simp [he]
        have HE := Aside0.mk (show x.f2 ≠ cart from fun h => he (by rw [h]))
        go_wp2
        go_ret
        refine ⟨?_, HB1.out⟩
        rw [← HJ.out, HD.out, List.any_cons]
        unfold badO
        simp [HE.out]
  · have q1 : decide ((j : Int) < (l.length : Int)) = false := by simp; omega
    have HF := Aside0.mk (show l.any (badO cart) = false from by rw [← HJ.out, List.drop_eq_nil_of_le (by omega)]; rfl)
    by_cases h1 : 1 ≤ l.length
    · have q2 : decide ((1 : Int) ≤ (l.length : Int)) = true := by simp; omega
      go_wp2
      go_ret
      refine ⟨?_, HB.out⟩
      rw [HF.out, show decide (0 < l.length) = true from decide_eq_true (by omega)]
      simp
      try omega
    · have q2 : decide ((1 : Int) ≤ (l.length : Int)) = false := by simp; omega
      go_wp2
      go_ret
      refine ⟨?_, HB.out⟩
      rw [HF.out, show decide (0 < l.length) = false from decide_eq_false (by omega)]
      simp
      try omega
theorem refName_calls (s : ByteArray) (hs : s.size ≤ 9223372036854775807) (w : World) : Calls Try.prog 41 #[.string s] w fun e w' => e = .returned (.bool (isNameB s)) ∧ Below w.heap.size w w' :=
 (pannierref07_IsName.calls (s.size + 1) s (isNameB s) w (refName_f s hs (s.size + 1) (by omega))).mono (fun e w' h => ⟨h.1, h.2.below⟩)
theorem refRightS_calls (l : List S72) (A : Option Addr) (c : Nat) (w : World) (hl : l.length ≤ c) (hC : Kd.C k72 w A l.length l) (m : Nat) (hm : m ≤ 9223372036854775807) (hz : sizes m l) : Calls Try.prog 73 #[.slice A l.length c] w fun e w' => e = .returned (.bool (rightS l)) ∧ Below w.heap.size w w' :=
 pannierref07_Right.calls (l.length + m + 3) A c l (rightS l) w hC hl (refRight_f l hC.2.1 m hm hz _ (by omega))
set_option maxHeartbeats 8000000 in
set_option maxRecDepth 100000 in
theorem refRightF_calls (f : Fr) (A7 : Option Addr) (c7 : Nat) (A8 : Option Addr) (c8 : Nat) (w : World) (l7 : f.kn.length ≤ c7) (g7 : Kd.C k72 w A7 f.kn.length f.kn) (l8 : f.op.length ≤ c8) (g8 : Kd.C k74 w A8 f.op.length f.op) (m : Nat) (hz : WfF m f) :
 Calls Try.prog 47 #[.agg #[.int .i64 f.k, .string f.fa, .string f.fb, .string f.ct, .int .i64 f.se, .int .i64 f.ix, .int .i64 f.mn, .slice A7 f.kn.length c7, .slice A8 f.op.length c8]] w fun e w' => e = .returned (.bool (rightF f)) ∧ Below w.heap.size w w' := by
 have HG7 := Aside0.mk g7
 have HG8 := Aside0.mk g8
 have HL7 := Aside0.mk l7
 have HL8 := Aside0.mk l8
 have HZ := Aside0.mk hz
 clear l7 g7 l8 g8 hz
 obtain ⟨N, hN⟩ : ∃ N, w.heap.size = N := ⟨_, rfl⟩
 go_enter Try.func47, Try.ntmps47
 go_upto_region 1 with fail
 obtain ⟨w0, hw0⟩ : ∃ w0, w.alloc (.cells #[.int .i64 f.k, .string f.fa, .string f.fb, .string f.ct, .int .i64 f.se, .int .i64 f.ix, .int .i64 f.mn, .slice A7 f.kn.length c7, .slice A8 f.op.length c8] 34) = w0 := ⟨_, rfl⟩
 have HB0 := Aside0.mk (show Below w.heap.size w w0 from by rw [← hw0]; exact (Below.refl _ w).alloc (Nat.le_refl _) _)
 have HK0 := Aside0.mk (show w0.heap[N]? = some (.cells #[.int .i64 f.k, .string f.fa, .string f.fb, .string f.ct, .int .i64 f.se, .int .i64 f.ix, .int .i64 f.mn, .slice A7 f.kn.length c7, .slice A8 f.op.length c8] 34 (0, 0)) from by rw [← hw0, ← hN]; exact World.alloc_heap_new w _)
 try rw [hw0]
 try rw [hN]
 clear hw0
 obtain ⟨k0, k1, k2, k3, k4, k5, k6, k7, k8⟩ := cells9 HK0.out
 go_wp2_with fail
 refine (refName_calls f.fa (Nat.le_trans HZ.out.a HZ.out.m) _).mono ?_
 obtain ⟨b1, hb1⟩ : ∃ b, isNameB f.fa = b := ⟨_, rfl⟩
 have HN1 := Aside0.mk hb1
 rw [hb1]
 rintro e w1 ⟨rfl, hb⟩
 have HB1 := Aside0.mk (HB0.out.trans (hb.mono HB0.out.size))
 have HK1 := Aside0.mk (blk_below HK0.out hb)
 clear hb1 hb k0 k1 k2 k3 k4 k5 k6 k7 k8 HB0 HK0
 obtain ⟨k0, k1, k2, k3, k4, k5, k6, k7, k8⟩ := cells9 HK1.out
 go_wp2_with fail
 refine (refName_calls f.fb (Nat.le_trans HZ.out.b HZ.out.m) _).mono ?_
 obtain ⟨b2, hb2⟩ : ∃ b, isNameB f.fb = b := ⟨_, rfl⟩
 have HN2 := Aside0.mk hb2
 rw [hb2]
 rintro e w2 ⟨rfl, hb⟩
 have HB2 := Aside0.mk (HB1.out.trans (hb.mono HB1.out.size))
 have HK2 := Aside0.mk (blk_below HK1.out hb)
 clear hb2 hb k0 k1 k2 k3 k4 k5 k6 k7 k8 HB1 HK1
 obtain ⟨k0, k1, k2, k3, k4, k5, k6, k7, k8⟩ := cells9 HK2.out
 have no : headF f = false → rightF f = false := fun h => by unfold rightF; rw [h]; rfl
 have NO := Aside0.mk no
 clear no
 cases b1 with
 | false =>
   go_wp2
   go_ret
   exact ⟨by rw [NO.out (by unfold headF; rw [HN1.out]; rfl)]; rfl, by first | exact HB2.out | (rw [← hN]; exact HB2.out)⟩
 | true =>
 cases b2 with
 | false =>
   go_wp2
   go_ret
   exact ⟨by rw [NO.out (by unfold headF; rw [HN1.out, HN2.out]; rfl)]; rfl, by first | exact HB2.out | (rw [← hN]; exact HB2.out)⟩
 | true =>
 by_cases he : f.fa.toList = f.fb.toList
 · have q : (f.fa.toList == f.fb.toList) = true := by simp [he]
   have HE := Aside0.mk (bytes_inj he)
   go_wp2
   go_ret
   exact ⟨by rw [NO.out (by unfold headF; rw [HE.out]; simp)]; rfl, by first | exact HB2.out | (rw [← hN]; exact HB2.out)⟩
 have q : (f.fa.toList == f.fb.toList) = false := by simp [he]
 have HE := Aside0.mk (show f.fa ≠ f.fb from fun h => he (by rw [h]))
 clear he
 by_cases h1 : f.ct.size < 1
 · have HH := Aside0.mk h1
   go_wp2
   go_ret
   exact ⟨by rw [NO.out (by unfold headF; rw [show decide (1 ≤ f.ct.size) = false from decide_eq_false (by have := HH.out; omega)]; simp)]; rfl, by first | exact HB2.out | (rw [← hN]; exact HB2.out)⟩
 by_cases h2 : 32 < f.ct.size
 · have HH := Aside0.mk h2
   go_wp2
   go_ret
   exact ⟨by rw [NO.out (by unfold headF; rw [show decide (f.ct.size ≤ 32) = false from decide_eq_false (by have := HH.out; omega)]; simp)]; rfl, by first | exact HB2.out | (rw [← hN]; exact HB2.out)⟩
 by_cases h3 : f.se < 1
 · have HH := Aside0.mk h3
   go_wp2
   go_ret
   exact ⟨by rw [NO.out (by unfold headF; rw [show decide (1 ≤ f.se) = false from decide_eq_false (by have := HH.out; omega)]; simp)]; rfl, by first | exact HB2.out | (rw [← hN]; exact HB2.out)⟩
 by_cases h4 : f.se > 1152921504606846976
 · have HH := Aside0.mk h4
   go_wp2
   go_ret
   exact ⟨by rw [NO.out (by unfold headF; rw [show decide (f.se ≤ 1152921504606846976) = false from decide_eq_false (by have := HH.out; omega)]; simp)]; rfl, by first | exact HB2.out | (rw [← hN]; exact HB2.out)⟩
 have HR := Aside0.mk (show rightF f = (decide (0 ≤ f.ix) && bodyF f) from by
  unfold rightF headF
  rw [HN1.out, HN2.out, show decide (f.fa ≠ f.fb) = true from decide_eq_true HE.out, show decide (1 ≤ f.ct.size) = true from decide_eq_true (by omega), show decide (f.ct.size ≤ 32) = true from decide_eq_true (by omega),
   show decide (1 ≤ f.se) = true from decide_eq_true (by omega), show decide (f.se ≤ 1152921504606846976) = true from decide_eq_true (by omega)]
  simp)
 clear NO HN1 HN2 HE
 go_upto_region 5 with fail
 clear h1 h2 h3 h4 q
 by_cases p1 : f.k = 1
 · have q1 : (f.k == 1) = true := by simp [p1]
   have HK1 := Aside0.mk p1
   clear p1
   go_wp2_with fail
   refine (refRightS_calls f.kn A7 c7 _ HL7.out (Kd.C_below HG7.out HB2.out) m HZ.out.m HZ.out.kn).mono ?_
   obtain ⟨b3, hb3⟩ : ∃ b, rightS f.kn = b := ⟨_, rfl⟩
   have HN3 := Aside0.mk hb3
   rw [hb3]
   rintro e w3 ⟨rfl, hb⟩
   have HB3 := Aside0.mk (HB2.out.trans (hb.mono HB2.out.size))
   have HK3 := Aside0.mk (blk_below HK2.out hb)
   clear hb3 hb k0 k1 k2 k3 k4 k5 k6 k7 k8 HB2 HK2
   obtain ⟨k0, k1, k2, k3, k4, k5, k6, k7, k8⟩ := cells9 HK3.out
   cases b3 with
   | false =>
     go_wp2
     go_ret
     refine ⟨?_, by first | exact HB3.out | (rw [← hN]; exact HB3.out)⟩
     rw [HR.out]
     unfold bodyF
     rw [if_pos HK1.out, HN3.out]
     simp []
     all_goals (intros; omega)
   | true =>
   by_cases c1 : 0 ≤ f.ix
   case neg =>
    go_wp2
    go_ret
    refine ⟨?_, by first | exact HB3.out | (rw [← hN]; exact HB3.out)⟩
    rw [HR.out]
    unfold bodyF
    rw [if_pos HK1.out, HN3.out]
    simp [c1]
    all_goals (intros; omega)
   by_cases c2 : f.ix ≤ 1152921504606846976
   case neg =>
    go_wp2
    go_ret
    refine ⟨?_, by first | exact HB3.out | (rw [← hN]; exact HB3.out)⟩
    rw [HR.out]
    unfold bodyF
    rw [if_pos HK1.out, HN3.out]
    simp [c1, c2]
    all_goals (intros; omega)
   by_cases c3 : f.mn = 0
   case neg =>
    have d3 : (f.mn == 0) = false := by simpa using c3
    go_wp2
    go_ret
    refine ⟨?_, by first | exact HB3.out | (rw [← hN]; exact HB3.out)⟩
    rw [HR.out]
    unfold bodyF
    rw [if_pos HK1.out, HN3.out]
    simp [c1, c2, c3]
    all_goals (intros; omega)
   have e3 : (f.mn == 0) = true := by simpa using c3
   by_cases c4 : f.op.length = 0
   case neg =>
    have d4 : (f.op.length == 0) = false := by simpa using c4
    go_wp2
    go_ret
    refine ⟨?_, by first | exact HB3.out | (rw [← hN]; exact HB3.out)⟩
    rw [HR.out]
    unfold bodyF
    rw [if_pos HK1.out, HN3.out]
    simp [c1, c2, c3, c4]
    all_goals (intros; omega)
   have e4 : (f.op.length == 0) = true := by simpa using c4
   go_wp2
   go_ret
   refine ⟨?_, by first | exact HB3.out | (rw [← hN]; exact HB3.out)⟩
   rw [HR.out]
   unfold bodyF
   rw [if_pos HK1.out, HN3.out]
   simp [c1, c2, c3, c4]
   all_goals (intros; omega)
 have q1 : (f.k == 1) = false := by simpa using p1
 by_cases p2 : f.k = 2
 · have q2 : (f.k == 2) = true := by simp [p2]
   have HK1 := Aside0.mk p1
   have HP2 := Aside0.mk p2
   clear p1 p2
   go_wp2_with fail
   refine (refOps_calls f.op f.ct A8 c8 _ HL8.out (Kd.C_below HG8.out HB2.out) m HZ.out.m HZ.out.op).mono ?_
   obtain ⟨b3, hb3⟩ : ∃ b, (!f.op.any (badO f.ct) && decide (0 < f.op.length) && decide (f.op.length ≤ 8)) = b := ⟨_, rfl⟩
   have HN3 := Aside0.mk (show bodyF f = (decide (f.kn.length = 0) && decide (f.ix < f.mn) && decide (f.mn ≤ 512) && b3) from by
    unfold bodyF
    rw [if_neg HK1.out, if_pos HP2.out, ← hb3]
    cases !f.op.any (badO f.ct) <;> cases decide (0 < f.op.length) <;> cases decide (f.op.length ≤ 8) <;> simp)
   rw [hb3]
   rintro e w3 ⟨rfl, hb⟩
   have HB3 := Aside0.mk (HB2.out.trans (hb.mono HB2.out.size))
   have HK3 := Aside0.mk (blk_below HK2.out hb)
   clear hb3 hb k0 k1 k2 k3 k4 k5 k6 k7 k8 HB2 HK2
   obtain ⟨k0, k1, k2, k3, k4, k5, k6, k7, k8⟩ := cells9 HK3.out
   cases b3 with
   | false =>
     go_wp2
     go_ret
     refine ⟨?_, by first | exact HB3.out | (rw [← hN]; exact HB3.out)⟩
     rw [HR.out]
     rw [HN3.out]
     simp []
     all_goals (intros; omega)
   | true =>
   by_cases c1 : 0 ≤ f.ix
   case neg =>
    go_wp2
    go_ret
    refine ⟨?_, by first | exact HB3.out | (rw [← hN]; exact HB3.out)⟩
    rw [HR.out]
    rw [HN3.out]
    simp [c1]
    all_goals (intros; omega)
   by_cases c2 : f.ix < f.mn
   case neg =>
    go_wp2
    go_ret
    refine ⟨?_, by first | exact HB3.out | (rw [← hN]; exact HB3.out)⟩
    rw [HR.out]
    rw [HN3.out]
    simp [c1, c2]
    all_goals (intros; omega)
   by_cases c3 : f.mn ≤ 512
   case neg =>
    go_wp2
    go_ret
    refine ⟨?_, by first | exact HB3.out | (rw [← hN]; exact HB3.out)⟩
    rw [HR.out]
    rw [HN3.out]
    simp [c1, c2, c3]
    all_goals (intros; omega)
   by_cases c4 : f.kn.length = 0
   case neg =>
    have d4 : (f.kn.length == 0) = false := by simpa using c4
    go_wp2
    go_ret
    refine ⟨?_, by first | exact HB3.out | (rw [← hN]; exact HB3.out)⟩
    rw [HR.out]
    rw [HN3.out]
    simp [c1, c2, c3, c4]
    all_goals (intros; omega)
   have e4 : (f.kn.length == 0) = true := by simpa using c4
   go_wp2
   go_ret
   refine ⟨?_, by first | exact HB3.out | (rw [← hN]; exact HB3.out)⟩
   rw [HR.out]
   rw [HN3.out]
   simp [c1, c2, c3, c4]
   all_goals (intros; omega)
 have q2 : (f.k == 2) = false := by simpa using p2
 by_cases p3 : f.k = 3
 · have q3 : (f.k == 3) = true := by simp [p3]
   by_cases c0 : 0 ≤ f.ix
   case neg =>
    go_wp2
    go_ret
    refine ⟨?_, by first | exact HB2.out | (rw [← hN]; exact HB2.out)⟩
    rw [HR.out]
    unfold bodyF
    rw [if_neg p1, if_neg p2, show decide (f.k = 3) = true from decide_eq_true p3]
    simp [c0]
    all_goals (intros; omega)
   by_cases c1 : f.ix ≤ 512
   case neg =>
    go_wp2
    go_ret
    refine ⟨?_, by first | exact HB2.out | (rw [← hN]; exact HB2.out)⟩
    rw [HR.out]
    unfold bodyF
    rw [if_neg p1, if_neg p2, show decide (f.k = 3) = true from decide_eq_true p3]
    simp [c0, c1]
    all_goals (intros; omega)
   by_cases c2 : f.mn = 0
   case neg =>
    have d2 : (f.mn == 0) = false := by simpa using c2
    go_wp2
    go_ret
    refine ⟨?_, by first | exact HB2.out | (rw [← hN]; exact HB2.out)⟩
    rw [HR.out]
    unfold bodyF
    rw [if_neg p1, if_neg p2, show decide (f.k = 3) = true from decide_eq_true p3]
    simp [c0, c1, c2]
    all_goals (intros; omega)
   have e2 : (f.mn == 0) = true := by simpa using c2
   by_cases c3 : f.kn.length = 0
   case neg =>
    have d3 : (f.kn.length == 0) = false := by simpa using c3
    go_wp2
    go_ret
    refine ⟨?_, by first | exact HB2.out | (rw [← hN]; exact HB2.out)⟩
    rw [HR.out]
    unfold bodyF
    rw [if_neg p1, if_neg p2, show decide (f.k = 3) = true from decide_eq_true p3]
    simp [c0, c1, c2, c3]
    all_goals (intros; omega)
   have e3 : (f.kn.length == 0) = true := by simpa using c3
   by_cases c4 : f.op.length = 0
   case neg =>
    have d4 : (f.op.length == 0) = false := by simpa using c4
    go_wp2
    go_ret
    refine ⟨?_, by first | exact HB2.out | (rw [← hN]; exact HB2.out)⟩
    rw [HR.out]
    unfold bodyF
    rw [if_neg p1, if_neg p2, show decide (f.k = 3) = true from decide_eq_true p3]
    simp [c0, c1, c2, c3, c4]
    all_goals (intros; omega)
   have e4 : (f.op.length == 0) = true := by simpa using c4
   go_wp2
   go_ret
   refine ⟨?_, by first | exact HB2.out | (rw [← hN]; exact HB2.out)⟩
   rw [HR.out]
   unfold bodyF
   rw [if_neg p1, if_neg p2, show decide (f.k = 3) = true from decide_eq_true p3]
   simp [c0, c1, c2, c3, c4]
   all_goals (intros; omega)
 have q3 : (f.k == 3) = false := by simpa using p3
 go_wp2
 go_ret
 refine ⟨?_, by first | exact HB2.out | (rw [← hN]; exact HB2.out)⟩
 rw [HR.out]
 unfold bodyF
 rw [if_neg p1, if_neg p2, show decide (f.k = 3) = false from decide_eq_false p3]
 simp
end Go.Proofs.Ytjejhgjdmbodiaa.PO
end
section
namespace Go.Proofs.Ytjejhgjdmbodiaa.PO
open Go.RowKit Go.Proofs.YtjejhgjdmbodiaaW.PrintWords Go.Proofs.YtjejhgjdmbodiaaW.PrintLast Go.Proofs.YtjejhgjdmbodiaaW.PrintMore Go.Proofs.Ytjejhgjdmbodiaa.XW
open Go.Proofs.Ytjejhgjdmbodiaa.XRange Go.Proofs.Ytjejhgjdmbodiaa.XMap Go.Proofs.Ytjejhgjdmbodiaa.XSeq
set_option linter.unusedVariables false
set_option linter.unusedSimpArgs false
set_option maxHeartbeats 8000000 in
set_option maxRecDepth 100000 in
theorem refEqualO_calls (x y : S74) (A2 : Option Addr) (c2 : Nat) (A7 : Option Addr) (c7 : Nat) (B2 : Option Addr) (d2 : Nat) (B7 : Option Addr) (d7 : Nat) (w : World) (l2 : x.f1.length ≤ c2) (g2 : Kd.C k72 w A2 x.f1.length x.f1) (l7 : x.f6.length ≤ c7) (g7 : Kd.C k72 w A7 x.f6.length x.f6)
 (m2 : y.f1.length ≤ d2) (h2 : Kd.C k72 w B2 y.f1.length y.f1) (m7 : y.f6.length ≤ d7) (h7 : Kd.C k72 w B7 y.f6.length y.f6) :
 Calls Try.prog 49 #[.agg #[.string x.f0.f0, .int .i64 x.f0.f1, .slice A2 x.f1.length c2, .string x.f2, .int .i64 x.f3, .string x.f4, .int .i64 x.f5, .slice A7 x.f6.length c7], .agg #[.string y.f0.f0, .int .i64 y.f0.f1, .slice B2 y.f1.length d2, .string y.f2, .int .i64 y.f3, .string y.f4, .int .i64 y.f5, .slice B7 y.f6.length d7]] w
  fun e w' => e = .returned (.bool (decide (x = y))) ∧ Below w.heap.size w w' := by
 have HG2 := Aside0.mk g2
 have HG7 := Aside0.mk g7
 have HL2 := Aside0.mk l2
 have HL7 := Aside0.mk l7
 have HH2 := Aside0.mk h2
 have HH7 := Aside0.mk h7
 have HM2 := Aside0.mk m2
 have HM7 := Aside0.mk m7
 have HS2 := Aside0.mk (refSame_f x.f1 y.f1 g2.2.1 (x.f1.length + 1) (by omega))
 have HS7 := Aside0.mk (refSame_f x.f6 y.f6 g7.2.1 (x.f6.length + 1) (by omega))
 clear l2 g2 l7 g7 m2 h2 m7 h7
 obtain ⟨N, hN⟩ : ∃ N, w.heap.size = N := ⟨_, rfl⟩
 go_enter Try.func49, Try.ntmps49
 obtain ⟨w0, hw0⟩ : ∃ w0, (w.alloc (.cells #[.string x.f0.f0, .int .i64 x.f0.f1, .slice A2 x.f1.length c2, .string x.f2, .int .i64 x.f3, .string x.f4, .int .i64 x.f5, .slice A7 x.f6.length c7] 74)).alloc (.cells #[.string y.f0.f0, .int .i64 y.f0.f1, .slice B2 y.f1.length d2, .string y.f2, .int .i64 y.f3, .string y.f4, .int .i64 y.f5, .slice B7 y.f6.length d7] 74) = w0 := ⟨_, rfl⟩
 have hb0 : Below w.heap.size w w0 := by rw [← hw0]; exact ((Below.refl _ w).alloc (Nat.le_refl _) _).alloc (by simp) _
 have kx : w0.heap[N]? = some (.cells #[.string x.f0.f0, .int .i64 x.f0.f1, .slice A2 x.f1.length c2, .string x.f2, .int .i64 x.f3, .string x.f4, .int .i64 x.f5, .slice A7 x.f6.length c7] 74 (0, 0)) := by rw [← hw0, ← hN]; exact blk_alloc (World.alloc_heap_new w _) _
 have ky : w0.heap[N + 1]? = some (.cells #[.string y.f0.f0, .int .i64 y.f0.f1, .slice B2 y.f1.length d2, .string y.f2, .int .i64 y.f3, .string y.f4, .int .i64 y.f5, .slice B7 y.f6.length d7] 74 (0, 0)) := by
  rw [← hw0, ← hN]
  have h := World.alloc_heap_new (w.alloc (.cells #[.string x.f0.f0, .int .i64 x.f0.f1, .slice A2 x.f1.length c2, .string x.f2, .int .i64 x.f3, .string x.f4, .int .i64 x.f5, .slice A7 x.f6.length c7] 74)) (.cells #[.string y.f0.f0, .int .i64 y.f0.f1, .slice B2 y.f1.length d2, .string y.f2, .int .i64 y.f3, .string y.f4, .int .i64 y.f5, .slice B7 y.f6.length d7] 74)
  simpa using h
 have KX := Aside0.mk kx
 have KY := Aside0.mk ky
 have HB := Aside0.mk hb0
 clear kx ky hb0
 obtain ⟨n0, n1, n2, n3, n4, n5, n6, n7⟩ := cells8 KX.out
 obtain ⟨p0, p1, p2, p3, p4, p5, p6, p7⟩ := cells8 KY.out
 go_wp2_with fail
 refine (pannierref07_Same.calls (x.f1.length + 1) A2 c2 x.f1 B2 d2 y.f1 _ _ (Kd.C_below HG2.out HB.out) HL2.out (Kd.C_below HH2.out HB.out) HM2.out HS2.out).mono ?_
 rintro e w1 ⟨rfl, hd1⟩
 have KX1 := Aside0.mk (blk_below KX.out hd1.below)
 have KY1 := Aside0.mk (blk_below KY.out hd1.below)
 have HB1 := Aside0.mk (HB.out.trans (hd1.below.mono HB.out.size))
 clear n0 n1 n2 n3 n4 n5 n6 n7 p0 p1 p2 p3 p4 p5 p6 p7 hd1 KX KY HB hw0
 obtain ⟨n0, n1, n2, n3, n4, n5, n6, n7⟩ := cells8 KX1.out
 obtain ⟨p0, p1, p2, p3, p4, p5, p6, p7⟩ := cells8 KY1.out
 go_wp2_with fail
 refine (pannierref07_Same.calls (x.f6.length + 1) A7 c7 x.f6 B7 d7 y.f6 _ _ (Kd.C_below HG7.out HB1.out) HL7.out (Kd.C_below HH7.out HB1.out) HM7.out HS7.out).mono ?_
 rintro e w2 ⟨rfl, hd2⟩
 have KX2 := Aside0.mk (blk_below KX1.out hd2.below)
 have KY2 := Aside0.mk (blk_below KY1.out hd2.below)
 have HB2 := Aside0.mk (HB1.out.trans (hd2.below.mono HB1.out.size))
 clear n0 n1 n2 n3 n4 n5 n6 n7 p0 p1 p2 p3 p4 p5 p6 p7 hd2 KX1 KY1 HB1
 obtain ⟨n0, n1, n2, n3, n4, n5, n6, n7⟩ := cells8 KX2.out
 obtain ⟨p0, p1, p2, p3, p4, p5, p6, p7⟩ := cells8 KY2.out
 go_wp2
 all_goals
  go_ret
  refine ⟨?_, by first | exact HB2.out | (rw [← hN]; exact HB2.out)⟩
  congr 2
  simp only [Bool.eq_iff_iff, decide_eq_true_eq, eqO_iff]
  first | (simp_all; done) | (simp_all; rfl)
end Go.Proofs.Ytjejhgjdmbodiaa.PO
end
end
section
section
namespace Go.Proofs.Ytjejhgjdmbodiaa.PO
open Go.RowKit Go.Proofs.YtjejhgjdmbodiaaW.PrintWords Go.Proofs.YtjejhgjdmbodiaaW.PrintLast Go.Proofs.YtjejhgjdmbodiaaW.PrintMore
attribute [local go_sem] max2_int min2_int max_two min_two max_three min_three max_four min_four   -- for this text's walks alone
set_option linter.unusedVariables false
set_option linter.unusedSimpArgs false
end Go.Proofs.Ytjejhgjdmbodiaa.PO
end
section
namespace Go.Proofs.Ytjejhgjdmbodiaa.PO
open Go.RowKit Go.Proofs.YtjejhgjdmbodiaaW.PrintWords Go.Proofs.YtjejhgjdmbodiaaW.PrintLast Go.Proofs.YtjejhgjdmbodiaaW.PrintMore Go.Proofs.Ytjejhgjdmbodiaa.XW
open Go.Proofs.Ytjejhgjdmbodiaa.XRange
set_option linter.unusedVariables false
set_option linter.unusedSimpArgs false
end Go.Proofs.Ytjejhgjdmbodiaa.PO
end
section
namespace Go.Proofs.Ytjejhgjdmbodiaa.PO
open Go.RowKit Go.Proofs.YtjejhgjdmbodiaaW.PrintWords Go.Proofs.YtjejhgjdmbodiaaW.PrintLast Go.Proofs.YtjejhgjdmbodiaaW.PrintMore Go.Proofs.Ytjejhgjdmbodiaa.XW
open Go.Proofs.Ytjejhgjdmbodiaa.XRange
set_option linter.unusedVariables false
set_option linter.unusedSimpArgs false
end Go.Proofs.Ytjejhgjdmbodiaa.PO
end
section
namespace Go.Proofs.Ytjejhgjdmbodiaa.PO
open Go.RowKit Go.Proofs.YtjejhgjdmbodiaaW.PrintWords Go.Proofs.YtjejhgjdmbodiaaW.PrintLast Go.Proofs.YtjejhgjdmbodiaaW.PrintMore Go.Proofs.Ytjejhgjdmbodiaa.XW
open Go.Proofs.Ytjejhgjdmbodiaa.XRange Go.Proofs.Ytjejhgjdmbodiaa.XMap Go.Proofs.Ytjejhgjdmbodiaa.XSeq
set_option linter.unusedVariables false
set_option linter.unusedSimpArgs false
end Go.Proofs.Ytjejhgjdmbodiaa.PO
end
section
namespace Go.Proofs.Ytjejhgjdmbodiaa.PO
open Go.RowKit Go.Proofs.YtjejhgjdmbodiaaW.PrintWords Go.Proofs.YtjejhgjdmbodiaaW.PrintLast Go.Proofs.YtjejhgjdmbodiaaW.PrintMore Go.Proofs.Ytjejhgjdmbodiaa.XW
open Go.Proofs.Ytjejhgjdmbodiaa.XRange
set_option linter.unusedVariables false
set_option linter.unusedSimpArgs false
end Go.Proofs.Ytjejhgjdmbodiaa.PO
end
section
namespace Go.Proofs.Ytjejhgjdmbodiaa.PO
open Go.RowKit Go.Proofs.YtjejhgjdmbodiaaW.PrintWords Go.Proofs.YtjejhgjdmbodiaaW.PrintLast Go.Proofs.YtjejhgjdmbodiaaW.PrintMore Go.Proofs.Ytjejhgjdmbodiaa.XW
set_option linter.unusedVariables false
set_option linter.unusedSimpArgs false
end Go.Proofs.Ytjejhgjdmbodiaa.PO
end
section
namespace Go.Proofs.Ytjejhgjdmbodiaa.PO
open Go.RowKit Go.Proofs.YtjejhgjdmbodiaaW.PrintWords Go.Proofs.YtjejhgjdmbodiaaW.PrintLast Go.Proofs.YtjejhgjdmbodiaaW.PrintMore Go.Proofs.Ytjejhgjdmbodiaa.XW
open Go.Proofs.Ytjejhgjdmbodiaa.XRange
set_option linter.unusedVariables false
set_option linter.unusedSimpArgs false
attribute [local go_sem] Oper.semAt_some
theorem rightF_sizes {f : Fr} (h : rightF f = true) : f.fa.size ≤ 24 ∧ f.fb.size ≤ 24 ∧ f.ct.size ≤ 32 ∧ 1 ≤ f.se ∧ f.se ≤ 1152921504606846976 ∧ 0 ≤ f.ix ∧ bodyF f = true := by
 unfold rightF at h
 rw [Bool.and_eq_true] at h
 obtain ⟨h1, h2, _, _, h5, h6, h7, h8⟩ := headF_parts h.1
 unfold isNameB at h1 h2
 simp only [Bool.and_eq_true, decide_eq_true_eq] at h1 h2
 exact ⟨h1.2, h2.2, by omega, h6, h7, h8, h.2⟩
end Go.Proofs.Ytjejhgjdmbodiaa.PO
end
section
namespace Go.Proofs.Ytjejhgjdmbodiaa.PO
open Go.RowKit Go.Proofs.YtjejhgjdmbodiaaW.PrintWords Go.Proofs.YtjejhgjdmbodiaaW.PrintLast Go.Proofs.YtjejhgjdmbodiaaW.PrintMore
attribute [local go_sem] max2_int min2_int max_two min_two max_three min_three max_four min_four   -- for this text's walks alone
set_option linter.unusedVariables false
set_option linter.unusedSimpArgs false
end Go.Proofs.Ytjejhgjdmbodiaa.PO
end
end
section
section
namespace Go.Proofs.Ytjejhgjdmbodiaa.PO
open Go.RowKit Go.Proofs.YtjejhgjdmbodiaaW.PrintWords Go.Proofs.YtjejhgjdmbodiaaW.PrintLast Go.Proofs.YtjejhgjdmbodiaaW.PrintMore Go.Proofs.Ytjejhgjdmbodiaa.XW
set_option linter.unusedVariables false
set_option linter.unusedSimpArgs false
end Go.Proofs.Ytjejhgjdmbodiaa.PO
end
section
namespace Go.Proofs.Ytjejhgjdmbodiaa.PO
open Go.RowKit Go.Proofs.YtjejhgjdmbodiaaW.PrintWords Go.Proofs.YtjejhgjdmbodiaaW.PrintLast Go.Proofs.YtjejhgjdmbodiaaW.PrintMore Go.Proofs.Ytjejhgjdmbodiaa.XW
open Go.Proofs.Ytjejhgjdmbodiaa.XRange
set_option linter.unusedVariables false
set_option linter.unusedSimpArgs false
structure RF (W : World) (g : Nat) (A : Option Addr) (c : Nat) (l : List Int) (p : Int) (bad : Bool) : Prop where
 b : W.heap[g]? = some (.cells #[.slice A l.length c] 100 (0, 0))
 a : W.heap[g + 1]? = some (.cells #[.int .i64 p] 3 (0, 0))
 d : W.heap[g + 2]? = some (.cells #[.bool bad] 4 (0, 0))
 le : l.length ≤ c
 foot : Kd.F (Kd.int .u8) W (fun k => k < g) A l.length l
theorem RF.below {W W1 : World} {g : Nat} {A : Option Addr} {c : Nat} {l : List Int} {p : Int} {bad : Bool} (h : RF W g A c l p bad) (hb : Below W.heap.size W W1) : RF W1 g A c l p bad :=
 ⟨blk_below h.b hb, blk_below h.a hb, blk_below h.d hb, h.le, Kd.F_below h.foot hb⟩
theorem RF.keep {W W1 : World} {g : Nat} {A : Option Addr} {c : Nat} {l : List Int} {p : Int} {bad : Bool} {M : Nat → Prop} (h : RF W g A c l p bad) (hk : Keeps M W W1) (hM : ∀ k, M k → g + 2 < k) : RF W1 g A c l p bad :=
 ⟨(hk.block _ (blk_lt h.b) (fun f => by have := hM _ f; omega)).trans h.b, (hk.block _ (blk_lt h.a) (fun f => by have := hM _ f; omega)).trans h.a, (hk.block _ (blk_lt h.d) (fun f => by have := hM _ f; omega)).trans h.d, h.le,
  Kd.F_step h.foot (fun k h1 hlt => hk.block k hlt (fun f => by have := hM _ f; have h2 : k < g := h1; omega))⟩
theorem RF.set {W : World} {g : Nat} {A : Option Addr} {c : Nat} {l : List Int} {p : Int} {bad : Bool} (h : RF W g A c l p bad) (p' : Int) (bad' : Bool) : RF ((W.setCell ⟨g + 2, 0, none⟩ (.bool bad')).setCell ⟨g + 1, 0, none⟩ (.int .i64 p')) g A c l p' bad' :=
 ⟨blk_far (p := ⟨g + 1, 0, none⟩) (blk_far (p := ⟨g + 2, 0, none⟩) h.b (by show g ≠ g + 2; omega) _) (by show g ≠ g + 1; omega) _, blk_set (blk_far (p := ⟨g + 2, 0, none⟩) h.a (by show g + 1 ≠ g + 2; omega) _) 0 _,
  blk_far (p := ⟨g + 1, 0, none⟩) (blk_set h.d 0 _) (by show g + 2 ≠ g + 1; omega) _, h.le, Kd.F_far (Kd.F_far h.foot (p := ⟨g + 2, 0, none⟩) (fun k hk => by have h2 : k < g := hk; show k ≠ g + 2; omega) _) (p := ⟨g + 1, 0, none⟩) (fun k hk => by have h2 : k < g := hk; show k ≠ g + 1; omega) _⟩
theorem RF.keeps (W : World) (g : Nat) (u v : Value) : Keeps (fun k => k = g + 1 ∨ k = g + 2) W ((W.setCell ⟨g + 2, 0, none⟩ u).setCell ⟨g + 1, 0, none⟩ v) :=
 Keeps.setCell (M := fun k => k = g + 1 ∨ k = g + 2) (Keeps.setCell (M := fun k => k = g + 1 ∨ k = g + 2) (Keeps.refl _ W) (p := ⟨g + 2, 0, none⟩) (.inl (.inr rfl)) _) (p := ⟨g + 1, 0, none⟩) (.inl (.inl rfl)) _
section
attribute [local go_sem] max2_int min2_int max_two min_two
end
end Go.Proofs.Ytjejhgjdmbodiaa.PO
end
section
namespace Go.Proofs.Ytjejhgjdmbodiaa.PO
open Go.RowKit Go.Proofs.YtjejhgjdmbodiaaW.PrintWords Go.Proofs.YtjejhgjdmbodiaaW.PrintLast Go.Proofs.YtjejhgjdmbodiaaW.PrintMore Go.Proofs.Ytjejhgjdmbodiaa.XW
open Go.Proofs.Ytjejhgjdmbodiaa.XRange
set_option linter.unusedVariables false
set_option linter.unusedSimpArgs false
end Go.Proofs.Ytjejhgjdmbodiaa.PO
end
section
namespace Go.Proofs.Ytjejhgjdmbodiaa.PO
open Go.RowKit Go.Proofs.YtjejhgjdmbodiaaW.PrintWords Go.Proofs.YtjejhgjdmbodiaaW.PrintLast Go.Proofs.YtjejhgjdmbodiaaW.PrintMore Go.Proofs.Ytjejhgjdmbodiaa.XW
open Go.Proofs.Ytjejhgjdmbodiaa.XRange
set_option linter.unusedVariables false
set_option linter.unusedSimpArgs false
def zF : Fr := ⟨0, ⟨#[]⟩, ⟨#[]⟩, ⟨#[]⟩, 0, 0, 0, [], []⟩
structure QS (w W : World) (G g F : Nat) (A : Option Addr) (c : Nat) (l : List Int) (p : Int) (bad : Bool) (cs : Array Value) : Prop where
 rf : RF W g A c l p bad
 fb : W.heap[F]? = some (.cells cs 34 (0, 0))
 gb : W.heap[G]? = some (.cells #[.int .i64 0, .string ⟨#[]⟩, .string ⟨#[]⟩, .string ⟨#[]⟩, .int .i64 0, .int .i64 0, .int .i64 0, .slice none 0 0, .slice none 0 0] 34 (0, 0))
 bl : Below w.heap.size w W
 gg : G < g
 gf : g + 2 < F
 lw : w.heap.size ≤ G
section
variable {w W W1 : World} {G g F : Nat} {A : Option Addr} {c : Nat} {l : List Int} {p p' : Int} {bad bad' : Bool} {cs : Array Value}
theorem QS.after (h : QS w W G g F A c l p bad cs) (hr : RF W1 g A c l p' bad') (hk : Keeps (fun k => k = g + 1 ∨ k = g + 2) W W1) : QS w W1 G g F A c l p' bad' cs :=
 ⟨hr, (hk.block _ (blk_lt h.fb) (fun f => by have := h.gf; omega)).trans h.fb, (hk.block _ (blk_lt h.gb) (fun f => by have := h.gg; omega)).trans h.gb,
  below_keeps h.bl (fun m hm => by have := h.gg; have := h.lw; omega) h.bl.size hk, h.gg, h.gf, h.lw⟩
theorem QS.below (h : QS w W G g F A c l p bad cs) (hb : Below W.heap.size W W1) : QS w W1 G g F A c l p bad cs :=
 ⟨h.rf.below hb, blk_below h.fb hb, blk_below h.gb hb, h.bl.trans (hb.mono h.bl.size), h.gg, h.gf, h.lw⟩
theorem QS.grown (h : QS w W G g F A c l p bad cs) {row : Option Nat} (hg : W.grownBy W1 row) (hr : ∀ k, row = some k → F < k) : QS w W1 G g F A c l p bad cs :=
 have hk : Keeps (fun k => F < k) W W1 := keeps_weak (keeps_grown hg) (fun k hk => hr k hk.symm)
 ⟨h.rf.keep hk (fun k hk => by have := h.gf; omega), blk_grown h.fb hg (fun e => by have := hr F e.symm; omega), blk_grown h.gb hg (fun e => by have := hr G e.symm; have := h.gg; have := h.gf; omega),
  below_keeps h.bl (M := fun k => F < k) (fun k hk => by have := h.lw; have := h.gg; have := h.gf; have h3 : F < k := hk; omega) h.bl.size hk, h.gg, h.gf, h.lw⟩
end
end Go.Proofs.Ytjejhgjdmbodiaa.PO
end
section
namespace Go.Proofs.Ytjejhgjdmbodiaa.PO
open Go.RowKit Go.Proofs.YtjejhgjdmbodiaaW.PrintWords Go.Proofs.YtjejhgjdmbodiaaW.PrintLast Go.Proofs.YtjejhgjdmbodiaaW.PrintMore Go.Proofs.Ytjejhgjdmbodiaa.XW
set_option linter.unusedVariables false
set_option linter.unusedSimpArgs false
theorem len0 {α : Type} {l : List α} (h : l.length = 0) : l = [] := List.eq_nil_of_length_eq_zero h
end Go.Proofs.Ytjejhgjdmbodiaa.PO
end
section
namespace Go.Proofs.Ytjejhgjdmbodiaa.PO
open Go.RowKit Go.Proofs.YtjejhgjdmbodiaaW.PrintWords Go.Proofs.YtjejhgjdmbodiaaW.PrintLast Go.Proofs.YtjejhgjdmbodiaaW.PrintMore Go.Proofs.Ytjejhgjdmbodiaa.XW
set_option linter.unusedVariables false
set_option linter.unusedSimpArgs false
theorem anyB_right {f : Fr} (h : (!f.op.any (badO f.ct)) = true) : ∀ x, x ∈ f.op → rightO x = true := fun x hx => by
 have h' : f.op.any (badO f.ct) = false := by simpa using h
 have hn : ¬ badO f.ct x = true := fun hb => by
  have := List.any_eq_true.2 ⟨x, hx, hb⟩
  rw [h'] at this
  cases this
 unfold badO at hn
 cases hr : rightO x with
 | true => rfl
 | false => rw [hr] at hn; simp at hn
theorem rightF_ops {f : Fr} (h : rightF f = true) : ∀ x, x ∈ f.op → rightO x = true := by
 have hb := (rightF_sizes h).2.2.2.2.2.2
 unfold bodyF at hb
 by_cases h1 : f.k = 1
 · rw [if_pos h1] at hb
   simp only [Bool.and_eq_true, decide_eq_true_eq] at hb
   rw [len0 hb.1.1.2]
   simp
 · rw [if_neg h1] at hb
   by_cases h2 : f.k = 2
   · rw [if_pos h2] at hb
     rw [Bool.and_eq_true] at hb
     exact anyB_right hb.2
   · rw [if_neg h2] at hb
     simp only [Bool.and_eq_true, decide_eq_true_eq] at hb
     rw [len0 hb.1.2]
     simp
end Go.Proofs.Ytjejhgjdmbodiaa.PO
end
end
