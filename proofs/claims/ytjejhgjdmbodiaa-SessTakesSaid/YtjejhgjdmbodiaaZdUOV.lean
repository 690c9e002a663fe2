/- What the rows of this claim use, out of the texts of this work (UOV). No condition beyond those that each statement names. -/
import Derived.Test.YtjejhgjdmbodiaaProg
import Derived.Below
import Derived.Deep.Draws
import Derived.Deep.AppendLies
import Derived.Maps.AppendAt
import Derived.OwnWalk
import Derived.Laws.BytesArg
import Derived.Laws.MakeOwn
import Derived.Laws.OwnMore
import Derived.Deep.OwnRows
import Derived.Tactics
import Derived.Lib.ConvBytes
import Derived.Laws.Slices
import Derived.WalkKit
import Derived.KernelRfl
import Derived.RowKit3
import Derived.Deep.LoopGhost
import Derived.Deep.QuietTactic
import Derived.BigQuiet
import Derived.WideLaws
import Derived.Deep.DeepCutAuto
import Derived.Deep.CutBlock
import Derived.Deep.RegionHeld3
import Derived.Laws.Rows
import Derived.Lib.AppendStr
import Derived.ArgAppend
import Derived.Laws.IdiomCopy
import Derived.OrdersHeld
import Derived.Laws.BitsLemmas
import Derived.RowKit
import Derived.BigRegionIn
import Derived.BigGuardIn
import Derived.Sort.QuietTacIn
import Derived.Lib.Strings
import Derived.Lib.Slices
import Derived.Lib.Walk
import Derived.Lib.Bytealg
import Derived.IntWalk
import Derived.Laws.CopyRow
import Derived.Lib.AppendZerosOnto
import Derived.Lib.Overlaps
import Derived.Laws.Externs
import Derived.Shelf.RegionOpenPlain
import Derived.Deep.RegionLaw
import Derived.Lib.SliceRun
import Derived.Laws.NewBlocks
import Derived.WalkMore
import Derived.WalkSpells
import Derived.Laws.RangeAny
import Derived.RangeFuncNested
import Derived.RangeFuncBound
import Derived.RangeFuncCalls
import Derived.RangeFuncLeaves
import Derived.RangeFuncKeeps
import Derived.Shelf.Abstract
import Derived.Shelf.RegionOpen
import Derived.OwnWalkIn
import Derived.TacticsInMore
import Derived.LoopNIn
import Derived.LoopIn
import Derived.Deep.RegionHeld
import Derived.Laws.IdiomRangeMap
import Derived.MapKept
import Derived.Deep.Slices
import Derived.Deep.Fields
import Derived.ChangeSame
import Derived.ProofKit
import Derived.Laws.StructEq
import Derived.Test.YtjejhgjdmbodiaaZdUPOx3
import Derived.Test.YtjejhgjdmbodiaaZdW
import Derived.Test.YtjejhgjdmbodiaaZdX
import Derived.Test.YtjejhgjdmbodiaaZdUPOx0
section
namespace Go.Proofs.Ytjejhgjdmbodiaa.PO
open Go.RowKit Go.Proofs.YtjejhgjdmbodiaaW.PrintWords Go.Proofs.YtjejhgjdmbodiaaW.PrintLast Go.Proofs.YtjejhgjdmbodiaaW.PrintMore Go.Proofs.Ytjejhgjdmbodiaa.XW
open Go.Proofs.Ytjejhgjdmbodiaa.XRange
set_option linter.unusedVariables false
set_option linter.unusedSimpArgs false
theorem seenS_cons (deps : List S72) (p : Option S72) (x : S72) (l : List S72) : seenS deps p (x :: l) = (hasS deps x.f0 x.f1 && (match p with | none => true | some q => lessD q x) && seenS deps (some x) l) := rfl
structure BoxR (w : World) (N M : Nat) (x : S74) (A2 : Option Addr) (c2 : Nat) (A7 : Option Addr) (c7 : Nat) : Prop where
 b : w.heap[N]? = some (.cells #[.string x.f0.f0, .int .i64 x.f0.f1, .slice A2 x.f1.length c2, .string x.f2, .int .i64 x.f3, .string x.f4, .int .i64 x.f5, .slice A7 x.f6.length c7] 74 (0, 0))
 d : w.heap[M]? = some (.cells #[.string x.f0.f0, .int .i64 x.f0.f1] 72 (0, 0))
 g2 : Kd.C k72 w A2 x.f1.length x.f1
 g7 : Kd.C k72 w A7 x.f6.length x.f6
theorem BoxR.below {w w1 : World} {N M : Nat} {x : S74} {A2 A7 : Option Addr} {c2 c7 : Nat} (h : BoxR w N M x A2 c2 A7 c7) (hb : Below w.heap.size w w1) : BoxR w1 N M x A2 c2 A7 c7 :=
 ⟨blk_below h.b hb, blk_below h.d hb, Kd.C_below h.g2 hb, Kd.C_below h.g7 hb⟩
def S6 (N : Nat) (x : S74) (A2 : Option Addr) (c2 : Nat) (A7 : Option Addr) (c7 : Nat) (w' : World) : Prop :=
 w'.cell? ⟨N, 0, none⟩ = some (.string x.f0.f0) ∧ w'.cell? ⟨N, 1, none⟩ = some (.int .i64 x.f0.f1) ∧ w'.cell? ⟨N, 2, none⟩ = some (.slice A2 x.f1.length c2) ∧ w'.cell? ⟨N, 3, none⟩ = some (.string x.f2) ∧ w'.cell? ⟨N, 5, none⟩ = some (.string x.f4) ∧ w'.cell? ⟨N, 7, none⟩ = some (.slice A7 x.f6.length c7)
theorem BoxR.s6 {w : World} {N M : Nat} {x : S74} {A2 A7 : Option Addr} {c2 c7 : Nat} (h : BoxR w N M x A2 c2 A7 c7) : S6 N x A2 c2 A7 c7 w :=
 ⟨(blk_cell h.b 0).trans rfl, (blk_cell h.b 1).trans rfl, (blk_cell h.b 2).trans rfl, (blk_cell h.b 3).trans rfl, (blk_cell h.b 5).trans rfl, (blk_cell h.b 7).trans rfl⟩
theorem not_right {x : S74} (h : dotOk x.f0 = true → rightS x.f1 = true → atS x.f0.f0 x.f1 = x.f0.f1 - 1 → (decide (1 ≤ x.f2.size) && decide (x.f2.size ≤ 32)) = true → (decide (1 ≤ x.f4.size) && decide (x.f4.size ≤ 32)) = true → x.f6.length ≤ 128 → seenS x.f1 none x.f6 = true → kindS x = true → False) : rightO x = false := by
 cases hr : rightO x with
 | false => rfl
 | true =>
   unfold rightO at hr
   simp only [Bool.and_eq_true, decide_eq_true_eq] at hr
   obtain ⟨⟨⟨⟨⟨⟨⟨h1, h2⟩, h3⟩, h4⟩, h5⟩, h6⟩, h7⟩, h8⟩ := hr
   exact (h h1 h2 h3 (by simp [h4]) (by simp [h5]) h6 h7 h8).elim
theorem C_lit34 {w : World} {M : Nat} {n : ByteArray} {d : Int} (h : w.heap[M]? = some (.cells #[.string n, .int .i64 d] 72 (0, 0))) : Kd.C k72 w (some ⟨M, 0, none⟩) 1 [⟨n, d⟩] :=
 ⟨rfl, by decide, fun _ => ⟨_, rfl, fun j p hj => by
  cases j with
  | zero =>
    simp only [List.getElem?_cons_zero, Option.some.injEq] at hj
    subst hj
    refine ⟨[.string n, .int .i64 d], rfl, k72_mk _ _, fun i u hu => ?_⟩
    have h0 := (blk_cell h i).trans (by simpa using hu)
    have e : (⟨M, 0, none⟩ : Addr).add (0 * k72.sz + i) = ⟨M, i, none⟩ := by
     rw [show 0 * k72.sz + i = i from by omega]
     cases i <;> simp [Addr.add]
    rw [e]
    exact h0
  | succ j => simp at hj⟩⟩
set_option maxHeartbeats 8000000 in
set_option maxRecDepth 100000 in
theorem orderRight_calls (x : S74) (A2 : Option Addr) (c2 : Nat) (A7 : Option Addr) (c7 : Nat) (w : World) (l2 : x.f1.length ≤ c2) (g2 : Kd.C k72 w A2 x.f1.length x.f1) (l7 : x.f6.length ≤ c7) (g7 : Kd.C k72 w A7 x.f6.length x.f6) :
 Calls Try.prog 38 #[.agg #[.string x.f0.f0, .int .i64 x.f0.f1, .slice A2 x.f1.length c2, .string x.f2, .int .i64 x.f3, .string x.f4, .int .i64 x.f5, .slice A7 x.f6.length c7]] w fun e w' => e = .returned (.bool (rightO x)) ∧ Below w.heap.size w w' := by
 have m2 := g2.2.1
 have m7 := g7.2.1
 have HL2 := Aside0.mk l2
 have HL7 := Aside0.mk l7
 have HG2 := Aside0.mk g2
 have HG7 := Aside0.mk g7
 have HM2 := Aside0.mk m2
 have HM7 := Aside0.mk m7
 obtain ⟨N, hN⟩ : ∃ N, w.heap.size = N := ⟨_, rfl⟩
 clear l2 l7 g2 g7 m2 m7
 go_enter Try.func38, Try.ntmps38
 go_wp2
 obtain ⟨w3, hw3⟩ : ∃ w3, (w.alloc (.cells #[.string x.f0.f0, .int .i64 x.f0.f1, .slice A2 x.f1.length c2, .string x.f2, .int .i64 x.f3, .string x.f4, .int .i64 x.f5, .slice A7 x.f6.length c7] 74)).alloc (.cells #[.string x.f0.f0, .int .i64 x.f0.f1] 72) = w3 := ⟨_, rfl⟩
 have hb3 : Below w.heap.size w w3 := by rw [← hw3]; exact ((Below.refl _ _).alloc (Nat.le_refl _) _).alloc (by simp) _
 have hx3 : BoxR w3 N (N + 1) x A2 c2 A7 c7 := ⟨by rw [← hw3, ← hN]; exact blk_alloc (World.alloc_heap_new w _) _,
  by rw [← hw3, ← hN]; have := World.alloc_heap_new (w.alloc (.cells #[.string x.f0.f0, .int .i64 x.f0.f1, .slice A2 x.f1.length c2, .string x.f2, .int .i64 x.f3, .string x.f4, .int .i64 x.f5, .slice A7 x.f6.length c7] 74)) (.cells #[.string x.f0.f0, .int .i64 x.f0.f1] 72); rwa [World.size_alloc] at this, Kd.C_below HG2.out hb3, Kd.C_below HG7.out hb3⟩
 first | rw [hw3] | (rw [hN] at hw3; rw [hw3]) | skip
 try rw [hN]
 have HB3 := Aside0.mk hb3
 have HX3 := Aside0.mk hx3
 clear hw3 hb3 hx3 HG2 HG7
 refine start_ (n := 40) (ds := []) (S := S6 N x A2 c2 A7 c7) _ (by kernel_rfl) rfl rfl (HX3.out.below (below_drew1 (Below.refl _ w3))).s6 (fun hH => ?_)
 refine XReg.pu 0 9 (h := ?_)
 refine XReg.one (i := 1) (some 10) rfl rfl (by kernel_rfl) (by decide) (fun Kc hKc => ?_)
 refine goes_ Try.func65 (by kernel_rfl) rfl #[.slice (some ⟨N + 1, 0, none⟩) 1 1] (by rfl) rfl rfl (by (try simp only [List.map_toArray, List.map_cons, List.map_nil]); first | done | rfl) ?_
 refine (vector_Right.calls 2 _ 1 [x.f0] (rightS [x.f0]) _ (Kd.C_drew (C_lit34 HX3.out.d)) (by simp) (right_f _ (by simp) 2 (by simp))).mono ?_
 rintro e w4 ⟨rfl, hb4⟩
 refine ⟨_, rfl, ?_⟩
 have hb4' : Below w3.heap.size w3 w4 := ⟨hb4.os, hb4.tape, hb4.output, hb4.size, hb4.block⟩
 have HB4 := Aside0.mk (show Below w.heap.size w w4 from HB3.out.trans (hb4'.mono HB3.out.size))
 have HX4 := Aside0.mk (HX3.out.below hb4')
 refine hKc.out _ _ HX4.out.s6 (fun hH2 => ?_)
 clear hKc Kc hH hb4 hb4' HB3 HX3
 rw [rightS_one]
 obtain ⟨b1, hb1⟩ : ∃ b, dotOk x.f0 = b := ⟨_, rfl⟩
 rw [hb1]
 cases b1 with
 | false =>
   have HF := Aside0.mk (not_right (x := x) (fun h _ _ _ _ _ _ _ => by rw [hb1] at h; cases h))
   clear hb1
   refine XReg.pu 2 11 (h := ?_)
   refine XReg.pu 3 12 (h := ?_)
   refine XReg.pn 4 13 (h := ?_)
   refine XReg.pn 5 14 (h := ?_)
   refine XReg.pn 6 15 (h := ?_)
   refine XReg.pn 7 16 (h := ?_)
   refine XReg.pu 8 17 (h := ?_)
   refine XReg.pu 9 18 (h := ?_)
   refine XReg.pn 10 19 (h := ?_)
   refine XReg.pn 11 20 (h := ?_)
   refine XReg.pn 12 21 (h := ?_)
   refine XReg.pn 13 22 (h := ?_)
   refine XReg.pn 14 23 (h := ?_)
   refine XReg.pn 15 24 (h := ?_)
   refine XReg.pn 16 25 (h := ?_)
   refine XReg.pn 17 26 (h := ?_)
   refine XReg.pn 18 27 (h := ?_)
   refine XReg.pn 19 28 (h := ?_)
   refine XReg.pn 20 29 (h := ?_)
   refine XReg.pu 21 30 (h := ?_)
   refine XReg.pu 22 31 (h := ?_)
   refine XReg.pn 23 32 (h := ?_)
   refine XReg.pn 24 33 (h := ?_)
   refine XReg.pn 25 34 (h := ?_)
   refine XReg.pn 26 35 (h := ?_)
   refine XReg.pu 27 36 (h := ?_)
   refine XReg.pu 28 37 (h := ?_)
   refine XReg.pn 29 38 (h := ?_)
   refine XReg.pn 30 39 (h := ?_)
   refine XReg.pn 31 40 (h := ?_)
   refine XReg.pn 32 41 (h := ?_)
   refine XReg.pu 33 42 (h := ?_)
   refine XReg.pu 34 43 (h := ?_)
   refine XReg.pn 35 44 (h := ?_)
   refine XReg.pn 36 45 (h := ?_)
   refine XReg.pn 37 46 (h := ?_)
   refine XReg.pn 38 47 (h := ?_)
   refine XReg.pu 39 48 (h := ?_)
   refine done_ (by kernel_rfl) ?_
   go_wp2
   go_ret
   exact ⟨by rw [HF.out]; rfl, HB4.out⟩
 | true =>
   have HO1 := Aside0.mk hb1
   clear hb1
   refine XReg.pu 2 11 (h := ?_)
   refine XReg.pu 3 12 (h := ?_)
   refine XReg.pu 4 13 (h := ?_)
   refine XReg.tk 5 14 (hy := by (intro w' hS_; obtain ⟨s0, s1, s2, s3, s4, s5⟩ := hS_; go_simp; with_reducible rfl)) (h := ?_)
   refine XReg.one (i := 6) (some 15) rfl rfl (by kernel_rfl) (by decide) (fun Kc hKc => ?_)
   refine goes_ Try.func65 (by kernel_rfl) rfl #[.slice A2 x.f1.length c2] (by rfl) rfl rfl (by (try simp only [List.map_toArray, List.map_cons, List.map_nil]); first | done | rfl) ?_
   refine (vector_Right.calls (x.f1.length + 1) A2 c2 x.f1 (rightS x.f1) _ HX4.out.g2 HL2.out (right_f _ HM2.out _ (by omega))).mono ?_
   rintro e w5 ⟨rfl, hb5⟩
   refine ⟨_, rfl, ?_⟩
   have HB5 := Aside0.mk (show Below w.heap.size w w5 from HB4.out.trans (hb5.mono HB4.out.size))
   have HX5 := Aside0.mk (HX4.out.below hb5)
   refine hKc.out _ _ HX5.out.s6 (fun hH => ?_)
   clear hKc Kc hH2 hb5 HB4 HX4
   obtain ⟨b2, hb2⟩ : ∃ b, rightS x.f1 = b := ⟨_, rfl⟩
   rw [hb2]
   cases b2 with
   | false =>
     have HF := Aside0.mk (not_right (x := x) (fun _ h _ _ _ _ _ _ => by rw [hb2] at h; cases h))
     clear hb2
     refine XReg.pu 7 16 (h := ?_)
     refine XReg.pu 8 17 (h := ?_)
     refine XReg.pu 9 18 (h := ?_)
     refine XReg.pn 10 19 (h := ?_)
     refine XReg.pn 11 20 (h := ?_)
     refine XReg.pn 12 21 (h := ?_)
     refine XReg.pn 13 22 (h := ?_)
     refine XReg.pn 14 23 (h := ?_)
     refine XReg.pn 15 24 (h := ?_)
     refine XReg.pn 16 25 (h := ?_)
     refine XReg.pn 17 26 (h := ?_)
     refine XReg.pn 18 27 (h := ?_)
     refine XReg.pn 19 28 (h := ?_)
     refine XReg.pn 20 29 (h := ?_)
     refine XReg.pu 21 30 (h := ?_)
     refine XReg.pu 22 31 (h := ?_)
     refine XReg.pn 23 32 (h := ?_)
     refine XReg.pn 24 33 (h := ?_)
     refine XReg.pn 25 34 (h := ?_)
     refine XReg.pn 26 35 (h := ?_)
     refine XReg.pu 27 36 (h := ?_)
     refine XReg.pu 28 37 (h := ?_)
     refine XReg.pn 29 38 (h := ?_)
     refine XReg.pn 30 39 (h := ?_)
     refine XReg.pn 31 40 (h := ?_)
     refine XReg.pn 32 41 (h := ?_)
     refine XReg.pu 33 42 (h := ?_)
     refine XReg.pu 34 43 (h := ?_)
     refine XReg.pn 35 44 (h := ?_)
     refine XReg.pn 36 45 (h := ?_)
     refine XReg.pn 37 46 (h := ?_)
     refine XReg.pn 38 47 (h := ?_)
     refine XReg.pu 39 48 (h := ?_)
     refine done_ (by kernel_rfl) ?_
     go_wp2
     go_ret
     exact ⟨by rw [HF.out]; rfl, HB5.out⟩
   | true =>
     have HO2 := Aside0.mk hb2
     clear hb2
     refine XReg.pu 7 16 (h := ?_)
     refine XReg.pu 8 17 (h := ?_)
     refine XReg.pu 9 18 (h := ?_)
     refine XReg.pu 10 19 (h := ?_)
     refine XReg.tk 11 20 (hy := by (intro w' hS_; obtain ⟨s0, s1, s2, s3, s4, s5⟩ := hS_; go_simp; with_reducible rfl)) (h := ?_)
     refine XReg.pu 12 21 (h := ?_)
     refine XReg.pu 13 22 (h := ?_)
     refine XReg.tk 14 23 (hy := by (intro w' hS_; obtain ⟨s0, s1, s2, s3, s4, s5⟩ := hS_; go_simp; with_reducible rfl)) (h := ?_)
     refine XReg.pu 16 25 (h := ?_)
     refine XReg.pu 17 26 (h := ?_)
     refine XReg.tk 18 27 (hy := by (intro w' hS_; obtain ⟨s0, s1, s2, s3, s4, s5⟩ := hS_; go_simp; with_reducible rfl)) (h := ?_)
     refine XReg.pu 19 28 (h := ?_)
     refine XReg.one (i := 15) (some 24) rfl rfl (by kernel_rfl) (by decide) (fun Kc hKc => ?_)
     refine goes_ Try.func66 (by kernel_rfl) rfl #[.slice A2 x.f1.length c2, .string x.f0.f0] (by rfl) rfl rfl (by (try simp only [List.map_toArray, List.map_cons, List.map_nil]); first | done | rfl) ?_
     refine (vector_At.calls (x.f1.length + 1) A2 c2 x.f1 x.f0.f0 (atS x.f0.f0 x.f1) _ HX5.out.g2 HL2.out (at_f _ _ HM2.out _ (by omega))).mono ?_
     rintro e w6 ⟨rfl, hb6⟩
     refine ⟨_, rfl, ?_⟩
     have HB6 := Aside0.mk (show Below w.heap.size w w6 from HB5.out.trans (hb6.mono HB5.out.size))
     have HX6 := Aside0.mk (HX5.out.below hb6)
     refine hKc.out _ _ HX6.out.s6 (fun hH2 => ?_)
     clear hKc Kc hH hb6 HB5 HX5
     have hwr : wrap64 (x.f0.f1 - 1) = x.f0.f1 - 1 := by have := dot_parts (n := x.f0.f0) (d := x.f0.f1) HO1.out; unfold wrap64; omega
     rw [hwr]
     clear hwr
     refine XReg.pu 20 29 (h := ?_)
     obtain ⟨b3, hb3⟩ : ∃ b, (atS x.f0.f0 x.f1 != x.f0.f1 - 1) = b := ⟨_, rfl⟩
     rw [hb3]
     cases b3 with
     | true =>
       have HF := Aside0.mk (not_right (x := x) (fun _ _ h _ _ _ _ _ => by rw [h] at hb3; simp at hb3))
       clear hb3
       refine XReg.pu 21 30 (h := ?_)
       refine XReg.pu 22 31 (h := ?_)
       refine XReg.pn 23 32 (h := ?_)
       refine XReg.pn 24 33 (h := ?_)
       refine XReg.pn 25 34 (h := ?_)
       refine XReg.pn 26 35 (h := ?_)
       refine XReg.pu 27 36 (h := ?_)
       refine XReg.pu 28 37 (h := ?_)
       refine XReg.pn 29 38 (h := ?_)
       refine XReg.pn 30 39 (h := ?_)
       refine XReg.pn 31 40 (h := ?_)
       refine XReg.pn 32 41 (h := ?_)
       refine XReg.pu 33 42 (h := ?_)
       refine XReg.pu 34 43 (h := ?_)
       refine XReg.pn 35 44 (h := ?_)
       refine XReg.pn 36 45 (h := ?_)
       refine XReg.pn 37 46 (h := ?_)
       refine XReg.pn 38 47 (h := ?_)
       refine XReg.pu 39 48 (h := ?_)
       refine done_ (by kernel_rfl) ?_
       go_wp2
       go_ret
       exact ⟨by rw [HF.out]; rfl, HB6.out⟩
     | false =>
       have HO3 := Aside0.mk (show atS x.f0.f0 x.f1 = x.f0.f1 - 1 from by simpa using hb3)
       clear hb3
       refine XReg.pu 21 30 (h := ?_)
       refine XReg.pu 22 31 (h := ?_)
       refine XReg.pu 23 32 (h := ?_)
       refine XReg.tk 24 33 (hy := by (intro w' hS_; obtain ⟨s0, s1, s2, s3, s4, s5⟩ := hS_; go_simp; with_reducible rfl)) (h := ?_)
       refine XReg.one (i := 25) (some 34) rfl rfl (by kernel_rfl) (by decide) (fun Kc hKc => ?_)
       refine goes_ Try.func67 (by kernel_rfl) rfl #[.string x.f2] (by rfl) rfl rfl (by (try simp only [List.map_toArray, List.map_cons, List.map_nil]); first | done | rfl) ?_
       refine (order_isText.calls x.f2 _ _ (text_f x.f2)).mono ?_
       rintro e w7 ⟨rfl, hd7⟩
       refine ⟨_, rfl, ?_⟩
       have HB7 := Aside0.mk (show Below w.heap.size w w7 from HB6.out.trans (hd7.below.mono HB6.out.size))
       have HX7 := Aside0.mk (HX6.out.below hd7.below)
       refine hKc.out _ _ HX7.out.s6 (fun hH => ?_)
       clear hKc Kc hH2 hd7 HB6 HX6
       obtain ⟨b4, hb4⟩ : ∃ b, (decide (1 ≤ x.f2.size) && decide (x.f2.size ≤ 32)) = b := ⟨_, rfl⟩
       rw [hb4]
       cases b4 with
       | false =>
         have HF := Aside0.mk (not_right (x := x) (fun _ _ _ h _ _ _ _ => by rw [hb4] at h; cases h))
         clear hb4
         refine XReg.pu 26 35 (h := ?_)
         refine XReg.pu 27 36 (h := ?_)
         refine XReg.pu 28 37 (h := ?_)
         refine XReg.pn 29 38 (h := ?_)
         refine XReg.pn 30 39 (h := ?_)
         refine XReg.pn 31 40 (h := ?_)
         refine XReg.pn 32 41 (h := ?_)
         refine XReg.pu 33 42 (h := ?_)
         refine XReg.pu 34 43 (h := ?_)
         refine XReg.pn 35 44 (h := ?_)
         refine XReg.pn 36 45 (h := ?_)
         refine XReg.pn 37 46 (h := ?_)
         refine XReg.pn 38 47 (h := ?_)
         refine XReg.pu 39 48 (h := ?_)
         refine done_ (by kernel_rfl) ?_
         go_wp2
         go_ret
         exact ⟨by rw [HF.out]; rfl, HB7.out⟩
       | true =>
         have HO4 := Aside0.mk hb4
         clear hb4
         refine XReg.pu 26 35 (h := ?_)
         refine XReg.pu 27 36 (h := ?_)
         refine XReg.pu 28 37 (h := ?_)
         refine XReg.pu 29 38 (h := ?_)
         refine XReg.tk 30 39 (hy := by (intro w' hS_; obtain ⟨s0, s1, s2, s3, s4, s5⟩ := hS_; go_simp; with_reducible rfl)) (h := ?_)
         refine XReg.one (i := 31) (some 40) rfl rfl (by kernel_rfl) (by decide) (fun Kc hKc => ?_)
         refine goes_ Try.func67 (by kernel_rfl) rfl #[.string x.f4] (by rfl) rfl rfl (by (try simp only [List.map_toArray, List.map_cons, List.map_nil]); first | done | rfl) ?_
         refine (order_isText.calls x.f4 _ _ (text_f x.f4)).mono ?_
         rintro e w8 ⟨rfl, hd8⟩
         refine ⟨_, rfl, ?_⟩
         have HB8 := Aside0.mk (show Below w.heap.size w w8 from HB7.out.trans (hd8.below.mono HB7.out.size))
         have HX8 := Aside0.mk (HX7.out.below hd8.below)
         refine hKc.out _ _ HX8.out.s6 (fun hH2 => ?_)
         clear hKc Kc hH hd8 HB7 HX7
         obtain ⟨b5, hb5⟩ : ∃ b, (decide (1 ≤ x.f4.size) && decide (x.f4.size ≤ 32)) = b := ⟨_, rfl⟩
         rw [hb5]
         cases b5 with
         | false =>
           have HF := Aside0.mk (not_right (x := x) (fun _ _ _ _ h _ _ _ => by rw [hb5] at h; cases h))
           clear hb5
           refine XReg.pu 32 41 (h := ?_)
           refine XReg.pu 33 42 (h := ?_)
           refine XReg.pu 34 43 (h := ?_)
           refine XReg.pn 35 44 (h := ?_)
           refine XReg.pn 36 45 (h := ?_)
           refine XReg.pn 37 46 (h := ?_)
           refine XReg.pn 38 47 (h := ?_)
           refine XReg.pu 39 48 (h := ?_)
           refine done_ (by kernel_rfl) ?_
           go_wp2
           go_ret
           exact ⟨by rw [HF.out]; rfl, HB8.out⟩
         | true =>
           have HO5 := Aside0.mk hb5
           clear hb5
           refine XReg.pu 32 41 (h := ?_)
           refine XReg.pu 33 42 (h := ?_)
           refine XReg.pu 34 43 (h := ?_)
           refine XReg.pu 35 44 (h := ?_)
           refine XReg.tk 36 45 (hy := by (intro w' hS_; obtain ⟨s0, s1, s2, s3, s4, s5⟩ := hS_; go_simp; with_reducible rfl)) (h := ?_)
           refine XReg.pu 37 46 (h := ?_)
           refine XReg.pu 38 47 (h := ?_)
           obtain ⟨b6, hb6⟩ : ∃ b, decide ((128 : Int) < (x.f6.length : Int)) = b := ⟨_, rfl⟩
           rw [hb6]
           refine XReg.pu 39 48 (h := ?_)
           refine done_ (by kernel_rfl) ?_
           cases b6 with
           | true =>
             have HF := Aside0.mk (not_right (x := x) (fun _ _ _ _ _ h _ _ => by simp at hb6; omega))
             clear hb6
             go_wp2
             go_ret
             exact ⟨by rw [HF.out]; rfl, HB8.out⟩
           | false =>
             have HO6 := Aside0.mk (show x.f6.length ≤ 128 from by simp at hb6; omega)
             clear hb6 hH2
             have e7 : w8.cell? ⟨N, 7, none⟩ = some (.slice A7 x.f6.length c7) := (blk_cell HX8.out.b 7).trans rfl
             have HW8 := Aside0.mk (Below.refl w8.heap.size w8)
             go_wp2
             clear e7
             go_loopw [52] (fun v52 wr => ∃ i : Nat, v52 = .int .i64 i ∧ i ≤ x.f6.length ∧ Aside0 (seenS x.f1 none x.f6 = seenS x.f1 (if i = 0 then none else some (rd_T72 x.f6 ((i - 1 : Nat) : Int))) (x.f6.drop i)) ∧ Aside0 (Below w8.heap.size w8 wr)) (fun v52 _ => x.f6.length - (intOf v52).toNat)
             case atStart => exact ⟨0, rfl, by omega, ⟨rfl⟩, HW8⟩
             case round =>
              clear HW8
              obtain ⟨i, rfl, hile, HSi, HBi⟩ := hrel
              by_cases hlt : i < x.f6.length
              · obtain ⟨ad, had, f0, f1⟩ := at_T72 (Kd.C_below HX8.out.g7 HBi.out) (i : Int) (by omega) (by omega)
                obtain ⟨d, hd⟩ : ∃ d, rd_T72 x.f6 (i : Int) = d := ⟨_, rfl⟩
                have hsn := HSi.out
                rw [rd_drop x.f6 i hlt, hd, seenS_cons] at hsn
                rw [hd] at f0 f1
                simp only [Int.toNat_natCast] at f0 f1
                subst had
                have HD := Aside0.mk hd
                have HSN := Aside0.mk hsn
                have hb3 : 0 ≤ (i : Int) ∧ (i : Int) < (x.f6.length : Int) := by omega
                clear hd hsn
                obtain ⟨M, hM⟩ : ∃ M, wr.heap.size = M := ⟨_, rfl⟩
                go_wp2
                obtain ⟨wa, hwa⟩ : ∃ wa, wr.alloc (.cells #[.string d.f0, .int .i64 d.f1] 72) = wa := ⟨_, rfl⟩
                have hba : Below wr.heap.size wr wa := by rw [← hwa]; exact (Below.refl _ wr).alloc (Nat.le_refl _) _
                have hbk : wa.heap[M]? = some (.cells #[.string d.f0, .int .i64 d.f1] 72 (0, 0)) := by rw [← hwa, ← hM]; exact World.alloc_heap_new wr _
                first | rw [hwa] | (rw [hM] at hwa; rw [hwa]) | skip
                have HBa := Aside0.mk (show Below w8.heap.size w8 wa from HBi.out.trans (hba.mono HBi.out.size))
                have HBK := Aside0.mk hbk
                have HXa := Aside0.mk (HX8.out.below HBa.out)
                clear hwa hba hbk f0 f1 hM
                refine start_ (n := 20) (ds := []) (S := fun w' => S6 N x A2 c2 (some ad) c7 w' ∧ w'.cell? ⟨M, 0, none⟩ = some (.string d.f0) ∧ w'.cell? ⟨M, 1, none⟩ = some (.int .i64 d.f1) ∧ (∀ q : Nat, q < x.f6.length → w'.cell? (ad.add (q * 2)) = some (.string (rd_T72 x.f6 (q : Int)).f0) ∧ w'.cell? ⟨(ad.add (q * 2)).block, (ad.add (q * 2)).off + 1, none⟩ = some (.int .i64 (rd_T72 x.f6 (q : Int)).f1))) _ (by kernel_rfl) rfl rfl ?_ (fun hH => ?_)
                · exact ⟨(HXa.out.below (below_drew1 (Below.refl _ wa))).s6, (blk_cell (blk_drew HBK.out) 0).trans rfl, (blk_cell (blk_drew HBK.out) 1).trans rfl, fun q hq => by
                   obtain ⟨ad', had', f0, f1⟩ := at_T72 (Kd.C_drew HXa.out.g7) (q : Int) (by omega) (by omega)
                   cases had'
                   exact ⟨f0, f1⟩⟩
                refine XReg.pu 0 57 (h := ?_)
                refine XReg.tk 1 58 (hy := by (intro w' hS_; obtain ⟨⟨s0, s1, s2, s3, s4, s5⟩, _⟩ := hS_; go_simp; with_reducible rfl)) (h := ?_)
                refine XReg.tk 2 59 (hy := by (intro w' hS_; obtain ⟨_, s6, s7, _⟩ := hS_; go_simp; with_reducible rfl)) (h := ?_)
                refine XReg.one (i := 3) (some 60) rfl rfl (by kernel_rfl) (by decide) (fun Kc hKc => ?_)
                refine goes_ Try.func68 (by kernel_rfl) rfl #[.slice A2 x.f1.length c2, .agg #[.string d.f0, .int .i64 d.f1]] (by rfl) rfl rfl (by (try simp only [List.map_toArray, List.map_cons, List.map_nil]); first | done | rfl) ?_
                refine (vector_Has.calls (x.f1.length + 1) A2 c2 x.f1 d.f0 d.f1 (hasS x.f1 d.f0 d.f1) _ (Kd.C_drew HXa.out.g2) HL2.out (has_f _ HM2.out _ _ _ (by omega))).mono ?_
                rintro e wb ⟨rfl, hbb⟩
                refine ⟨_, rfl, ?_⟩
                have hbb' : Below wa.heap.size wa wb := ⟨hbb.os, hbb.tape, hbb.output, hbb.size, hbb.block⟩
                have HBb := Aside0.mk (show Below w8.heap.size w8 wb from HBa.out.trans (hbb'.mono HBa.out.size))
                have HXb := Aside0.mk (HXa.out.below hbb')
                have BKb := Aside0.mk (blk_below HBK.out hbb')
                refine hKc.out _ _ ⟨HXb.out.s6, (blk_cell BKb.out 0).trans rfl, (blk_cell BKb.out 1).trans rfl, fun q hq => by
                 obtain ⟨ad', had', f0, f1⟩ := at_T72 HXb.out.g7 (q : Int) (by omega) (by omega)
                 cases had'
                 exact ⟨f0, f1⟩⟩ (fun hH2 => ?_)
                clear hKc Kc hH hbb hbb' HBa HXa HBK
                have hib : i < 128 := by have := HO6.out; omega
                obtain ⟨bh, hbh⟩ : ∃ b, hasS x.f1 d.f0 d.f1 = b := ⟨_, rfl⟩
                have hsn := HSN.out
                rw [hbh] at hsn ⊢
                cases bh with
                | false =>
                  have HF := Aside0.mk (not_right (x := x) (fun _ _ _ _ _ _ h _ => by rw [hsn] at h; simp at h))
                  clear hbh hsn
                  refine XReg.pu 4 61 (h := ?_)
                  refine XReg.pu 5 62 (h := ?_)
                  refine XReg.pn 6 63 (h := ?_)
                  refine XReg.pn 7 64 (h := ?_)
                  refine XReg.pn 8 65 (h := ?_)
                  refine XReg.pn 9 66 (h := ?_)
                  refine XReg.pn 10 67 (h := ?_)
                  refine XReg.pn 11 68 (h := ?_)
                  refine XReg.pn 12 69 (h := ?_)
                  refine XReg.pn 13 70 (h := ?_)
                  refine XReg.pn 14 71 (h := ?_)
                  refine XReg.pn 15 72 (h := ?_)
                  refine XReg.pn 16 73 (h := ?_)
                  refine XReg.pn 17 74 (h := ?_)
                  refine XReg.pn 18 75 (h := ?_)
                  refine XReg.pu 19 76 (h := ?_)
                  refine done_ (by kernel_rfl) ?_
                  clear hH2
                  go_wp2
                  go_ret
                  exact ⟨by rw [HF.out]; rfl, HB8.out.trans (HBb.out.mono HB8.out.size)⟩
                | true =>
                  refine XReg.pu 4 61 (h := ?_)
                  refine XReg.pu 5 62 (h := ?_)
                  refine XReg.pu 6 63 (h := ?_)
                  by_cases h0 : i = 0
                  · have hsn' : seenS x.f1 none x.f6 = seenS x.f1 (some d) (x.f6.drop (i + 1)) := by rw [hsn, if_pos h0]; simp
                    have HSN' := Aside0.mk hsn'
                    have hz : decide (0 < i) = false := by simp; omega
                    clear hsn hsn' hbh h0
                    refine XReg.pu 7 64 (h := ?_)
                    refine XReg.pu 8 65 (h := ?_)
                    refine XReg.pn 9 66 (h := ?_)
                    refine XReg.pn 10 67 (h := ?_)
                    refine XReg.pn 11 68 (h := ?_)
                    refine XReg.pn 12 69 (h := ?_)
                    refine XReg.pn 13 70 (h := ?_)
                    refine XReg.pn 14 71 (h := ?_)
                    refine XReg.pn 15 72 (h := ?_)
                    refine XReg.pn 16 73 (h := ?_)
                    refine XReg.pn 17 74 (h := ?_)
                    refine XReg.pu 18 75 (h := ?_)
                    refine XReg.pu 19 76 (h := ?_)
                    refine done_ (by kernel_rfl) ?_
                    clear hH2 hz
                    go_wp2
                    go_round
                    case rel => exact ⟨i + 1, by go_num, by omega, ⟨by rw [if_neg (by omega), Nat.add_sub_cancel, HD.out]; exact HSN'.out⟩, HBb⟩
                    case measure => simp [intOf]; omega
                  · obtain ⟨c, hcc⟩ : ∃ c, rd_T72 x.f6 ((i - 1 : Nat) : Int) = c := ⟨_, rfl⟩
                    rw [if_neg h0, hcc] at hsn
                    simp only [Bool.true_and] at hsn
                    have HSN' := Aside0.mk hsn
                    have hz : decide (0 < i) = true := by simp; omega
                    have hwr : wrap64 ((i : Int) - 1) = ((i - 1 : Nat) : Int) := by unfold wrap64; omega
                    have hb4 : 0 ≤ ((i - 1 : Nat) : Int) ∧ ((i - 1 : Nat) : Int) < (x.f6.length : Int) := by omega
                    have HWR := Aside0.mk hwr
                    have HCC := Aside0.mk hcc
                    have hlt1 : i - 1 < x.f6.length := by omega
                    clear hsn hbh hwr hcc
                    refine XReg.pu 7 64 (h := ?_)
                    refine XReg.pu 8 65 (h := ?_)
                    refine XReg.pu 9 66 (h := ?_)
                    refine XReg.tk 10 67 (hy := by (intro w' hS_; obtain ⟨⟨s0, s1, s2, s3, s4, s5⟩, _⟩ := hS_; go_simp; with_reducible rfl)) (h := ?_)
                    refine XReg.pu 11 68 (h := ?_)
                    refine XReg.pu 12 69 (h := ?_)
                    rw [HWR.out]
                    refine XReg.pu 13 70 (h := ?_)
                    refine XReg.tk 14 71 (hy := by (intro w' hS_; obtain ⟨_, _, _, s8⟩ := hS_; go_simp; with_reducible rfl)) (h := ?_)
                    rw [HCC.out]
                    refine XReg.tk 15 72 (hy := by (intro w' hS_; obtain ⟨_, s6, s7, _⟩ := hS_; go_simp; with_reducible rfl)) (h := ?_)
                    obtain ⟨ts, hts, hts2⟩ := stands_f 3 (by omega) c d
                    have HTS := Aside0.mk hts
                    have HTS2 := Aside0.mk hts2
                    clear hts hts2 hz hb4 hlt1
                    refine XReg.one (i := 16) (some 73) rfl rfl (by kernel_rfl) (by decide) (fun Kc hKc => ?_)
                    refine goes_ Try.func69 (by kernel_rfl) rfl #[.agg #[.string c.f0, .int .i64 c.f1], .agg #[.string d.f0, .int .i64 d.f1]] (by rfl) rfl rfl (by (try simp only [List.map_toArray, List.map_cons, List.map_nil]); first | done | rfl) ?_
                    refine (order_stands.calls 3 c.f0 c.f1 d.f0 d.f1 ts _ HTS.out).mono ?_
                    rintro e wc ⟨rfl, hbc⟩
                    refine ⟨_, rfl, ?_⟩
                    have HBc := Aside0.mk (show Below w8.heap.size w8 wc from HBb.out.trans (hbc.mono HBb.out.size))
                    have HXc := Aside0.mk (HXb.out.below hbc)
                    have BKc := Aside0.mk (blk_below BKb.out hbc)
                    refine hKc.out _ _ ⟨HXc.out.s6, (blk_cell BKc.out 0).trans rfl, (blk_cell BKc.out 1).trans rfl, fun q hq => by
                     obtain ⟨ad', had', f0, f1⟩ := at_T72 HXc.out.g7 (q : Int) (by omega) (by omega)
                     cases had'
                     exact ⟨f0, f1⟩⟩ (fun hH => ?_)
                    clear hKc Kc hH2 hbc HBb HXb BKb
                    refine XReg.pu 17 74 (h := ?_)
                    obtain ⟨bt, hbt⟩ : ∃ b, decide (0 ≤ ts) = b := ⟨_, rfl⟩
                    rw [hbt]
                    refine XReg.pu 18 75 (h := ?_)
                    refine XReg.pu 19 76 (h := ?_)
                    refine done_ (by kernel_rfl) ?_
                    clear hH
                    have hsn := HSN'.out
                    have ht2 := HTS2.out
                    cases bt with
                    | true =>
                      have hl : lessD c d = false := ht2.1 (by simpa using hbt)
                      have HF := Aside0.mk (not_right (x := x) (fun _ _ _ _ _ _ h _ => by rw [hsn, hl] at h; simp at h))
                      clear hsn ht2 hl hbt
                      go_wp2
                      go_ret
                      exact ⟨by rw [HF.out]; rfl, HB8.out.trans (HBc.out.mono HB8.out.size)⟩
                    | false =>
                      have hl : lessD c d = true := by
                       cases h : lessD c d
                       · have := ht2.2 h; simp at hbt; omega
                       · rfl
                      rw [hl] at hsn
                      simp only [Bool.true_and] at hsn
                      have HSN2 := Aside0.mk hsn
                      clear hsn ht2 hl hbt
                      go_wp2
                      go_round
                      case rel => exact ⟨i + 1, by go_num, by omega, ⟨by rw [if_neg (by omega), Nat.add_sub_cancel, HD.out]; exact HSN2.out⟩, HBc⟩
                      case measure => simp [intOf]; omega
              · have hsn := HSi.out
                rw [List.drop_eq_nil_of_le (by omega)] at hsn
                have HS := Aside0.mk (show seenS x.f1 none x.f6 = true from by rw [hsn]; rfl)
                have HXr := Aside0.mk (HX8.out.below HBi.out)
                have HK := Aside0.mk (show rightO x = kindS x from by
                 unfold rightO
                 rw [HO1.out, HO2.out, HS.out]
                 have h4 := HO4.out
                 have h5 := HO5.out
                 rw [h4, h5]
                 simp [HO3.out, HO6.out])
                have e4 : wr.cell? ⟨N, 4, none⟩ = some (.int .i64 x.f3) := (blk_cell HXr.out.b 4).trans rfl
                have e6 : wr.cell? ⟨N, 6, none⟩ = some (.int .i64 x.f5) := (blk_cell HXr.out.b 6).trans rfl
                have e7 : wr.cell? ⟨N, 7, none⟩ = some (.slice A7 x.f6.length c7) := (blk_cell HXr.out.b 7).trans rfl
                have HBf := Aside0.mk (HB8.out.trans (HBi.out.mono HB8.out.size))
                clear hsn
                have fin : ∀ (b : Bool), kindS x = b → Ending.returned (Value.bool b) = Ending.returned (Value.bool (rightO x)) := fun b h => by rw [HK.out, h]
                have FIN := Aside0.mk fin
                clear fin
                by_cases k1 : x.f3 = 1
                · have q1 : (x.f3 == 1) = true := by simp [k1]
                  have K1 := Aside0.mk k1
                  clear k1
                  by_cases k2 : x.f6.length = 0
                  · have q2 : (x.f6.length == 0) = true := by rw [beq_iff_eq]; exact k2
                    have q2c : ((x.f6.length : Int) == 0) = true := by rw [beq_iff_eq]; omega
                    have q2d : x.f6 = [] := List.eq_nil_of_length_eq_zero k2
                    have K2 := Aside0.mk k2
                    clear k2
                    by_cases k3 : 1 ≤ x.f5
                    · have q3 : decide (1 ≤ x.f5) = true := by simp [k3]
                      have K3 := Aside0.mk k3
                      by_cases k4 : x.f5 ≤ 9999
                      · have q4 : decide (x.f5 ≤ 9999) = true := by simp [k4]
                        have K4 := Aside0.mk k4
                        go_wp2
                        all_goals
                         go_ret
                         exact ⟨FIN.out _ (by unfold kindS; rw [if_pos K1.out]; first | (simp [List.eq_nil_of_length_eq_zero K2.out, K3.out, K4.out]; done) | (simp [List.eq_nil_of_length_eq_zero K2.out, K3.out, K4.out]; omega)), (by first | exact HBf.out | (rw [← hN]; exact HBf.out))⟩
                      · have q4 : decide (x.f5 ≤ 9999) = false := by simp; omega
                        have K4 := Aside0.mk k4
                        go_wp2
                        all_goals
                         go_ret
                         exact ⟨FIN.out _ (by unfold kindS; rw [if_pos K1.out]; first | (simp [List.eq_nil_of_length_eq_zero K2.out, K3.out, K4.out]; done) | (simp [List.eq_nil_of_length_eq_zero K2.out, K3.out, K4.out]; omega)), (by first | exact HBf.out | (rw [← hN]; exact HBf.out))⟩
                    · have q3 : decide (1 ≤ x.f5) = false := by simp; omega
                      have K3 := Aside0.mk k3
                      go_wp2
                      all_goals
                       go_ret
                       exact ⟨FIN.out _ (by unfold kindS; rw [if_pos K1.out]; first | (simp [List.eq_nil_of_length_eq_zero K2.out, K3.out]; done) | (simp [List.eq_nil_of_length_eq_zero K2.out, K3.out]; omega)), (by first | exact HBf.out | (rw [← hN]; exact HBf.out))⟩
                  · have q2 : (x.f6.length == 0) = false := by rw [beq_eq_false_iff_ne]; exact k2
                    have q2c : ((x.f6.length : Int) == 0) = false := by rw [beq_eq_false_iff_ne]; omega
                    have K2 := Aside0.mk k2
                    go_wp2
                    all_goals
                     go_ret
                     exact ⟨FIN.out _ (by unfold kindS; rw [if_pos K1.out]; first | (simp [K2.out]; done) | (simp [K2.out]; omega)), (by first | exact HBf.out | (rw [← hN]; exact HBf.out))⟩
                · have q1 : (x.f3 == 1) = false := by simp [k1]
                  have K1 := Aside0.mk k1
                  clear k1
                  by_cases k2 : x.f3 = 2
                  · have q2 : (x.f3 == 2) = true := by simp [k2]
                    have K2 := Aside0.mk k2
                    clear k2
                    by_cases k3 : 1 ≤ x.f5
                    · have q3 : decide (1 ≤ x.f5) = true := by simp [k3]
                      have K3 := Aside0.mk k3
                      by_cases k4 : x.f5 ≤ 9999
                      · have q4 : decide (x.f5 ≤ 9999) = true := by simp [k4]
                        have K4 := Aside0.mk k4
                        go_wp2
                        all_goals
                         go_ret
                         exact ⟨FIN.out _ (by unfold kindS; rw [if_neg K1.out, if_pos K2.out]; first | (simp [K2.out, K3.out, K4.out]; done) | (simp [K2.out, K3.out, K4.out]; omega)), (by first | exact HBf.out | (rw [← hN]; exact HBf.out))⟩
                      · have q4 : decide (x.f5 ≤ 9999) = false := by simp; omega
                        have K4 := Aside0.mk k4
                        go_wp2
                        all_goals
                         go_ret
                         exact ⟨FIN.out _ (by unfold kindS; rw [if_neg K1.out, if_pos K2.out]; first | (simp [K2.out, K3.out, K4.out]; done) | (simp [K2.out, K3.out, K4.out]; omega)), (by first | exact HBf.out | (rw [← hN]; exact HBf.out))⟩
                    · have q3 : decide (1 ≤ x.f5) = false := by simp; omega
                      have K3 := Aside0.mk k3
                      go_wp2
                      all_goals
                       go_ret
                       exact ⟨FIN.out _ (by unfold kindS; rw [if_neg K1.out, if_pos K2.out]; first | (simp [K2.out, K3.out]; done) | (simp [K2.out, K3.out]; omega)), (by first | exact HBf.out | (rw [← hN]; exact HBf.out))⟩
                  · have q2 : (x.f3 == 2) = false := by simp [k2]
                    have K2 := Aside0.mk k2
                    clear k2
                    by_cases k3 : x.f3 = 3
                    · have q3 : (x.f3 == 3) = true := by simp [k3]
                      have K3 := Aside0.mk k3
                      clear k3
                      by_cases k4 : x.f5 = 0
                      · have q4 : (x.f5 == 0) = true := by simp [k4]
                        have K4 := Aside0.mk k4
                        clear k4
                        go_wp2
                        all_goals
                         go_ret
                         exact ⟨FIN.out _ (by unfold kindS; rw [if_neg K1.out, if_neg K2.out]; first | (simp [K3.out, K4.out]; done) | (simp [K3.out, K4.out]; omega)), (by first | exact HBf.out | (rw [← hN]; exact HBf.out))⟩
                      · have q4 : (x.f5 == 0) = false := by simp [k4]
                        have K4 := Aside0.mk k4
                        go_wp2
                        all_goals
                         go_ret
                         exact ⟨FIN.out _ (by unfold kindS; rw [if_neg K1.out, if_neg K2.out]; first | (simp [K3.out, K4.out]; done) | (simp [K3.out, K4.out]; omega)), (by first | exact HBf.out | (rw [← hN]; exact HBf.out))⟩
                    · have q3 : (x.f3 == 3) = false := by simp [k3]
                      have K3 := Aside0.mk k3
                      clear k3
                      go_wp2
                      all_goals
                       go_ret
                       exact ⟨FIN.out _ (by unfold kindS; rw [if_neg K1.out, if_neg K2.out]; first | (simp [K3.out]; done) | (simp [K3.out]; omega)), (by first | exact HBf.out | (rw [← hN]; exact HBf.out))⟩
end Go.Proofs.Ytjejhgjdmbodiaa.PO
end
section
namespace Go.Proofs.Ytjejhgjdmbodiaa.PO
open Go.RowKit Go.Proofs.YtjejhgjdmbodiaaW.PrintWords Go.Proofs.YtjejhgjdmbodiaaW.PrintLast Go.Proofs.YtjejhgjdmbodiaaW.PrintMore Go.Proofs.Ytjejhgjdmbodiaa.XW
set_option linter.unusedVariables false
set_option linter.unusedSimpArgs false
structure Cells8 (w : World) (N : Nat) (u0 u1 u2 u3 u4 u5 u6 u7 : Value) : Prop where
 e0 : w.cell? ⟨N, 0, none⟩ = some u0
 e1 : w.cell? ⟨N, 1, none⟩ = some u1
 e2 : w.cell? ⟨N, 2, none⟩ = some u2
 e3 : w.cell? ⟨N, 3, none⟩ = some u3
 e4 : w.cell? ⟨N, 4, none⟩ = some u4
 e5 : w.cell? ⟨N, 5, none⟩ = some u5
 e6 : w.cell? ⟨N, 6, none⟩ = some u6
 e7 : w.cell? ⟨N, 7, none⟩ = some u7
theorem cells8 {w : World} {N : Nat} {u0 u1 u2 u3 u4 u5 u6 u7 : Value} (h : w.heap[N]? = some (.cells #[u0, u1, u2, u3, u4, u5, u6, u7] 74 (0, 0))) : Cells8 w N u0 u1 u2 u3 u4 u5 u6 u7 :=
 ⟨(blk_cell h 0).trans rfl, (blk_cell h 1).trans rfl, (blk_cell h 2).trans rfl, (blk_cell h 3).trans rfl, (blk_cell h 4).trans rfl, (blk_cell h 5).trans rfl, (blk_cell h 6).trans rfl, (blk_cell h 7).trans rfl⟩
theorem injT (x y : ByteArray) : (x.toList = y.toList) ↔ x = y := ⟨bytes_inj, fun h => by rw [h]⟩
theorem eqO_iff (x y : S74) : x = y ↔ (x.f1 = y.f1 ∧ x.f6 = y.f6 ∧ x.f0.f0.toList = y.f0.f0.toList ∧ x.f0.f1 = y.f0.f1 ∧ x.f2.toList = y.f2.toList ∧ x.f3 = y.f3 ∧ x.f4.toList = y.f4.toList ∧ x.f5 = y.f5) := by
 constructor
 · rintro rfl; exact ⟨rfl, rfl, rfl, rfl, rfl, rfl, rfl, rfl⟩
 · obtain ⟨⟨a0, a1⟩, a2, a3, a4, a5, a6, a7⟩ := x
   obtain ⟨⟨b0, b1⟩, b2, b3, b4, b5, b6, b7⟩ := y
   simp only [injT]
   rintro ⟨rfl, rfl, rfl, rfl, rfl, rfl, rfl, rfl⟩
   rfl
end Go.Proofs.Ytjejhgjdmbodiaa.PO
end
section
namespace Go.Proofs.Ytjejhgjdmbodiaa.PO
open Go.RowKit Go.Proofs.YtjejhgjdmbodiaaW.PrintWords Go.Proofs.YtjejhgjdmbodiaaW.PrintLast Go.Proofs.YtjejhgjdmbodiaaW.PrintMore
attribute [local go_sem] max2_int min2_int max_two min_two max_three min_three max_four min_four   -- for this text's walks alone
set_option linter.unusedVariables false
set_option linter.unusedSimpArgs false
theorem info5 : (Try.prog.info? 5).map (fun i => (i.zero, i.size, i.bytes)) = some (some (.int .u8 0), 1, 1) := by kernel_rfl
end Go.Proofs.Ytjejhgjdmbodiaa.PO
end
section
namespace Go.Proofs.Ytjejhgjdmbodiaa.PO
open Go.RowKit Go.Proofs.YtjejhgjdmbodiaaW.PrintWords Go.Proofs.YtjejhgjdmbodiaaW.PrintLast Go.Proofs.YtjejhgjdmbodiaaW.PrintMore
attribute [local go_sem] max2_int min2_int max_two min_two max_three min_three max_four min_four   -- for this text's walks alone
set_option linter.unusedVariables false
set_option linter.unusedSimpArgs false
end Go.Proofs.Ytjejhgjdmbodiaa.PO
end
section
namespace Go.Proofs.Ytjejhgjdmbodiaa.PO
open Go.RowKit Go.Proofs.YtjejhgjdmbodiaaW.PrintWords Go.Proofs.YtjejhgjdmbodiaaW.PrintLast Go.Proofs.YtjejhgjdmbodiaaW.PrintMore
attribute [local go_sem] max2_int min2_int max_two min_two max_three min_three max_four min_four   -- for this text's walks alone
set_option linter.unusedVariables false
set_option linter.unusedSimpArgs false
def frame_bare.f (a0_0 : Int) (a0_1 : ByteArray) (a0_2 : ByteArray) (a0_3 : ByteArray) (a0_4 : Int) (a0_5 : Int) (a0_6 : Int) (l0_7 : List (S72)) (l0_8 : List (S74)) : Option (Bool) := if a0_6 = 0 then (if (l0_7.length : Int) = 0 then (some ((l0_8.length : Int) == 0)) else (some false)) else (some false)
set_option maxHeartbeats 8000000 in
set_option maxRecDepth 100000 in
theorem frame_bare.calls (a0_0 : Int) (a0_1 : ByteArray) (a0_2 : ByteArray) (a0_3 : ByteArray) (a0_4 : Int) (a0_5 : Int) (a0_6 : Int) (A0_7 : Option Addr) (c0_7 : Nat) (l0_7 : List (S72)) (A0_8 : Option Addr) (c0_8 : Nat) (l0_8 : List (S74)) (r : Bool) (w : World) (hr0_7 : Kd.C k72 w A0_7 l0_7.length l0_7) (hc0_7 : l0_7.length ≤ c0_7) (hr0_8 : Kd.C k74 w A0_8 l0_8.length l0_8) (hc0_8 : l0_8.length ≤ c0_8) (h : frame_bare.f a0_0 a0_1 a0_2 a0_3 a0_4 a0_5 a0_6 l0_7 l0_8 = some r) :
 Calls Try.prog 77 #[.agg #[.int .i64 a0_0, .string a0_1, .string a0_2, .string a0_3, .int .i64 a0_4, .int .i64 a0_5, .int .i64 a0_6, .slice A0_7 l0_7.length c0_7, .slice A0_8 l0_8.length c0_8]] w fun e w' => e = .returned (.bool r) ∧ Below w.heap.size w w' := by
 have hu54 := Try.underlying34
 have HR0_7 := Aside0.mk hr0_7
 have HC0_7 := Aside0.mk hc0_7
 clear hr0_7 hc0_7
 have HR0_8 := Aside0.mk hr0_8
 have HC0_8 := Aside0.mk hc0_8
 clear hr0_8 hc0_8
 have HB := Aside0.mk (Below.refl w.heap.size w)
 have H : (if a0_6 = 0 then (if (l0_7.length : Int) = 0 then (some ((l0_8.length : Int) == 0)) else (some false)) else (some false)) = some r := h
 clear h
 by_cases c2 : a0_6 = 0
 rw [if_pos c2] at H
 have c2b0 : (a0_6 == 0) = true := beq_iff_eq.mpr c2
 have c2b1 : (a0_6 != 0) = false := bne_eq_false_iff_eq.mpr c2
 clear c2
 by_cases c3 : (l0_7.length : Int) = 0
 rw [if_pos c3] at H
 have c3b0 : ((l0_7.length : Int) == 0) = true := beq_iff_eq.mpr c3
 have c3b1 : ((l0_7.length : Int) != 0) = false := bne_eq_false_iff_eq.mpr c3
 clear c3
 obtain rfl := Option.some.inj H
 rotate_left
 rw [if_neg c3] at H
 have c3b0 : ((l0_7.length : Int) == 0) = false := beq_eq_false_iff_ne.mpr c3
 have c3b1 : ((l0_7.length : Int) != 0) = true := bne_iff_ne.mpr c3
 have c3b2 : ¬ (l0_7 = []) := fun h_ => c3 (by rw [h_]; rfl)
 obtain rfl := Option.some.inj H
 rotate_left
 rw [if_neg c2] at H
 have c2b0 : (a0_6 == 0) = false := beq_eq_false_iff_ne.mpr c2
 have c2b1 : (a0_6 != 0) = true := bne_iff_ne.mpr c2
 obtain rfl := Option.some.inj H
 rotate_left
 all_goals (
  go_enter Try.func77, Try.ntmps77
  go_wp2_with (first | ((with_reducible refine gate_dst (N := 1) rfl ?_); (try (refine gate_guard (by rfl) ?_; dsimp only)); refine box_event ?hg (N := 1) ?hd (cs := #[.int .i64 a0_0, .string a0_1, .string a0_2, .string a0_3, .int .i64 a0_4, .int .i64 a0_5, .int .i64 a0_6, .slice A0_7 l0_7.length c0_7, .slice A0_8 l0_8.length c0_8]) (t := 34) ?hr ?_; (case hd => rfl); (case hg => rfl); (case hr => first | (go_simp; done) | (go_simp; rfl)); intro gb9001 hg w9002 hbox hb; have n9003_ := Aside0.mk (below_step (by repeat (first | (with_reducible first | exact HB.out | apply below_alloc | apply pw_below_drewN | apply below_drew1) | exact HB.out)) hb); have n9004_ := Aside0.mk (hbox); have n9005_ := Aside0.mk ((by rw [hg]; exact (below_size (by repeat (first | (with_reducible first | exact HB.out | apply below_alloc | apply pw_below_drewN | apply below_drew1) | exact HB.out))) : w.heap.size ≤ gb9001)); have n9006_ := Aside0.mk ((by rw [hg]; exact (below_size (by repeat (first | (with_reducible first | exact HB.out | apply below_alloc | apply pw_below_drewN | apply below_drew1) | exact HB.out))) : w.heap.size ≤ gb9001)); clear HB; have HB := n9003_; have BK9001 := n9004_; have GW9001 := n9005_; have GE9001 := n9006_; clear n9003_ n9004_ n9005_ n9006_; clear hb hbox hg; have hcz9007_0 : w9002.cell? ⟨gb9001, 0, none⟩ = some (.int .i64 a0_0) := (blk_cell BK9001.out 0).trans rfl; have hcz9007_1 : w9002.cell? ⟨gb9001, 1, none⟩ = some (.string a0_1) := (blk_cell BK9001.out 1).trans rfl; have hcz9007_2 : w9002.cell? ⟨gb9001, 2, none⟩ = some (.string a0_2) := (blk_cell BK9001.out 2).trans rfl; have hcz9007_3 : w9002.cell? ⟨gb9001, 3, none⟩ = some (.string a0_3) := (blk_cell BK9001.out 3).trans rfl; have hcz9007_4 : w9002.cell? ⟨gb9001, 4, none⟩ = some (.int .i64 a0_4) := (blk_cell BK9001.out 4).trans rfl; have hcz9007_5 : w9002.cell? ⟨gb9001, 5, none⟩ = some (.int .i64 a0_5) := (blk_cell BK9001.out 5).trans rfl; have hcz9007_6 : w9002.cell? ⟨gb9001, 6, none⟩ = some (.int .i64 a0_6) := (blk_cell BK9001.out 6).trans rfl; have hcz9007_7 : w9002.cell? ⟨gb9001, 7, none⟩ = some (.slice A0_7 l0_7.length c0_7) := (blk_cell BK9001.out 7).trans rfl; have hcz9007_8 : w9002.cell? ⟨gb9001, 8, none⟩ = some (.slice A0_8 l0_8.length c0_8) := (blk_cell BK9001.out 8).trans rfl; have hfz9007_0 := blk_frozen BK9001.out 0; have hfz9007_1 := blk_frozen BK9001.out 1; have hfz9007_2 := blk_frozen BK9001.out 2; have hfz9007_3 := blk_frozen BK9001.out 3; have hfz9007_4 := blk_frozen BK9001.out 4; have hfz9007_5 := blk_frozen BK9001.out 5; have hfz9007_6 := blk_frozen BK9001.out 6; have hfz9007_7 := blk_frozen BK9001.out 7; have hfz9007_8 := blk_frozen BK9001.out 8))
  go_ret
  exact ⟨by first | rfl | (simp [errW_none, errW_some] <;> rfl) | (simp [*, errW_none, errW_some] <;> rfl), by repeat (first | (with_reducible first | exact HB.out | apply below_alloc | apply pw_below_drewN | apply below_drew1 | refine below_set ?_ GE9001.out) | exact HB.out)⟩
  )
section
open Go.Proofs.Ytjejhgjdmbodiaa.XRange Go.Proofs.Ytjejhgjdmbodiaa.XHeld
end
end Go.Proofs.Ytjejhgjdmbodiaa.PO
end
section
namespace Go.Proofs.Ytjejhgjdmbodiaa.PO
open Go.RowKit Go.Proofs.YtjejhgjdmbodiaaW.PrintWords Go.Proofs.YtjejhgjdmbodiaaW.PrintLast Go.Proofs.YtjejhgjdmbodiaaW.PrintMore Go.Proofs.Ytjejhgjdmbodiaa.XW
open Go.Proofs.Ytjejhgjdmbodiaa.XRange
set_option linter.unusedVariables false
set_option linter.unusedSimpArgs false
structure Fr where
 k : Int
 fa : ByteArray
 fb : ByteArray
 ct : ByteArray
 se : Int
 ix : Int
 mn : Int
 kn : List S72
 op : List S74
def badO (cart : ByteArray) (o : S74) : Bool := decide (o.f2 ≠ cart) || !rightO o
def headF (f : Fr) : Bool := isNameB f.fa && isNameB f.fb && decide (f.fa ≠ f.fb) && decide (1 ≤ f.ct.size) && decide (f.ct.size ≤ 32) && decide (1 ≤ f.se) && decide (f.se ≤ 1152921504606846976) && decide (0 ≤ f.ix)
def bodyF (f : Fr) : Bool :=
 if f.k = 1 then decide (f.mn = 0) && decide (f.op.length = 0) && rightS f.kn && decide (f.ix ≤ 1152921504606846976)
 else if f.k = 2 then decide (f.kn.length = 0) && decide (f.ix < f.mn) && decide (f.mn ≤ 512) && decide (0 < f.op.length) && decide (f.op.length ≤ 8) && !f.op.any (badO f.ct)
 else decide (f.k = 3) && decide (f.mn = 0) && decide (f.kn.length = 0) && decide (f.op.length = 0) && decide (f.ix ≤ 512)
def rightF (f : Fr) : Bool := headF f && bodyF f
structure Cells9 (w : World) (N : Nat) (u0 u1 u2 u3 u4 u5 u6 u7 u8 : Value) : Prop where
 e0 : w.cell? ⟨N, 0, none⟩ = some u0
 e1 : w.cell? ⟨N, 1, none⟩ = some u1
 e2 : w.cell? ⟨N, 2, none⟩ = some u2
 e3 : w.cell? ⟨N, 3, none⟩ = some u3
 e4 : w.cell? ⟨N, 4, none⟩ = some u4
 e5 : w.cell? ⟨N, 5, none⟩ = some u5
 e6 : w.cell? ⟨N, 6, none⟩ = some u6
 e7 : w.cell? ⟨N, 7, none⟩ = some u7
 e8 : w.cell? ⟨N, 8, none⟩ = some u8
theorem cells9 {w : World} {N : Nat} {u0 u1 u2 u3 u4 u5 u6 u7 u8 : Value} (h : w.heap[N]? = some (.cells #[u0, u1, u2, u3, u4, u5, u6, u7, u8] 34 (0, 0))) : Cells9 w N u0 u1 u2 u3 u4 u5 u6 u7 u8 :=
 ⟨(blk_cell h 0).trans rfl, (blk_cell h 1).trans rfl, (blk_cell h 2).trans rfl, (blk_cell h 3).trans rfl, (blk_cell h 4).trans rfl, (blk_cell h 5).trans rfl, (blk_cell h 6).trans rfl, (blk_cell h 7).trans rfl, (blk_cell h 8).trans rfl⟩
set_option maxHeartbeats 8000000 in
set_option maxRecDepth 100000 in
theorem badO_calls (G : Nat) (cart : ByteArray) (x : S74) (A2 : Option Addr) (c2 : Nat) (A7 : Option Addr) (c7 : Nat) (w : World) (l2 : x.f1.length ≤ c2) (g2 : Kd.C k72 w A2 x.f1.length x.f1) (l7 : x.f6.length ≤ c7) (g7 : Kd.C k72 w A7 x.f6.length x.f6) (hG : w.cell? ⟨G, 3, none⟩ = some (.string cart)) :
 Calls Try.prog 78 #[.agg #[.string x.f0.f0, .int .i64 x.f0.f1, .slice A2 x.f1.length c2, .string x.f2, .int .i64 x.f3, .string x.f4, .int .i64 x.f5, .slice A7 x.f6.length c7], .pointer (some ⟨G, 0, none⟩)] w fun e w' => e = .returned (.bool (badO cart x)) ∧ Below w.heap.size w w' := by
 have HG2 := Aside0.mk g2
 have HG7 := Aside0.mk g7
 have HL2 := Aside0.mk l2
 have HL7 := Aside0.mk l7
 have hGl := World.block_lt_of_cell? w _ hG
 obtain ⟨N, hN⟩ : ∃ N, w.heap.size = N := ⟨_, rfl⟩
 clear l2 g2 l7 g7
 go_enter Try.func78, Try.ntmps78
 obtain ⟨w0, hw0⟩ : ∃ w0, w.alloc (.cells #[.string x.f0.f0, .int .i64 x.f0.f1, .slice A2 x.f1.length c2, .string x.f2, .int .i64 x.f3, .string x.f4, .int .i64 x.f5, .slice A7 x.f6.length c7] 74) = w0 := ⟨_, rfl⟩
 have HB := Aside0.mk (show Below w.heap.size w w0 from by rw [← hw0]; exact (Below.refl _ w).alloc (Nat.le_refl _) _)
 have KX := Aside0.mk (show w0.heap[N]? = some (.cells #[.string x.f0.f0, .int .i64 x.f0.f1, .slice A2 x.f1.length c2, .string x.f2, .int .i64 x.f3, .string x.f4, .int .i64 x.f5, .slice A7 x.f6.length c7] 74 (0, 0)) from by rw [← hw0, ← hN]; exact World.alloc_heap_new w _)
 obtain ⟨n0, n1, n2, n3, n4, n5, n6, n7⟩ := cells8 KX.out
 have hG0 : w0.cell? ⟨G, 3, none⟩ = some (.string cart) := (HB.out.cell hGl).trans hG
 clear hG
 by_cases he : x.f2.toList = cart.toList
 · have q1 : (x.f2.toList == cart.toList) = true := by simp [he]
   have HE := Aside0.mk (bytes_inj he)
   go_wp2_with fail
   refine (orderRight_calls x A2 c2 A7 c7 _ HL2.out (Kd.C_below HG2.out HB.out) HL7.out (Kd.C_below HG7.out HB.out)).mono ?_
   rintro e w1 ⟨rfl, hb1⟩
   have HB1 := Aside0.mk (HB.out.trans (hb1.mono HB.out.size))
   clear n0 n1 n2 n3 n4 n5 n6 n7 hb1
   go_wp2
   go_ret
   refine ⟨?_, by first | exact HB1.out | (rw [← hN]; exact HB1.out)⟩
   unfold badO
   rw [HE.out]
   simp
 · have q1 : (x.f2.toList == cart.toList) = false := by simp [he]
   go_wp2
   go_ret
   refine ⟨?_, by first | exact HB.out | (rw [← hN]; exact HB.out)⟩
   unfold badO
   have : x.f2 ≠ cart := fun h => he (by rw [h])
   simp [this]
theorem rd_drop36' (l : List S74) (i : Nat) (h : i < l.length) : l.drop i = rd_T74 l i :: l.drop (i + 1) := by
 rw [List.drop_eq_getElem_cons h, rd_T74]
 congr 1
 simp [List.getD, h]
set_option maxHeartbeats 8000000 in
set_option maxRecDepth 100000 in
theorem idxBad_calls (G : Nat) (cart : ByteArray) (l : List S74) (A : Option Addr) (c : Nat) (w : World) (hc : l.length ≤ c) (hC : Kd.C k74 w A l.length l) (hG : w.cell? ⟨G, 3, none⟩ = some (.string cart)) :
 Calls Try.prog 64 #[.slice A l.length c, .func (.func 78) #[] #[.pointer (some ⟨G, 0, none⟩)]] w fun e w' => ∃ r : Int, e = .returned (.int .i64 r) ∧ decide (0 ≤ r) = l.any (badO cart) ∧ Below w.heap.size w w' := by
 have HC := Aside0.mk hC
 have hm : l.length ≤ 9223372036854775807 := hC.2.1
 have hGl := World.block_lt_of_cell? w _ hG
 have HG := Aside0.mk hG
 clear hC hG
 go_enter Try.func64, Try.ntmps64
 go_wp2
 go_loopw [5, 8] (fun _ v8 wr => ∃ j : Nat, j ≤ l.length ∧ v8 = .int .i64 j ∧ Aside0 ((l.drop j).any (badO cart) = l.any (badO cart)) ∧ Aside0 (Below w.heap.size w wr)) (fun _ v8 _ => l.length - (intOf v8).toNat)
 case atStart => exact ⟨0, Nat.zero_le _, rfl, ⟨by simp⟩, ⟨Below.refl _ _⟩⟩
 case round =>
  obtain ⟨j, hj, rfl, HJ, HB⟩ := hrel
  by_cases hlt : j < l.length
  · obtain ⟨ad, A2, c2, A7, c7, rfl, f0, f1, f2, f3, f4, f5, f6, f7, l2, g2, l7, g7⟩ := at_T74 (Kd.C_below HC.out HB.out) (j : Int) (by omega) (by omega)
    simp only [Int.toNat_natCast] at f0 f1 f2 f3 f4 f5 f6 f7
    obtain ⟨x, hx⟩ : ∃ x, rd_T74 l (j : Int) = x := ⟨_, rfl⟩
    rw [hx] at f0 f1 f2 f3 f4 f5 f6 f7 l2 g2 l7 g7
    have HD := Aside0.mk (show l.drop j = x :: l.drop (j + 1) from by rw [← hx]; exact rd_drop36' l j hlt)
    have HL2 := Aside0.mk l2
    have HG2 := Aside0.mk g2
    have HL7 := Aside0.mk l7
    have HG7 := Aside0.mk g7
    have hb3 : 0 ≤ (j : Int) ∧ (j : Int) < (l.length : Int) := by omega
    have q1 : decide ((j : Int) < (l.length : Int)) = true := by simp; omega
    clear l2 g2 l7 g7 hx
    go_wp2_with fail
    refine (badO_calls G cart x A2 c2 A7 c7 _ HL2.out HG2.out HL7.out HG7.out ((HB.out.cell hGl).trans HG.out)).mono ?_
    rintro e w1 ⟨rfl, hb1⟩
    have HB1 := Aside0.mk (HB.out.trans (hb1.mono HB.out.size))
    obtain ⟨b, hb⟩ : ∃ b, badO cart x = b := ⟨_, rfl⟩
    have HBX := Aside0.mk hb
    rw [hb]
    clear hb hb1 f0 f1 f2 f3 f4 f5 f6 f7
    cases b with
    | true =>
      go_wp2
      go_ret
      exact ⟨_, rfl, by rw [← HJ.out, HD.out, List.any_cons, HBX.out]; simp, HB1.out⟩
    | false =>
      go_wp2
      go_round
      case rel => exact ⟨j + 1, by omega, by go_num, ⟨by rw [← HJ.out, HD.out, List.any_cons, HBX.out]; simp⟩, HB1⟩
      case measure => simp [intOf]; omega
  · have q1 : decide ((j : Int) < (l.length : Int)) = false := by simp; omega
    go_wp2
    go_ret
    exact ⟨_, rfl, by rw [← HJ.out, List.drop_eq_nil_of_le (by omega)]; simp, HB.out⟩
set_option maxHeartbeats 8000000 in
set_option maxRecDepth 100000 in
theorem hasBad_calls (G : Nat) (cart : ByteArray) (l : List S74) (A : Option Addr) (c : Nat) (w : World) (hc : l.length ≤ c) (hC : Kd.C k74 w A l.length l) (hG : w.cell? ⟨G, 3, none⟩ = some (.string cart)) :
 Calls Try.prog 36 #[.slice A l.length c, .func (.func 78) #[] #[.pointer (some ⟨G, 0, none⟩)]] w fun e w' => e = .returned (.bool (l.any (badO cart))) ∧ Below w.heap.size w w' := by
 have h := idxBad_calls G cart l A c w hc hC hG
 go_enter Try.func36, Try.ntmps36
 go_wp2_with fail
 refine h.mono ?_
 rintro e w1 ⟨r, rfl, hr, hb1⟩
 go_wp2
 go_ret
 exact ⟨by rw [← hr]; rfl, hb1⟩
end Go.Proofs.Ytjejhgjdmbodiaa.PO
end
section
namespace Go.Proofs.Ytjejhgjdmbodiaa.PO
open Go.RowKit Go.Proofs.YtjejhgjdmbodiaaW.PrintWords Go.Proofs.YtjejhgjdmbodiaaW.PrintLast Go.Proofs.YtjejhgjdmbodiaaW.PrintMore Go.Proofs.Ytjejhgjdmbodiaa.XW
open Go.Proofs.Ytjejhgjdmbodiaa.XRange
set_option linter.unusedVariables false
set_option linter.unusedSimpArgs false
theorem nil_size {s : ByteArray} : s.toList = [] ↔ s.size = 0 := by
 rw [ByteArray.toList_eq, List.eq_nil_iff_length_eq_zero, Array.length_toList]
 exact Iff.rfl
theorem headF_true {f : Fr} (h1 : isNameB f.fa = true) (h2 : isNameB f.fb = true) (h3 : ¬ f.fa.toList = f.fb.toList) (h4 : ¬ f.ct.toList = []) (h5 : (f.ct.size : Int) ≤ 32) (h6 : 1 ≤ f.se) (h7 : f.se ≤ 1152921504606846976) (h8 : 0 ≤ f.ix) : headF f = true := by
 have h9 : f.ct.size ≠ 0 := fun h => h4 (nil_size.2 h)
 have h10 : f.fa ≠ f.fb := fun h => h3 (by rw [h])
 unfold headF
 rw [h1, h2]
 simp [h10, h6, h7, h8]
 omega
theorem headF_parts {f : Fr} (h : headF f = true) : isNameB f.fa = true ∧ isNameB f.fb = true ∧ ¬ f.fa.toList = f.fb.toList ∧ ¬ f.ct.toList = [] ∧ (f.ct.size : Int) ≤ 32 ∧ 1 ≤ f.se ∧ f.se ≤ 1152921504606846976 ∧ 0 ≤ f.ix := by
 unfold headF at h
 simp only [Bool.and_eq_true, decide_eq_true_eq] at h
 obtain ⟨⟨⟨⟨⟨⟨⟨h1, h2⟩, h3⟩, h4⟩, h5⟩, h6⟩, h7⟩, h8⟩ := h
 exact ⟨h1, h2, fun h => h3 (bytes_inj h), fun h => by have := nil_size.1 h; omega, by omega, h6, h7, h8⟩
set_option maxHeartbeats 8000000 in
set_option maxRecDepth 100000 in
theorem frRight_calls (f : Fr) (A7 : Option Addr) (c7 : Nat) (A8 : Option Addr) (c8 : Nat) (w : World) (l7 : f.kn.length ≤ c7) (g7 : Kd.C k72 w A7 f.kn.length f.kn) (l8 : f.op.length ≤ c8) (g8 : Kd.C k74 w A8 f.op.length f.op) :
 Calls Try.prog 46 #[.agg #[.int .i64 f.k, .string f.fa, .string f.fb, .string f.ct, .int .i64 f.se, .int .i64 f.ix, .int .i64 f.mn, .slice A7 f.kn.length c7, .slice A8 f.op.length c8]] w fun e w' => e = .returned (.bool (rightF f)) ∧ Below w.heap.size w w' := by
 have HL7 := Aside0.mk l7
 have HG7 := Aside0.mk g7
 have HL8 := Aside0.mk l8
 have HG8 := Aside0.mk g8
 obtain ⟨N, hN⟩ : ∃ N, w.heap.size = N := ⟨_, rfl⟩
 clear l7 g7 l8 g8
 go_enter Try.func46, Try.ntmps46
 obtain ⟨w0, hw0⟩ : ∃ w0, w.alloc (.cells #[.int .i64 f.k, .string f.fa, .string f.fb, .string f.ct, .int .i64 f.se, .int .i64 f.ix, .int .i64 f.mn, .slice A7 f.kn.length c7, .slice A8 f.op.length c8] 34) = w0 := ⟨_, rfl⟩
 have HB := Aside0.mk (show Below w.heap.size w w0 from by rw [← hw0]; exact (Below.refl _ w).alloc (Nat.le_refl _) _)
 have KX := Aside0.mk (show w0.heap[N]? = some (.cells #[.int .i64 f.k, .string f.fa, .string f.fb, .string f.ct, .int .i64 f.se, .int .i64 f.ix, .int .i64 f.mn, .slice A7 f.kn.length c7, .slice A8 f.op.length c8] 34 (0, 0)) from by rw [← hw0, ← hN]; exact World.alloc_heap_new w _)
 obtain ⟨n0, n1, n2, n3, n4, n5, n6, n7, n8⟩ := cells9 KX.out
 obtain ⟨b1, h1⟩ : ∃ b, isNameB f.fa = b := ⟨_, rfl⟩
 obtain ⟨b2, h2⟩ : ∃ b, isNameB f.fb = b := ⟨_, rfl⟩
 have H1 := Aside0.mk h1
 have H2 := Aside0.mk h2
 clear h1 h2
 go_wp2_with fail
 refine (vector_IsName.calls f.fa b1 _ (congrArg some H1.out)).mono ?_
 rintro e w1 ⟨rfl, hb1⟩
 have HB1 := Aside0.mk (HB.out.trans (hb1.mono HB.out.size))
 have KX1 := Aside0.mk (blk_below KX.out hb1)
 clear n0 n1 n2 n3 n4 n5 n6 n7 n8 hb1 KX HB hw0
 obtain ⟨n0, n1, n2, n3, n4, n5, n6, n7, n8⟩ := cells9 KX1.out
 cases b1 with
 | false =>
   go_wp2
   go_ret
   exact ⟨by unfold rightF headF; rw [H1.out]; rfl, by first | exact HB1.out | (rw [← hN]; exact HB1.out)⟩
 | true =>
   go_wp2_with fail
   refine (vector_IsName.calls f.fb b2 _ (congrArg some H2.out)).mono ?_
   rintro e w2 ⟨rfl, hb2⟩
   have HB2 := Aside0.mk (HB1.out.trans (hb2.mono HB1.out.size))
   have KX2 := Aside0.mk (blk_below KX1.out hb2)
   clear n0 n1 n2 n3 n4 n5 n6 n7 n8 hb2 KX1 HB1
   obtain ⟨n0, n1, n2, n3, n4, n5, n6, n7, n8⟩ := cells9 KX2.out
   cases b2 with
   | false =>
     go_wp2
     go_ret
     exact ⟨by unfold rightF headF; rw [H1.out, H2.out]; rfl, by first | exact HB2.out | (rw [← hN]; exact HB2.out)⟩
   | true =>
     have fz := blk_frozen KX2.out 7
     by_cases hh : headF f = true
     · obtain ⟨_, _, q3, q4, q5, q6, q7, q8⟩ := headF_parts hh
       have HH := Aside0.mk hh
       clear hh
       have p3 : (f.fa.toList == f.fb.toList) = false := by simp [q3]
       have p4 : f.ct.toList.isEmpty = false := by simp [q4]
       have p5 : decide ((32 : Int) < (f.ct.size : Int)) = false := by simp; omega
       have p6 : decide (f.se < 1) = false := by simp; omega
       have p7 : decide ((1152921504606846976 : Int) < f.se) = false := by simp; omega
       have p8 : decide (f.ix < 0) = false := by simp; omega
       have HR := Aside0.mk (show rightF f = bodyF f from by unfold rightF; rw [HH.out]; rfl)
       have Q8 := Aside0.mk q8
       clear q3 q4 q5 q6 q7 q8
       by_cases k1 : f.k = 1
       · have e1 : (f.k == 1) = true := by simp [k1]
         have K1 := Aside0.mk k1
         clear k1
         go_wp2_with fail
         obtain ⟨w3, hw3⟩ : ∃ w3, w2.setCell ⟨N, 7, none⟩ (.slice none 0 0) = w3 := ⟨_, rfl⟩
         rw [hw3]
         have HB3 := Aside0.mk (show Below w.heap.size w w3 from by rw [← hw3]; exact below_set HB2.out (by rw [← hN]; exact Nat.le_refl _))
         have KX3 := Aside0.mk (show w3.cell? ⟨N, 5, none⟩ = some (.int .i64 f.ix) from by rw [← hw3]; exact (blk_cell (blk_set KX2.out 7 (.slice none 0 0)) 5).trans rfl)
         clear hw3 n0 n1 n2 n3 n4 n5 n6 n7 n8 fz
         obtain ⟨bb, hbb⟩ : ∃ b, (decide (f.mn = 0) && decide (f.op.length = 0)) = b := ⟨_, rfl⟩
         have HBB := Aside0.mk hbb
         refine (frame_bare.calls f.k f.fa f.fb f.ct f.se f.ix f.mn none 0 [] A8 c8 f.op bb _ (Kd.C_nil _ _) (by decide) (Kd.C_below HG8.out HB3.out) HL8.out (by
          unfold frame_bare.f
          rw [← HBB.out]
          by_cases h : f.mn = 0 <;> by_cases h' : f.op.length = 0 <;> simp [h, h'] <;> omega)).mono ?_
         rintro e w4 ⟨rfl, hb4⟩
         have HB4 := Aside0.mk (HB3.out.trans (hb4.mono HB3.out.size))
         have c5 : w4.cell? ⟨N, 5, none⟩ = some (.int .i64 f.ix) := (hb4.cell (World.block_lt_of_cell? _ _ KX3.out)).trans KX3.out
         clear hbb hb4
         cases bb with
         | false =>
           go_wp2
           go_ret
           exact ⟨by rw [HR.out]; unfold bodyF; rw [if_pos K1.out, HBB.out]; rfl, by first | exact HB4.out | (rw [← hN]; exact HB4.out)⟩
         | true =>
           go_wp2_with fail
           refine (vector_Right.calls (f.kn.length + 1) A7 c7 f.kn (rightS f.kn) _ (Kd.C_below HG7.out HB4.out) HL7.out (right_f _ HG7.out.2.1 _ (by omega))).mono ?_
           rintro e w5 ⟨rfl, hb5⟩
           have HB5 := Aside0.mk (HB4.out.trans (hb5.mono HB4.out.size))
           have c5' : w5.cell? ⟨N, 5, none⟩ = some (.int .i64 f.ix) := (hb5.cell (World.block_lt_of_cell? _ _ c5)).trans c5
           clear hb5 c5
           go_wp2
           all_goals
            go_ret
            exact ⟨by rw [HR.out]; unfold bodyF; rw [if_pos K1.out, HBB.out]; simp_all, by first | exact HB5.out | (rw [← hN]; exact HB5.out)⟩
       · have e1 : (f.k == 1) = false := by simp [k1]
         have K1 := Aside0.mk k1
         clear k1
         by_cases k2 : f.k = 2
         · have e2 : (f.k == 2) = true := by simp [k2]
           have K2 := Aside0.mk k2
           clear k2
           go_wp2_with fail
           all_goals try (go_ret; exact ⟨by rw [HR.out]; unfold bodyF; rw [if_neg K1.out, if_pos K2.out]; first | (simp_all; done) | (simp_all; omega), by first | exact HB2.out | (rw [← hN]; exact HB2.out)⟩)
           refine (hasBad_calls N f.ct f.op A8 c8 _ HL8.out (Kd.C_below HG8.out HB2.out) n3).mono ?_
           rintro e w3 ⟨rfl, hb3⟩
           have HB3 := Aside0.mk (HB2.out.trans (hb3.mono HB2.out.size))
           clear hb3 n0 n1 n2 n3 n4 n5 n6 n7 n8
           go_wp2
           go_ret
           refine ⟨?_, by first | exact HB3.out | (rw [← hN]; exact HB3.out)⟩
           rw [HR.out]
           unfold bodyF
           rw [if_neg K1.out, if_pos K2.out]
           refine congrArg (fun b => Ending.returned (Value.bool b)) ?_
           simp_all
           intros
           omega
         · have e2 : (f.k == 2) = false := by simp [k2]
           have K2 := Aside0.mk k2
           clear k2
           by_cases k3 : f.k = 3
           · have e3 : (f.k == 3) = true := by simp [k3]
             have K3 := Aside0.mk k3
             clear k3
             go_wp2_with fail
             obtain ⟨bb, hbb⟩ : ∃ b, (decide (f.mn = 0) && decide (f.kn.length = 0) && decide (f.op.length = 0)) = b := ⟨_, rfl⟩
             have HBB := Aside0.mk hbb
             clear hbb
             refine (frame_bare.calls f.k f.fa f.fb f.ct f.se f.ix f.mn A7 c7 f.kn A8 c8 f.op bb _ (Kd.C_below HG7.out HB2.out) HL7.out (Kd.C_below HG8.out HB2.out) HL8.out (by
              unfold frame_bare.f
              rw [← HBB.out]
              by_cases h : f.mn = 0 <;> by_cases h' : f.kn.length = 0 <;> by_cases h'' : f.op.length = 0 <;> simp [h, h', h''] <;> omega)).mono ?_
             rintro e w4 ⟨rfl, hb4⟩
             have HB4 := Aside0.mk (HB2.out.trans (hb4.mono HB2.out.size))
             have c5 : w4.cell? ⟨N, 5, none⟩ = some (.int .i64 f.ix) := (hb4.cell (World.block_lt_of_cell? _ _ n5)).trans n5
             clear hb4 n0 n1 n2 n3 n4 n5 n6 n7 n8
             cases bb <;> go_wp2
             all_goals
              go_ret
              exact ⟨by rw [HR.out]; unfold bodyF; rw [if_neg K1.out, if_neg K2.out, K3.out]; have hb := HBB.out; simp_all, by first | exact HB4.out | (rw [← hN]; exact HB4.out)⟩
           · have e3 : (f.k == 3) = false := by simp [k3]
             have K3 := Aside0.mk k3
             clear k3
             go_wp2
             go_ret
             exact ⟨by rw [HR.out]; unfold bodyF; simp [K1.out, K2.out, K3.out], by first | exact HB2.out | (rw [← hN]; exact HB2.out)⟩
     · have HF := Aside0.mk (show rightF f = false from by unfold rightF; cases h : headF f <;> simp_all)
       go_wp2
       all_goals first
        | (go_ret; exact ⟨by rw [HF.out]; rfl, by first | exact HB2.out | (rw [← hN]; exact HB2.out)⟩)
        | exact absurd (headF_true H1.out H2.out (by simp_all) (by simp_all) (by omega) (by omega) (by omega) (by omega)) hh
end Go.Proofs.Ytjejhgjdmbodiaa.PO
end
section
namespace Go.Proofs.Ytjejhgjdmbodiaa.PO
open Go.RowKit Go.Proofs.YtjejhgjdmbodiaaW.PrintWords Go.Proofs.YtjejhgjdmbodiaaW.PrintLast Go.Proofs.YtjejhgjdmbodiaaW.PrintMore Go.Proofs.Ytjejhgjdmbodiaa.XW
set_option linter.unusedVariables false
set_option linter.unusedSimpArgs false
end Go.Proofs.Ytjejhgjdmbodiaa.PO
end
section
namespace Go.Proofs.Ytjejhgjdmbodiaa.PO
open Go.RowKit Go.Proofs.YtjejhgjdmbodiaaW.PrintWords Go.Proofs.YtjejhgjdmbodiaaW.PrintLast Go.Proofs.YtjejhgjdmbodiaaW.PrintMore Go.Proofs.Ytjejhgjdmbodiaa.XW
open Go.Proofs.Ytjejhgjdmbodiaa.XRange
set_option linter.unusedVariables false
set_option linter.unusedSimpArgs false
end Go.Proofs.Ytjejhgjdmbodiaa.PO
end
section
namespace Go.Proofs.Ytjejhgjdmbodiaa.PO
open Go.RowKit Go.Proofs.YtjejhgjdmbodiaaW.PrintWords Go.Proofs.YtjejhgjdmbodiaaW.PrintLast Go.Proofs.YtjejhgjdmbodiaaW.PrintMore Go.Proofs.Ytjejhgjdmbodiaa.XW
open Go.Proofs.Ytjejhgjdmbodiaa.XRange
set_option linter.unusedVariables false
set_option linter.unusedSimpArgs false
theorem set9 {w : World} {G : Nat} {a0 a1 a2 a3 a4 a5 a6 a7 a8 : Value} (h : w.heap[G]? = some (.cells #[a0, a1, a2, a3, a4, a5, a6, a7, a8] 34 (0, 0))) (u0 u1 u2 u3 u4 u5 u6 u7 u8 : Value) :
 (((((((((w.setCell ⟨G, 0, none⟩ u0).setCell ⟨G, 1, none⟩ u1).setCell ⟨G, 2, none⟩ u2).setCell ⟨G, 3, none⟩ u3).setCell ⟨G, 4, none⟩ u4).setCell ⟨G, 5, none⟩ u5).setCell ⟨G, 6, none⟩ u6).setCell ⟨G, 7, none⟩ u7).setCell ⟨G, 8, none⟩ u8).heap[G]? = some (.cells #[u0, u1, u2, u3, u4, u5, u6, u7, u8] 34 (0, 0)) := by
 have h0 := blk_set h 0 u0
 simp only [List.setIfInBounds_toArray, List.set_cons_zero, List.set_cons_succ] at h0
 have h1 := blk_set h0 1 u1
 simp only [List.setIfInBounds_toArray, List.set_cons_zero, List.set_cons_succ] at h1
 have h2 := blk_set h1 2 u2
 simp only [List.setIfInBounds_toArray, List.set_cons_zero, List.set_cons_succ] at h2
 have h3 := blk_set h2 3 u3
 simp only [List.setIfInBounds_toArray, List.set_cons_zero, List.set_cons_succ] at h3
 have h4 := blk_set h3 4 u4
 simp only [List.setIfInBounds_toArray, List.set_cons_zero, List.set_cons_succ] at h4
 have h5 := blk_set h4 5 u5
 simp only [List.setIfInBounds_toArray, List.set_cons_zero, List.set_cons_succ] at h5
 have h6 := blk_set h5 6 u6
 simp only [List.setIfInBounds_toArray, List.set_cons_zero, List.set_cons_succ] at h6
 have h7 := blk_set h6 7 u7
 simp only [List.setIfInBounds_toArray, List.set_cons_zero, List.set_cons_succ] at h7
 have h8 := blk_set h7 8 u8
 simp only [List.setIfInBounds_toArray, List.set_cons_zero, List.set_cons_succ] at h8
 exact h8
theorem keeps9 (w : World) (G : Nat) (u0 u1 u2 u3 u4 u5 u6 u7 u8 : Value) : Keeps (fun k => k = G) w (((((((((w.setCell ⟨G, 0, none⟩ u0).setCell ⟨G, 1, none⟩ u1).setCell ⟨G, 2, none⟩ u2).setCell ⟨G, 3, none⟩ u3).setCell ⟨G, 4, none⟩ u4).setCell ⟨G, 5, none⟩ u5).setCell ⟨G, 6, none⟩ u6).setCell ⟨G, 7, none⟩ u7).setCell ⟨G, 8, none⟩ u8) := by
 have k0 := Keeps.setCell (M := fun k => k = G) (Keeps.refl _ w) (p := ⟨G, 0, none⟩) (.inl rfl) u0
 have k1 := Keeps.setCell (M := fun k => k = G) k0 (p := ⟨G, 1, none⟩) (.inl rfl) u1
 have k2 := Keeps.setCell (M := fun k => k = G) k1 (p := ⟨G, 2, none⟩) (.inl rfl) u2
 have k3 := Keeps.setCell (M := fun k => k = G) k2 (p := ⟨G, 3, none⟩) (.inl rfl) u3
 have k4 := Keeps.setCell (M := fun k => k = G) k3 (p := ⟨G, 4, none⟩) (.inl rfl) u4
 have k5 := Keeps.setCell (M := fun k => k = G) k4 (p := ⟨G, 5, none⟩) (.inl rfl) u5
 have k6 := Keeps.setCell (M := fun k => k = G) k5 (p := ⟨G, 6, none⟩) (.inl rfl) u6
 have k7 := Keeps.setCell (M := fun k => k = G) k6 (p := ⟨G, 7, none⟩) (.inl rfl) u7
 have k8 := Keeps.setCell (M := fun k => k = G) k7 (p := ⟨G, 8, none⟩) (.inl rfl) u8
 exact k8
structure Froz9 (w : World) (N : Nat) : Prop where
 f0 : w.frozen? ⟨N, 0, none⟩ = false
 f1 : w.frozen? ⟨N, 1, none⟩ = false
 f2 : w.frozen? ⟨N, 2, none⟩ = false
 f3 : w.frozen? ⟨N, 3, none⟩ = false
 f4 : w.frozen? ⟨N, 4, none⟩ = false
 f5 : w.frozen? ⟨N, 5, none⟩ = false
 f6 : w.frozen? ⟨N, 6, none⟩ = false
 f7 : w.frozen? ⟨N, 7, none⟩ = false
 f8 : w.frozen? ⟨N, 8, none⟩ = false
theorem froz9 {w : World} {N : Nat} {c : Array Value} {t : TypeId} (h : w.heap[N]? = some (.cells c t (0, 0))) : Froz9 w N :=
 ⟨blk_frozen h 0, blk_frozen h 1, blk_frozen h 2, blk_frozen h 3, blk_frozen h 4, blk_frozen h 5, blk_frozen h 6, blk_frozen h 7, blk_frozen h 8⟩
theorem store_last {P : Program} {o : Oper} {a : Act} {W w1 : World} {Kc : Act → World → Prop} {Q : Exit → Act → World → Prop} {ops : Array Oper} (hw : Region.wanted o (yielded ops a.tmps) = true) (hN : o.dst = none) (hrun : (execOp a.eval o).run P W = .ok .skip w1) (h : Kc a w1) :
 if Region.wanted o (yielded ops a.tmps) = true then Oper.wp P o a W Kc Q else Kc (a.put o.dst undef) W := by
 rw [if_pos hw]
 unfold Oper.wp
 rw [hrun]
 show Kc (a.put o.dst undef) w1
 rw [hN]
 exact h
theorem two_x {P : Program} {md : Region.Mode} {ops : Array Oper} {Q : Exit → Act → World → Prop} {S : World → Prop} {ds : List Nat} {i j : Nat} {oi oj : Oper} {fuel : Nat} {l : Array Bool} {a : Act} {w : World} (Ni Nj : Option Tmp) (hi : ops[i]? = some oi) (hj : ops[j]? = some oj) (hNi : oi.dst = Ni) (hNj : oj.dst = Nj)
 (hc : (Region.ready md ops l == [i, j]) = true) (hdi : i ∉ ds) (hdj : j ∉ ds)
 (h1 : ∀ K : Act → World → Prop, Shut (∀ a' w', S w' → (S w' → wpAnyLast P md ops Q S ds fuel (l.setIfInBounds i true) a' w') → K a' w') → if Region.wanted oi (yielded ops a.tmps) = true then Oper.wp P oi a w K Q else K (a.put Ni undef) w)
 (h2 : ∀ K : Act → World → Prop, Shut (∀ a' w', S w' → (S w' → wpAnyLast P md ops Q S ds fuel (l.setIfInBounds j true) a' w') → K a' w') → if Region.wanted oj (yielded ops a.tmps) = true then Oper.wp P oj a w K Q else K (a.put Nj undef) w) :
 wpAnyLast P md ops Q S ds (fuel + 1) l a w := two_ _ _ hi hj hNi hNj (by simp only [hc, beq_self_eq_true, Bool.and_self]) hdi hdj h1 h2
end Go.Proofs.Ytjejhgjdmbodiaa.PO
end
