/- What the rows of this claim use, out of the texts of this work (RG, RF, PE0). No condition beyond those that each statement names. -/
import Derived.Test.YtenbkljgmgdegaaProg
import Derived.Below
import Derived.Deep.Draws
import Derived.Deep.AppendLies
import Derived.Maps.AppendAt
import Derived.OwnWalk
import Derived.Laws.BytesArg
import Derived.Laws.MakeOwn
import Derived.Laws.OwnMore
import Derived.Deep.OwnRows
import Derived.Tactics
import Derived.Lib.ConvBytes
import Derived.Laws.Slices
import Derived.WalkKit
import Derived.KernelRfl
import Derived.RowKit3
import Derived.Deep.LoopGhost
import Derived.Deep.QuietTactic
import Derived.BigQuiet
import Derived.WideLaws
import Derived.Deep.DeepCutAuto
import Derived.Deep.CutBlock
import Derived.Deep.RegionHeld3
import Derived.Laws.Rows
import Derived.Lib.AppendStr
import Derived.ArgAppend
import Derived.Laws.IdiomCopy
import Derived.OrdersHeld
import Derived.Laws.BitsLemmas
import Derived.RowKit
import Derived.BigRegionIn
import Derived.BigGuardIn
import Derived.Sort.QuietTacIn
import Derived.Lib.Strings
import Derived.Lib.Slices
import Derived.Lib.Walk
import Derived.Lib.Bytealg
import Derived.IntWalk
import Derived.Laws.CopyRow
import Derived.Lib.AppendZerosOnto
import Derived.Lib.Overlaps
import Derived.Laws.Externs
import Derived.Shelf.RegionOpenPlain
import Derived.Deep.RegionLaw
import Derived.Lib.SliceRun
import Derived.Laws.NewBlocks
import Derived.Test.YtenbkljgmgdegaaQjOR
import Derived.Test.YtenbkljgmgdegaaQjOV
import Derived.Test.YtenbkljgmgdegaaQjX
import Derived.Test.YtenbkljgmgdegaaQjW
import Derived.Test.YtenbkljgmgdegaaQjOH
import Derived.Test.YtenbkljgmgdegaaQjPOx0
section
namespace Go.Proofs.Ytenbkljgmgdegaa.PO
open Go.RowKit Go.Proofs.YtenbkljgmgdegaaW.PrintWords Go.Proofs.YtenbkljgmgdegaaW.PrintLast Go.Proofs.YtenbkljgmgdegaaW.PrintMore Go.Proofs.Ytenbkljgmgdegaa.XW
open Go.Proofs.Ytenbkljgmgdegaa.XRange
set_option linter.unusedVariables false
set_option linter.unusedSimpArgs false
set_option maxHeartbeats 8000000 in
set_option maxRecDepth 100000 in
theorem refHasS_calls (l : List S34) (d : S34) (A : Option Addr) (c : Nat) (w : World) (hl : l.length ≤ c) (hg : Kd.C k34 w A l.length l) (m : Nat) (hm : m ≤ 9223372036854775807) (hz : sizes m l) (hn : d.f0.size ≤ m) :
 Calls Try.prog 63 #[.slice A l.length c, .agg #[.string d.f0, .int .i64 d.f1]] w fun e w' => e = .returned (.bool (hasS l d.f0 d.f1)) ∧ Below w.heap.size w w' := by
 have HL := Aside0.mk hl
 have HG := Aside0.mk hg
 have HR := Aside0.mk (refRight_f l hg.2.1 m hm hz (l.length + m + 3) (by omega))
 have HD := Aside0.mk (refDot_f d.f0 (by omega) d.f1 (m + 1) (by omega))
 have HA := Aside0.mk (refAt_f d.f0 l hg.2.1 (l.length + 1) (by omega))
 have e0 : hasS l d.f0 d.f1 = (rightS l && dotOk d && decide (d.f1 ≤ atS d.f0 l)) := rfl
 rw [e0]
 obtain ⟨b1, hb1⟩ : ∃ b, rightS l = b := ⟨_, rfl⟩
 obtain ⟨b2, hb2⟩ : ∃ b, dotOk d = b := ⟨_, rfl⟩
 rw [hb1] at HR ⊢
 rw [hb2]
 have HD := Aside0.mk (show pannierref07_IsDot.f (m + 1) d.f0 d.f1 = some b2 from by rw [HD.out]; exact congrArg some hb2)
 clear hl hg hm hz hn e0 hb1 hb2
 obtain ⟨N, hN⟩ : ∃ N, w.heap.size = N := ⟨_, rfl⟩
 go_enter Try.func63, Try.ntmps63
 go_wp2_with fail
 obtain ⟨w0, hw0⟩ : ∃ w0, w.alloc (.cells #[.string d.f0, .int .i64 d.f1] 34) = w0 := ⟨_, rfl⟩
 have HB := Aside0.mk (show Below w.heap.size w w0 from by rw [← hw0]; exact (Below.refl _ w).alloc (Nat.le_refl _) _)
 have KD := Aside0.mk (show w0.heap[N]? = some (.cells #[.string d.f0, .int .i64 d.f1] 34 (0, 0)) from by rw [← hw0, ← hN]; exact World.alloc_heap_new w _)
 try rw [hw0]
 try rw [hN]
 clear hw0
 refine (pannierref07_Right.calls _ A c l _ _ (Kd.C_below HG.out HB.out) HL.out HR.out).mono ?_
 rintro e w1 ⟨rfl, hb1⟩
 have HB1 := Aside0.mk (HB.out.trans (hb1.mono HB.out.size))
 have KD1 := Aside0.mk (blk_below KD.out hb1)
 have d0 : w1.cell? ⟨N, 0, none⟩ = some (.string d.f0) := (blk_cell KD1.out 0).trans rfl
 have d1 : w1.cell? ⟨N, 1, none⟩ = some (.int .i64 d.f1) := (blk_cell KD1.out 1).trans rfl
 clear hb1 HB KD
 go_wp2_with fail
 refine (pannierref07_IsDot.calls _ d.f0 d.f1 _ _ HD.out).mono ?_
 rintro e w2 ⟨rfl, hb2⟩
 have HB2 := Aside0.mk (HB1.out.trans (hb2.mono HB1.out.size))
 have KD2 := Aside0.mk (blk_below KD1.out hb2)
 clear hb2 HB1 KD1 d0 d1
 clear HR HD
 go_wp2
 have HBd := Aside0.mk (below_drew1 HB2.out)
 refine start_ (n := 14) (ds := []) (S := fun w' => w'.cell? ⟨N, 0, none⟩ = some (.string d.f0) ∧ w'.cell? ⟨N, 1, none⟩ = some (.int .i64 d.f1)) _ (by kernel_rfl) rfl rfl ⟨(blk_cell (blk_drew KD2.out) 0).trans rfl, (blk_cell (blk_drew KD2.out) 1).trans rfl⟩ (fun hH => ?_)
 refine XReg.pu 0 11 (h := ?_)
 refine XReg.pu 1 12 (h := ?_)
 cases b1 with
 | false =>
   refine XReg.pn 2 13 (h := ?_)
   refine XReg.pu 3 14 (h := ?_)
   refine XReg.pu 4 15 (h := ?_)
   refine XReg.pn 5 16 (h := ?_)
   refine XReg.pn 6 17 (h := ?_)
   refine XReg.pn 7 18 (h := ?_)
   refine XReg.pn 8 19 (h := ?_)
   refine XReg.pn 9 20 (h := ?_)
   refine XReg.pn 10 21 (h := ?_)
   refine XReg.pn 11 22 (h := ?_)
   refine XReg.pu 12 23 (h := ?_)
   refine XReg.pu 13 4 (h := ?_)
   refine done_ (by kernel_rfl) ?_
   go_wp2
   go_ret
   exact ⟨rfl, by first | exact HBd.out | (rw [← hN]; exact HBd.out)⟩
 | true =>
   refine XReg.pu 2 13 (h := ?_)
   cases b2 with
   | false =>
     refine XReg.pu 3 14 (h := ?_)
     refine XReg.pu 4 15 (h := ?_)
     refine XReg.pn 5 16 (h := ?_)
     refine XReg.pn 6 17 (h := ?_)
     refine XReg.pn 7 18 (h := ?_)
     refine XReg.pn 8 19 (h := ?_)
     refine XReg.pn 9 20 (h := ?_)
     refine XReg.pn 10 21 (h := ?_)
     refine XReg.pn 11 22 (h := ?_)
     refine XReg.pu 12 23 (h := ?_)
     refine XReg.pu 13 4 (h := ?_)
     refine done_ (by kernel_rfl) ?_
     go_wp2
     go_ret
     exact ⟨rfl, by first | exact HBd.out | (rw [← hN]; exact HBd.out)⟩
   | true =>
     refine XReg.pu 3 14 (h := ?_)
     refine XReg.pu 4 15 (h := ?_)
     refine XReg.pu 5 16 (h := ?_)
     refine XReg.tk 6 17 (h := ?_)
     refine XReg.pu 7 18 (h := ?_)
     refine XReg.pu 8 19 (h := ?_)
     refine XReg.tk 9 20 (h := ?_)
     refine XReg.one (i := 10) (some 21) rfl rfl (by kernel_rfl) (by decide) (fun Kc hKc => ?_)
     refine goes_ Try.func57 (by kernel_rfl) rfl #[.slice A l.length c, .string d.f0] (by rfl) rfl rfl (by (try simp only [List.map_toArray, List.map_cons, List.map_nil]); first | done | rfl) ?_
     refine (pannierref07_At.calls _ A c l d.f0 _ _ (Kd.C_drew (Kd.C_below HG.out HB2.out)) HL.out HA.out).mono ?_
     rintro e w3 ⟨rfl, hb3⟩
     refine ⟨_, rfl, ?_⟩
     have KD3 := Aside0.mk (blk_below (blk_drew KD2.out) hb3.below)
     refine hKc.out _ _ ⟨(blk_cell KD3.out 0).trans rfl, (blk_cell KD3.out 1).trans rfl⟩ (fun hH2 => ?_)
     refine XReg.pu 11 22 (h := ?_)
     refine XReg.pu 12 23 (h := ?_)
     refine XReg.pu 13 4 (h := ?_)
     refine done_ (by kernel_rfl) ?_
     go_wp2
     go_ret
     exact ⟨rfl, HBd.out.trans (hb3.below.mono HBd.out.size)⟩
set_option maxHeartbeats 8000000 in
set_option maxRecDepth 100000 in
theorem refRightO_calls (x : S36) (A2 : Option Addr) (c2 : Nat) (A7 : Option Addr) (c7 : Nat) (w : World) (l2 : x.f1.length ≤ c2) (g2 : Kd.C k34 w A2 x.f1.length x.f1) (l7 : x.f6.length ≤ c7) (g7 : Kd.C k34 w A7 x.f6.length x.f6) (m : Nat) (hm : m ≤ 9223372036854775807) (hz0 : x.f0.f0.size ≤ m) (hz1 : sizes m x.f1) (hz6 : sizes m x.f6) :
 Calls Try.prog 46 #[.agg #[.string x.f0.f0, .int .i64 x.f0.f1, .slice A2 x.f1.length c2, .string x.f2, .int .i64 x.f3, .string x.f4, .int .i64 x.f5, .slice A7 x.f6.length c7]] w fun e w' => e = .returned (.bool (rightO x)) ∧ Below w.heap.size w w' := by
 have HL2 := Aside0.mk l2
 have HL7 := Aside0.mk l7
 have HG2 := Aside0.mk g2
 have HG7 := Aside0.mk g7
 have HM2 := Aside0.mk g2.2.1
 have HM7 := Aside0.mk g7.2.1
 have HM := Aside0.mk hm
 have HZ1 := Aside0.mk hz1
 have HZ6 := Aside0.mk hz6
 have HD := Aside0.mk (refDot_f x.f0.f0 (by omega) x.f0.f1 (m + 1) (by omega))
 have HR := Aside0.mk (refRight_f x.f1 g2.2.1 m hm hz1 (x.f1.length + m + 3) (by omega))
 have HA := Aside0.mk (refAt_f x.f0.f0 x.f1 g2.2.1 (x.f1.length + 1) (by omega))
 obtain ⟨N, hN⟩ : ∃ N, w.heap.size = N := ⟨_, rfl⟩
 obtain ⟨b1, hb1⟩ : ∃ b, dotOk x.f0 = b := ⟨_, rfl⟩
 obtain ⟨b2, hb2⟩ : ∃ b, rightS x.f1 = b := ⟨_, rfl⟩
 have HD := Aside0.mk (show pannierref07_IsDot.f (m + 1) x.f0.f0 x.f0.f1 = some b1 from by rw [HD.out]; exact congrArg some hb1)
 rw [hb2] at HR
 have HO1 := Aside0.mk hb1
 have HO2 := Aside0.mk hb2
 clear l2 l7 g2 g7 hm hz0 hz1 hz6 hb1 hb2
 go_enter Try.func46, Try.ntmps46
 obtain ⟨w3, hw3⟩ : ∃ w3, w.alloc (.cells #[.string x.f0.f0, .int .i64 x.f0.f1, .slice A2 x.f1.length c2, .string x.f2, .int .i64 x.f3, .string x.f4, .int .i64 x.f5, .slice A7 x.f6.length c7] 36) = w3 := ⟨_, rfl⟩
 have HB3 := Aside0.mk (show Below w.heap.size w w3 from by rw [← hw3]; exact (Below.refl _ w).alloc (Nat.le_refl _) _)
 have HX3 := Aside0.mk (show w3.heap[N]? = some (.cells #[.string x.f0.f0, .int .i64 x.f0.f1, .slice A2 x.f1.length c2, .string x.f2, .int .i64 x.f3, .string x.f4, .int .i64 x.f5, .slice A7 x.f6.length c7] 36 (0, 0)) from by rw [← hw3, ← hN]; exact World.alloc_heap_new w _)
 obtain ⟨n0, n1, n2, n3, n4, n5, n6, n7⟩ := cells8 HX3.out
 go_wp2_with fail
 refine (pannierref07_IsDot.calls _ x.f0.f0 x.f0.f1 _ _ HD.out).mono ?_
 rintro e w4 ⟨rfl, hb4⟩
 have HB4 := Aside0.mk (HB3.out.trans (hb4.mono HB3.out.size))
 have HX4 := Aside0.mk (blk_below HX3.out hb4)
 clear n0 n1 n2 n3 n4 n5 n6 n7 hb4 HX3 HB3 hw3
 obtain ⟨n0, n1, n2, n3, n4, n5, n6, n7⟩ := cells8 HX4.out
 go_wp2_with fail
 refine (pannierref07_Right.calls _ A2 c2 x.f1 _ _ (Kd.C_below HG2.out HB4.out) HL2.out HR.out).mono ?_
 rintro e w5 ⟨rfl, hb5⟩
 have HB5 := Aside0.mk (HB4.out.trans (hb5.mono HB4.out.size))
 have HX5 := Aside0.mk (blk_below HX4.out hb5)
 clear n0 n1 n2 n3 n4 n5 n6 n7 hb5 HX4 HB4 HD HR
 go_wp2
 have s6d : ∀ w' : World, w'.heap[N]? = some (.cells #[.string x.f0.f0, .int .i64 x.f0.f1, .slice A2 x.f1.length c2, .string x.f2, .int .i64 x.f3, .string x.f4, .int .i64 x.f5, .slice A7 x.f6.length c7] 36 (0, 0)) → S6 N x A2 c2 A7 c7 w' := fun w' h => ⟨(blk_cell h 0).trans rfl, (blk_cell h 1).trans rfl, (blk_cell h 2).trans rfl, (blk_cell h 3).trans rfl, (blk_cell h 5).trans rfl, (blk_cell h 7).trans rfl⟩
 have SX := Aside0.mk s6d
 clear s6d
 have HBd := Aside0.mk (below_drew1 HB5.out)
 refine start_ (n := 25) (ds := []) (S := S6 N x A2 c2 A7 c7) _ (by kernel_rfl) rfl rfl (SX.out _ (blk_drew HX5.out)) (fun hH => ?_)
 refine XReg.pu 0 14 (h := ?_)
 refine XReg.pu 1 15 (h := ?_)
 refine XReg.pu 2 16 (h := ?_)
 cases b1 with
 | false =>
   have HF := Aside0.mk (not_right (x := x) (fun h _ _ _ _ _ _ _ => by rw [HO1.out] at h; cases h))
   refine XReg.pn 3 17 (h := ?_)
   refine XReg.pn 4 18 (h := ?_)
   refine XReg.pu 5 19 (h := ?_)
   refine XReg.pu 6 20 (h := ?_)
   refine XReg.pn 7 21 (h := ?_)
   refine XReg.pn 8 22 (h := ?_)
   refine XReg.pn 9 23 (h := ?_)
   refine XReg.pn 10 24 (h := ?_)
   refine XReg.pn 11 25 (h := ?_)
   refine XReg.pn 12 26 (h := ?_)
   refine XReg.pn 13 27 (h := ?_)
   refine XReg.pn 14 28 (h := ?_)
   refine XReg.pn 15 29 (h := ?_)
   refine XReg.pn 16 30 (h := ?_)
   refine XReg.pn 17 31 (h := ?_)
   refine XReg.pu 18 32 (h := ?_)
   refine XReg.pu 19 33 (h := ?_)
   refine XReg.pn 20 34 (h := ?_)
   refine XReg.pn 21 35 (h := ?_)
   refine XReg.pn 22 36 (h := ?_)
   refine XReg.pn 23 37 (h := ?_)
   refine XReg.pu 24 38 (h := ?_)
   refine done_ (by kernel_rfl) ?_
   go_wp2
   go_ret
   exact ⟨by rw [HF.out]; rfl, by first | exact HBd.out | (rw [← hN]; exact HBd.out)⟩
 | true =>
   refine XReg.pu 3 17 (h := ?_)
   refine XReg.pu 4 18 (h := ?_)
   refine XReg.pu 5 19 (h := ?_)
   refine XReg.pu 6 20 (h := ?_)
   cases b2 with
   | false =>
     have HF := Aside0.mk (not_right (x := x) (fun _ h _ _ _ _ _ _ => by rw [HO2.out] at h; cases h))
     refine XReg.pn 7 21 (h := ?_)
     refine XReg.pn 8 22 (h := ?_)
     refine XReg.pn 9 23 (h := ?_)
     refine XReg.pn 10 24 (h := ?_)
     refine XReg.pn 11 25 (h := ?_)
     refine XReg.pn 12 26 (h := ?_)
     refine XReg.pn 13 27 (h := ?_)
     refine XReg.pn 14 28 (h := ?_)
     refine XReg.pn 15 29 (h := ?_)
     refine XReg.pn 16 30 (h := ?_)
     refine XReg.pn 17 31 (h := ?_)
     refine XReg.pu 18 32 (h := ?_)
     refine XReg.pu 19 33 (h := ?_)
     refine XReg.pn 20 34 (h := ?_)
     refine XReg.pn 21 35 (h := ?_)
     refine XReg.pn 22 36 (h := ?_)
     refine XReg.pn 23 37 (h := ?_)
     refine XReg.pu 24 38 (h := ?_)
     refine done_ (by kernel_rfl) ?_
     go_wp2
     go_ret
     exact ⟨by rw [HF.out]; rfl, by first | exact HBd.out | (rw [← hN]; exact HBd.out)⟩
   | true =>
     refine XReg.pu 7 21 (h := ?_)
     refine XReg.tk 8 22 (hy := by (intro w' hS_; obtain ⟨s0, s1, s2, s3, s4, s5⟩ := hS_; go_simp; with_reducible rfl)) (h := ?_)
     refine XReg.pu 9 23 (h := ?_)
     refine XReg.pu 10 24 (h := ?_)
     refine XReg.tk 11 25 (hy := by (intro w' hS_; obtain ⟨s0, s1, s2, s3, s4, s5⟩ := hS_; go_simp; with_reducible rfl)) (h := ?_)
     refine XReg.pu 13 27 (h := ?_)
     refine XReg.pu 14 28 (h := ?_)
     refine XReg.tk 15 29 (hy := by (intro w' hS_; obtain ⟨s0, s1, s2, s3, s4, s5⟩ := hS_; go_simp; with_reducible rfl)) (h := ?_)
     refine XReg.pu 16 30 (h := ?_)
     refine XReg.one (i := 12) (some 26) rfl rfl (by kernel_rfl) (by decide) (fun Kc hKc => ?_)
     refine goes_ Try.func57 (by kernel_rfl) rfl #[.slice A2 x.f1.length c2, .string x.f0.f0] (by rfl) rfl rfl (by (try simp only [List.map_toArray, List.map_cons, List.map_nil]); first | done | rfl) ?_
     refine (pannierref07_At.calls _ A2 c2 x.f1 x.f0.f0 _ _ (Kd.C_drew (Kd.C_below HG2.out HB5.out)) HL2.out HA.out).mono ?_
     rintro e w6 ⟨rfl, hb6⟩
     refine ⟨_, rfl, ?_⟩
     have HB6 := Aside0.mk (HBd.out.trans (hb6.below.mono HBd.out.size))
     have HX6 := Aside0.mk (blk_below (blk_drew HX5.out) hb6.below)
     refine hKc.out _ _ (SX.out _ HX6.out) (fun hH2 => ?_)
     clear hKc Kc hH hb6 HBd HX5 HB5
     have hwr : wrap64 (x.f0.f1 - 1) = x.f0.f1 - 1 := by have := dot_parts (n := x.f0.f0) (d := x.f0.f1) HO1.out; unfold wrap64; omega
     rw [hwr]
     clear hwr
     refine XReg.pu 17 31 (h := ?_)
     obtain ⟨b3, hb3⟩ : ∃ b, (atS x.f0.f0 x.f1 != x.f0.f1 - 1) = b := ⟨_, rfl⟩
     rw [hb3]
     refine XReg.pu 18 32 (h := ?_)
     refine XReg.pu 19 33 (h := ?_)
     cases b3 with
     | true =>
       have HF := Aside0.mk (not_right (x := x) (fun _ _ h _ _ _ _ _ => by rw [h] at hb3; simp at hb3))
       clear hb3
       refine XReg.pn 20 34 (h := ?_)
       refine XReg.pn 21 35 (h := ?_)
       refine XReg.pn 22 36 (h := ?_)
       refine XReg.pn 23 37 (h := ?_)
       refine XReg.pu 24 38 (h := ?_)
       refine done_ (by kernel_rfl) ?_
       go_wp2
       go_ret
       exact ⟨by rw [HF.out]; rfl, by first | exact HB6.out | (rw [← hN]; exact HB6.out)⟩
     | false =>
       have HO3 := Aside0.mk (show atS x.f0.f0 x.f1 = x.f0.f1 - 1 from by simpa using hb3)
       clear hb3
       refine XReg.pu 20 34 (h := ?_)
       refine XReg.tk 21 35 (hy := by (intro w' hS_; obtain ⟨s0, s1, s2, s3, s4, s5⟩ := hS_; go_simp; with_reducible rfl)) (h := ?_)
       refine XReg.pu 22 36 (h := ?_)
       refine XReg.pu 23 37 (h := ?_)
       obtain ⟨b6, hb6⟩ : ∃ b, decide ((128 : Int) < (x.f6.length : Int)) = b := ⟨_, rfl⟩
       rw [hb6]
       refine XReg.pu 24 38 (h := ?_)
       refine done_ (by kernel_rfl) ?_
       cases b6 with
       | true =>
         have HF := Aside0.mk (not_right (x := x) (fun _ _ _ _ _ h _ _ => by simp at hb6; omega))
         clear hb6
         go_wp2
         go_ret
         exact ⟨by rw [HF.out]; rfl, by first | exact HB6.out | (rw [← hN]; exact HB6.out)⟩
       | false =>
         have HO6 := Aside0.mk (show x.f6.length ≤ 128 from by simp at hb6; omega)
         clear hb6 hH2
         obtain ⟨n0, n1, n2, n3, n4, n5, n6, n7⟩ := cells8 HX6.out
         go_wp2
         all_goals try (go_ret; exact ⟨by rw [not_right (x := x) (fun _ _ _ h4 h5 _ _ _ => by simp only [Bool.and_eq_true, decide_eq_true_eq] at h4 h5; omega)]; rfl, by first | exact HB6.out | (rw [← hN]; exact HB6.out)⟩)
         clear n0 n1 n2 n3 n4 n5 n6 n7
         have HO4 := Aside0.mk (show (decide (1 ≤ x.f2.size) && decide (x.f2.size ≤ 32)) = true from by simp only [Bool.and_eq_true, decide_eq_true_eq]; omega)
         have HO5 := Aside0.mk (show (decide (1 ≤ x.f4.size) && decide (x.f4.size ≤ 32)) = true from by simp only [Bool.and_eq_true, decide_eq_true_eq]; omega)
         have HW6 := Aside0.mk (Below.refl w6.heap.size w6)
         go_loopw [5] (fun v5 wr => ∃ i : Nat, v5 = .int .i64 i ∧ i ≤ x.f6.length ∧ Aside0 (seenS x.f1 none x.f6 = seenS x.f1 (if i = 0 then none else some (rd_T34 x.f6 ((i - 1 : Nat) : Int))) (x.f6.drop i)) ∧ Aside0 (Below w6.heap.size w6 wr)) (fun v5 _ => x.f6.length - (intOf v5).toNat)
         case atStart => exact ⟨0, rfl, by omega, ⟨rfl⟩, HW6⟩
         case round =>
          clear HW6
          obtain ⟨i, rfl, hile, HSi, HBi⟩ := hrel
          have HXi := Aside0.mk (blk_below HX6.out HBi.out)
          have e7 : wr.cell? ⟨N, 7, none⟩ = some (.slice A7 x.f6.length c7) := (blk_cell HXi.out 7).trans rfl
          have hib : i ≤ 128 := by have := HO6.out; omega
          by_cases hlt : i < x.f6.length
          · have q1 : decide ((i : Int) < (x.f6.length : Int)) = true := by simp; omega
            go_wp2
            obtain ⟨ad, had, _, _⟩ := at_T34 (Kd.C_below HG7.out (HB6.out.trans (HBi.out.mono HB6.out.size))) (i : Int) (by omega) (by omega)
            subst had
            obtain ⟨d, hd⟩ : ∃ d, rd_T34 x.f6 (i : Int) = d := ⟨_, rfl⟩
            have hsn := HSi.out
            rw [rd_drop x.f6 i hlt, hd, seenS_cons] at hsn
            have HSN := Aside0.mk hsn
            have hzd : d.f0.size ≤ m := by rw [← hd]; exact HZ6.out _ (by unfold rd_T34; rw [Int.toNat_natCast, List.getD_eq_getElem?_getD, List.getElem?_eq_getElem hlt]; exact List.getElem_mem hlt)
            have HZD := Aside0.mk hzd
            have hb3 : 0 ≤ (i : Int) ∧ (i : Int) < (x.f6.length : Int) := by omega
            have cellsT : ∀ w' : World, Below w6.heap.size w6 w' → S6 N x A2 c2 (some ad) c7 w' ∧ ∀ q : Nat, q < x.f6.length → w'.cell? (ad.add (q * 2)) = some (.string (rd_T34 x.f6 (q : Int)).f0) ∧ w'.cell? ⟨(ad.add (q * 2)).block, (ad.add (q * 2)).off + 1, none⟩ = some (.int .i64 (rd_T34 x.f6 (q : Int)).f1) := fun w' hb => ⟨SX.out _ (blk_below HX6.out hb), fun q hq => by
             obtain ⟨ad', had', f0, f1⟩ := at_T34 (Kd.C_below HG7.out (HB6.out.trans (hb.mono HB6.out.size))) (q : Int) (by omega) (by omega)
             cases had'
             exact ⟨f0, f1⟩⟩
            have CT := Aside0.mk cellsT
            have HBid := Aside0.mk (HBi.out.trans ((below_drew1 (Below.refl _ wr)).mono HBi.out.size))
            clear hsn hzd cellsT e7 q1
            refine start_ (n := 9) (ds := []) (S := fun w' => S6 N x A2 c2 (some ad) c7 w' ∧ ∀ q : Nat, q < x.f6.length → w'.cell? (ad.add (q * 2)) = some (.string (rd_T34 x.f6 (q : Int)).f0) ∧ w'.cell? ⟨(ad.add (q * 2)).block, (ad.add (q * 2)).off + 1, none⟩ = some (.int .i64 (rd_T34 x.f6 (q : Int)).f1)) _ (by kernel_rfl) rfl rfl (CT.out _ HBid.out) (fun hH => ?_)
            refine XReg.pu 0 68 (h := ?_)
            refine XReg.tk 1 69 (hy := by (intro w' hS_; obtain ⟨⟨s0, s1, s2, s3, s4, s5⟩, _⟩ := hS_; go_simp; with_reducible rfl)) (h := ?_)
            refine XReg.pu 2 70 (h := ?_)
            refine XReg.tk 3 71 (hy := by (intro w' hS_; obtain ⟨⟨s0, s1, s2, s3, s4, s5⟩, _⟩ := hS_; go_simp; with_reducible rfl)) (h := ?_)
            refine XReg.pu 4 72 (h := ?_)
            refine XReg.pu 5 73 (h := ?_)
            refine XReg.tk 6 74 (hy := by (intro w' hS_; obtain ⟨_, s8⟩ := hS_; go_simp; with_reducible rfl)) (h := ?_)
            try rw [hd]
            refine XReg.one (i := 7) (some 75) rfl rfl (by kernel_rfl) (by decide) (fun Kc hKc => ?_)
            refine goes_ Try.func63 (by kernel_rfl) rfl #[.slice A2 x.f1.length c2, .agg #[.string d.f0, .int .i64 d.f1]] (by rfl) rfl rfl (by (try simp only [List.map_toArray, List.map_cons, List.map_nil]); first | done | rfl) ?_
            refine (refHasS_calls x.f1 d A2 c2 _ HL2.out (Kd.C_below HG2.out (HB6.out.trans (HBid.out.mono HB6.out.size))) m HM.out HZ1.out HZD.out).mono ?_
            rintro e wb ⟨rfl, hbb⟩
            refine ⟨_, rfl, ?_⟩
            have HBb := Aside0.mk (HBid.out.trans (hbb.mono HBid.out.size))
            refine hKc.out _ _ (CT.out _ HBb.out) (fun hH2 => ?_)
            refine XReg.pu 8 6 (h := ?_)
            refine done_ (by kernel_rfl) ?_
            clear hKc Kc hH hH2 hbb HBid
            obtain ⟨bh, hbh⟩ : ∃ b, hasS x.f1 d.f0 d.f1 = b := ⟨_, rfl⟩
            rw [hbh]
            have hsn := HSN.out
            rw [hbh] at hsn
            go_wp2
            have HBbd := Aside0.mk (HBb.out.trans ((below_drew1 (Below.refl _ wb)).mono HBb.out.size))
            refine start_ (n := 21) (ds := []) (S := fun w' => S6 N x A2 c2 (some ad) c7 w' ∧ ∀ q : Nat, q < x.f6.length → w'.cell? (ad.add (q * 2)) = some (.string (rd_T34 x.f6 (q : Int)).f0) ∧ w'.cell? ⟨(ad.add (q * 2)).block, (ad.add (q * 2)).off + 1, none⟩ = some (.int .i64 (rd_T34 x.f6 (q : Int)).f1)) _ (by kernel_rfl) rfl rfl (CT.out _ HBbd.out) (fun hH => ?_)
            refine XReg.pu 0 76 (h := ?_)
            refine XReg.pu 1 77 (h := ?_)
            refine XReg.pu 2 78 (h := ?_)
            cases bh with
            | false =>
              have HF := Aside0.mk (not_right (x := x) (fun _ _ _ _ _ _ h _ => by rw [hsn] at h; simp at h))
              clear hbh hsn
              refine XReg.pn 3 79 (h := ?_)
              refine XReg.pn 4 80 (h := ?_)
              refine XReg.pn 5 81 (h := ?_)
              refine XReg.pn 6 82 (h := ?_)
              refine XReg.pn 7 83 (h := ?_)
              refine XReg.pn 8 84 (h := ?_)
              refine XReg.pn 9 85 (h := ?_)
              refine XReg.pn 10 86 (h := ?_)
              refine XReg.pn 11 87 (h := ?_)
              refine XReg.pn 12 88 (h := ?_)
              refine XReg.pn 13 89 (h := ?_)
              refine XReg.pn 14 90 (h := ?_)
              refine XReg.pn 15 91 (h := ?_)
              refine XReg.pn 16 92 (h := ?_)
              refine XReg.pn 17 93 (h := ?_)
              refine XReg.pn 18 94 (h := ?_)
              refine XReg.pn 19 95 (h := ?_)
              refine XReg.pu 20 96 (h := ?_)
              refine done_ (by kernel_rfl) ?_
              go_wp2
              go_ret
              exact ⟨by rw [HF.out]; rfl, HB6.out.trans (HBbd.out.mono HB6.out.size)⟩
            | true =>
              by_cases h0 : i = 0
              · have HSN' := Aside0.mk (show seenS x.f1 none x.f6 = seenS x.f1 (some d) (x.f6.drop (i + 1)) from by rw [hsn, if_pos h0]; simp)
                have hz : decide (0 < i) = false := by simp; omega
                clear hsn hbh h0
                refine XReg.pu 3 79 (h := ?_)
                refine XReg.pu 4 80 (h := ?_)
                refine XReg.pu 5 81 (h := ?_)
                refine XReg.pn 6 82 (h := ?_)
                refine XReg.pn 7 83 (h := ?_)
                refine XReg.pn 8 84 (h := ?_)
                refine XReg.pn 9 85 (h := ?_)
                refine XReg.pn 10 86 (h := ?_)
                refine XReg.pn 11 87 (h := ?_)
                refine XReg.pn 12 88 (h := ?_)
                refine XReg.pn 13 89 (h := ?_)
                refine XReg.pn 14 90 (h := ?_)
                refine XReg.pn 15 91 (h := ?_)
                refine XReg.pn 16 92 (h := ?_)
                refine XReg.pn 17 93 (h := ?_)
                refine XReg.pn 18 94 (h := ?_)
                refine XReg.pu 19 95 (h := ?_)
                refine XReg.pu 20 96 (h := ?_)
                refine done_ (by kernel_rfl) ?_
                go_wp2
                go_round
                case rel => exact ⟨i + 1, by go_num, by omega, ⟨by rw [if_neg (by omega), Nat.add_sub_cancel, hd]; exact HSN'.out⟩, HBbd⟩
                case measure => simp [intOf]; omega
              · obtain ⟨c, hcc⟩ : ∃ c, rd_T34 x.f6 ((i - 1 : Nat) : Int) = c := ⟨_, rfl⟩
                rw [if_neg h0, hcc] at hsn
                simp only [Bool.true_and] at hsn
                have hz : decide (0 < i) = true := by simp; omega
                have hwr : wrap64 ((i : Int) - 1) = ((i - 1 : Nat) : Int) := by unfold wrap64; omega
                have hb4 : 0 ≤ ((i - 1 : Nat) : Int) ∧ ((i - 1 : Nat) : Int) < (x.f6.length : Int) := by omega
                have hlt1 : i - 1 < x.f6.length := by omega
                clear hbh
                refine XReg.pu 3 79 (h := ?_)
                refine XReg.pu 4 80 (h := ?_)
                refine XReg.pu 5 81 (h := ?_)
                refine XReg.pu 6 82 (h := ?_)
                refine XReg.tk 7 83 (hy := by (intro w' hS_; obtain ⟨⟨s0, s1, s2, s3, s4, s5⟩, _⟩ := hS_; go_simp; with_reducible rfl)) (h := ?_)
                refine XReg.pu 8 84 (h := ?_)
                refine XReg.pu 9 85 (h := ?_)
                try rw [hwr]
                refine XReg.pu 10 86 (h := ?_)
                refine XReg.tk 11 87 (hy := by (intro w' hS_; obtain ⟨_, s8⟩ := hS_; go_simp; with_reducible rfl)) (h := ?_)
                try rw [hcc]
                refine XReg.pu 12 88 (h := ?_)
                refine XReg.tk 13 89 (hy := by (intro w' hS_; obtain ⟨⟨s0, s1, s2, s3, s4, s5⟩, _⟩ := hS_; go_simp; with_reducible rfl)) (h := ?_)
                refine XReg.pu 14 90 (h := ?_)
                refine XReg.pu 15 91 (h := ?_)
                refine XReg.tk 16 92 (hy := by (intro w' hS_; obtain ⟨_, s8⟩ := hS_; go_simp; with_reducible rfl)) (h := ?_)
                try rw [hd]
                refine XReg.one (i := 17) (some 93) rfl rfl (by kernel_rfl) (by decide) (fun Kc hKc => ?_)
                refine goes_ Try.func105 (by kernel_rfl) rfl #[.agg #[.string c.f0, .int .i64 c.f1], .agg #[.string d.f0, .int .i64 d.f1]] (by rfl) rfl rfl (by (try simp only [List.map_toArray, List.map_cons, List.map_nil]); first | done | rfl) ?_
                refine (pannierref08_ahead.calls c.f0 c.f1 d.f0 d.f1 _ _ (ahead_f c d)).mono ?_
                rintro e wc ⟨rfl, hbc⟩
                refine ⟨_, rfl, ?_⟩
                have HBc := Aside0.mk (HBbd.out.trans (hbc.mono HBbd.out.size))
                refine hKc.out _ _ (CT.out _ HBc.out) (fun hH2 => ?_)
                clear hKc Kc hH hbc
                obtain ⟨bt, hbt⟩ : ∃ b, lessD c d = b := ⟨_, rfl⟩
                rw [hbt] at hsn ⊢
                refine XReg.pu 18 94 (h := ?_)
                refine XReg.pu 19 95 (h := ?_)
                refine XReg.pu 20 96 (h := ?_)
                refine done_ (by kernel_rfl) ?_
                clear hH2 hbt
                cases bt with
                | false =>
                  have HF := Aside0.mk (not_right (x := x) (fun _ _ _ _ _ _ h _ => by rw [hsn] at h; simp at h))
                  clear hsn
                  go_wp2
                  go_ret
                  exact ⟨by rw [HF.out]; rfl, HB6.out.trans (HBc.out.mono HB6.out.size)⟩
                | true =>
                  simp only [Bool.true_and] at hsn
                  have HSN' := Aside0.mk hsn
                  clear hsn
                  go_wp2
                  go_round
                  case rel => exact ⟨i + 1, by go_num, by omega, ⟨by rw [if_neg (by omega), Nat.add_sub_cancel, hd]; exact HSN'.out⟩, HBc⟩
                  case measure => simp [intOf]; omega
          · have q1 : decide ((i : Int) < (x.f6.length : Int)) = false := by simp; omega
            have hsn := HSi.out
            rw [List.drop_eq_nil_of_le (by omega)] at hsn
            have HS := Aside0.mk (show seenS x.f1 none x.f6 = true from by rw [hsn]; rfl)
            have HK := Aside0.mk (show rightO x = kindS x from by
             unfold rightO
             rw [HO1.out, HO2.out, HS.out]
             have h4 := HO4.out
             have h5 := HO5.out
             rw [h4, h5]
             simp [HO3.out, HO6.out])
            have e4 : wr.cell? ⟨N, 4, none⟩ = some (.int .i64 x.f3) := (blk_cell HXi.out 4).trans rfl
            have e6 : wr.cell? ⟨N, 6, none⟩ = some (.int .i64 x.f5) := (blk_cell HXi.out 6).trans rfl
            have HBf := Aside0.mk (HB6.out.trans (HBi.out.mono HB6.out.size))
            clear hsn
            go_wp2
            all_goals
             go_ret
             refine ⟨?_, by first | exact HBf.out | (rw [← hN]; exact HBf.out)⟩
             rw [HK.out]
             refine congrArg (fun b => Ending.returned (Value.bool b)) ?_
             unfold kindS
             first | (simp_all; done) | (rw [Bool.eq_iff_iff]; simp_all; done) | (rw [Bool.eq_iff_iff]; simp_all; omega)
end Go.Proofs.Ytenbkljgmgdegaa.PO
end
section
namespace Go.Proofs.Ytenbkljgmgdegaa.PO
open Go.RowKit Go.Proofs.YtenbkljgmgdegaaW.PrintWords Go.Proofs.YtenbkljgmgdegaaW.PrintLast Go.Proofs.YtenbkljgmgdegaaW.PrintMore Go.Proofs.Ytenbkljgmgdegaa.XW
open Go.Proofs.Ytenbkljgmgdegaa.XRange Go.Proofs.Ytenbkljgmgdegaa.XMap Go.Proofs.Ytenbkljgmgdegaa.XSeq
set_option linter.unusedVariables false
set_option linter.unusedSimpArgs false
theorem tkNum_f (b : List Int) (hB : isB b) (hb : b.length ≤ 140737488355300) (most p : Int) (bad : Bool) (k : Nat) (hk : 60 ≤ k) : tkNum k most b p (!bad) = some ((numT b most p bad).1, (numT b most p bad).2.1, !(numT b most p bad).2.2) := by
 unfold tkNum numT
 rw [refTakeNumber_f b hB hb p k hk, Option.bind_some]
 cases bad with
 | true => rfl
 | false =>
   by_cases h0 : (takeS b p).2.2 = 0
   · have := takeS_ok hB h0
     by_cases h1 : (takeS b p).1 > most
     · simp [h0, h1]
     · simp [h0, h1, this.2.2.1]
   · simp [h0]
theorem refTakeText32_f (b : List Int) (hB : isB b) (hb : b.length ≤ 140737488355300) (p : Int) (k : Nat) (hk : 60 ≤ k) : pannierref02_TakeText.f k b p 32 = some (text32 b p) := by
 unfold pannierref02_TakeText.f text32
 rw [refTakeNumber_f b hB hb p k hk, Option.bind_some]
 by_cases h : (takeS b p).2.2 = 0
 case neg => rw [if_neg h, if_neg h]
 have ho := takeS_ok hB h
 rw [if_pos h, if_pos h, if_neg (by decide), u_id (u := 32) (by omega) (by omega)]
 by_cases h1 : (takeS b p).1 > 32
 · rw [if_pos h1, if_pos h1]
 rw [if_neg h1, if_neg h1, w_id (u := (b.length : Int) - (takeS b p).2.1) (by omega), u_id (by omega) (by omega)]
 by_cases h2 : (takeS b p).1 > (b.length : Int) - (takeS b p).2.1
 · rw [if_pos h2, if_pos h2]
 rw [if_neg h2, if_neg h2, if_pos (by omega), w_id (u := (takeS b p).1) (by omega), w_id (by omega), if_pos (by omega), if_pos (by omega)]
theorem tkText32_f (b : List Int) (hB : isB b) (hb : b.length ≤ 140737488355300) (p : Int) (bad : Bool) (k : Nat) (hk : 60 ≤ k) : tkText k 32 b p (!bad) = some ((texR b p bad).1, (texR b p bad).2.1, !(texR b p bad).2.2) := by
 unfold tkText texR
 rw [refTakeText32_f b hB hb p k hk, Option.bind_some]
 cases bad with
 | true => rfl
 | false => by_cases h0 : (text32 b p).2.2 = 0 <;> simp [h0]
theorem tkText24_f (b : List Int) (hB : isB b) (hb : b.length ≤ 140737488355300) (p : Int) (bad : Bool) (k : Nat) (hk : 60 ≤ k) : tkText k 24 b p (!bad) = some ((texD b p bad).1, (texD b p bad).2.1, !(texD b p bad).2.2) := by
 unfold tkText texD
 rw [refTakeText_f b hB hb p k hk, Option.bind_some]
 cases bad with
 | true => rfl
 | false => by_cases h0 : (textT b p).2.2 = 0 <;> simp [h0]
theorem tkDot_f (b : List Int) (hB : isB b) (hb : b.length ≤ 140737488355300) (p : Int) (bad : Bool) (k : Nat) (hk : 60 ≤ k) : tkDot k b p (!bad) = some ((dotT b p bad).1.f0, (dotT b p bad).1.f1, (dotT b p bad).2.1, !(dotT b p bad).2.2) := by
 unfold tkDot
 rw [tkText24_f b hB hb p bad k hk, Option.bind_some, tkNum_f b hB hb _ _ _ k hk, Option.bind_some]
 rfl
theorem numT_range (b : List Int) (hB : isB b) (most p : Int) (bad : Bool) (h0 : 0 ≤ most) : 0 ≤ (numT b most p bad).1 ∧ (numT b most p bad).1 ≤ most := by
 unfold numT
 split
 · exact ⟨Int.le_refl _, h0⟩
 · split
   · rename_i q
     have := takeS_ok hB q
     split
     · exact ⟨Int.le_refl _, h0⟩
     · exact ⟨this.2.2.1, by show (takeS b p).1 ≤ most; omega⟩
   · exact ⟨Int.le_refl _, h0⟩
theorem texD_size (b : List Int) (hB : isB b) (p : Int) (bad : Bool) : (texD b p bad).1.size ≤ 24 := by
 unfold texD
 split
 · exact Nat.zero_le _
 · split
   · rename_i q
     exact (text_is hB q).2.2.1
   · exact Nat.zero_le _
theorem seenT_sizes (b : List Int) (hB : isB b) : ∀ (c : Nat) (p : Int) (bad : Bool) (v : List S34), sizes 1000 v → sizes 1000 (seenT b c p bad v).1
 | 0, p, bad, v, h => h
 | c + 1, p, true, v, h => by rw [seenT_bad]; exact h
 | c + 1, p, false, v, h => by
   rw [seenT_s]
   refine seenT_sizes b hB c _ _ _ (fun x hx => ?_)
   rcases List.mem_append.1 hx with hx | hx
   · exact h x hx
   · rw [List.mem_singleton.1 hx]
     have := texD_size b hB p false
     show (texD b p false).1.size ≤ 1000
     omega
structure RQ (w wq : World) (G g N : Nat) (A : Option Addr) (c : Nat) (l : List Int) (p : Int) (b : Bool) (cs : Array Value) : Prop where
 rd : wq.heap[g]? = some (.cells #[.slice A l.length c, .int .i64 p, .bool (!b)] 122 (0, 0))
 ob : wq.heap[N]? = some (.cells cs 36 (0, 0))
 gb : wq.heap[G]? = some (.cells #[.string ⟨#[]⟩, .int .i64 0, .slice none 0 0, .string ⟨#[]⟩, .int .i64 0, .string ⟨#[]⟩, .int .i64 0, .slice none 0 0] 36 (0, 0))
 ft : Kd.F (Kd.int .u8) wq (fun k => k < g) A l.length l
 bl : Below w.heap.size w wq
 le : l.length ≤ c
 lg : G < g
 ln : g < N
 lw : w.heap.size ≤ G
section
variable {w wq w1 : World} {G g N : Nat} {A : Option Addr} {c : Nat} {l : List Int} {p p' : Int} {b b' : Bool} {cs : Array Value}
theorem RQ.rdAt (h : RQ w wq G g N A c l p b cs) : RdAt 122 wq g A c l p (!b) := ⟨h.rd, h.le, Kd.F_mono h.ft (fun k hk => by have : k < g := hk; omega)⟩
theorem RQ.keeps (h : RQ w wq G g N A c l p b cs) (hk : Keeps (fun k => g ≤ k) wq w1) (h1 : w1.heap[g]? = some (.cells #[.slice A l.length c, .int .i64 p', .bool (!b')] 122 (0, 0))) {cs' : Array Value} (h2 : w1.heap[N]? = some (.cells cs' 36 (0, 0))) : RQ w w1 G g N A c l p' b' cs' :=
 ⟨h1, h2, (hk.block G (blk_lt h.gb) (by have := h.lg; omega)).trans h.gb, Kd.F_step h.ft (fun k hk' hlt => hk.block k hlt (by have h3 : k < g := hk'; omega)),
  below_keeps h.bl (M := fun k => g ≤ k) (fun k hk => by have := h.lw; have := h.lg; have h3 : g ≤ k := hk; omega) h.bl.size hk, h.le, h.lg, h.ln, h.lw⟩
theorem RQ.grown (h : RQ w wq G g N A c l p b cs) {row : Option Nat} (hg : wq.grownBy w1 row) (hr : ∀ k, row = some k → N < k) : RQ w w1 G g N A c l p b cs :=
 h.keeps (keeps_weak (keeps_grown hg) (fun k hk => by have := hr k hk.symm; have := h.ln; omega)) (blk_grown h.rd hg (fun e => by have := hr g e.symm; have := h.ln; omega)) (blk_grown h.ob hg (fun e => by have := hr N e.symm; omega))
theorem RQ.after (h : RQ w wq G g N A c l p b cs) (hs : RdAt 122 w1 g A c l p' (!b')) (hk : Keeps (fun k => k = g) wq w1) : RQ w w1 G g N A c l p' b' cs :=
 h.keeps (keeps_weak hk (fun k h => by subst h; exact Nat.le_refl _)) hs.blk ((hk.block N (blk_lt h.ob) (by have := h.ln; omega)).trans h.ob)
theorem RQ.below (h : RQ w wq G g N A c l p b cs) (hb : Below wq.heap.size wq w1) : RQ w w1 G g N A c l p b cs :=
 h.keeps (keeps_weak (Keeps.of_below hb (M := fun _ => False)) (fun _ f => f.elim)) (blk_below h.rd hb) (blk_below h.ob hb)
theorem RQ.setN (h : RQ w wq G g N A c l p b cs) (i : Nat) (u : Value) : RQ w (wq.setCell ⟨N, i, none⟩ u) G g N A c l p b (cs.setIfInBounds i u) :=
 h.keeps (Keeps.setCell (M := fun k => g ≤ k) (Keeps.refl _ wq) (p := ⟨N, i, none⟩) (.inl (by have := h.ln; show g ≤ N; omega)) u) (blk_far h.rd (show g ≠ N by have := h.ln; omega) u) (blk_set h.ob i u)
theorem RQ.setp (h : RQ w wq G g N A c l p b cs) (a' : Int) : RQ w (wq.setCell ⟨g, 1, none⟩ (.int .i64 a')) G g N A c l a' b cs :=
 h.keeps (Keeps.setCell (M := fun k => g ≤ k) (Keeps.refl _ wq) (p := ⟨g, 1, none⟩) (.inl (Nat.le_refl _)) _) (blk_set h.rd 1 _) (blk_far h.ob (show N ≠ g by have := h.ln; omega) _)
end
set_option maxHeartbeats 8000000 in
set_option maxRecDepth 100000 in
theorem read44 (w : World) (s : ByteArray) (hs : s.size ≤ 140737488351232) :
 Calls Try.prog 44 #[.string s] w fun e w' => ∃ v2 v7, e = .returned (.tuple #[.agg #[.string (refO (bytesOf s)).1.f0.f0, .int .i64 (refO (bytesOf s)).1.f0.f1, v2, .string (refO (bytesOf s)).1.f2, .int .i64 (refO (bytesOf s)).1.f3, .string (refO (bytesOf s)).1.f4, .int .i64 (refO (bytesOf s)).1.f5, v7], .int .i64 (refO (bytesOf s)).2]) ∧
  Kd.R k34 34 w' w.heap.size (fun _ => True) v2 (refO (bytesOf s)).1.f1 ∧ Kd.R k34 34 w' w.heap.size (fun _ => True) v7 (refO (bytesOf s)).1.f6 ∧ Below w.heap.size w w' := by
 go_enter Try.func44, Try.ntmps44
 go_wp2_with fail
 obtain ⟨w0, hw0⟩ : ∃ w0, w.alloc (.cells #[.string ⟨#[]⟩, .int .i64 0, .slice none 0 0, .string ⟨#[]⟩, .int .i64 0, .string ⟨#[]⟩, .int .i64 0, .slice none 0 0] 36) = w0 := ⟨_, rfl⟩
 obtain ⟨G, hG⟩ : ∃ G, w.heap.size = G := ⟨_, rfl⟩
 have hb0 : Below w.heap.size w w0 := by rw [← hw0]; exact (Below.refl _ w).alloc (Nat.le_refl _) _
 have hbk0 : w0.heap[G]? = some (.cells #[.string ⟨#[]⟩, .int .i64 0, .slice none 0 0, .string ⟨#[]⟩, .int .i64 0, .string ⟨#[]⟩, .int .i64 0, .slice none 0 0] 36 (0, 0)) := by rw [← hw0, ← hG]; exact World.alloc_heap_new w _
 rw [hw0, hG, Lib.run_convert_string_bytes _ 9 63 5 s Try.underlying9 Try.underlying63 Try.underlying5]
 obtain ⟨l, hl⟩ : ∃ l, bytesOf s = l := ⟨_, rfl⟩
 have hsl : s.size = l.length := by rw [← hl]; exact (bytesOf_length s).symm
 have hv := Kd.conv_V (W := w0) (e := 5) (base := 0) (ok := fun _ => True) s (fun _ _ => trivial) (by omega) (grownCap_ge w0 _ _ _)
 have hb1 := Kd.conv_below (W := w0) (w0 := w0) (base := w0.heap.size) 5 s (Below.refl _ _) (Nat.le_refl _)
 obtain ⟨w1, hw1⟩ : ∃ w1, Lib.bytesWorld w0 5 s = w1 := ⟨_, rfl⟩
 obtain ⟨A, hA⟩ : ∃ A, some (⟨w0.heap.size, 0, none⟩ : Addr) = A := ⟨_, rfl⟩
 obtain ⟨c, hcc⟩ : ∃ c, grownCap w0 s.size 0 5 = c := ⟨_, rfl⟩
 rw [hw1, hA, hcc, hl, hsl] at hv
 rw [hw1] at hb1
 rw [hw1, hA, hcc, hsl]
 have hlc : l.length ≤ c := by rw [← hcc, ← hsl]; exact grownCap_ge w0 _ _ _
 have hF := Kd.V_F hv
 clear hv hw1 hA hcc hw0
 have hB : isB l := by rw [← hl]; exact bytes_B s
 have hlm : l.length ≤ 140737488355300 := by omega
 have HB0 := Aside0.mk (hb0.trans (hb1.mono hb0.size))
 have HG0 := Aside0.mk (blk_below hbk0 hb1)
 have HF := Aside0.mk hF
 clear hF hbk0 hb1 hb0
 obtain ⟨w2, hw2⟩ : ∃ w2, w1.alloc (.cells #[.slice A l.length c, .int .i64 0, .bool true] 122) = w2 := ⟨_, rfl⟩
 obtain ⟨g, hg⟩ : ∃ g, w1.heap.size = g := ⟨_, rfl⟩
 have hb2 : Below w1.heap.size w1 w2 := by rw [← hw2]; exact (Below.refl _ w1).alloc (Nat.le_refl _) _
 have HS2 := Aside0.mk (show RdAt 122 w2 g A c l 0 true from by
  rw [← hw2, ← hg]
  exact ⟨World.alloc_heap_new w1 _, hlc, Kd.F_alloc (Kd.F_mono (Kd.F_bound HF.out) (fun k hk => by have := hk.2; omega)) _⟩)
 have HF2 := Aside0.mk (show Kd.F (Kd.int .u8) w2 (fun k => k < g) A l.length l from by rw [← hw2, ← hg]; exact Kd.F_alloc (Kd.F_mono (Kd.F_bound HF.out) (fun k hk => hk.2)) _)
 have HB2 := Aside0.mk (HB0.out.trans (hb2.mono HB0.out.size))
 have HG2 := Aside0.mk (blk_below HG0.out hb2)
 have HGG := Aside0.mk (show G < g from by rw [← hg]; exact blk_lt HG0.out)
 have HWG := Aside0.mk (show w.heap.size ≤ g from by rw [← hg]; exact HB0.out.size)
 have HGW := Aside0.mk (show w.heap.size ≤ G from by omega)
 clear hb2 HB0 HG0 HF
 go_wp2_with fail
 try rw [hw2]
 try rw [hg]
 clear hw2 hg
 refine (taker_dot 60 g A c l 0 true _ _ _ _ _ HS2.out (tkDot_f l hB hlm 0 false 60 (by omega))).mono ?_
 rintro e w3 ⟨rfl, hs3, hk3⟩
 obtain ⟨⟨d, p1, b1⟩, hd⟩ : ∃ x, dotT l 0 false = x := ⟨_, rfl⟩
 rw [hd] at hs3 ⊢
 dsimp only at hs3 ⊢
 have HD := Aside0.mk hd
 have HS3 := Aside0.mk hs3
 have HG3 := Aside0.mk ((hk3.block G (blk_lt HG2.out) (by have := HGG.out; omega)).trans HG2.out)
 have HB3 := Aside0.mk (below_keeps HB2.out (M := fun k => k = g) (fun k hk => by subst hk; exact HWG.out) HB2.out.size hk3)
 have HF3 := Aside0.mk (Kd.F_step HF2.out (fun k hk hlt => hk3.block k hlt (by have h3 : k < g := hk; omega)))
 clear hs3 hk3 hd HS2 HG2 HB2 HF2
 go_wp2_with fail
 obtain ⟨w4, hw4⟩ : ∃ w4, w3.alloc (.cells #[.string d.f0, .int .i64 d.f1, .slice none 0 0, .string ⟨#[]⟩, .int .i64 0, .string ⟨#[]⟩, .int .i64 0, .slice none 0 0] 36) = w4 := ⟨_, rfl⟩
 obtain ⟨N, hN⟩ : ∃ N, w3.heap.size = N := ⟨_, rfl⟩
 have hb4 : Below w3.heap.size w3 w4 := by rw [← hw4]; exact (Below.refl _ w3).alloc (Nat.le_refl _) _
 have HN4 := Aside0.mk (show w4.heap[N]? = some (.cells #[.string d.f0, .int .i64 d.f1, .slice none 0 0, .string ⟨#[]⟩, .int .i64 0, .string ⟨#[]⟩, .int .i64 0, .slice none 0 0] 36 (0, 0)) from by rw [← hw4, ← hN]; exact World.alloc_heap_new w3 _)
 try rw [hw4]
 try rw [hN]
 have HNg := Aside0.mk (show g < N from by rw [← hN]; exact blk_lt HS3.out.blk)
 have HS4 := Aside0.mk (HS3.out.keep (Keeps.of_below hb4 |> fun h => keeps_weak h (fun _ f => f)))
 have HG4 := Aside0.mk (blk_below HG3.out hb4)
 have HB4 := Aside0.mk (HB3.out.trans (hb4.mono HB3.out.size))
 have HF4 := Aside0.mk (Kd.F_below HF3.out hb4)
 clear hb4 hw4 hN HS3 HG3 HB3 HF3
 refine start_ (n := 16) (ds := []) (S := fun w' => w'.cell? ⟨g, 0, none⟩ = some (.slice A l.length c) ∧ w'.cell? ⟨g, 1, none⟩ = some (.int .i64 p1)) _ (by kernel_rfl) rfl rfl ⟨(blk_cell (blk_drew HS4.out.blk) 0).trans rfl, (blk_cell (blk_drew HS4.out.blk) 1).trans rfl⟩ (fun hH => ?_)
 refine XReg.pu 0 20 (h := ?_)
 refine XReg.pu 1 21 (h := ?_)
 refine XReg.pu 2 22 (h := ?_)
 refine XReg.tk 3 23 (h := ?_)
 refine XReg.pu 4 24 (h := ?_)
 refine XReg.pu 5 25 (h := ?_)
 refine XReg.pu 6 26 (h := ?_)
 refine XReg.tk 7 27 (h := ?_)
 refine XReg.one (i := 8) (some 28) rfl rfl (by kernel_rfl) (by decide) (fun Kc hKc => ?_)
 refine goes_ Try.func76 (by kernel_rfl) rfl #[.slice A l.length c, .int .i64 p1] (by rfl) rfl rfl (by (try simp only [List.map_toArray, List.map_cons, List.map_nil]); first | done | rfl) ?_
 obtain ⟨⟨V, p2, ve⟩, hV⟩ : ∃ x, vecS l p1 = x := ⟨_, rfl⟩
 refine (pannierref07_Take.calls (l.length + 401) A c l p1 V p2 ve _ (Kd.C_drew (Kd.F_now HS4.out.foot)) HS4.out.le (by rw [refTake_f l hB hlm p1 _ (by omega), hV])).mono ?_
 rintro e w5 ⟨vv, rfl, hr5, hb5⟩
 refine ⟨_, rfl, ?_⟩
 have hb5' : Below w4.heap.size w4 w5 := (below_drew1 (Below.refl _ w4)).trans hb5
 have HV := Aside0.mk hV
 have HS5 := Aside0.mk (HS4.out.keep (Keeps.of_below hb5'))
 have HG5 := Aside0.mk (blk_below HG4.out hb5')
 have HN5 := Aside0.mk (blk_below HN4.out hb5')
 have HB5 := Aside0.mk (HB4.out.trans (hb5'.mono HB4.out.size))
 have HR5 := Aside0.mk (show Kd.R k34 34 w5 (N + 1) (fun _ => True) vv V from Kd.R_lower hr5 (by have := blk_lt HN4.out; exact this))
 have HFT := Aside0.mk (Kd.F_below HF4.out hb5')
 refine hKc.out _ _ ⟨(blk_cell HS5.out.blk 0).trans rfl, (blk_cell HS5.out.blk 1).trans rfl⟩ (fun hH2 => ?_)
 clear hKc Kc hH hr5 hb5 hb5' hV HS4 HG4 HN4 HB4 HF4
 refine XReg.pu 9 19 (h := ?_)
 refine XReg.pu 10 29 (h := ?_)
 refine XReg.pu 11 30 (h := ?_)
 refine XReg.pu 12 31 (h := ?_)
 refine XReg.pu 13 6 (h := ?_)
 refine XReg.pu 14 7 (h := ?_)
 refine XReg.pu 15 8 (h := ?_)
 refine done_ (by kernel_rfl) ?_
 have c2 : w5.cell? ⟨g, 2, none⟩ = some (.bool (!b1)) := (blk_cell HS5.out.blk 2).trans rfl
 clear hH2
 by_cases hbad : b1 = true ∨ ve ≠ 0
 · have z0 : refO l = (z36, 80) := by
    unfold refO
    rw [HD.out]
    dsimp only
    rw [HV.out]
    rw [if_pos hbad]
   have Z0 := Aside0.mk z0
   clear z0
   obtain ⟨e0, e1, e2, e3, e4, e5, e6, e7⟩ := cells8 HG5.out
   have f0 := blk_frozen HG5.out 0
   have f1 := blk_frozen HG5.out 1
   have f2 := blk_frozen HG5.out 2
   have f3 := blk_frozen HG5.out 3
   have f4 := blk_frozen HG5.out 4
   have f5 := blk_frozen HG5.out 5
   have f6 := blk_frozen HG5.out 6
   have f7 := blk_frozen HG5.out 7
   cases b1 with
   | true =>
     go_wp2
     have h8 := set8 HG5.out (.string ⟨#[]⟩) (.int .i64 0) (.slice none 0 0) (.string ⟨#[]⟩) (.int .i64 0) (.string ⟨#[]⟩) (.int .i64 0) (.slice none 0 0)
     obtain ⟨k0, k1, k2, k3, k4, k5, k6, k7⟩ := cells8 h8
     have hk := below_keeps HB5.out (M := fun k => k = G) (fun k hk => by subst hk; exact HGW.out) HB5.out.size (keeps8 w5 G (.string ⟨#[]⟩) (.int .i64 0) (.slice none 0 0) (.string ⟨#[]⟩) (.int .i64 0) (.string ⟨#[]⟩) (.int .i64 0) (.slice none 0 0))
     try rw [hl]
     rw [Z0.out]
     try rw [hG] at hk
     try rw [hG]
     exact bodyPost_ret (v := .tuple #[.agg #[.string ⟨#[]⟩, .int .i64 0, .slice none 0 0, .string ⟨#[]⟩, .int .i64 0, .string ⟨#[]⟩, .int .i64 0, .slice none 0 0], .int .i64 80]) (by simp [results, Try.f44, go_sem, k0, k1, k2, k3, k4, k5, k6, k7]) rfl ⟨.slice none 0 0, .slice none 0 0, rfl, Kd.R_nil _ _ _ _ _, Kd.R_nil _ _ _ _ _, hk⟩
   | false =>
     have hve : (ve != 0) = true := by rcases hbad with h | h; cases h; simpa using h
     go_wp2
     have h8 := set8 HG5.out (.string ⟨#[]⟩) (.int .i64 0) (.slice none 0 0) (.string ⟨#[]⟩) (.int .i64 0) (.string ⟨#[]⟩) (.int .i64 0) (.slice none 0 0)
     obtain ⟨k0, k1, k2, k3, k4, k5, k6, k7⟩ := cells8 h8
     have hk := below_keeps HB5.out (M := fun k => k = G) (fun k hk => by subst hk; exact HGW.out) HB5.out.size (keeps8 w5 G (.string ⟨#[]⟩) (.int .i64 0) (.slice none 0 0) (.string ⟨#[]⟩) (.int .i64 0) (.string ⟨#[]⟩) (.int .i64 0) (.slice none 0 0))
     try rw [hl]
     rw [Z0.out]
     try rw [hG] at hk
     try rw [hG]
     exact bodyPost_ret (v := .tuple #[.agg #[.string ⟨#[]⟩, .int .i64 0, .slice none 0 0, .string ⟨#[]⟩, .int .i64 0, .string ⟨#[]⟩, .int .i64 0, .slice none 0 0], .int .i64 80]) (by simp [results, Try.f44, go_sem, k0, k1, k2, k3, k4, k5, k6, k7]) rfl ⟨.slice none 0 0, .slice none 0 0, rfl, Kd.R_nil _ _ _ _ _, Kd.R_nil _ _ _ _ _, hk⟩
 · have q1 : b1 = false := by cases b1 with | false => rfl | true => exact absurd (Or.inl rfl) hbad
   have q2 : ve = 0 := Classical.byContradiction (fun h => hbad (Or.inr h))
   subst q1
   subst q2
   have HBAD := Aside0.mk hbad
   clear hbad
   have HT5 := Aside0.mk (show RQ w w5 G g N A c l p1 false #[.string d.f0, .int .i64 d.f1, .slice none 0 0, .string ⟨#[]⟩, .int .i64 0, .string ⟨#[]⟩, .int .i64 0, .slice none 0 0] from
    ⟨HS5.out.blk, HN5.out, HG5.out, HFT.out, HB5.out, hlc, HGG.out, HNg.out, by have := HGW.out; exact this⟩)
   obtain ⟨Av, cv, rfl⟩ := Kd.R_slice HR5.out
   have e2 : w5.cell? ⟨N, 2, none⟩ = some (.slice none 0 0) := (blk_cell HN5.out 2).trans rfl
   have c1 : w5.cell? ⟨g, 1, none⟩ = some (.int .i64 p1) := (blk_cell HS5.out.blk 1).trans rfl
   have f2 := blk_frozen HN5.out 2
   have f1 := blk_frozen HS5.out.blk 1
   clear HS5 HN5 HG5 HB5
   go_wp2_with fail
   obtain ⟨w6, hw6⟩ : ∃ w6, (w5.setCell ⟨N, 2, none⟩ (.slice Av V.length cv)).setCell ⟨g, 1, none⟩ (.int .i64 p2) = w6 := ⟨_, rfl⟩
   rw [hw6]
   have HT6 := Aside0.mk (show RQ w w6 G g N A c l p2 false #[.string d.f0, .int .i64 d.f1, .slice Av V.length cv, .string ⟨#[]⟩, .int .i64 0, .string ⟨#[]⟩, .int .i64 0, .slice none 0 0] from by
    rw [← hw6]
    have h := (HT5.out.setN 2 (.slice Av V.length cv)).setp p2
    simp only [List.setIfInBounds_toArray, List.set_cons_zero, List.set_cons_succ] at h
    exact h)
   have HK6 := Aside0.mk (show Keeps (fun k => k = g ∨ k = N) w5 w6 from by
    rw [← hw6]
    exact Keeps.setCell (M := fun k => k = g ∨ k = N) (Keeps.setCell (M := fun k => k = g ∨ k = N) (Keeps.refl _ w5) (p := ⟨N, 2, none⟩) (.inl (.inr rfl)) _) (p := ⟨g, 1, none⟩) (.inl (.inl rfl)) _)
   have HML := Aside0.mk (show ∀ k, (k = g ∨ k = N) → k < N + 1 from fun k hk => by have := HNg.out; rcases hk with rfl | rfl <;> omega)
   have HML1 := Aside0.mk (show ∀ k, k = g → k < N + 1 from fun k hk => HML.out k (.inl hk))
   have HR6 := Aside0.mk (R_apart HR5.out HK6.out HML.out)
   clear e2 c1 f2 f1 c2 hw6 HT5 HR5 HK6 HFT HWG HGW
   obtain ⟨⟨sc, p3, b3⟩, hC⟩ : ∃ x, texR l p2 false = x := ⟨_, rfl⟩
   refine (taker_text 60 g 32 A c l p2 (!false) sc p3 (!b3) _ HT6.out.rdAt (by have h := tkText32_f l hB hlm p2 false 60 (by omega); rw [hC] at h; exact h)).mono ?_
   rintro e w7 ⟨rfl, hs7, hk7⟩
   have HT7 := Aside0.mk (HT6.out.after hs7 hk7)
   have HR7 := Aside0.mk (R_apart HR6.out hk7 HML1.out)
   have HC := Aside0.mk hC
   have e3 : w7.cell? ⟨N, 3, none⟩ = some (.string ⟨#[]⟩) := (blk_cell HT7.out.ob 3).trans rfl
   have f3 := blk_frozen HT7.out.ob 3
   clear hs7 hk7 HT6 HR6 hC
   go_wp2_with fail
   obtain ⟨w7s, hw7s⟩ : ∃ w7s, w7.setCell ⟨N, 3, none⟩ (.string sc) = w7s := ⟨_, rfl⟩
   rw [hw7s]
   have HT7s := Aside0.mk (show RQ w w7s G g N A c l p3 b3 #[.string d.f0, .int .i64 d.f1, .slice Av V.length cv, .string sc, .int .i64 0, .string ⟨#[]⟩, .int .i64 0, .slice none 0 0] from by
    rw [← hw7s]
    have h := HT7.out.setN 3 (.string sc)
    simp only [List.setIfInBounds_toArray, List.set_cons_zero, List.set_cons_succ] at h
    exact h)
   have HR7s := Aside0.mk (R_apart HR7.out (show Keeps (fun k => k = g ∨ k = N) w7 w7s from by
    rw [← hw7s]
    exact Keeps.setCell (M := fun k => k = g ∨ k = N) (Keeps.refl _ w7) (p := ⟨N, 3, none⟩) (.inl (.inr rfl)) _) HML.out)
   clear e3 f3 hw7s HT7 HR7
   obtain ⟨⟨si, p4, b4⟩, hI⟩ : ∃ x, texR l p3 b3 = x := ⟨_, rfl⟩
   refine (taker_text 60 g 32 A c l p3 (!b3) si p4 (!b4) _ HT7s.out.rdAt (by have h := tkText32_f l hB hlm p3 b3 60 (by omega); rw [hI] at h; exact h)).mono ?_
   rintro e w8 ⟨rfl, hs8, hk8⟩
   have HT8 := Aside0.mk (HT7s.out.after hs8 hk8)
   have HR8 := Aside0.mk (R_apart HR7s.out hk8 HML1.out)
   have HI := Aside0.mk hI
   have e5 : w8.cell? ⟨N, 5, none⟩ = some (.string ⟨#[]⟩) := (blk_cell HT8.out.ob 5).trans rfl
   have f5 := blk_frozen HT8.out.ob 5
   clear hs8 hk8 HT7s HR7s hI
   go_wp2_with fail
   obtain ⟨w8s, hw8s⟩ : ∃ w8s, w8.setCell ⟨N, 5, none⟩ (.string si) = w8s := ⟨_, rfl⟩
   rw [hw8s]
   have HT8s := Aside0.mk (show RQ w w8s G g N A c l p4 b4 #[.string d.f0, .int .i64 d.f1, .slice Av V.length cv, .string sc, .int .i64 0, .string si, .int .i64 0, .slice none 0 0] from by
    rw [← hw8s]
    have h := HT8.out.setN 5 (.string si)
    simp only [List.setIfInBounds_toArray, List.set_cons_zero, List.set_cons_succ] at h
    exact h)
   have HR8s := Aside0.mk (R_apart HR8.out (show Keeps (fun k => k = g ∨ k = N) w8 w8s from by
    rw [← hw8s]
    exact Keeps.setCell (M := fun k => k = g ∨ k = N) (Keeps.refl _ w8) (p := ⟨N, 5, none⟩) (.inl (.inr rfl)) _) HML.out)
   clear e5 f5 hw8s HT8 HR8
   obtain ⟨⟨kd, p5, b5⟩, hK⟩ : ∃ x, numT l 3 p4 b4 = x := ⟨_, rfl⟩
   refine (taker_number 60 g 3 (by omega) A c l p4 (!b4) kd p5 (!b5) _ HT8s.out.rdAt (by have h := tkNum_f l hB hlm 3 p4 b4 60 (by omega); rw [hK] at h; exact h)).mono ?_
   rintro e w9 ⟨rfl, hs9, hk9⟩
   have HT9 := Aside0.mk (HT8s.out.after hs9 hk9)
   have HR9 := Aside0.mk (R_apart HR8s.out hk9 HML1.out)
   have HK := Aside0.mk hK
   have HRGK := Aside0.mk (show 0 ≤ kd ∧ kd ≤ 3 from by have h := numT_range l hB 3 p4 b4 (by omega); rw [hK] at h; exact h)
   have e4 : w9.cell? ⟨N, 4, none⟩ = some (.int .i64 0) := (blk_cell HT9.out.ob 4).trans rfl
   have f4 := blk_frozen HT9.out.ob 4
   clear hs9 hk9 HT8s HR8s hK
   go_wp2_with fail
   obtain ⟨w9s, hw9s⟩ : ∃ w9s, w9.setCell ⟨N, 4, none⟩ (.int .i64 kd) = w9s := ⟨_, rfl⟩
   rw [hw9s]
   have HT9s := Aside0.mk (show RQ w w9s G g N A c l p5 b5 #[.string d.f0, .int .i64 d.f1, .slice Av V.length cv, .string sc, .int .i64 kd, .string si, .int .i64 0, .slice none 0 0] from by
    rw [← hw9s]
    have h := HT9.out.setN 4 (.int .i64 kd)
    simp only [List.setIfInBounds_toArray, List.set_cons_zero, List.set_cons_succ] at h
    exact h)
   have HR9s := Aside0.mk (R_apart HR9.out (show Keeps (fun k => k = g ∨ k = N) w9 w9s from by
    rw [← hw9s]
    exact Keeps.setCell (M := fun k => k = g ∨ k = N) (Keeps.refl _ w9) (p := ⟨N, 4, none⟩) (.inl (.inr rfl)) _) HML.out)
   clear e4 f4 hw9s HT9 HR9
   obtain ⟨⟨q, p6, b6⟩, hQ⟩ : ∃ x, numT l 9999 p5 b5 = x := ⟨_, rfl⟩
   refine (taker_number 60 g 9999 (by omega) A c l p5 (!b5) q p6 (!b6) _ HT9s.out.rdAt (by have h := tkNum_f l hB hlm 9999 p5 b5 60 (by omega); rw [hQ] at h; exact h)).mono ?_
   rintro e wa ⟨rfl, hsa, hka⟩
   have HTa := Aside0.mk (HT9s.out.after hsa hka)
   have HRa := Aside0.mk (R_apart HR9s.out hka HML1.out)
   have HQ := Aside0.mk hQ
   have HRGQ := Aside0.mk (show 0 ≤ q ∧ q ≤ 9999 from by have h := numT_range l hB 9999 p5 b5 (by omega); rw [hQ] at h; exact h)
   have e6 : wa.cell? ⟨N, 6, none⟩ = some (.int .i64 0) := (blk_cell HTa.out.ob 6).trans rfl
   have f6 := blk_frozen HTa.out.ob 6
   clear hsa hka HT9s HR9s hQ
   go_wp2_with fail
   obtain ⟨was, hwas⟩ : ∃ was, wa.setCell ⟨N, 6, none⟩ (.int .i64 q) = was := ⟨_, rfl⟩
   rw [hwas]
   have HTas := Aside0.mk (show RQ w was G g N A c l p6 b6 #[.string d.f0, .int .i64 d.f1, .slice Av V.length cv, .string sc, .int .i64 kd, .string si, .int .i64 q, .slice none 0 0] from by
    rw [← hwas]
    have h := HTa.out.setN 6 (.int .i64 q)
    simp only [List.setIfInBounds_toArray, List.set_cons_zero, List.set_cons_succ] at h
    exact h)
   have HRas := Aside0.mk (R_apart HRa.out (show Keeps (fun k => k = g ∨ k = N) wa was from by
    rw [← hwas]
    exact Keeps.setCell (M := fun k => k = g ∨ k = N) (Keeps.refl _ wa) (p := ⟨N, 6, none⟩) (.inl (.inr rfl)) _) HML.out)
   clear e6 f6 hwas HTa HRa
   obtain ⟨⟨m, p7, b7⟩, hM⟩ : ∃ x, numT l 128 p6 b6 = x := ⟨_, rfl⟩
   refine (taker_number 60 g 128 (by omega) A c l p6 (!b6) m p7 (!b7) _ HTas.out.rdAt (by have h := tkNum_f l hB hlm 128 p6 b6 60 (by omega); rw [hM] at h; exact h)).mono ?_
   rintro e wd ⟨rfl, hsd, hkd⟩
   have HTd := Aside0.mk (HTas.out.after hsd hkd)
   have HRd := Aside0.mk (R_apart HRas.out hkd HML1.out)
   have HM := Aside0.mk hM
   have HRGM := Aside0.mk (show 0 ≤ m ∧ m ≤ 128 from by have h := numT_range l hB 128 p6 b6 (by omega); rw [hM] at h; exact h)
   clear hsd hkd HTas HRas hM
   obtain ⟨M, rfl⟩ : ∃ M : Nat, m = M := ⟨m.toNat, by have := HRGM.out; omega⟩
   have hml : M ≤ 128 := by have := HRGM.out.2; omega
   go_wp2
   go_loopw [10] (fun v10 wr => ∃ i : Nat, v10 = .int .i64 i ∧ i ≤ M ∧ Aside0 (∃ (p : Int) (b : Bool) (sn : List S34) (A7 : Option Addr) (c7 : Nat),
    RQ w wr G g N A c l p b #[.string d.f0, .int .i64 d.f1, .slice Av V.length cv, .string sc, .int .i64 kd, .string si, .int .i64 q, .slice A7 i c7] ∧ sn.length = i ∧ seenT l M p7 b7 [] = seenT l (M - i) p b sn ∧
    Kd.R k34 34 wr (N + 1) (fun k => some k ≠ (Value.slice A7 i c7).ownBlock) (.slice Av V.length cv) V ∧ Kd.R k34 34 wr (N + 1) (fun k => some k ≠ (Value.slice Av V.length cv).ownBlock) (.slice A7 i c7) sn)) (fun v10 _ => M - (intOf v10).toNat)
   case atStart => exact ⟨0, rfl, by omega, ⟨p7, b7, [], none, 0, HTd.out, rfl, rfl, Kd.R_mono HRd.out (fun k _ => by simp [Value.ownBlock]), Kd.R_nil _ _ _ _ _⟩⟩
   case round =>
    clear HTd HRd
    obtain ⟨i, rfl, hile, HI0⟩ := hrel
    obtain ⟨p, b, sn, A7, c7, ht, hsn, hse, hrv, hr7⟩ := HI0.out
    have HT := Aside0.mk ht
    have HSN := Aside0.mk hsn
    have HSE := Aside0.mk hse
    have HRV := Aside0.mk hrv
    have HR7 := Aside0.mk hr7
    have c2 : wr.cell? ⟨g, 2, none⟩ = some (.bool (!b)) := (blk_cell ht.rd 2).trans rfl
    clear ht hsn hse hrv hr7 HI0
    by_cases hlt : i < M ∧ b = false
    · obtain ⟨hlt, rfl⟩ := hlt
      go_wp2
      refine start_ (n := 8) (ds := [7]) (S := fun w' => w'.cell? ⟨N, 7, none⟩ = some (.slice A7 i c7)) _ (by kernel_rfl) rfl rfl ((blk_cell (blk_drew HT.out.ob) 7).trans rfl) (fun hH => ?_)
      refine XReg.pu 0 73 (h := ?_)
      refine XReg.tk 1 74 (h := ?_)
      refine XReg.pu 2 75 (h := ?_)
      have hbd : Below wr.heap.size wr wr.drew := below_drew1 (Below.refl _ wr)
      have HTd := Aside0.mk (HT.out.below hbd)
      obtain ⟨⟨dd, pp, bb⟩, hdd⟩ : ∃ x, dotT l p false = x := ⟨_, rfl⟩
      refine XReg.one (i := 3) (some 76) rfl rfl (by kernel_rfl) (by decide) (fun Kc hKc => ?_)
      refine goes_ Try.func99 (by kernel_rfl) rfl #[.pointer (some ⟨g, 0, none⟩)] (by rfl) rfl rfl (by (try simp only [List.map_toArray, List.map_cons, List.map_nil]); first | done | rfl) ?_
      refine (taker_dot 60 g A c l p true dd.f0 dd.f1 pp (!bb) _ HTd.out.rdAt (by have h := tkDot_f l hB hlm p false 60 (by omega); rw [hdd] at h; exact h)).mono ?_
      rintro e wf ⟨rfl, hsf, hkf⟩
      refine ⟨_, rfl, ?_⟩
      have HTf := Aside0.mk (HTd.out.after hsf hkf)
      have hkf' : Keeps (fun k => k = g) wr wf := (Keeps.of_below hbd).trans hkf
      have HRVf := Aside0.mk (R_apart HRV.out hkf' HML1.out)
      have HR7f := Aside0.mk (R_apart HR7.out hkf' HML1.out)
      refine hKc.out _ _ ((blk_cell HTf.out.ob 7).trans rfl) (fun hH2 => ?_)
      clear hKc Kc hH hsf hkf hkf' hbd HTd HT HRV HR7
      refine XReg.one (i := 4) (some 77) rfl rfl (by kernel_rfl) (by decide) (fun Kc hKc => ?_)
      go_simp
      refine hKc.out _ _ ((blk_cell (blk_alloc HTf.out.ob _) 7).trans rfl) (fun hH3 => ?_)
      clear hKc Kc hH2 hH3
      have hsnl := HSN.out
      refine XReg.one (i := 5) (some 78) rfl rfl (by kernel_rfl) (by decide) (fun Kc hKc => ?_)
      refine Kd.R_append_step k34 (w0 := wf) (N + 1) (by rfl) (.tmp 74) (.tmp 77) 23 34 _ 24 rfl Try.underlying23 info34 rfl (by decide) (by omega) _ sn dd [.string dd.f0, .int .i64 dd.f1] (fun k => some k ≠ (Value.slice Av V.length cv).ownBlock) (fun _ => False) rfl rfl (k34_mkM _ _ _ dd) (fun _ h => h.elim)
       (fun k hk e => by have := Kd.R_lt HRVf.out k e.symm; omega) HR7f.out (Below.refl _ _) (blk_lt HTf.out.ob) (by omega) (fun v1 wg hr1 _ hg1 hat1 => ?_)
      have HTg := Aside0.mk (HTf.out.grown hg1 (fun k hk => ((Kd.R_bound HR7f.out).1 k hk).2.1))
      have HRVg := Aside0.mk (show Kd.R k34 34 wg (N + 1) (fun k => some k ≠ v1.ownBlock) (.slice Av V.length cv) V from
       Kd.R_mono (Kd.R_grown (Kd.R_bound HRVf.out) hg1 (fun k hk => hk.1)) (fun k hk => by
        rcases hat1 with h | ⟨b, h, hlt⟩
        · rw [h]; exact hk.1
        · rw [h]; intro e; cases e; have := hk.2.2.1; omega))
      obtain ⟨A1, d1, rfl⟩ := Kd.R_slice hr1
      have hln : (sn ++ [dd]).length = i + 1 := by simp [hsnl]
      rw [hln] at hr1 HRVg
      have HR7g := Aside0.mk hr1
      refine hKc.out _ _ ((blk_cell HTg.out.ob 7).trans rfl) (fun hH4 => ?_)
      clear hKc Kc hr1 hg1 hat1 HTf HRVf HR7f
      have e7 : wg.cell? ⟨N, 7, none⟩ = some (.slice A7 i c7) := (blk_cell HTg.out.ob 7).trans rfl
      have f7 := blk_frozen HTg.out.ob 7
      refine XReg.pu 6 79 (h := ?_)
      refine XReg.last (i := 7) none rfl rfl (by kernel_rfl) (by decide) (fun Kc hKc => ?_)
      refine skip_ (w1 := ?_) (by rfl) rfl ?_ ?_
      rotate_left
      · go_simp
        rfl
      refine hKc.out _ _ ?_
      clear hKc Kc
      refine done_ (by kernel_rfl) ?_
      clear hH4 e7 f7
      rw [hln]
      obtain ⟨wh, hwh⟩ : ∃ wh, wg.setCell ⟨N, 7, none⟩ (.slice A1 (i + 1) d1) = wh := ⟨_, rfl⟩
      rw [hwh]
      have HTh := Aside0.mk (show RQ w wh G g N A c l pp bb #[.string d.f0, .int .i64 d.f1, .slice Av V.length cv, .string sc, .int .i64 kd, .string si, .int .i64 q, .slice A1 (i + 1) d1] from by
       rw [← hwh]
       have h := HTg.out.setN 7 (.slice A1 (i + 1) d1)
       simp only [List.setIfInBounds_toArray, List.set_cons_zero, List.set_cons_succ] at h
       exact h)
      have hkh : Keeps (fun k => k = g ∨ k = N) wg wh := by
       rw [← hwh]
       exact Keeps.setCell (M := fun k => k = g ∨ k = N) (Keeps.refl _ wg) (p := ⟨N, 7, none⟩) (.inl (.inr rfl)) _
      have HRVh := Aside0.mk (R_apart HRVg.out hkh HML.out)
      have HR7h := Aside0.mk (R_apart HR7g.out hkh HML.out)
      have HSEh := Aside0.mk (show seenT l M p7 b7 [] = seenT l (M - (i + 1)) pp bb (sn ++ [dd]) from by
       rw [HSE.out, show M - i = (M - (i + 1)) + 1 by omega, seenT_s, hdd])
      have HLNh := Aside0.mk hln
      clear hkh hwh HTg HRVg HR7g hln hdd HSE HSN
      go_wp2
      go_round
      case rel => exact ⟨i + 1, by go_num, by omega, ⟨pp, bb, sn ++ [dd], A1, d1, HTh.out, HLNh.out, HSEh.out, HRVh.out, HR7h.out⟩⟩
      case measure => simp [intOf]; omega
    · have hcase : (i < M ∧ b = true) ∨ ¬ i < M := by
       by_cases h1 : i < M
       · exact .inl ⟨h1, by cases b with | true => rfl | false => exact absurd ⟨h1, rfl⟩ hlt⟩
       · exact .inr h1
      have hzz : seenT l M p7 b7 [] = (sn, p, b) := by
       rw [HSE.out]
       rcases hcase with ⟨_, h⟩ | h
       · rw [h, seenT_bad]
       · rw [show M - i = 0 by omega]; rfl
      have zz : refO l = if (b = true ∨ rightO ⟨d, V, sc, kd, si, q, sn⟩ = false ∨ p ≠ (l.length : Int)) then (z36, 80) else (⟨d, V, sc, kd, si, q, sn⟩, 0) := by
       unfold refO
       rw [HD.out]
       dsimp only
       rw [HV.out]
       dsimp only
       rw [if_neg HBAD.out, HC.out]
       dsimp only
       rw [HI.out]
       dsimp only
       rw [HK.out]
       dsimp only
       rw [HQ.out]
       dsimp only
       rw [HM.out]
       dsimp only
       rw [Int.toNat_natCast, hzz]
      have ZZ := Aside0.mk zz
      have HZS := Aside0.mk (show sizes 1000 sn from by
       have h := seenT_sizes l hB M p7 b7 [] (fun x hx => by cases hx)
       rw [hzz] at h
       exact h)
      have HZV := Aside0.mk (show sizes 1000 V from by
       have h := vec_is_at hB (show (vecS l p1).2.2 = 0 by rw [HV.out])
       rw [HV.out] at h
       intro x hx
       have := (right_fine h.1 x hx).1
       show x.f0.size ≤ 1000
       omega)
      have HZD := Aside0.mk (show d.f0.size ≤ 1000 from by
       have h := texD_size l hB 0 false
       have h2 : (dotT l 0 false).1.f0 = d.f0 := by rw [HD.out]
       have h3 : (texD l 0 false).1 = d.f0 := h2
       rw [h3] at h
       omega)
      have hsn := HSN.out
      clear zz hzz HSE HSN hlt
      subst hsn
      have HGd := Aside0.mk HT.out.gb
      have HBd := Aside0.mk HT.out.bl
      have HGW := Aside0.mk HT.out.lw
      obtain ⟨n0, n1, n2, n3, n4, n5, n6, n7⟩ := cells8 HT.out.ob
      obtain ⟨br, hbr⟩ : ∃ br, rightO ⟨d, V, sc, kd, si, q, sn⟩ = br := ⟨_, rfl⟩
      have HBR := Aside0.mk hbr
      clear hbr
      rcases hcase with ⟨h1, hbt⟩ | h1
      all_goals
       go_wp2_with fail
       refine (refRightO_calls ⟨d, V, sc, kd, si, q, sn⟩ Av cv A7 c7 _ (Kd.R_reads' HRV.out).2.1 (Kd.R_reads' HRV.out).2.2 (Kd.R_reads' HR7.out).2.1 (Kd.R_reads' HR7.out).2.2 1000 (by omega) HZD.out HZV.out HZS.out).mono ?_
       rw [HBR.out]
       rintro e wz ⟨rfl, hbz⟩
       have HTz := Aside0.mk (HT.out.below hbz)
       have HRVz := Aside0.mk (Kd.R_below HRV.out hbz)
       have HR7z := Aside0.mk (Kd.R_below HR7.out hbz)
       have c1 : wz.cell? ⟨g, 1, none⟩ = some (.int .i64 p) := (blk_cell HTz.out.rd 1).trans rfl
       have c2z : wz.cell? ⟨g, 2, none⟩ = some (.bool (!b)) := (blk_cell HTz.out.rd 2).trans rfl
       clear hbz n0 n1 n2 n3 n4 n5 n6 n7 c2 HGd HBd HT HRV HR7
       obtain ⟨n0, n1, n2, n3, n4, n5, n6, n7⟩ := cells8 HTz.out.ob
       have HGd := Aside0.mk HTz.out.gb
       have HBd := Aside0.mk HTz.out.bl
       obtain ⟨e0, e1, e2, e3, e4, e5, e6, e7⟩ := cells8 HGd.out
       have f0 := blk_frozen HGd.out 0
       have f1 := blk_frozen HGd.out 1
       have f2 := blk_frozen HGd.out 2
       have f3 := blk_frozen HGd.out 3
       have f4 := blk_frozen HGd.out 4
       have f5 := blk_frozen HGd.out 5
       have f6 := blk_frozen HGd.out 6
       have f7 := blk_frozen HGd.out 7
       by_cases hbp : b = true ∨ br = false ∨ p ≠ (l.length : Int)
       · have Z0 := Aside0.mk (show refO l = (z36, 80) from by rw [ZZ.out, HBR.out, if_pos hbp])
         have hcz : b = true ∨ (b = false ∧ br = false) ∨ (b = false ∧ br = true ∧ (p != (s.size : Int)) = true ∧ (p != (l.length : Int)) = true) := by
          cases b with
          | true => exact .inl rfl
          | false =>
            cases br with
            | false => exact .inr (.inl ⟨rfl, rfl⟩)
            | true =>
              rcases hbp with h | h | h
              · cases h
              · cases h
              · exact .inr (.inr ⟨rfl, rfl, by rw [hsl]; simpa using h, by simpa using h⟩)
         clear hbp
         rcases hcz with hq | ⟨hq, hq2⟩ | ⟨hq, hq2, hps, hps'⟩
         all_goals
          try rw [hq] at c2z
          try rw [hq2]
          go_wp2
          have h8 := set8 HGd.out (.string ⟨#[]⟩) (.int .i64 0) (.slice none 0 0) (.string ⟨#[]⟩) (.int .i64 0) (.string ⟨#[]⟩) (.int .i64 0) (.slice none 0 0)
          obtain ⟨k0, k1, k2, k3, k4, k5, k6, k7⟩ := cells8 h8
          have hk := below_keeps HBd.out (M := fun k => k = G) (fun k hk => by subst hk; exact HGW.out) HBd.out.size (keeps8 _ G (.string ⟨#[]⟩) (.int .i64 0) (.slice none 0 0) (.string ⟨#[]⟩) (.int .i64 0) (.string ⟨#[]⟩) (.int .i64 0) (.slice none 0 0))
          try rw [hl]
          rw [Z0.out]
          try rw [hG] at hk
          try rw [hG]
          exact bodyPost_ret (v := .tuple #[.agg #[.string ⟨#[]⟩, .int .i64 0, .slice none 0 0, .string ⟨#[]⟩, .int .i64 0, .string ⟨#[]⟩, .int .i64 0, .slice none 0 0], .int .i64 80]) (by simp [results, Try.f44, go_sem, k0, k1, k2, k3, k4, k5, k6, k7]) rfl ⟨.slice none 0 0, .slice none 0 0, rfl, Kd.R_nil _ _ _ _ _, Kd.R_nil _ _ _ _ _, hk⟩
       · have hb0 : b = false := by cases b with | false => rfl | true => exact absurd (Or.inl rfl) hbp
         have hr0 : br = true := by cases br with | true => rfl | false => exact absurd (Or.inr (Or.inl rfl)) hbp
         have hpl : p = (l.length : Int) := Classical.byContradiction (fun h => hbp (Or.inr (Or.inr h)))
         have hps : (p != (s.size : Int)) = false := by rw [hsl, hpl]; simp
         have Z0 := Aside0.mk (show refO l = (⟨d, V, sc, kd, si, q, sn⟩, 0) from by rw [ZZ.out, HBR.out, if_neg hbp])
         clear hbp
         rw [hb0] at c2z
         rw [hr0]
         go_wp2
         have h8 := set8 HGd.out (.string d.f0) (.int .i64 d.f1) (.slice Av V.length cv) (.string sc) (.int .i64 kd) (.string si) (.int .i64 q) (.slice A7 sn.length c7)
         obtain ⟨k0, k1, k2, k3, k4, k5, k6, k7⟩ := cells8 h8
         have hkG := keeps8 wz G (.string d.f0) (.int .i64 d.f1) (.slice Av V.length cv) (.string sc) (.int .i64 kd) (.string si) (.int .i64 q) (.slice A7 sn.length c7)
         have hk := below_keeps HBd.out (M := fun k => k = G) (fun k hk => by subst hk; exact HGW.out) HBd.out.size hkG
         have hlo : ∀ k, k = G → k < N + 1 := fun k hk => by have := HGG.out; have := HNg.out; omega
         have hGN : w.heap.size ≤ N + 1 := by have := HGG.out; have := HNg.out; have := HGW.out; omega
         have rv := Kd.R_lower (Kd.R_mono (R_apart HRVz.out hkG hlo) (ok' := fun _ => True) (fun _ _ => trivial)) hGN
         have r7 := Kd.R_lower (Kd.R_mono (R_apart HR7z.out hkG hlo) (ok' := fun _ => True) (fun _ _ => trivial)) hGN
         try rw [hl]
         rw [Z0.out]
         try rw [hG] at hk rv r7
         try rw [hG]
         exact bodyPost_ret (v := .tuple #[.agg #[.string d.f0, .int .i64 d.f1, .slice Av V.length cv, .string sc, .int .i64 kd, .string si, .int .i64 q, .slice A7 sn.length c7], .int .i64 0]) (by simp [results, Try.f44, go_sem, k0, k1, k2, k3, k4, k5, k6, k7]) rfl ⟨.slice Av V.length cv, .slice A7 sn.length c7, rfl, rv, r7, hk⟩
end Go.Proofs.Ytenbkljgmgdegaa.PO
end
section
namespace Go.Proofs.Ytenbkljgmgdegaa.PO
open Go.RowKit Go.Proofs.YtenbkljgmgdegaaW.PrintWords Go.Proofs.YtenbkljgmgdegaaW.PrintLast Go.Proofs.YtenbkljgmgdegaaW.PrintMore
attribute [local go_sem] max2_int min2_int max_two min_two max_three min_three max_four min_four   -- for this text's walks alone
set_option linter.unusedVariables false
set_option linter.unusedSimpArgs false
def rd_L7 (xs : List (List Int)) (i : Int) : (List Int) := xs.getD i.toNat ([] : List Int)
theorem at_L7 {w : World} {A : Option Addr} {n : Nat} {xs : List (List Int)} (h : Kd.C (Kd.slice 5 (Kd.int .u8)) w A n xs) (i : Int) (h0 : 0 ≤ i) (h1 : i < n) : ∃ ad A0 c0, A = some ad ∧ w.cell? (ad.add i.toNat) = some (.slice A0 (rd_L7 xs i).length c0) ∧ (rd_L7 xs i).length ≤ c0 ∧ (Kd.int .u8).C w A0 (rd_L7 xs i).length (rd_L7 xs i) := by
 obtain ⟨ad, c, e, _, hK, hc0⟩ := Kd.C_get h ([] : List Int) i h0 h1
 have hc : ∀ j u, c[j]? = some u → w.cell? (ad.add (i.toNat * 1 + j)) = some u := hc0
 obtain ⟨A0, c0, rfl, l0, g0⟩ := hK
 exact ⟨ad, A0, c0, e, by have hq := hc 0 _ rfl; rwa [Nat.mul_one, Nat.add_zero] at hq, l0, g0⟩
end Go.Proofs.Ytenbkljgmgdegaa.PO
end
