/- What the rows of this claim use, out of the texts of this work (UPOx3). No condition beyond those that each statement names. -/
import Derived.WalkKit
import Derived.WalkMore
import Derived.WalkSpells
import Derived.Lib.SliceRun
import Derived.Laws.RangeAny
import Derived.RangeFuncNested
import Derived.RangeFuncBound
import Derived.RangeFuncCalls
import Derived.RangeFuncLeaves
import Derived.RangeFuncKeeps
import Derived.Shelf.Abstract
import Derived.Shelf.RegionOpen
import Derived.OwnWalkIn
import Derived.TacticsInMore
import Derived.LoopNIn
import Derived.LoopIn
import Derived.Deep.RegionHeld
import Derived.Lib.ConvBytes
import Derived.Laws.IdiomRangeMap
import Derived.MapKept
import Derived.Deep.Slices
import Derived.Deep.Fields
import Derived.ChangeSame
import Derived.ProofKit
import Derived.KernelRfl
import Derived.Below
import Derived.Deep.Draws
import Derived.Deep.AppendLies
import Derived.Maps.AppendAt
import Derived.OwnWalk
import Derived.Laws.BytesArg
import Derived.Laws.MakeOwn
import Derived.Laws.OwnMore
import Derived.Deep.OwnRows
import Derived.Tactics
import Derived.Laws.Slices
import Derived.RowKit3
import Derived.Deep.LoopGhost
import Derived.Deep.QuietTactic
import Derived.BigQuiet
import Derived.WideLaws
import Derived.Deep.DeepCutAuto
import Derived.Deep.CutBlock
import Derived.Deep.RegionHeld3
import Derived.Laws.Rows
import Derived.Lib.AppendStr
import Derived.ArgAppend
import Derived.Laws.IdiomCopy
import Derived.RowKit
import Derived.OrdersHeld
import Derived.Laws.BitsLemmas
import Derived.Laws.StructEq
import Derived.Test.YtjejhgjdmbodiaaZdW
import Derived.Test.YtjejhgjdmbodiaaZdX
import Derived.Test.YtjejhgjdmbodiaaZdUPOx0
section
namespace Go.Proofs.Ytjejhgjdmbodiaa.PO
open Go.Proofs.Ytjejhgjdmbodiaa
open Go.RowKit Go.Proofs.YtjejhgjdmbodiaaW.PrintWords Go.Proofs.YtjejhgjdmbodiaaW.PrintLast Go.Proofs.YtjejhgjdmbodiaaW.PrintMore
attribute [local go_sem] max2_int min2_int max_two min_two max_three min_three max_four min_four   -- for this text's walks alone
set_option linter.unusedVariables false
set_option linter.unusedSimpArgs false
abbrev bqaaPOx3_0 : Array Bool := #[false, false, false, false, false, false, false, false, false, false, false, false, false, false, false, false]
abbrev bqaaPOx3_2 : Array Bool := #[true, true, false, false, false, false, false, false, false, false, false, false, false, false, false, false]
abbrev bqaaPOx3_5 : Array Bool := #[true, true, true, true, true, false, false, false, false, false, false, false, false, false, false, false]
abbrev bqaaPOx3_11 : Array Bool := #[true, true, true, true, true, true, true, true, true, true, true, true, true, false, false, false]
def vector_Has.f (k : Nat) (l0 : List (S72)) (a1_0 : ByteArray) (a1_1 : Int) : Option (Bool) := (vector_Right.f k l0).bind fun t112 => (if t112 = true then ((vector_isDot.f a1_0 a1_1).bind fun t113 => (if t113 = true then ((vector_at.f l0 a1_0).bind fun t114 => (some (decide (a1_1 ≤ t114)))) else (some false))) else (some false))
def vector_Has.T1 : Bool × List (List Nat × List Nat) := (true, [([], []), ([0], [0]), ([1, 1], [1]), ([2], [2]), ([3, 2, 2], [2, 3]), ([2, 4], [2, 4]), ([5, 4], [5]), ([6], [6]), ([7, 6], [6, 7]), ([6], [6]), ([6], [6]), ([10, 6], [6, 10]), ([9, 11, 6, 6], [6, 9, 11]), ([8, 12, 6], [6, 8, 12]), ([6, 13], [6, 13]), ([14, 12, 0, 1, 2, 3, 4, 5, 6, 7, 8, 9, 10, 11, 12, 13, 14], [14])])
def vector_Has.B1 : List Nat := [0, 1, 3, 7, 15, 31, 63, 127, 255, 127, 127, 1151, 3711, 8191, 16383, 32767]
theorem vector_Has.tab1 : rtab .any (opsOf Try.f68 1) = vector_Has.T1 := by kernel_rfl
theorem vector_Has.bits1 : waitsOk vector_Has.T1.2 vector_Has.B1 = true := by kernel_rfl
set_option maxHeartbeats 8000000 in
set_option maxRecDepth 100000 in
theorem vector_Has.calls (k : Nat) (A0 : Option Addr) (c0 : Nat) (l0 : List (S72)) (a1_0 : ByteArray) (a1_1 : Int) (r : Bool) (w : World) (hr0 : Kd.C k72 w A0 l0.length l0) (hc0 : l0.length ≤ c0) (h : vector_Has.f k l0 a1_0 a1_1 = some r) :
 Calls Try.prog 68 #[.slice A0 l0.length c0, .agg #[.string a1_0, .int .i64 a1_1]] w fun e w' => e = .returned (.bool r) ∧ Below w.heap.size w w' := by
 have hu34 := Try.underlying72
 have HR0 := Aside0.mk hr0
 have HC0 := Aside0.mk hc0
 clear hr0 hc0
 have HB := Aside0.mk (Below.refl w.heap.size w)
 have H : ((vector_Right.f k l0).bind fun t112 => (if t112 = true then ((vector_isDot.f a1_0 a1_1).bind fun t113 => (if t113 = true then ((vector_at.f l0 a1_0).bind fun t114 => (some (decide (a1_1 ≤ t114)))) else (some false))) else (some false))) = some r := h
 clear h
 replace H := Option.bind_eq_some_iff.mp H
 obtain ⟨t112, A30, H⟩ := H
 replace H : (if t112 = true then ((vector_isDot.f a1_0 a1_1).bind fun t113 => (if t113 = true then ((vector_at.f l0 a1_0).bind fun t114 => (some (decide (a1_1 ≤ t114)))) else (some false))) else (some false)) = some r := H
 have A3 := Aside0.mk A30
 clear A30
 by_cases c4 : t112 = true
 · subst c4
   have H1 : ((vector_isDot.f a1_0 a1_1).bind fun t113 => (if t113 = true then ((vector_at.f l0 a1_0).bind fun t114 => (some (decide (a1_1 ≤ t114)))) else (some false))) = some r := by rw [if_pos rfl] at H; exact H
   clear H
   have H := H1
   clear H1
   replace H := Option.bind_eq_some_iff.mp H
   obtain ⟨t113, A50, H⟩ := H
   replace H : (if t113 = true then ((vector_at.f l0 a1_0).bind fun t114 => (some (decide (a1_1 ≤ t114)))) else (some false)) = some r := H
   have A5 := Aside0.mk A50
   clear A50
   by_cases c6 : t113 = true
   · subst c6
     have H1 : ((vector_at.f l0 a1_0).bind fun t114 => (some (decide (a1_1 ≤ t114)))) = some r := by rw [if_pos rfl] at H; exact H
     clear H
     have H := H1
     clear H1
     replace H := Option.bind_eq_some_iff.mp H
     obtain ⟨t114, A70, H⟩ := H
     replace H : (some (decide (a1_1 ≤ t114))) = some r := H
     have A7 := Aside0.mk A70
     clear A70
     obtain rfl := Option.some.inj H
     go_enter Try.func68, Try.ntmps68
     try go_wp2_with (first | ((with_reducible refine gate_dst (N := 3) rfl ?_); refine box_event ?hg (N := 3) ?hd (cs := #[.string a1_0, .int .i64 a1_1]) (t := 72) ?hr ?_; (case hd => rfl); (case hg => rfl); (case hr => first | (go_simp; done) | (go_simp; rfl)); intro gb111 hg w8 hbox hb; have n0_ := Aside0.mk (below_step (by repeat (first | (with_reducible first | exact HB.out | apply below_alloc | apply pw_below_drewN | apply below_drew1) | exact HB.out)) hb); have n1_ := Aside0.mk (hbox); have n2_ := Aside0.mk ((by rw [hg]; exact (below_size (by repeat (first | (with_reducible first | exact HB.out | apply below_alloc | apply pw_below_drewN | apply below_drew1) | exact HB.out))) : w.heap.size ≤ gb111)); have n3_ := Aside0.mk ((by rw [hg]; exact (below_size (by repeat (first | (with_reducible first | exact HB.out | apply below_alloc | apply pw_below_drewN | apply below_drew1) | exact HB.out))) : w.heap.size ≤ gb111)); clear HB; have HB := n0_; have BK111 := n1_; have GW111 := n2_; have GE111 := n3_; clear n0_ n1_ n2_ n3_; clear hb hbox hg))
     have n0_ := Aside0.mk (blk_drew BK111.out)
     have n1_ := Aside0.mk (below_drew1 HB.out)
     clear BK111
     clear HB
     have BK111 := n0_
     have HB := n1_
     clear n0_ n1_
     refine start_ (n := 16) (S := fun w' => w'.cell? ⟨gb111, 0, none⟩ = some (.string a1_0) ∧ w'.cell? ⟨gb111, 1, none⟩ = some (.int .i64 a1_1)) (ds := []) bqaaPOx3_0 (by kernel_rfl) rfl rfl ⟨(blk_cell BK111.out 0).trans rfl, (blk_cell BK111.out 1).trans rfl⟩ (fun hHeld => ?_); refine with_tabW vector_Has.tab1 vector_Has.bits1 (fun HT_ HW_ => ?_)
     generalize w8.drew = w9 at BK111 HB hHeld ⊢
     refine XReg.pu 0 5 (h := ?_)
     refine one_ (i := 1) (N := some 6) bqaaPOx3_2 rfl rfl (_root_.Go.Proofs.YtjejhgjdmbodiaaW.PrintLast.one_of HT_.out (by kernel_rfl)) (by decide) (fun K hK => ?_)
     refine goes_ Try.func65 (by kernel_rfl) rfl #[.slice A0 l0.length c0] (by rfl) rfl rfl (by (try simp only [List.map_toArray, List.map_cons, List.map_nil]); first | done | rfl | (simp only [List.length_drop, List.length_take]; rfl)) ?_
     with_reducible refine (vector_Right.calls k _ _ l0 true _ ?side1 ?side2 A3.out).mono ?_
     (case side1 => repeat (first | exact (Kd.C_below HR0.out HB.out) | (with_reducible refine Kd.C_alloc ?_ _) | (with_reducible refine Kd.C_drewN ?_ _) | (with_reducible refine Kd.C_drew ?_)))
     (case side2 => exact HC0.out)
     rintro e w10 ⟨rfl, hb⟩
     refine ⟨_, rfl, ?_⟩
     have n0_ := Aside0.mk (blk_below (g := gb111) (o := .cells #[.string a1_0, .int .i64 a1_1] 72 (0, 0)) (by (with_reducible repeat (first | refine blk_drewN ?_ _ | refine blk_drew ?_ | refine blk_alloc ?_ _)); exact BK111.out) hb)
     have n1_ := Aside0.mk (below_step (by repeat (first | (with_reducible first | exact HB.out | apply below_alloc | apply pw_below_drewN | apply below_drew1 | refine below_set ?_ GE111.out) | exact HB.out)) hb)
     clear BK111
     clear HB
     have BK111 := n0_
     have HB := n1_
     clear n0_ n1_
     (try clear hb)
     (try clear hb2)
     (try clear hk)
     (try clear hi)
     refine hK.out _ _ ⟨(blk_cell BK111.out 0).trans rfl, (blk_cell BK111.out 1).trans rfl⟩ (fun hHeld => ?_)
     clear hK K
     refine norm_ (a' := ?_) ?_ ?_
     rotate_left
     · show Act.put _ (some 6) _ = _
       simp only [Act.put, List.setIfInBounds_toArray, List.set_cons_zero, List.set_cons_succ, i64_w, i32_w]
       rfl
     refine XReg.pu 2 7 (h := ?_)
     refine XReg.tk 3 8 (hS := hHeld) (h := ?_)
     refine one_ (i := 4) (N := some 9) bqaaPOx3_5 rfl rfl (_root_.Go.Proofs.YtjejhgjdmbodiaaW.PrintLast.one_of HT_.out (by kernel_rfl)) (by decide) (fun K hK => ?_)
     refine goes_ Try.func90 (by kernel_rfl) rfl #[.agg #[.string a1_0, .int .i64 a1_1]] (by rfl) rfl rfl (by (try simp only [List.map_toArray, List.map_cons, List.map_nil]); first | done | rfl | (simp only [List.length_drop, List.length_take]; rfl)) ?_
     with_reducible refine (vector_isDot.calls a1_0 a1_1 true _ A5.out).mono ?_
     rintro e w11 ⟨rfl, hb⟩
     refine ⟨_, rfl, ?_⟩
     have n0_ := Aside0.mk (blk_below (g := gb111) (o := .cells #[.string a1_0, .int .i64 a1_1] 72 (0, 0)) (by (with_reducible repeat (first | refine blk_drewN ?_ _ | refine blk_drew ?_ | refine blk_alloc ?_ _)); exact BK111.out) hb)
     have n1_ := Aside0.mk (below_step (by repeat (first | (with_reducible first | exact HB.out | apply below_alloc | apply pw_below_drewN | apply below_drew1 | refine below_set ?_ GE111.out) | exact HB.out)) hb)
     clear BK111
     clear HB
     have BK111 := n0_
     have HB := n1_
     clear n0_ n1_
     (try clear hb)
     (try clear hb2)
     (try clear hk)
     (try clear hi)
     refine hK.out _ _ ⟨(blk_cell BK111.out 0).trans rfl, (blk_cell BK111.out 1).trans rfl⟩ (fun hHeld => ?_)
     clear hK K
     refine norm_ (a' := ?_) ?_ ?_
     rotate_left
     · show Act.put _ (some 9) _ = _
       simp only [Act.put, List.setIfInBounds_toArray, List.set_cons_zero, List.set_cons_succ, i64_w, i32_w]
       rfl
     refine XReg.pu 5 10 (h := ?_)
     refine XReg.pu 6 11 (h := ?_)
     refine XReg.pu 7 12 (h := ?_)
     refine XReg.pu 9 14 (h := ?_)
     refine XReg.pu 10 15 (h := ?_)
     refine XReg.tk 8 13 (hS := hHeld) (h := ?_)
     refine XReg.tk 11 16 (hS := hHeld) (h := ?_)
     refine one_ (i := 12) (N := some 17) bqaaPOx3_11 rfl rfl (_root_.Go.Proofs.YtjejhgjdmbodiaaW.PrintLast.one_of HT_.out (by kernel_rfl)) (by decide) (fun K hK => ?_)
     refine goes_ Try.func91 (by kernel_rfl) rfl #[.slice A0 l0.length c0, .string a1_0] (by rfl) rfl rfl (by (try simp only [List.map_toArray, List.map_cons, List.map_nil]); first | done | rfl | (simp only [List.length_drop, List.length_take]; rfl)) ?_
     with_reducible refine (vector_at.calls _ _ l0 a1_0 t114 _ ?side1 ?side2 A7.out).mono ?_
     (case side1 => repeat (first | exact (Kd.C_below HR0.out HB.out) | (with_reducible refine Kd.C_alloc ?_ _) | (with_reducible refine Kd.C_drewN ?_ _) | (with_reducible refine Kd.C_drew ?_)))
     (case side2 => exact HC0.out)
     rintro e w12 ⟨rfl, hb⟩
     refine ⟨_, rfl, ?_⟩
     have n0_ := Aside0.mk (blk_below (g := gb111) (o := .cells #[.string a1_0, .int .i64 a1_1] 72 (0, 0)) (by (with_reducible repeat (first | refine blk_drewN ?_ _ | refine blk_drew ?_ | refine blk_alloc ?_ _)); exact BK111.out) hb)
     have n1_ := Aside0.mk (below_step (by repeat (first | (with_reducible first | exact HB.out | apply below_alloc | apply pw_below_drewN | apply below_drew1 | refine below_set ?_ GE111.out) | exact HB.out)) hb)
     clear BK111
     clear HB
     have BK111 := n0_
     have HB := n1_
     clear n0_ n1_
     (try clear hb)
     (try clear hb2)
     (try clear hk)
     (try clear hi)
     refine hK.out _ _ ⟨(blk_cell BK111.out 0).trans rfl, (blk_cell BK111.out 1).trans rfl⟩ (fun hHeld => ?_)
     clear hK K
     refine norm_ (a' := ?_) ?_ ?_
     rotate_left
     · show Act.put _ (some 17) _ = _
       simp only [Act.put, List.setIfInBounds_toArray, List.set_cons_zero, List.set_cons_succ, i64_w, i32_w]
       rfl
     refine XReg.pu 13 18 (h := ?_)
     refine XReg.pu 14 19 (h := ?_)
     refine XReg.pu 15 4 (h := ?_)
     refine done_ (done_of HT_.out (by kernel_rfl)) ?_
     try go_wp2
     go_ret
     exact ⟨by first | rfl | (simp [errW_none, errW_some] <;> rfl) | (simp [*, errW_none, errW_some] <;> rfl), by repeat (first | (with_reducible first | exact HB.out | apply below_alloc | apply pw_below_drewN | apply below_drew1 | refine below_set ?_ GE111.out) | exact HB.out)⟩
   · replace c6 := Bool.eq_false_iff.mpr c6
     subst c6
     have H1 : (some false) = some r := by rw [if_neg (show ¬ (false = true) by decide)] at H; exact H
     clear H
     have H := H1
     clear H1
     obtain rfl := Option.some.inj H
     go_enter Try.func68, Try.ntmps68
     try go_wp2_with (first | ((with_reducible refine gate_dst (N := 3) rfl ?_); refine box_event ?hg (N := 3) ?hd (cs := #[.string a1_0, .int .i64 a1_1]) (t := 72) ?hr ?_; (case hd => rfl); (case hg => rfl); (case hr => first | (go_simp; done) | (go_simp; rfl)); intro gb111 hg w13 hbox hb; have n0_ := Aside0.mk (below_step (by repeat (first | (with_reducible first | exact HB.out | apply below_alloc | apply pw_below_drewN | apply below_drew1) | exact HB.out)) hb); have n1_ := Aside0.mk (hbox); have n2_ := Aside0.mk ((by rw [hg]; exact (below_size (by repeat (first | (with_reducible first | exact HB.out | apply below_alloc | apply pw_below_drewN | apply below_drew1) | exact HB.out))) : w.heap.size ≤ gb111)); have n3_ := Aside0.mk ((by rw [hg]; exact (below_size (by repeat (first | (with_reducible first | exact HB.out | apply below_alloc | apply pw_below_drewN | apply below_drew1) | exact HB.out))) : w.heap.size ≤ gb111)); clear HB; have HB := n0_; have BK111 := n1_; have GW111 := n2_; have GE111 := n3_; clear n0_ n1_ n2_ n3_; clear hb hbox hg))
     have n0_ := Aside0.mk (blk_drew BK111.out)
     have n1_ := Aside0.mk (below_drew1 HB.out)
     clear BK111
     clear HB
     have BK111 := n0_
     have HB := n1_
     clear n0_ n1_
     refine start_ (n := 16) (S := fun w' => w'.cell? ⟨gb111, 0, none⟩ = some (.string a1_0) ∧ w'.cell? ⟨gb111, 1, none⟩ = some (.int .i64 a1_1)) (ds := []) bqaaPOx3_0 (by kernel_rfl) rfl rfl ⟨(blk_cell BK111.out 0).trans rfl, (blk_cell BK111.out 1).trans rfl⟩ (fun hHeld => ?_); refine with_tabW vector_Has.tab1 vector_Has.bits1 (fun HT_ HW_ => ?_)
     generalize w13.drew = w14 at BK111 HB hHeld ⊢
     refine XReg.pu 0 5 (h := ?_)
     refine one_ (i := 1) (N := some 6) bqaaPOx3_2 rfl rfl (_root_.Go.Proofs.YtjejhgjdmbodiaaW.PrintLast.one_of HT_.out (by kernel_rfl)) (by decide) (fun K hK => ?_)
     refine goes_ Try.func65 (by kernel_rfl) rfl #[.slice A0 l0.length c0] (by rfl) rfl rfl (by (try simp only [List.map_toArray, List.map_cons, List.map_nil]); first | done | rfl | (simp only [List.length_drop, List.length_take]; rfl)) ?_
     with_reducible refine (vector_Right.calls k _ _ l0 true _ ?side1 ?side2 A3.out).mono ?_
     (case side1 => repeat (first | exact (Kd.C_below HR0.out HB.out) | (with_reducible refine Kd.C_alloc ?_ _) | (with_reducible refine Kd.C_drewN ?_ _) | (with_reducible refine Kd.C_drew ?_)))
     (case side2 => exact HC0.out)
     rintro e w15 ⟨rfl, hb⟩
     refine ⟨_, rfl, ?_⟩
     have n0_ := Aside0.mk (blk_below (g := gb111) (o := .cells #[.string a1_0, .int .i64 a1_1] 72 (0, 0)) (by (with_reducible repeat (first | refine blk_drewN ?_ _ | refine blk_drew ?_ | refine blk_alloc ?_ _)); exact BK111.out) hb)
     have n1_ := Aside0.mk (below_step (by repeat (first | (with_reducible first | exact HB.out | apply below_alloc | apply pw_below_drewN | apply below_drew1 | refine below_set ?_ GE111.out) | exact HB.out)) hb)
     clear BK111
     clear HB
     have BK111 := n0_
     have HB := n1_
     clear n0_ n1_
     (try clear hb)
     (try clear hb2)
     (try clear hk)
     (try clear hi)
     refine hK.out _ _ ⟨(blk_cell BK111.out 0).trans rfl, (blk_cell BK111.out 1).trans rfl⟩ (fun hHeld => ?_)
     clear hK K
     refine norm_ (a' := ?_) ?_ ?_
     rotate_left
     · show Act.put _ (some 6) _ = _
       simp only [Act.put, List.setIfInBounds_toArray, List.set_cons_zero, List.set_cons_succ, i64_w, i32_w]
       rfl
     refine XReg.pu 2 7 (h := ?_)
     refine XReg.tk 3 8 (hS := hHeld) (h := ?_)
     refine one_ (i := 4) (N := some 9) bqaaPOx3_5 rfl rfl (_root_.Go.Proofs.YtjejhgjdmbodiaaW.PrintLast.one_of HT_.out (by kernel_rfl)) (by decide) (fun K hK => ?_)
     refine goes_ Try.func90 (by kernel_rfl) rfl #[.agg #[.string a1_0, .int .i64 a1_1]] (by rfl) rfl rfl (by (try simp only [List.map_toArray, List.map_cons, List.map_nil]); first | done | rfl | (simp only [List.length_drop, List.length_take]; rfl)) ?_
     with_reducible refine (vector_isDot.calls a1_0 a1_1 false _ A5.out).mono ?_
     rintro e w16 ⟨rfl, hb⟩
     refine ⟨_, rfl, ?_⟩
     have n0_ := Aside0.mk (blk_below (g := gb111) (o := .cells #[.string a1_0, .int .i64 a1_1] 72 (0, 0)) (by (with_reducible repeat (first | refine blk_drewN ?_ _ | refine blk_drew ?_ | refine blk_alloc ?_ _)); exact BK111.out) hb)
     have n1_ := Aside0.mk (below_step (by repeat (first | (with_reducible first | exact HB.out | apply below_alloc | apply pw_below_drewN | apply below_drew1 | refine below_set ?_ GE111.out) | exact HB.out)) hb)
     clear BK111
     clear HB
     have BK111 := n0_
     have HB := n1_
     clear n0_ n1_
     (try clear hb)
     (try clear hb2)
     (try clear hk)
     (try clear hi)
     refine hK.out _ _ ⟨(blk_cell BK111.out 0).trans rfl, (blk_cell BK111.out 1).trans rfl⟩ (fun hHeld => ?_)
     clear hK K
     refine norm_ (a' := ?_) ?_ ?_
     rotate_left
     · show Act.put _ (some 9) _ = _
       simp only [Act.put, List.setIfInBounds_toArray, List.set_cons_zero, List.set_cons_succ, i64_w, i32_w]
       rfl
     refine XReg.pu 5 10 (h := ?_)
     refine XReg.pu 6 11 (h := ?_)
     refine XReg.pn 7 12 (h := ?_)
     refine XReg.pn 8 13 (h := ?_)
     refine XReg.pn 9 14 (h := ?_)
     refine XReg.pn 10 15 (h := ?_)
     refine XReg.pn 11 16 (h := ?_)
     refine XReg.pn 12 17 (h := ?_)
     refine XReg.pn 13 18 (h := ?_)
     refine XReg.pu 14 19 (h := ?_)
     refine XReg.pu 15 4 (h := ?_)
     refine done_ (done_of HT_.out (by kernel_rfl)) ?_
     try go_wp2
     go_ret
     exact ⟨by first | rfl | (simp [errW_none, errW_some] <;> rfl) | (simp [*, errW_none, errW_some] <;> rfl), by repeat (first | (with_reducible first | exact HB.out | apply below_alloc | apply pw_below_drewN | apply below_drew1 | refine below_set ?_ GE111.out) | exact HB.out)⟩
 · replace c4 := Bool.eq_false_iff.mpr c4
   subst c4
   have H1 : (some false) = some r := by rw [if_neg (show ¬ (false = true) by decide)] at H; exact H
   clear H
   have H := H1
   clear H1
   obtain rfl := Option.some.inj H
   go_enter Try.func68, Try.ntmps68
   try go_wp2_with (first | ((with_reducible refine gate_dst (N := 3) rfl ?_); refine box_event ?hg (N := 3) ?hd (cs := #[.string a1_0, .int .i64 a1_1]) (t := 72) ?hr ?_; (case hd => rfl); (case hg => rfl); (case hr => first | (go_simp; done) | (go_simp; rfl)); intro gb111 hg w17 hbox hb; have n0_ := Aside0.mk (below_step (by repeat (first | (with_reducible first | exact HB.out | apply below_alloc | apply pw_below_drewN | apply below_drew1) | exact HB.out)) hb); have n1_ := Aside0.mk (hbox); have n2_ := Aside0.mk ((by rw [hg]; exact (below_size (by repeat (first | (with_reducible first | exact HB.out | apply below_alloc | apply pw_below_drewN | apply below_drew1) | exact HB.out))) : w.heap.size ≤ gb111)); have n3_ := Aside0.mk ((by rw [hg]; exact (below_size (by repeat (first | (with_reducible first | exact HB.out | apply below_alloc | apply pw_below_drewN | apply below_drew1) | exact HB.out))) : w.heap.size ≤ gb111)); clear HB; have HB := n0_; have BK111 := n1_; have GW111 := n2_; have GE111 := n3_; clear n0_ n1_ n2_ n3_; clear hb hbox hg))
   have n0_ := Aside0.mk (blk_drew BK111.out)
   have n1_ := Aside0.mk (below_drew1 HB.out)
   clear BK111
   clear HB
   have BK111 := n0_
   have HB := n1_
   clear n0_ n1_
   refine start_ (n := 16) (S := fun w' => True) (ds := []) bqaaPOx3_0 (by kernel_rfl) rfl rfl trivial (fun hHeld => ?_); refine with_tabW vector_Has.tab1 vector_Has.bits1 (fun HT_ HW_ => ?_)
   generalize w17.drew = w18 at BK111 HB hHeld ⊢
   refine XReg.pu 0 5 (h := ?_)
   refine one_ (i := 1) (N := some 6) bqaaPOx3_2 rfl rfl (_root_.Go.Proofs.YtjejhgjdmbodiaaW.PrintLast.one_of HT_.out (by kernel_rfl)) (by decide) (fun K hK => ?_)
   refine goes_ Try.func65 (by kernel_rfl) rfl #[.slice A0 l0.length c0] (by rfl) rfl rfl (by (try simp only [List.map_toArray, List.map_cons, List.map_nil]); first | done | rfl | (simp only [List.length_drop, List.length_take]; rfl)) ?_
   with_reducible refine (vector_Right.calls k _ _ l0 false _ ?side1 ?side2 A3.out).mono ?_
   (case side1 => repeat (first | exact (Kd.C_below HR0.out HB.out) | (with_reducible refine Kd.C_alloc ?_ _) | (with_reducible refine Kd.C_drewN ?_ _) | (with_reducible refine Kd.C_drew ?_)))
   (case side2 => exact HC0.out)
   rintro e w19 ⟨rfl, hb⟩
   refine ⟨_, rfl, ?_⟩
   have n0_ := Aside0.mk (blk_below (g := gb111) (o := .cells #[.string a1_0, .int .i64 a1_1] 72 (0, 0)) (by (with_reducible repeat (first | refine blk_drewN ?_ _ | refine blk_drew ?_ | refine blk_alloc ?_ _)); exact BK111.out) hb)
   have n1_ := Aside0.mk (below_step (by repeat (first | (with_reducible first | exact HB.out | apply below_alloc | apply pw_below_drewN | apply below_drew1 | refine below_set ?_ GE111.out) | exact HB.out)) hb)
   clear BK111
   clear HB
   have BK111 := n0_
   have HB := n1_
   clear n0_ n1_
   (try clear hb)
   (try clear hb2)
   (try clear hk)
   (try clear hi)
   refine hK.out _ _ trivial (fun hHeld => ?_)
   clear hK K
   refine norm_ (a' := ?_) ?_ ?_
   rotate_left
   · show Act.put _ (some 6) _ = _
     simp only [Act.put, List.setIfInBounds_toArray, List.set_cons_zero, List.set_cons_succ, i64_w, i32_w]
     rfl
   refine XReg.pu 2 7 (h := ?_)
   refine XReg.pn 3 8 (h := ?_)
   refine XReg.pn 4 9 (h := ?_)
   refine XReg.pu 5 10 (h := ?_)
   refine XReg.pu 6 11 (h := ?_)
   refine XReg.pn 7 12 (h := ?_)
   refine XReg.pn 8 13 (h := ?_)
   refine XReg.pn 9 14 (h := ?_)
   refine XReg.pn 10 15 (h := ?_)
   refine XReg.pn 11 16 (h := ?_)
   refine XReg.pn 12 17 (h := ?_)
   refine XReg.pn 13 18 (h := ?_)
   refine XReg.pu 14 19 (h := ?_)
   refine XReg.pu 15 4 (h := ?_)
   refine done_ (done_of HT_.out (by kernel_rfl)) ?_
   try go_wp2
   go_ret
   exact ⟨by first | rfl | (simp [errW_none, errW_some] <;> rfl) | (simp [*, errW_none, errW_some] <;> rfl), by repeat (first | (with_reducible first | exact HB.out | apply below_alloc | apply pw_below_drewN | apply below_drew1 | refine below_set ?_ GE111.out) | exact HB.out)⟩
def cmp_Or_int.l0 : Nat → Int → List Int → Int → Int → Option (Int)
 | 0, _, _, _, _ => none
 | k + 1, x3, x6, x7, x8 => if x8 < x7 then (if 0 ≤ x8 then (if x8 < (x6.length : Int) then (if (rd x6 x8) = x3 then (cmp_Or_int.l0 k x3 x6 x7 (wrap64 (x8 + 1))) else (some (rd x6 x8))) else (none)) else (none)) else (some x3)
def cmp_Or_int.f (k : Nat) (l0 : List Int) : Option (Int) := cmp_Or_int.l0 k 0 l0 (l0.length : Int) 0
set_option maxHeartbeats 8000000 in
set_option maxRecDepth 100000 in
theorem cmp_Or_int.calls (k : Nat) (A0 : Option Addr) (c0 : Nat) (l0 : List Int) (r : Int) (w : World) (hr0 : Kd.C (Kd.int .i64) w A0 l0.length l0) (hc0 : l0.length ≤ c0) (h : cmp_Or_int.f k l0 = some r) :
 Calls Try.prog 86 #[.slice A0 l0.length c0] w fun e w' => e = .returned (.int .i64 r) ∧ Drawn0 w w' := by
 have HR0 := Aside0.mk hr0
 have HC0 := Aside0.mk hc0
 clear hr0 hc0
 have H : (cmp_Or_int.l0 k 0 l0 (l0.length : Int) 0) = some r := h
 clear h
 have H' := Aside0.mk H
 clear H
 go_enter Try.func86, Try.ntmps86
 go_wp2
 go_loopg [8] k (fun kq v8 w' => ∃ (x8_1 : Int), v8 = .int .i64 x8_1 ∧ Aside0 (cmp_Or_int.l0 kq 0 l0 (l0.length : Int) x8_1 = some r) ∧ Aside0 (kq ≤ k) ∧ Drawn0 w w')
 case atStart => exact ⟨(0), (by first | rfl | (simp; done) | (simp [*]; done)), H', ⟨Nat.le_refl _⟩, by repeat (first | exact Drawn0.refl _ | apply Drawn0.step)⟩
 case round =>
  clear H'
  try clear c1
  obtain ⟨x8_1, rfl, HA, HK1, ⟨m1, rfl⟩⟩ := hrel
  cases gk with
  | zero => exact absurd HA.out (by simp [cmp_Or_int.l0])
  | succ k1 =>
   have H := HA.out
   clear HA
   simp only [cmp_Or_int.l0] at H
   by_cases c2 : x8_1 < (l0.length : Int)
   · rw [if_pos c2] at H
     have c2b0 : decide (x8_1 < (l0.length : Int)) = true := decide_eq_true c2
     clear c2
     by_cases c3 : 0 ≤ x8_1
     · rw [if_pos c3] at H
       have c3b0 : decide (0 ≤ x8_1) = true := decide_eq_true c3
       clear c3
       by_cases c4 : x8_1 < (l0.length : Int)
       · rw [if_pos c4] at H
         have c4b0 : decide (x8_1 < (l0.length : Int)) = true := decide_eq_true c4
         clear c4
         by_cases c5 : (rd l0 x8_1) = 0
         · rw [if_pos c5] at H
           have c5b0 : ((rd l0 x8_1) == 0) = true := beq_iff_eq.mpr c5
           have c5b1 : ((rd l0 x8_1) != 0) = false := bne_eq_false_iff_eq.mpr c5
           clear c5
           have H' := Aside0.mk H
           clear H
           have p115 : 0 ≤ (x8_1 : Int) := of_decide_eq_true (by first | (with_reducible assumption) | assumption)
           have q115 : x8_1 < (l0.length : Int) := of_decide_eq_true (by first | (with_reducible assumption) | assumption)
           obtain ⟨ad115, e115, hx115_0⟩ := Kd.at_int HR0.out x8_1 p115 q115
           cases e115
           replace p115 := eq_true p115
           replace q115 := eq_true q115
           go_wp2
           go_roundg k1
           case measure => have := HK1.out; omega
           case rel => exact ⟨(wrap64 (x8_1 + 1)), (by first | rfl | (simp; done) | (simp [*]; done)), H', ⟨by have := HK1.out; omega⟩, by repeat (first | exact Drawn0.refl _ | apply Drawn0.step)⟩
         · rw [if_neg c5] at H
           have c5b0 : ((rd l0 x8_1) == 0) = false := beq_eq_false_iff_ne.mpr c5
           have c5b1 : ((rd l0 x8_1) != 0) = true := bne_iff_ne.mpr c5
           obtain rfl := Option.some.inj H
           have p115 : 0 ≤ (x8_1 : Int) := of_decide_eq_true (by first | (with_reducible assumption) | assumption)
           have q115 : x8_1 < (l0.length : Int) := of_decide_eq_true (by first | (with_reducible assumption) | assumption)
           obtain ⟨ad115, e115, hx115_0⟩ := Kd.at_int HR0.out x8_1 p115 q115
           cases e115
           replace p115 := eq_true p115
           replace q115 := eq_true q115
           go_wp2
           go_ret
           exact ⟨by first | rfl | (simp; done) | (simp [*]; done), by repeat (first | exact Drawn0.refl _ | apply Drawn0.step)⟩
       · rw [if_neg c4] at H
         exact absurd H (by simp)
     · rw [if_neg c3] at H
       exact absurd H (by simp)
   · rw [if_neg c2] at H
     have c2b0 : decide (x8_1 < (l0.length : Int)) = false := decide_eq_false c2
     clear c2
     obtain rfl := Option.some.inj H
     go_wp2
     go_ret
     exact ⟨by first | rfl | (simp; done) | (simp [*]; done), by repeat (first | exact Drawn0.refl _ | apply Drawn0.step)⟩
def strings_Compare.f (a b : ByteArray) : Option Int := some (Lib.compareBytes a.data.toList b.data.toList)
set_option maxHeartbeats 1000000 in
set_option maxRecDepth 100000 in
theorem scmp0.calls (a b : ByteArray) (w : World) :
 Calls Try.prog 102 #[.string a, .string b] w fun e w' => e = .returned (.int .i64 (Lib.compareBytes a.data.toList b.data.toList)) ∧ w = w' := by
 go_enter Try.func102, Try.ntmps102
 go_wp2
 rw [run_callFunc_extern Try.func109 (by kernel_rfl) (by kernel_rfl) (by kernel_rfl) (e := Extern.BytealgCompare.compare) (by kernel_rfl), Lib.run_compareString]
 simp only [Result.andThen]
 rw [Oper.upon_value]
 go_wp2
 go_ret
 exact ⟨rfl, rfl⟩
set_option maxHeartbeats 1000000 in
set_option maxRecDepth 100000 in
theorem strings_Compare.calls (a0 : ByteArray) (a1 : ByteArray) (r : Int) (w : World) (h : strings_Compare.f a0 a1 = some r) :
 Calls Try.prog 92 #[.string a0, .string a1] w fun e w' => e = .returned (.int .i64 r) ∧ Drawn0 w w' := by
 obtain rfl := Option.some.inj h
 go_enter Try.func92, Try.ntmps92
 go_wp2_with (go_at_call 102; refine (scmp0.calls _ _ _).mono ?_; rintro e w' ⟨rfl, rfl⟩)
 go_ret
 exact ⟨rfl, Drawn0.refl _⟩
def cmp_isNaN_int64.f (a0 : Int) : Option (Bool) := some (a0 != a0)
set_option maxHeartbeats 8000000 in
set_option maxRecDepth 100000 in
theorem cmp_isNaN_int64.calls (a0 : Int) (r : Bool) (w : World) (h : cmp_isNaN_int64.f a0 = some r) :
 Calls Try.prog 103 #[.int .i64 a0] w fun e w' => e = .returned (.bool r) ∧ Drawn0 w w' := by
 have H : (some (a0 != a0)) = some r := h
 clear h
 obtain rfl := Option.some.inj H
 go_enter Try.func103, Try.ntmps103
 go_wp2
 go_ret
 exact ⟨by first | rfl | (simp; done) | (simp [*]; done), by repeat (first | exact Drawn0.refl _ | apply Drawn0.step)⟩
def cmp_Compare_int64.f (a0 : Int) (a1 : Int) : Option (Int) := (cmp_isNaN_int64.f a0).bind fun t116 => ((cmp_isNaN_int64.f a1).bind fun t117 => (if t116 = true then (if t117 = true then (some 0) else (some (-1))) else (if t117 = true then (some 1) else (if a0 < a1 then (some (-1)) else (if a0 > a1 then (some 1) else (some 0))))))
set_option maxHeartbeats 8000000 in
set_option maxRecDepth 100000 in
theorem cmp_Compare_int64.calls (a0 : Int) (a1 : Int) (r : Int) (w : World) (h : cmp_Compare_int64.f a0 a1 = some r) :
 Calls Try.prog 93 #[.int .i64 a0, .int .i64 a1] w fun e w' => e = .returned (.int .i64 r) ∧ Drawn0 w w' := by
 have H : ((cmp_isNaN_int64.f a0).bind fun t116 => ((cmp_isNaN_int64.f a1).bind fun t117 => (if t116 = true then (if t117 = true then (some 0) else (some (-1))) else (if t117 = true then (some 1) else (if a0 < a1 then (some (-1)) else (if a0 > a1 then (some 1) else (some 0))))))) = some r := h
 clear h
 replace H := Option.bind_eq_some_iff.mp H
 obtain ⟨t116, A30, H⟩ := H
 replace H : ((cmp_isNaN_int64.f a1).bind fun t117 => (if t116 = true then (if t117 = true then (some 0) else (some (-1))) else (if t117 = true then (some 1) else (if a0 < a1 then (some (-1)) else (if a0 > a1 then (some 1) else (some 0)))))) = some r := H
 have A3 := Aside0.mk A30
 clear A30
 replace H := Option.bind_eq_some_iff.mp H
 obtain ⟨t117, A40, H⟩ := H
 replace H : (if t116 = true then (if t117 = true then (some 0) else (some (-1))) else (if t117 = true then (some 1) else (if a0 < a1 then (some (-1)) else (if a0 > a1 then (some 1) else (some 0))))) = some r := H
 have A4 := Aside0.mk A40
 clear A40
 by_cases c5 : t116 = true
 · subst c5
   have H1 : (if t117 = true then (some 0) else (some (-1))) = some r := by rw [if_pos rfl] at H; exact H
   clear H
   have H := H1
   clear H1
   by_cases c6 : t117 = true
   · subst c6
     have H1 : (some 0) = some r := by rw [if_pos rfl] at H; exact H
     clear H
     have H := H1
     clear H1
     obtain rfl := Option.some.inj H
     go_enter Try.func93, Try.ntmps93
     go_wp2_with (first | ((with_reducible refine gate_callee (f := 103) rfl ?_); refine goesL_ (some 8) rfl rfl Try.func103 (by kernel_rfl) rfl #[.int .i64 a0] rfl (by (try simp only [List.map_toArray, List.map_cons, List.map_nil]); first | done | rfl | (simp only [List.length_drop, List.length_take]; rfl)) ?_; (with_reducible refine (cmp_isNaN_int64.calls a0 true _ A3.out).mono ?_); rintro e w' ⟨rfl, ⟨nd, rfl⟩⟩; refine ⟨_, rfl, ?_⟩) | ((with_reducible refine gate_callee (f := 103) rfl ?_); refine goesL_ (some 10) rfl rfl Try.func103 (by kernel_rfl) rfl #[.int .i64 a1] rfl (by (try simp only [List.map_toArray, List.map_cons, List.map_nil]); first | done | rfl | (simp only [List.length_drop, List.length_take]; rfl)) ?_; (with_reducible refine (cmp_isNaN_int64.calls a1 true _ A4.out).mono ?_); rintro e w' ⟨rfl, ⟨nd, rfl⟩⟩; refine ⟨_, rfl, ?_⟩))
     go_ret
     exact ⟨by first | rfl | (simp; done) | (simp [*]; done), by repeat (first | exact Drawn0.refl _ | apply Drawn0.step)⟩
   · replace c6 := Bool.eq_false_iff.mpr c6
     subst c6
     have H1 : (some (-1)) = some r := by rw [if_neg (show ¬ (false = true) by decide)] at H; exact H
     clear H
     have H := H1
     clear H1
     obtain rfl := Option.some.inj H
     go_enter Try.func93, Try.ntmps93
     go_wp2_with (first | ((with_reducible refine gate_callee (f := 103) rfl ?_); refine goesL_ (some 8) rfl rfl Try.func103 (by kernel_rfl) rfl #[.int .i64 a0] rfl (by (try simp only [List.map_toArray, List.map_cons, List.map_nil]); first | done | rfl | (simp only [List.length_drop, List.length_take]; rfl)) ?_; (with_reducible refine (cmp_isNaN_int64.calls a0 true _ A3.out).mono ?_); rintro e w' ⟨rfl, ⟨nd, rfl⟩⟩; refine ⟨_, rfl, ?_⟩) | ((with_reducible refine gate_callee (f := 103) rfl ?_); refine goesL_ (some 10) rfl rfl Try.func103 (by kernel_rfl) rfl #[.int .i64 a1] rfl (by (try simp only [List.map_toArray, List.map_cons, List.map_nil]); first | done | rfl | (simp only [List.length_drop, List.length_take]; rfl)) ?_; (with_reducible refine (cmp_isNaN_int64.calls a1 false _ A4.out).mono ?_); rintro e w' ⟨rfl, ⟨nd, rfl⟩⟩; refine ⟨_, rfl, ?_⟩))
     go_ret
     exact ⟨by first | rfl | (simp; done) | (simp [*]; done), by repeat (first | exact Drawn0.refl _ | apply Drawn0.step)⟩
 replace c5 := Bool.eq_false_iff.mpr c5
 subst c5
 have H1 : (if t117 = true then (some 1) else (if a0 < a1 then (some (-1)) else (if a0 > a1 then (some 1) else (some 0)))) = some r := by rw [if_neg (show ¬ (false = true) by decide)] at H; exact H
 clear H
 have H := H1
 clear H1
 by_cases c7 : t117 = true
 · subst c7
   have H1 : (some 1) = some r := by rw [if_pos rfl] at H; exact H
   clear H
   have H := H1
   clear H1
   obtain rfl := Option.some.inj H
   go_enter Try.func93, Try.ntmps93
   go_wp2_with (first | ((with_reducible refine gate_callee (f := 103) rfl ?_); refine goesL_ (some 8) rfl rfl Try.func103 (by kernel_rfl) rfl #[.int .i64 a0] rfl (by (try simp only [List.map_toArray, List.map_cons, List.map_nil]); first | done | rfl | (simp only [List.length_drop, List.length_take]; rfl)) ?_; (with_reducible refine (cmp_isNaN_int64.calls a0 false _ A3.out).mono ?_); rintro e w' ⟨rfl, ⟨nd, rfl⟩⟩; refine ⟨_, rfl, ?_⟩) | ((with_reducible refine gate_callee (f := 103) rfl ?_); refine goesL_ (some 10) rfl rfl Try.func103 (by kernel_rfl) rfl #[.int .i64 a1] rfl (by (try simp only [List.map_toArray, List.map_cons, List.map_nil]); first | done | rfl | (simp only [List.length_drop, List.length_take]; rfl)) ?_; (with_reducible refine (cmp_isNaN_int64.calls a1 true _ A4.out).mono ?_); rintro e w' ⟨rfl, ⟨nd, rfl⟩⟩; refine ⟨_, rfl, ?_⟩))
   go_ret
   exact ⟨by first | rfl | (simp; done) | (simp [*]; done), by repeat (first | exact Drawn0.refl _ | apply Drawn0.step)⟩
 replace c7 := Bool.eq_false_iff.mpr c7
 subst c7
 have H1 : (if a0 < a1 then (some (-1)) else (if a0 > a1 then (some 1) else (some 0))) = some r := by rw [if_neg (show ¬ (false = true) by decide)] at H; exact H
 clear H
 have H := H1
 clear H1
 by_cases c8 : a0 < a1
 rw [if_pos c8] at H
 have c8b0 : decide (a0 < a1) = true := decide_eq_true c8
 clear c8
 obtain rfl := Option.some.inj H
 rotate_left
 rw [if_neg c8] at H
 have c8b0 : decide (a0 < a1) = false := decide_eq_false c8
 clear c8
 by_cases c9 : a0 > a1
 rw [if_pos c9] at H
 have c9b0 : decide (a1 < a0) = true := decide_eq_true c9
 clear c9
 obtain rfl := Option.some.inj H
 rotate_left
 rw [if_neg c9] at H
 have c9b0 : decide (a1 < a0) = false := decide_eq_false c9
 clear c9
 obtain rfl := Option.some.inj H
 rotate_left
 all_goals (
  go_enter Try.func93, Try.ntmps93
  go_wp2_with (first | ((with_reducible refine gate_callee (f := 103) rfl ?_); refine goesL_ (some 8) rfl rfl Try.func103 (by kernel_rfl) rfl #[.int .i64 a0] rfl (by (try simp only [List.map_toArray, List.map_cons, List.map_nil]); first | done | rfl | (simp only [List.length_drop, List.length_take]; rfl)) ?_; (with_reducible refine (cmp_isNaN_int64.calls a0 false _ A3.out).mono ?_); rintro e w' ⟨rfl, ⟨nd, rfl⟩⟩; refine ⟨_, rfl, ?_⟩) | ((with_reducible refine gate_callee (f := 103) rfl ?_); refine goesL_ (some 10) rfl rfl Try.func103 (by kernel_rfl) rfl #[.int .i64 a1] rfl (by (try simp only [List.map_toArray, List.map_cons, List.map_nil]); first | done | rfl | (simp only [List.length_drop, List.length_take]; rfl)) ?_; (with_reducible refine (cmp_isNaN_int64.calls a1 false _ A4.out).mono ?_); rintro e w' ⟨rfl, ⟨nd, rfl⟩⟩; refine ⟨_, rfl, ?_⟩))
  go_ret
  exact ⟨by first | rfl | (simp; done) | (simp [*]; done), by repeat (first | exact Drawn0.refl _ | apply Drawn0.step)⟩
  )
end Go.Proofs.Ytjejhgjdmbodiaa.PO
end
section
namespace Go.Proofs.Ytjejhgjdmbodiaa.PO
open Go.Proofs.Ytjejhgjdmbodiaa
open Go.RowKit Go.Proofs.YtjejhgjdmbodiaaW.PrintWords Go.Proofs.YtjejhgjdmbodiaaW.PrintLast Go.Proofs.YtjejhgjdmbodiaaW.PrintMore Go.Proofs.Ytjejhgjdmbodiaa.XW
set_option linter.unusedVariables false
set_option linter.unusedSimpArgs false
theorem bl_cons (x y : UInt8) (a b : List UInt8) : (Op.bytesLess (x :: a) (y :: b) = true) ↔ (x.toNat < y.toNat ∨ (x = y ∧ Op.bytesLess a b = true)) := by
 simp [Op.bytesLess, UInt8.lt_iff_toNat_lt]
theorem bl_nil (a : List UInt8) : Op.bytesLess a [] = false := by cases a <;> rfl
theorem bl_trans : ∀ a b c : List UInt8, Op.bytesLess a b = true → Op.bytesLess b c = true → Op.bytesLess a c = true
 | _, _, [], _, h => by rw [bl_nil] at h; cases h
 | _, [], _ :: _, h, _ => by rw [bl_nil] at h; cases h
 | [], _ :: _, _ :: _, _, _ => rfl
 | x :: a, y :: b, z :: c, h, k => by
   rw [bl_cons] at h k ⊢
   rcases h with h | ⟨rfl, h⟩
   · rcases k with k | ⟨rfl, k⟩
     · exact .inl (by omega)
     · exact .inl h
   · rcases k with k | ⟨rfl, k⟩
     · exact .inl k
     · exact .inr ⟨rfl, bl_trans a b c h k⟩
theorem bl_irr (a : List UInt8) : Op.bytesLess a a = false := bytesLess_irrefl a
theorem cmp_lt : ∀ a b : List UInt8, (Lib.compareBytes a b < 0 ↔ Op.bytesLess a b = true) ∧ (Lib.compareBytes a b = 0 ↔ a = b)
 | [], [] => by simp [Lib.compareBytes, Op.bytesLess]
 | [], _ :: _ => by simp [Lib.compareBytes, Op.bytesLess]
 | _ :: _, [] => by simp [Lib.compareBytes, Op.bytesLess]
 | x :: a, y :: b => by
   have ih := cmp_lt a b
   rw [bl_cons]
   unfold Lib.compareBytes
   by_cases h : x < y
   · rw [if_pos h]
     have h' := UInt8.lt_iff_toNat_lt.mp h
     refine ⟨⟨fun _ => .inl h', fun _ => by decide⟩, ⟨fun h => absurd h (by decide), fun e => ?_⟩⟩
     injection e with e _
     subst e
     omega
   · rw [if_neg h]
     have hn : ¬ x.toNat < y.toNat := fun k => h (UInt8.lt_iff_toNat_lt.mpr k)
     by_cases k : y < x
     · rw [if_pos k]
       have k' := UInt8.lt_iff_toNat_lt.mp k
       refine ⟨⟨fun h => absurd h (by decide), fun e => ?_⟩, ⟨fun h => absurd h (by decide), fun e => ?_⟩⟩
       · rcases e with e | ⟨rfl, _⟩ <;> omega
       · injection e with e _
         subst e
         omega
     · rw [if_neg k]
       have kn : ¬ y.toNat < x.toNat := fun h => k (UInt8.lt_iff_toNat_lt.mpr h)
       obtain rfl : x = y := UInt8.toNat.inj (by omega)
       refine ⟨⟨fun h => .inr ⟨rfl, ih.1.1 h⟩, fun e => ?_⟩, ?_⟩
       · rcases e with e | ⟨_, e⟩
         · exact absurd e hn
         · exact ih.1.2 e
       · rw [ih.2]
         simp
def dotOk (x : S72) : Bool := isNameB x.f0 && decide (1 ≤ x.f1) && decide (x.f1 ≤ 4611686018427387904)
def rises (was : ByteArray) : List S72 → Bool
 | [] => true
 | x :: l => dotOk x && Op.bytesLess was.toList x.f0.toList && rises x.f0 l
def rightS (l : List S72) : Bool := decide (l.length ≤ 64) && rises ⟨#[]⟩ l
theorem isDot_f (n : ByteArray) (d : Int) : vector_isDot.f n d = some (dotOk ⟨n, d⟩) := by
 unfold vector_isDot.f vector_IsName.f dotOk
 simp only [Option.bind_some]
 cases isNameB n <;> simp
 by_cases h : 1 ≤ d <;> simp [h]
theorem rd_drop (l : List S72) (i : Nat) (h : i < l.length) : l.drop i = rd_T72 l i :: l.drop (i + 1) := by
 rw [List.drop_eq_getElem_cons h, rd_T72]
 congr 1
 simp [List.getD, h]
theorem wrap_succ {i : Nat} {n : Nat} (h : i < n) (hn : n ≤ 9223372036854775807) : wrap64 ((i : Int) + 1) = ((i + 1 : Nat) : Int) := by
 unfold wrap64
 omega
theorem right_l0 (l : List S72) (hl : l.length ≤ 9223372036854775807) : ∀ (k i : Nat) (was : ByteArray), i ≤ l.length → l.length - i < k →
 vector_Right.l0 k was true l (l.length : Int) (i : Int) = some (rises was (l.drop i))
 | 0, i, was, _, h => by omega
 | k + 1, i, was, hi, h => by
   unfold vector_Right.l0
   by_cases hlt : i < l.length
   · rw [if_pos (by omega), if_pos (by omega), if_pos (by omega), if_pos rfl, rd_drop l i hlt, isDot_f, Option.bind_some, rises]
     have ih := right_l0 l hl k (i + 1) (rd_T72 l i).f0 (by omega) (by omega)
     rw [wrap_succ hlt hl, ih]
     cases dotOk (rd_T72 l i) <;> simp
     cases Op.bytesLess was.toList (rd_T72 l i).f0.toList <;> simp
   · rw [if_neg (by omega), List.drop_eq_nil_of_le (by omega)]
     rfl
theorem right_f (l : List S72) (hl : l.length ≤ 9223372036854775807) (k : Nat) (hk : l.length < k) : vector_Right.f k l = some (rightS l) := by
 unfold vector_Right.f rightS
 by_cases h : l.length ≤ 64
 · rw [show decide ((l.length : Int) ≤ 64) = true from by simp; omega]
   have := right_l0 l hl k 0 ⟨#[]⟩ (by omega) (by omega)
   rw [show ((0 : Nat) : Int) = 0 from rfl, List.drop_zero] at this
   rw [this]
   simp [h]
 · rw [show decide ((l.length : Int) ≤ 64) = false from by simp; omega]
   obtain ⟨k, rfl⟩ : ∃ m, k = m + 1 := ⟨k - 1, by omega⟩
   unfold vector_Right.l0
   rw [if_pos (by omega), if_pos (by omega), if_pos (by omega)]
   simp [h]
def sizes (m : Nat) (l : List S72) : Prop := ∀ x, x ∈ l → x.f0.size ≤ m
theorem dotOk_name {x : S72} (h : dotOk x = true) : Op.bytesLess (⟨#[]⟩ : ByteArray).toList x.f0.toList = true := by
 simp only [dotOk, isNameB, Bool.and_eq_true, decide_eq_true_eq] at h
 rw [ByteArray.toList_eq, ByteArray.toList_eq]
 have : 0 < x.f0.data.toList.length := by simp; omega
 cases hh : x.f0.data.toList with
 | nil => rw [hh] at this; cases this
 | cons a b => rfl
def atS (n : ByteArray) : List S72 → Int
 | [] => 0
 | x :: l => if x.f0.toList = n.toList then x.f1 else atS n l
theorem refAt_l0 (n : ByteArray) (l : List S72) (hl : l.length ≤ 9223372036854775807) : ∀ (k i : Nat), i ≤ l.length → l.length - i < k →
 pannierref07_At.l0 k l n (i : Int) = some (atS n (l.drop i))
 | 0, i, _, h => by omega
 | k + 1, i, hi, h => by
   unfold pannierref07_At.l0
   by_cases hlt : i < l.length
   · rw [if_pos (by omega), if_pos (by omega), rd_drop l i hlt, atS]
     have ih := refAt_l0 n l hl k (i + 1) (by omega) (by omega)
     rw [wrap_succ hlt hl, ih]
     split <;> rfl
   · rw [if_neg (by omega), List.drop_eq_nil_of_le (by omega)]
     rfl
theorem refAt_f (n : ByteArray) (l : List S72) (hl : l.length ≤ 9223372036854775807) (k : Nat) (hk : l.length < k) : pannierref07_At.f k l n = some (atS n l) := by
 unfold pannierref07_At.f
 rw [show (0 : Int) = ((0 : Nat) : Int) from rfl, refAt_l0 n l hl k 0 (by omega) (by omega)]
 simp
theorem rises_at : ∀ (l : List S72) (was : ByteArray), rises was l = true → ∀ j, j < l.length → Op.bytesLess was.toList (l.getD j z72).f0.toList = true
 | [], _, _, j, hj => by simp at hj
 | x :: l, was, h, j, hj => by
   simp only [rises, Bool.and_eq_true] at h
   cases j with
   | zero => exact h.1.2
   | succ j => exact bl_trans _ _ _ h.1.2 (by have := rises_at l x.f0 h.2 j (by simpa using hj); simpa [List.getD] using this)
theorem rises_drop : ∀ (l : List S72) (was : ByteArray), rises was l = true → ∀ i, i < l.length → rises (l.getD i z72).f0 (l.drop (i + 1)) = true
 | [], _, _, i, hi => by simp at hi
 | x :: l, was, h, i, hi => by
   simp only [rises, Bool.and_eq_true] at h
   cases i with
   | zero => exact h.2
   | succ i => have := rises_drop l x.f0 h.2 i (by simpa using hi); simpa [List.getD] using this
theorem rises_two (l : List S72) (was : ByteArray) (h : rises was l = true) (i j : Nat) (hij : i < j) (hj : j < l.length) : Op.bytesLess (l.getD i z72).f0.toList (l.getD j z72).f0.toList = true := by
 have h1 := rises_drop l was h i (by omega)
 have h2 := rises_at _ _ h1 (j - i - 1) (by simp; omega)
 have : (l.drop (i + 1)).getD (j - i - 1) z72 = l.getD j z72 := by
  simp only [List.getD, List.getElem?_drop]
  rw [show i + 1 + (j - i - 1) = j by omega]
 rwa [this] at h2
theorem cmpS_lt (l : List S72) (i : Nat) (n : ByteArray) : (cmpS l i n < 0 ↔ Op.bytesLess (l.getD i z72).f0.toList n.toList = true) ∧ (cmpS l i n = 0 ↔ (l.getD i z72).f0.toList = n.toList) := by
 unfold cmpS
 rw [ByteArray.toList_eq, ByteArray.toList_eq]
 exact cmp_lt _ _
theorem bsL_spec (l : List S72) (n : ByteArray) (was : ByteArray) (h : rises was l = true) : ∀ fuel i j, i ≤ j → j ≤ l.length → j - i < fuel →
 (∀ q, q < i → cmpS l q n < 0) → (∀ q, j ≤ q → q < l.length → ¬ cmpS l q n < 0) →
 i ≤ bsL l n fuel i j ∧ bsL l n fuel i j ≤ j ∧ (∀ q, q < bsL l n fuel i j → cmpS l q n < 0) ∧ (∀ q, bsL l n fuel i j ≤ q → q < l.length → ¬ cmpS l q n < 0)
 | 0, i, j, _, _, hf, _, _ => by omega
 | fuel + 1, i, j, hij, hj, hf, hA, hB => by
   unfold bsL
   by_cases hlt : i < j
   · rw [if_pos hlt]
     by_cases hc : cmpS l ((i + j) / 2) n < 0
     · rw [if_pos hc]
       have ih := bsL_spec l n was h fuel ((i + j) / 2 + 1) j (by omega) hj (by omega) (fun q hq => ?_) hB
       · exact ⟨by omega, ih.2.1, ih.2.2⟩
       · rcases Nat.lt_or_ge q ((i + j) / 2) with hq' | hq'
         · exact ((cmpS_lt l q n).1).2 (bl_trans _ _ _ (rises_two l was h q _ hq' (by omega)) ((cmpS_lt l _ n).1.1 hc))
         · obtain rfl : q = (i + j) / 2 := by omega
           exact hc
     · rw [if_neg hc]
       have ih := bsL_spec l n was h fuel i ((i + j) / 2) (by omega) (by omega) (by omega) hA (fun q hq hq2 => ?_)
       · exact ⟨ih.1, by omega, ih.2.2⟩
       · rcases Nat.lt_or_ge ((i + j) / 2) q with hq' | hq'
         · exact fun hh => hc (((cmpS_lt l _ n).1).2 (bl_trans _ _ _ (rises_two l was h _ q hq' hq2) ((cmpS_lt l q n).1.1 hh)))
         · obtain rfl : q = (i + j) / 2 := by omega
           exact hc
   · rw [if_neg hlt]
     exact ⟨Nat.le_refl _, hij, hA, fun q hq => hB q (by omega)⟩
theorem atS_none (n : ByteArray) : ∀ l : List S72, (∀ q, q < l.length → (l.getD q z72).f0.toList ≠ n.toList) → atS n l = 0
 | [], _ => rfl
 | x :: l, h => by
   rw [atS, if_neg (by have := h 0 (by simp); simpa [List.getD] using this)]
   exact atS_none n l (fun q hq => by have := h (q + 1) (by simpa using hq); simpa [List.getD] using this)
theorem atS_some (n : ByteArray) : ∀ (l : List S72) (p : Nat), p < l.length → (∀ q, q < p → (l.getD q z72).f0.toList ≠ n.toList) → (l.getD p z72).f0.toList = n.toList → atS n l = (l.getD p z72).f1
 | [], p, hp, _, _ => by simp at hp
 | x :: l, 0, _, _, h => by rw [atS, if_pos (by simpa [List.getD] using h)]; rfl
 | x :: l, p + 1, hp, hq, h => by
   rw [atS, if_neg (by have := hq 0 (by omega); simpa [List.getD] using this)]
   have := atS_some n l p (by simpa using hp) (fun q hq' => by have := hq (q + 1) (by omega); simpa [List.getD] using this) (by simpa [List.getD] using h)
   rw [this]
   simp [List.getD]
theorem find_at (l : List S72) (n : ByteArray) (was : ByteArray) (h : rises was l = true) (hl : l.length ≤ 1000000) : vector_at.f l n = some (atS n l) := by
 have hs := bsL_spec l n was h (l.length + 1) 0 l.length (by omega) (by omega) (by omega) (fun q hq => by omega) (fun q h1 h2 => by omega)
 unfold vector_at.f vector_find.f
 rw [if_pos hl, Option.bind_some]
 have hix : findIx l n = bsL l n (l.length + 1) 0 l.length := rfl
 rw [← hix] at hs
 obtain ⟨_, hp, hA, hB⟩ := hs
 have hne : ∀ q, q < findIx l n → (l.getD q z72).f0.toList ≠ n.toList := fun q hq he => by
  have := hA q hq
  rw [(cmpS_lt l q n).2.2 he] at this
  exact absurd this (by decide)
 by_cases hlt : findIx l n < l.length
 · by_cases hc : cmpS l (findIx l n) n = 0
   · have hh : findHit l n = true := by unfold findHit; rw [if_pos hlt, hc]; rfl
     simp only [hh, if_true]
     rw [if_pos (by omega), if_pos (by omega), atS_some n l (findIx l n) hlt hne ((cmpS_lt l _ n).2.1 hc)]
     simp [rd_T72]
   · have hh : findHit l n = false := by unfold findHit; rw [if_pos hlt]; simpa using hc
     simp only [hh, Bool.false_eq_true, if_false]
     rw [atS_none n l (fun q hq he => ?_)]
     rcases Nat.lt_or_ge q (findIx l n) with h1 | h1
     · exact hne q h1 he
     · have h0 := hB (findIx l n) (Nat.le_refl _) hlt
       rcases Nat.lt_or_ge (findIx l n) q with h2 | h2
       · have h3 := rises_two l was h _ q h2 hq
         rw [he] at h3
         exact h0 ((cmpS_lt l _ n).1.2 h3)
       · obtain rfl : q = findIx l n := by omega
         exact hc ((cmpS_lt l _ n).2.2 he)
 · have hh : findHit l n = false := by unfold findHit; rw [if_neg hlt]
   simp only [hh, Bool.false_eq_true, if_false]
   rw [atS_none n l (fun q hq => hne q (by omega))]
def hasS (l : List S72) (n : ByteArray) (d : Int) : Bool := rightS l && dotOk ⟨n, d⟩ && decide (d ≤ atS n l)
theorem rightS_le {l : List S72} (h : rightS l = true) : l.length ≤ 64 ∧ rises ⟨#[]⟩ l = true := by
 simpa [rightS] using h
theorem has_f (l : List S72) (hl : l.length ≤ 9223372036854775807) (n : ByteArray) (d : Int) (k : Nat) (hk : l.length < k) : vector_Has.f k l n d = some (hasS l n d) := by
 unfold vector_Has.f hasS
 rw [right_f l hl k hk, Option.bind_some, isDot_f, Option.bind_some]
 cases hr : rightS l
 · simp
 · obtain ⟨h1, h2⟩ := rightS_le hr
   rw [find_at l n _ h2 (by omega), Option.bind_some]
   cases dotOk ⟨n, d⟩ <;> simp
def above (was : ByteArray) (l : List S72) : Prop := ∀ x, x ∈ l → Op.bytesLess was.toList x.f0.toList = true
theorem rises_above : ∀ (l : List S72) (was : ByteArray), rises was l = true → above was l
 | [], _, _ => fun x hx => by cases hx
 | y :: l, was, h => fun x hx => by
   simp only [rises, Bool.and_eq_true] at h
   rcases List.mem_cons.1 hx with rfl | hx
   · exact h.1.2
   · exact bl_trans _ _ _ h.1.2 (rises_above l y.f0 h.2 x hx)
theorem rises_tail {x : S72} {l : List S72} {was : ByteArray} (h : rises was (x :: l) = true) : rises x.f0 l = true := by
 simp only [rises, Bool.and_eq_true] at h; exact h.2
theorem rises_pos {l : List S72} {was : ByteArray} : ∀ {x : S72}, rises was l = true → x ∈ l → 1 ≤ x.f1 ∧ x.f1 ≤ 4611686018427387904 := by
 induction l generalizing was with
 | nil => intro x _ hx; cases hx
 | cons y l ih =>
   intro x h hx
   simp only [rises, dotOk, Bool.and_eq_true, decide_eq_true_eq] at h
   rcases List.mem_cons.1 hx with rfl | hx
   · exact ⟨h.1.1.1.2, h.1.1.2⟩
   · exact ih h.2 hx
def asc : List S72 → Prop
 | [] => True
 | x :: l => above x.f0 l ∧ asc l
theorem rises_asc : ∀ (l : List S72) (was : ByteArray), rises was l = true → asc l
 | [], _, _ => trivial
 | x :: l, was, h => ⟨rises_above l x.f0 (rises_tail h), rises_asc l x.f0 (rises_tail h)⟩
def mnAll : List (List S72) → ByteArray → Int → Int
 | [], _, n => n
 | v :: vs, w, n => mnAll vs w (mn n (atS w v))
def gf (vs : List (List S72)) : List S72 → List S72
 | [] => []
 | x :: a => if 0 < mnAll vs x.f0 x.f1 then ⟨x.f0, mnAll vs x.f0 x.f1⟩ :: gf vs a else gf vs a
theorem atS_cons (n : ByteArray) (x : S72) (l : List S72) : atS n (x :: l) = if x.f0.toList = n.toList then x.f1 else atS n l := rfl
theorem bytes_inj {a b : ByteArray} (h : a.toList = b.toList) : a = b := by
 rw [ByteArray.toList_eq, ByteArray.toList_eq] at h
 have : a.data = b.data := Array.ext' h
 cases a; cases b; simpa using this
theorem dot_parts {n : ByteArray} {d : Int} (h : dotOk ⟨n, d⟩ = true) : 1 ≤ d ∧ d ≤ 4611686018427387904 := by
 unfold dotOk at h
 simp at h
 omega
theorem bl_ne {a b : List UInt8} (h : Op.bytesLess a b = true) : a ≠ b := fun e => by rw [e, bl_irr] at h; cases h
theorem atS_of_mem : ∀ (l : List S72) (x : S72), asc l → x ∈ l → atS x.f0 l = x.f1
 | [], x, _, h => by cases h
 | y :: l, x, hs, h => by
   rw [atS_cons]
   rcases List.mem_cons.1 h with rfl | h
   · rw [if_pos rfl]
   · rw [if_neg (bl_ne (hs.1 x h)), atS_of_mem l x hs.2 h]
section
theorem one_of {x : S72} {out : List S72} (hr : rises ⟨#[]⟩ out = true) (hx : x ∈ out) : atS x.f0 out ≠ 0 := by
 rw [atS_of_mem out x (rises_asc _ _ hr) hx]
 have := (rises_pos hr hx).1
 omega
end
end Go.Proofs.Ytjejhgjdmbodiaa.PO
end
section
namespace Go.Proofs.Ytjejhgjdmbodiaa.PO
open Go.Proofs.Ytjejhgjdmbodiaa
deriving instance DecidableEq for S72
deriving instance DecidableEq for S74
end Go.Proofs.Ytjejhgjdmbodiaa.PO
end
section
namespace Go.Proofs.Ytjejhgjdmbodiaa.PO
open Go.Proofs.Ytjejhgjdmbodiaa
open Go.RowKit Go.Proofs.YtjejhgjdmbodiaaW.PrintWords Go.Proofs.YtjejhgjdmbodiaaW.PrintLast Go.Proofs.YtjejhgjdmbodiaaW.PrintMore
attribute [local go_sem] max2_int min2_int max_two min_two max_three min_three max_four min_four   -- for this text's walks alone
set_option linter.unusedVariables false
set_option linter.unusedSimpArgs false
def order_stands.f (k : Nat) (a0_0 : ByteArray) (a0_1 : Int) (a1_0 : ByteArray) (a1_1 : Int) : Option (Int) := (strings_Compare.f a0_0 a1_0).bind fun t120 => ((cmp_Compare_int64.f a0_1 a1_1).bind fun t121 => ((cmp_Or_int.f k (([t120, t121] : List Int))).bind fun t125 => (some t125)))
def order_stands.T1 : Bool × List (List Nat × List Nat) := (true, [([], []), ([0], [0]), ([], []), ([2], [2]), ([1, 3], [1, 3]), ([], []), ([5], [5]), ([], []), ([7], [7]), ([6, 8, 4], [6, 8]), ([4, 9], [4, 9]), ([10, 9], [10]), ([11, 11, 0, 1, 2, 3, 4, 5, 6, 7, 8, 9, 10, 11], [11])])
def order_stands.B1 : List Nat := [0, 1, 0, 4, 15, 0, 32, 0, 128, 511, 1023, 2047, 4095]
theorem order_stands.tab1 : rtab .any (opsOf Try.f69 1) = order_stands.T1 := by kernel_rfl
theorem order_stands.bits1 : waitsOk order_stands.T1.2 order_stands.B1 = true := by kernel_rfl
set_option maxHeartbeats 8000000 in
set_option maxRecDepth 100000 in
theorem order_stands.calls (k : Nat) (a0_0 : ByteArray) (a0_1 : Int) (a1_0 : ByteArray) (a1_1 : Int) (r : Int) (w : World) (h : order_stands.f k a0_0 a0_1 a1_0 a1_1 = some r) :
 Calls Try.prog 69 #[.agg #[.string a0_0, .int .i64 a0_1], .agg #[.string a1_0, .int .i64 a1_1]] w fun e w' => e = .returned (.int .i64 r) ∧ Below w.heap.size w w' := by
 have hu34 := Try.underlying72
 have HB := Aside0.mk (Below.refl w.heap.size w)
 have H : ((strings_Compare.f a0_0 a1_0).bind fun t120 => ((cmp_Compare_int64.f a0_1 a1_1).bind fun t121 => ((cmp_Or_int.f k (([t120, t121] : List Int))).bind fun t125 => (some t125)))) = some r := h
 clear h
 replace H := Option.bind_eq_some_iff.mp H
 obtain ⟨t120, A30, H⟩ := H
 replace H : ((cmp_Compare_int64.f a0_1 a1_1).bind fun t121 => ((cmp_Or_int.f k (([t120, t121] : List Int))).bind fun t125 => (some t125))) = some r := H
 have A3 := Aside0.mk A30
 clear A30
 replace H := Option.bind_eq_some_iff.mp H
 obtain ⟨t121, A40, H⟩ := H
 replace H : ((cmp_Or_int.f k (([t120, t121] : List Int))).bind fun t125 => (some t125)) = some r := H
 have A4 := Aside0.mk A40
 clear A40
 obtain ⟨y122, hy122⟩ : ∃ y_ : List Int, y_ = (([t120, t121] : List Int)) := ⟨_, rfl⟩
 replace H : ((cmp_Or_int.f k y122).bind fun t125 => (some t125)) = some r := by first | (rw [hy122]; with_reducible exact H) | (have H2_ := (Option.bind_some _ _).symm.trans H; rw [hy122]; with_reducible exact H2_) | (have H2_ := (Option.bind_some _ _).symm.trans H; with_reducible exact H2_) | with_reducible exact H | (rw [hy122]; exact H) | exact H
 have Ny122 := Aside0.mk hy122
 clear hy122
 replace H := Option.bind_eq_some_iff.mp H
 obtain ⟨t125, A50, H⟩ := H
 replace H : (some t125) = some r := H
 have A5 := Aside0.mk A50
 clear A50
 obtain rfl := Option.some.inj H
 go_enter Try.func69, Try.ntmps69
 try go_wp2_with (first | ((with_reducible refine gate_dst (N := 2) rfl ?_); refine box_event ?hg (N := 2) ?hd (cs := #[.string a0_0, .int .i64 a0_1]) (t := 72) ?hr ?_; (case hd => rfl); (case hg => rfl); (case hr => first | (go_simp; done) | (go_simp; rfl)); intro gb118 hg w6 hbox hb; have n0_ := Aside0.mk (below_step (by repeat (first | (with_reducible first | exact HB.out | apply below_alloc | apply pw_below_drewN | apply below_drew1) | exact HB.out)) hb); have n1_ := Aside0.mk (hbox); have n2_ := Aside0.mk ((by rw [hg]; exact (below_size (by repeat (first | (with_reducible first | exact HB.out | apply below_alloc | apply pw_below_drewN | apply below_drew1) | exact HB.out))) : w.heap.size ≤ gb118)); have n3_ := Aside0.mk ((by rw [hg]; exact (below_size (by repeat (first | (with_reducible first | exact HB.out | apply below_alloc | apply pw_below_drewN | apply below_drew1) | exact HB.out))) : w.heap.size ≤ gb118)); clear HB; have HB := n0_; have BK118 := n1_; have GW118 := n2_; have GE118 := n3_; clear n0_ n1_ n2_ n3_; clear hb hbox hg) | ((with_reducible refine gate_dst (N := 3) rfl ?_); refine box_event ?hg (N := 3) ?hd (cs := #[.string a1_0, .int .i64 a1_1]) (t := 72) ?hr ?_; (case hd => rfl); (case hg => rfl); (case hr => first | (go_simp; done) | (go_simp; rfl)); intro gb119 hg w7 hbox hb; have n0_ := Aside0.mk (blk_below (g := gb118) (o := .cells #[.string a0_0, .int .i64 a0_1] 72 (0, 0)) (by (with_reducible repeat (first | refine blk_drewN ?_ _ | refine blk_drew ?_ | refine blk_alloc ?_ _)); exact BK118.out) hb); have n1_ := Aside0.mk (below_step (by repeat (first | (with_reducible first | exact HB.out | apply below_alloc | apply pw_below_drewN | apply below_drew1 | refine below_set ?_ GE118.out) | exact HB.out)) hb); have n2_ := Aside0.mk (hbox); have n3_ := Aside0.mk ((by rw [hg]; exact (below_size (by repeat (first | (with_reducible first | exact HB.out | apply below_alloc | apply pw_below_drewN | apply below_drew1 | refine below_set ?_ GE118.out) | exact HB.out))) : w.heap.size ≤ gb119)); have n4_ := Aside0.mk ((by rw [hg]; exact (below_size (by repeat (first | (with_reducible first | exact HB.out | apply below_alloc | apply pw_below_drewN | apply below_drew1 | refine below_set ?_ GE118.out) | exact HB.out))) : w.heap.size ≤ gb119)); have n5_ := Aside0.mk ((by rw [hg]; exact Nat.ne_of_lt (blk_lt (g := gb118) (o := .cells #[.string a0_0, .int .i64 a0_1] 72 (0, 0)) (by (with_reducible repeat (first | refine blk_drewN ?_ _ | refine blk_drew ?_ | refine blk_alloc ?_ _)); exact BK118.out)) : gb118 ≠ gb119)); have n6_ := Aside0.mk ((by rw [hg]; exact Nat.ne_of_gt (blk_lt (g := gb118) (o := .cells #[.string a0_0, .int .i64 a0_1] 72 (0, 0)) (by (with_reducible repeat (first | refine blk_drewN ?_ _ | refine blk_drew ?_ | refine blk_alloc ?_ _)); exact BK118.out)) : gb119 ≠ gb118)); clear BK118; clear HB; have BK118 := n0_; have HB := n1_; have BK119 := n2_; have GW119 := n3_; have GE119 := n4_; have NB118_119 := n5_; have NB119_118 := n6_; clear n0_ n1_ n2_ n3_ n4_ n5_ n6_; clear hb hbox hg))
 have n0_ := Aside0.mk (blk_drew BK118.out)
 have n1_ := Aside0.mk (blk_drew BK119.out)
 have n2_ := Aside0.mk (below_drew1 HB.out)
 clear BK118
 clear BK119
 clear HB
 have BK118 := n0_
 have BK119 := n1_
 have HB := n2_
 clear n0_ n1_ n2_
 refine start_ (n := 13) (S := fun w' => w'.cell? ⟨gb118, 0, none⟩ = some (.string a0_0) ∧ w'.cell? ⟨gb118, 1, none⟩ = some (.int .i64 a0_1) ∧ w'.cell? ⟨gb119, 0, none⟩ = some (.string a1_0) ∧ w'.cell? ⟨gb119, 1, none⟩ = some (.int .i64 a1_1)) (ds := []) #[false, false, false, false, false, false, false, false, false, false, false, false, false] (by kernel_rfl) rfl rfl ⟨(blk_cell BK118.out 0).trans rfl, (blk_cell BK118.out 1).trans rfl, (blk_cell BK119.out 0).trans rfl, (blk_cell BK119.out 1).trans rfl⟩ (fun hHeld => ?_); refine with_tabW order_stands.tab1 order_stands.bits1 (fun HT_ HW_ => ?_)
 generalize w7.drew = w8 at BK118 BK119 HB hHeld ⊢
 refine XReg.pu 0 5 (h := ?_)
 refine XReg.pu 2 7 (h := ?_)
 refine XReg.pu 5 10 (h := ?_)
 refine XReg.pu 7 12 (h := ?_)
 refine XReg.tk 1 6 (hS := hHeld) (h := ?_)
 refine XReg.tk 3 8 (hS := hHeld) (h := ?_)
 refine XReg.tk 6 11 (hS := hHeld) (h := ?_)
 refine XReg.tk 8 13 (hS := hHeld) (h := ?_)
 refine one_ (i := 4) (N := some 9) #[true, true, true, true, true, true, true, true, true, false, false, false, false] rfl rfl (_root_.Go.Proofs.YtjejhgjdmbodiaaW.PrintLast.one_of HT_.out (by kernel_rfl)) (by decide) (fun K hK => ?_)
 refine goes_ Try.func92 (by kernel_rfl) rfl #[.string a0_0, .string a1_0] (by rfl) rfl rfl (by (try simp only [List.map_toArray, List.map_cons, List.map_nil]); first | done | rfl | (simp only [List.length_drop, List.length_take]; rfl)) ?_
 with_reducible refine (strings_Compare.calls a0_0 a1_0 t120 _ A3.out).mono ?_
 rintro e w' ⟨rfl, ⟨nd, rfl⟩⟩
 refine ⟨_, rfl, ?_⟩
 refine hK.out _ _ ⟨(blk_cell BK118.out 0).trans rfl, (blk_cell BK118.out 1).trans rfl, (blk_cell BK119.out 0).trans rfl, (blk_cell BK119.out 1).trans rfl⟩ (fun hHeld => ?_)
 clear hK K
 refine norm_ (a' := ?_) ?_ ?_
 rotate_left
 · show Act.put _ (some 9) _ = _
   simp only [Act.put, List.setIfInBounds_toArray, List.set_cons_zero, List.set_cons_succ, i64_w, i32_w]
   rfl
 refine one_ (i := 9) (N := some 14) #[true, true, true, true, true, true, true, true, true, true, false, false, false] rfl rfl (_root_.Go.Proofs.YtjejhgjdmbodiaaW.PrintLast.one_of HT_.out (by kernel_rfl)) (by decide) (fun K hK => ?_)
 refine goes_ Try.func93 (by kernel_rfl) rfl #[.int .i64 a0_1, .int .i64 a1_1] (by rfl) rfl rfl (by (try simp only [List.map_toArray, List.map_cons, List.map_nil]); first | done | rfl | (simp only [List.length_drop, List.length_take]; rfl)) ?_
 with_reducible refine (cmp_Compare_int64.calls a0_1 a1_1 t121 _ A4.out).mono ?_
 rintro e w' ⟨rfl, ⟨nd, rfl⟩⟩
 refine ⟨_, rfl, ?_⟩
 refine hK.out _ _ ⟨(blk_cell BK118.out 0).trans rfl, (blk_cell BK118.out 1).trans rfl, (blk_cell BK119.out 0).trans rfl, (blk_cell BK119.out 1).trans rfl⟩ (fun hHeld => ?_)
 clear hK K
 refine norm_ (a' := ?_) ?_ ?_
 rotate_left
 · show Act.put _ (some 14) _ = _
   simp only [Act.put, List.setIfInBounds_toArray, List.set_cons_zero, List.set_cons_succ, i64_w, i32_w]
   rfl
 refine one_ (i := 10) (N := some 15) #[true, true, true, true, true, true, true, true, true, true, true, false, false] rfl rfl (_root_.Go.Proofs.YtjejhgjdmbodiaaW.PrintLast.one_of HT_.out (by kernel_rfl)) (by decide) (fun K hK => ?_)
 refine Kd.R_lit_step (Kd.int .i64) _ 3 ?hg (N := 15) ?hd (xs := ([t120, t121] : List Int)) (inner := [.int .i64 t120, .int .i64 t121]) (ok := fun _ => True) (okp := fun _ => True) ?hr ?hp (fun _ hk => hk) trivial (Below.refl _ _) (Nat.le_refl _) (by simp) ?_; (case hd => rfl); (case hg => rfl); (case hr => first | (go_simp; done) | (go_simp; rfl)); (case hp => exact (Reps.one (show Kd.M (Kd.int .i64) _ _ _ t120 [.int .i64 t120] from rfl) (Reps.one (show Kd.M (Kd.int .i64) _ _ _ t121 [.int .i64 t121] from rfl) (Reps.none _ _))))
 intro v123 w9 ho10 hb hg_ hnew_
 clear hg_ hnew_
 (first | rw [← Ny122.out] at ho10 | (simp only [Int.reduceToNat] at ho10; rw [← Ny122.out] at ho10))
 have n0_ := Aside0.mk (Kd.R_lower ho10 (below_size (by repeat (first | (with_reducible first | exact HB.out | apply below_alloc | apply pw_below_drewN | apply below_drew1 | refine below_set ?_ GE118.out | refine below_set ?_ GE119.out) | exact HB.out))))
 have n1_ := Aside0.mk (blk_below (g := gb118) (o := .cells #[.string a0_0, .int .i64 a0_1] 72 (0, 0)) (by (with_reducible repeat (first | refine blk_drewN ?_ _ | refine blk_drew ?_ | refine blk_alloc ?_ _)); exact BK118.out) hb)
 have n2_ := Aside0.mk (blk_below (g := gb119) (o := .cells #[.string a1_0, .int .i64 a1_1] 72 (0, 0)) (by (with_reducible repeat (first | refine blk_drewN ?_ _ | refine blk_drew ?_ | refine blk_alloc ?_ _)); exact BK119.out) hb)
 have n3_ := Aside0.mk (below_step (by repeat (first | (with_reducible first | exact HB.out | apply below_alloc | apply pw_below_drewN | apply below_drew1 | refine below_set ?_ GE118.out | refine below_set ?_ GE119.out) | exact HB.out)) hb)
 clear BK118
 clear BK119
 clear HB
 have HO124 := n0_
 have BK118 := n1_
 have BK119 := n2_
 have HB := n3_
 clear n0_ n1_ n2_ n3_
 clear hb ho10
 obtain ⟨Ao11, co11, eo11⟩ := Kd.R_slice HO124.out
 (first | subst eo11 | (injection eo11 with f1_ f2_ f3_; have f4_ := f1_.symm; have f5_ := f3_.symm; clear f1_ f2_ f3_; subst f4_; subst f5_))
 refine hK.out _ _ ⟨(blk_cell BK118.out 0).trans rfl, (blk_cell BK118.out 1).trans rfl, (blk_cell BK119.out 0).trans rfl, (blk_cell BK119.out 1).trans rfl⟩ (fun hHeld => ?_)
 clear hK K
 refine norm_ (a' := ?_) ?_ ?_
 rotate_left
 · show Act.put _ (some 15) _ = _
   simp only [Act.put, List.setIfInBounds_toArray, List.set_cons_zero, List.set_cons_succ, i64_w, i32_w]
   rfl
 refine one_ (i := 11) (N := some 16) #[true, true, true, true, true, true, true, true, true, true, true, true, false] rfl rfl (_root_.Go.Proofs.YtjejhgjdmbodiaaW.PrintLast.one_of HT_.out (by kernel_rfl)) (by decide) (fun K hK => ?_)
 refine goes_ Try.func86 (by kernel_rfl) rfl #[.slice Ao11 y122.length co11] (by rfl) rfl rfl (by (try simp only [List.map_toArray, List.map_cons, List.map_nil]); first | done | rfl | (simp only [List.length_drop, List.length_take]; rfl)) ?_
 with_reducible refine (cmp_Or_int.calls k _ _ y122 t125 _ ?side1 ?side2 A5.out).mono ?_
 (case side1 => repeat (first | exact (Kd.R_reads' HO124.out).2.2 | (with_reducible refine Kd.C_alloc ?_ _) | (with_reducible refine Kd.C_drewN ?_ _) | (with_reducible refine Kd.C_drew ?_)))
 (case side2 => exact (Kd.R_reads' HO124.out).2.1)
 rintro e w' ⟨rfl, ⟨nd, rfl⟩⟩
 refine ⟨_, rfl, ?_⟩
 refine hK.out _ _ ⟨(blk_cell BK118.out 0).trans rfl, (blk_cell BK118.out 1).trans rfl, (blk_cell BK119.out 0).trans rfl, (blk_cell BK119.out 1).trans rfl⟩ (fun hHeld => ?_)
 clear hK K
 refine norm_ (a' := ?_) ?_ ?_
 rotate_left
 · show Act.put _ (some 16) _ = _
   simp only [Act.put, List.setIfInBounds_toArray, List.set_cons_zero, List.set_cons_succ, i64_w, i32_w]
   rfl
 refine XReg.pu 12 4 (h := ?_)
 refine done_ (done_of HT_.out (by kernel_rfl)) ?_
 try go_wp2
 go_ret
 exact ⟨by first | rfl | (simp [errW_none, errW_some] <;> rfl) | (simp [*, errW_none, errW_some] <;> rfl), by repeat (first | (with_reducible first | exact HB.out | apply below_alloc | apply pw_below_drewN | apply below_drew1 | refine below_set ?_ GE118.out | refine below_set ?_ GE119.out) | exact HB.out)⟩
end Go.Proofs.Ytjejhgjdmbodiaa.PO
end
section
namespace Go.Proofs.Ytjejhgjdmbodiaa.PO
open Go.Proofs.Ytjejhgjdmbodiaa
open Go.RowKit Go.Proofs.YtjejhgjdmbodiaaW.PrintWords Go.Proofs.YtjejhgjdmbodiaaW.PrintLast Go.Proofs.YtjejhgjdmbodiaaW.PrintMore
attribute [local go_sem] max2_int min2_int max_two min_two max_three min_three max_four min_four   -- for this text's walks alone
set_option linter.unusedVariables false
set_option linter.unusedSimpArgs false
end Go.Proofs.Ytjejhgjdmbodiaa.PO
end
section
namespace Go.Proofs.Ytjejhgjdmbodiaa.PO
open Go.Proofs.Ytjejhgjdmbodiaa
open Go.RowKit Go.Proofs.YtjejhgjdmbodiaaW.PrintWords Go.Proofs.YtjejhgjdmbodiaaW.PrintLast Go.Proofs.YtjejhgjdmbodiaaW.PrintMore
attribute [local go_sem] max2_int min2_int max_two min_two max_three min_three max_four min_four   -- for this text's walks alone
set_option linter.unusedVariables false
set_option linter.unusedSimpArgs false
theorem eqA34 (d : Nat) (w : World) (x0 y0 : ByteArray) (x1 y1 : Int) :
 (Op.equalIn (d + 2) 72 (.agg #[.string x0, .int .i64 x1]) (.agg #[.string y0, .int .i64 y1])).run Try.prog w = .ok (x0.toList == y0.toList && (x1 == y1)) w := by
 refine eqA_of Try.underlying72 (by kernel_rfl) ?_
 refine eqf_cons (by rfl) (by go_simp; rfl) (by go_simp; rfl) (by go_simp) ?_
 exact eqf_last (by rfl) (by go_simp; rfl) (by go_simp; rfl) (by go_simp)
end Go.Proofs.Ytjejhgjdmbodiaa.PO
end
section
namespace Go.Proofs.Ytjejhgjdmbodiaa.PO
open Go.Proofs.Ytjejhgjdmbodiaa
open Go.RowKit Go.Proofs.YtjejhgjdmbodiaaW.PrintWords Go.Proofs.YtjejhgjdmbodiaaW.PrintLast Go.Proofs.YtjejhgjdmbodiaaW.PrintMore
attribute [local go_sem] max2_int min2_int max_two min_two max_three min_three max_four min_four   -- for this text's walks alone
set_option linter.unusedVariables false
set_option linter.unusedSimpArgs false
attribute [local go_sem high] eqA34
end Go.Proofs.Ytjejhgjdmbodiaa.PO
end
section
namespace Go.Proofs.Ytjejhgjdmbodiaa.PO
open Go.Proofs.Ytjejhgjdmbodiaa
open Go.RowKit Go.Proofs.YtjejhgjdmbodiaaW.PrintWords Go.Proofs.YtjejhgjdmbodiaaW.PrintLast Go.Proofs.YtjejhgjdmbodiaaW.PrintMore Go.Proofs.Ytjejhgjdmbodiaa.XW
set_option linter.unusedVariables false
set_option linter.unusedSimpArgs false
def WfOp (x : S74) : Prop := x.f0.f0.size ≤ maxLen ∧ (∀ a, a ∈ x.f1 → a.f0.size ≤ maxLen) ∧ x.f2.size ≤ maxLen ∧ (Lit.int .i64 x.f3).wf = true ∧ x.f4.size ≤ maxLen ∧ (Lit.int .i64 x.f5).wf = true ∧ (∀ a, a ∈ x.f6 → a.f0.size ≤ maxLen)
theorem at_l0 (n : ByteArray) (l : List S72) (hl : l.length ≤ 9223372036854775807) : ∀ (k i : Nat), i ≤ l.length → l.length - i < k →
 vector_At.l0 k n l (l.length : Int) (i : Int) = some (atS n (l.drop i))
 | 0, i, _, h => by omega
 | k + 1, i, hi, h => by
   unfold vector_At.l0
   by_cases hlt : i < l.length
   · rw [if_pos (by omega), if_pos (by omega), if_pos (by omega), rd_drop l i hlt, atS]
     have ih := at_l0 n l hl k (i + 1) (by omega) (by omega)
     rw [wrap_succ hlt hl, ih]
     split <;> rfl
   · rw [if_neg (by omega), List.drop_eq_nil_of_le (by omega)]
     rfl
theorem at_f (n : ByteArray) (l : List S72) (hl : l.length ≤ 9223372036854775807) (k : Nat) (hk : l.length < k) : vector_At.f k l n = some (atS n l) := by
 unfold vector_At.f
 rw [show (0 : Int) = ((0 : Nat) : Int) from rfl, at_l0 n l hl k 0 (by omega) (by omega)]
 simp
theorem text_f (s : ByteArray) : order_isText.f s = some (decide (1 ≤ s.size) && decide (s.size ≤ 32)) := by
 unfold order_isText.f
 by_cases h : s.toList = []
 · rw [if_pos h]
   have : s.size = 0 := by rw [ByteArray.toList_eq] at h; have := congrArg List.length h; simpa using this
   simp [this]
 · rw [if_neg h]
   have : 1 ≤ s.size := by
    rcases Nat.eq_zero_or_pos s.size with h0 | h0
    · exact absurd (by rw [ByteArray.toList_eq]; exact List.eq_nil_of_length_eq_zero (by simpa using h0)) h
    · exact h0
   simp [this]; omega
def lessD (a b : S72) : Bool := Op.bytesLess a.f0.toList b.f0.toList || (decide (a.f0.toList = b.f0.toList) && decide (a.f1 < b.f1))
theorem stands_f (k : Nat) (hk : 3 ≤ k) (a b : S72) : ∃ t, order_stands.f k a.f0 a.f1 b.f0 b.f1 = some t ∧ (t ≥ 0 ↔ lessD a b = false) := by
 obtain ⟨k, rfl⟩ : ∃ m, k = m + 3 := ⟨k - 3, by omega⟩
 have hc := cmp_lt a.f0.toList b.f0.toList
 unfold order_stands.f strings_Compare.f cmp_Compare_int64.f cmp_isNaN_int64.f cmp_Or_int.f
 rw [ByteArray.toList_eq, ByteArray.toList_eq] at hc
 simp only [Option.bind_some, bne_self_eq_false, Bool.false_eq_true, if_false]
 obtain ⟨c, hcc⟩ : ∃ c, Lib.compareBytes a.f0.data.toList b.f0.data.toList = c := ⟨_, rfl⟩
 rw [hcc] at hc ⊢
 have e0 : ∀ x y : Int, rd ([x, y] : List Int) 0 = x := fun x y => rfl
 have e1 : ∀ x y : Int, rd ([x, y] : List Int) 1 = y := fun x y => rfl
 have w0 : wrap64 ((0 : Int) + 1) = 1 := by unfold wrap64; omega
 have w1 : wrap64 ((1 : Int) + 1) = 2 := by unfold wrap64; omega
 have key : ∀ d : Int, cmp_Or_int.l0 (k + 3) 0 [c, d] (([c, d] : List Int).length : Int) 0 = some (if c = 0 then d else c) := by
  intro d
  simp only [cmp_Or_int.l0, List.length_cons, List.length_nil]
  rw [if_pos (by omega), if_pos (by omega), if_pos (by omega), e0]
  by_cases h0 : c = 0
  · rw [if_pos h0, w0, if_pos (by omega), if_pos (by omega), if_pos (by omega), e1]
    by_cases h1 : d = 0
    · rw [if_pos h1, w1, if_neg (by omega), if_pos h0, h1]
    · rw [if_neg h1, if_pos h0]
  · rw [if_neg h0, if_neg h0]
 unfold lessD
 rw [ByteArray.toList_eq, ByteArray.toList_eq]
 by_cases h0 : c = 0
 · have he := hc.2.1 h0
   have hl : Op.bytesLess a.f0.data.toList b.f0.data.toList = false := by rw [he]; exact bl_irr _
   by_cases h1 : a.f1 < b.f1
   · rw [if_pos h1]; simp only [Option.bind_some, key]; exact ⟨_, rfl, by simp [h0, he, h1, bl_irr]⟩
   · rw [if_neg h1]
     by_cases h2 : a.f1 > b.f1
     · rw [if_pos h2]; simp only [Option.bind_some, key]; exact ⟨_, rfl, by simp [h0, he, h1, bl_irr]⟩
     · rw [if_neg h2]; simp only [Option.bind_some, key]; exact ⟨_, rfl, by simp [h0, he, h1, bl_irr]⟩
 · have he : ¬ a.f0.data.toList = b.f0.data.toList := fun h => h0 (hc.2.2 h)
   have h3 : c ≥ 0 ↔ Op.bytesLess a.f0.data.toList b.f0.data.toList = false := by
    cases hb : Op.bytesLess a.f0.data.toList b.f0.data.toList
    · have := mt hc.1.1 (by simp [hb]); simp; omega
    · have := hc.1.2 hb; simp; omega
   have fin : ∀ d : Int, (if c = 0 then d else c) ≥ 0 ↔ (Op.bytesLess a.f0.data.toList b.f0.data.toList || (decide (a.f0.data.toList = b.f0.data.toList) && decide (a.f1 < b.f1))) = false := fun d => by
    rw [if_neg h0]; simp [he]; simpa using h3
   by_cases h1 : a.f1 < b.f1
   · rw [if_pos h1]; simp only [Option.bind_some, key]; exact ⟨_, rfl, fin _⟩
   · rw [if_neg h1]
     by_cases h2 : a.f1 > b.f1
     · rw [if_pos h2]; simp only [Option.bind_some, key]; exact ⟨_, rfl, fin _⟩
     · rw [if_neg h2]; simp only [Option.bind_some, key]; exact ⟨_, rfl, fin _⟩
def seenS (deps : List S72) : Option S72 → List S72 → Bool
 | _, [] => true
 | p, x :: l => hasS deps x.f0 x.f1 && (match p with | none => true | some q => lessD q x) && seenS deps (some x) l
def kindS (o : S74) : Bool :=
 if o.f3 = 1 then decide (o.f6.length = 0) && decide (1 ≤ o.f5) && decide (o.f5 ≤ 9999)
 else if o.f3 = 2 then decide (1 ≤ o.f5) && decide (o.f5 ≤ 9999) else decide (o.f3 = 3) && decide (o.f5 = 0)
def rightO (o : S74) : Bool :=
 dotOk o.f0 && rightS o.f1 && decide (atS o.f0.f0 o.f1 = o.f0.f1 - 1) && (decide (1 ≤ o.f2.size) && decide (o.f2.size ≤ 32)) && (decide (1 ≤ o.f4.size) && decide (o.f4.size ≤ 32)) && decide (o.f6.length ≤ 128) && seenS o.f1 none o.f6 && kindS o
theorem rightS_one (d : S72) : rightS [d] = dotOk d := by
 unfold rightS
 simp only [rises, List.length_cons, List.length_nil, Bool.and_true]
 cases h : dotOk d
 · simp
 · have := dotOk_name h; rw [this]; simp
end Go.Proofs.Ytjejhgjdmbodiaa.PO
end
