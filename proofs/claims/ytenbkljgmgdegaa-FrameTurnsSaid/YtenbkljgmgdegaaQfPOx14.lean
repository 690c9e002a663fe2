/- What the rows of this claim use, out of the texts of this work (POx14, TP, TD, TS, TY, OD, OF, OT, OX, OR, OZ). No condition beyond those that each statement names. -/
import Derived.Laws.CopyRow
import Derived.Laws.Tables
import Derived.Carry
import Derived.Deep.RegionHeld3
import Derived.Test.YtenbkljgmgdegaaQfPOx0
import Derived.Test.YtenbkljgmgdegaaQfOA
import Derived.Test.YtenbkljgmgdegaaQfPOx12
import Derived.Test.YtenbkljgmgdegaaQfPOx2
import Derived.Test.YtenbkljgmgdegaaQfPOx7
import Derived.Test.YtenbkljgmgdegaaQfX
import Derived.Test.YtenbkljgmgdegaaQfOV
import Derived.Test.YtenbkljgmgdegaaQfFF
section
namespace Go.Proofs.Ytenbkljgmgdegaa.PO
open Go.Proofs.Ytenbkljgmgdegaa
open Go.RowKit Go.Proofs.YtenbkljgmgdegaaW.PrintWords Go.Proofs.YtenbkljgmgdegaaW.PrintLast Go.Proofs.YtenbkljgmgdegaaW.PrintMore
attribute [local go_sem] max2_int min2_int max_two min_two max_three min_three max_four min_four   -- for this text's walks alone
set_option linter.unusedVariables false
set_option linter.unusedSimpArgs false
abbrev bqaPOx14_0 : Array Bool := #[false, false, false, false, false, false, false, false, false, false]
abbrev bqaPOx14_1 : Array Bool := #[true, false, false, false, false, false, false, false, false, false]
abbrev bqaPOx14_2 : Array Bool := #[true, true, false, false, false, false, false, false, false, false]
abbrev bqaPOx14_3 : Array Bool := #[true, true, true, false, false, false, false, false, false, false]
abbrev bqaPOx14_4 : Array Bool := #[true, true, true, false, true, false, false, false, false, false]
abbrev bqaPOx14_5 : Array Bool := #[true, true, true, false, true, true, false, false, false, false]
abbrev bqaPOx14_6 : Array Bool := #[true, true, true, false, true, true, true, false, false, false]
abbrev bqaPOx14_7 : Array Bool := #[true, true, true, true, true, true, true, false, false, false]
abbrev bqaPOx14_8 : Array Bool := #[true, true, true, true, true, true, true, true, false, false]
abbrev bqaPOx14_9 : Array Bool := #[true, true, true, true, true, true, true, true, true, false]
abbrev bqaPOx14_10 : Array Bool := #[true, true, true, true, true, true, true, true, true, true]
def pannierref08_SameOps.l0 : Nat → List (S36) → List (S36) → Int → Option (Bool)
 | 0, _, _, _ => none
 | k + 1, x0, x1, x5 => if x5 < (x0.length : Int) then (if 0 ≤ x5 then (if x5 < (x1.length : Int) then ((pannierref08_Equal.f k ((rd_T36 x0 x5).f0.f0) ((rd_T36 x0 x5).f0.f1) ((rd_T36 x0 x5).f1) ((rd_T36 x0 x5).f2) ((rd_T36 x0 x5).f3) ((rd_T36 x0 x5).f4) ((rd_T36 x0 x5).f5) ((rd_T36 x0 x5).f6) ((rd_T36 x1 x5).f0.f0) ((rd_T36 x1 x5).f0.f1) ((rd_T36 x1 x5).f1) ((rd_T36 x1 x5).f2) ((rd_T36 x1 x5).f3) ((rd_T36 x1 x5).f4) ((rd_T36 x1 x5).f5) ((rd_T36 x1 x5).f6)).bind fun t241 => (if t241 = true then (pannierref08_SameOps.l0 k x0 x1 (wrap64 (x5 + 1))) else (some false))) else (none)) else (none)) else (some true)
def pannierref08_SameOps.f (k : Nat) (l0 : List (S36)) (l1 : List (S36)) : Option (Bool) := if (l0.length : Int) = (l1.length : Int) then (pannierref08_SameOps.l0 k l0 l1 0) else (some false)
def pannierref08_SameOps.T6 : Bool × List (List Nat × List Nat) := (true, [([], []), ([], []), ([0, 1], [0, 1]), ([2], [2]), ([], []), ([], []), ([4, 5], [4, 5]), ([6], [6]), ([3, 7], [3, 7]), ([8, 8, 0, 1, 2, 3, 4, 5, 6, 7, 8], [8])])
def pannierref08_SameOps.B6 : List Nat := [0, 0, 3, 7, 0, 0, 48, 112, 255, 511]
theorem pannierref08_SameOps.tab6 : rtab .any (opsOf Try.f21 6) = pannierref08_SameOps.T6 := by kernel_rfl
theorem pannierref08_SameOps.bits6 : waitsOk pannierref08_SameOps.T6.2 pannierref08_SameOps.B6 = true := by kernel_rfl
set_option maxHeartbeats 8000000 in
set_option maxRecDepth 100000 in
theorem pannierref08_SameOps.calls (k : Nat) (A0 : Option Addr) (c0 : Nat) (l0 : List (S36)) (A1 : Option Addr) (c1 : Nat) (l1 : List (S36)) (r : Bool) (w : World) (hr0 : Kd.C k36 w A0 l0.length l0) (hc0 : l0.length ≤ c0) (hr1 : Kd.C k36 w A1 l1.length l1) (hc1 : l1.length ≤ c1) (h : pannierref08_SameOps.f k l0 l1 = some r) :
 Calls Try.prog 21 #[.slice A0 l0.length c0, .slice A1 l1.length c1] w fun e w' => e = .returned (.bool r) ∧ Below w.heap.size w w' := by
 have hu36 := Try.underlying36
 have HR0 := Aside0.mk hr0
 have HC0 := Aside0.mk hc0
 clear hr0 hc0
 have HR1 := Aside0.mk hr1
 have HC1 := Aside0.mk hc1
 clear hr1 hc1
 have HB := Aside0.mk (Below.refl w.heap.size w)
 have H : (if (l0.length : Int) = (l1.length : Int) then (pannierref08_SameOps.l0 k l0 l1 0) else (some false)) = some r := h
 clear h
 by_cases c3 : (l0.length : Int) = (l1.length : Int)
 · rw [if_pos c3] at H
   have c3b0 : ((l0.length : Int) == (l1.length : Int)) = true := beq_iff_eq.mpr c3
   have c3b1 : ((l0.length : Int) != (l1.length : Int)) = false := bne_eq_false_iff_eq.mpr c3
   have c3b2 : (l0.length == l1.length) = true := by first | simpa using c3 | (simp at c3 ⊢; omega)
   clear c3
   have H' := Aside0.mk H
   clear H
   go_enter Try.func21, Try.ntmps21
   go_wp2
   go_loopg [5] k (fun kq v5 w' => ∃ (x5_1 : Int), v5 = .int .i64 x5_1 ∧ Aside0 (pannierref08_SameOps.l0 kq l0 l1 x5_1 = some r) ∧ Aside0 (kq ≤ k) ∧ Aside0 (Below w.heap.size w w'))
   case atStart => exact ⟨(0), (by first | rfl | (simp; done) | (simp [*]; done)), H', ⟨Nat.le_refl _⟩, ⟨by repeat (first | (with_reducible first | exact HB.out | apply below_alloc | apply pw_below_drewN | apply below_drew1) | exact HB.out)⟩⟩
   case round =>
    clear H'
    try clear c1
    try clear c2
    try clear p2
    try clear c3
    try clear c3b0
    try clear c3b1
    try clear c3b2
    obtain ⟨x5_1, rfl, HA, HK1, HB⟩ := hrel
    cases gk with
    | zero => exact absurd HA.out (by simp [pannierref08_SameOps.l0])
    | succ k1 =>
     have H := HA.out
     clear HA
     simp only [pannierref08_SameOps.l0] at H
     by_cases c4 : x5_1 < (l0.length : Int)
     · rw [if_pos c4] at H
       have c4b0 : decide (x5_1 < (l0.length : Int)) = true := decide_eq_true c4
       clear c4
       by_cases c5 : 0 ≤ x5_1
       · rw [if_pos c5] at H
         have c5b0 : decide (0 ≤ x5_1) = true := decide_eq_true c5
         clear c5
         by_cases c6 : x5_1 < (l1.length : Int)
         · rw [if_pos c6] at H
           have c6b0 : decide (x5_1 < (l1.length : Int)) = true := decide_eq_true c6
           clear c6
           replace H := Option.bind_eq_some_iff.mp H
           obtain ⟨t241, A70, H⟩ := H
           replace H : (if t241 = true then (pannierref08_SameOps.l0 k1 l0 l1 (wrap64 (x5_1 + 1))) else (some false)) = some r := H
           have A7 := Aside0.mk A70
           clear A70
           by_cases c8 : t241 = true
           · subst c8
             have H1 : (pannierref08_SameOps.l0 k1 l0 l1 (wrap64 (x5_1 + 1))) = some r := by rw [if_pos rfl] at H; exact H
             clear H
             have H := H1
             clear H1
             have H' := Aside0.mk H
             clear H
             try go_wp2
             have n0_ := Aside0.mk (below_drew1 HB.out)
             clear HB
             have HB := n0_
             clear n0_
             have p239 : 0 ≤ (x5_1 : Int) := of_decide_eq_true (by first | (with_reducible assumption) | assumption)
             have q239 : x5_1 < (l0.length : Int) := of_decide_eq_true (by first | (with_reducible assumption) | assumption)
             obtain ⟨ad239, A239_2, c239_2, A239_7, c239_7, e239, hx239_0, hx239_1, hx239_2, hx239_3, hx239_4, hx239_5, hx239_6, hx239_7, hl239_2, hi239_2, hl239_7, hi239_7⟩ := at_T36 HR0.out x5_1 p239 q239
             have hw239_7 := hx239_7
             have hw239_6 := hx239_6
             have hw239_5 := hx239_5
             have hw239_4 := hx239_4
             have hw239_3 := hx239_3
             have hw239_2 := hx239_2
             have hw239_1 := hx239_1
             have hw239_0 := hx239_0
             cases e239
             replace hx239_0 := (HB.out.cell (World.block_lt_of_cell? w _ hx239_0)).trans hx239_0
             replace hx239_1 := (HB.out.cell (World.block_lt_of_cell? w _ hx239_1)).trans hx239_1
             replace hx239_2 := (HB.out.cell (World.block_lt_of_cell? w _ hx239_2)).trans hx239_2
             replace hx239_3 := (HB.out.cell (World.block_lt_of_cell? w _ hx239_3)).trans hx239_3
             replace hx239_4 := (HB.out.cell (World.block_lt_of_cell? w _ hx239_4)).trans hx239_4
             replace hx239_5 := (HB.out.cell (World.block_lt_of_cell? w _ hx239_5)).trans hx239_5
             replace hx239_6 := (HB.out.cell (World.block_lt_of_cell? w _ hx239_6)).trans hx239_6
             replace hx239_7 := (HB.out.cell (World.block_lt_of_cell? w _ hx239_7)).trans hx239_7
             have HR239_2 := Aside0.mk hi239_2
             have HC239_2 := Aside0.mk hl239_2
             clear hi239_2 hl239_2
             have HR239_7 := Aside0.mk hi239_7
             have HC239_7 := Aside0.mk hl239_7
             clear hi239_7 hl239_7
             replace p239 := eq_true p239
             replace q239 := eq_true q239
             have p240 : 0 ≤ (x5_1 : Int) := of_decide_eq_true (by first | (with_reducible assumption) | assumption)
             have q240 : x5_1 < (l1.length : Int) := of_decide_eq_true (by first | (with_reducible assumption) | assumption)
             obtain ⟨ad240, A240_2, c240_2, A240_7, c240_7, e240, hx240_0, hx240_1, hx240_2, hx240_3, hx240_4, hx240_5, hx240_6, hx240_7, hl240_2, hi240_2, hl240_7, hi240_7⟩ := at_T36 HR1.out x5_1 p240 q240
             have hw240_7 := hx240_7
             have hw240_6 := hx240_6
             have hw240_5 := hx240_5
             have hw240_4 := hx240_4
             have hw240_3 := hx240_3
             have hw240_2 := hx240_2
             have hw240_1 := hx240_1
             have hw240_0 := hx240_0
             cases e240
             replace hx240_0 := (HB.out.cell (World.block_lt_of_cell? w _ hx240_0)).trans hx240_0
             replace hx240_1 := (HB.out.cell (World.block_lt_of_cell? w _ hx240_1)).trans hx240_1
             replace hx240_2 := (HB.out.cell (World.block_lt_of_cell? w _ hx240_2)).trans hx240_2
             replace hx240_3 := (HB.out.cell (World.block_lt_of_cell? w _ hx240_3)).trans hx240_3
             replace hx240_4 := (HB.out.cell (World.block_lt_of_cell? w _ hx240_4)).trans hx240_4
             replace hx240_5 := (HB.out.cell (World.block_lt_of_cell? w _ hx240_5)).trans hx240_5
             replace hx240_6 := (HB.out.cell (World.block_lt_of_cell? w _ hx240_6)).trans hx240_6
             replace hx240_7 := (HB.out.cell (World.block_lt_of_cell? w _ hx240_7)).trans hx240_7
             have HR240_2 := Aside0.mk hi240_2
             have HC240_2 := Aside0.mk hl240_2
             clear hi240_2 hl240_2
             have HR240_7 := Aside0.mk hi240_7
             have HC240_7 := Aside0.mk hl240_7
             clear hi240_7 hl240_7
             replace p240 := eq_true p240
             replace q240 := eq_true q240
             refine start_ (n := 10) (S := fun w' => w'.cell? (ad239.add ((x5_1).toNat * 8)) = some (.string ((rd_T36 l0 x5_1).f0.f0)) ∧ w'.cell? ⟨(ad239.add ((x5_1).toNat * 8)).block, (ad239.add ((x5_1).toNat * 8)).off + 1, none⟩ = some (.int .i64 ((rd_T36 l0 x5_1).f0.f1)) ∧ w'.cell? ⟨(ad239.add ((x5_1).toNat * 8)).block, (ad239.add ((x5_1).toNat * 8)).off + 2, none⟩ = some (.slice A239_2 ((rd_T36 l0 x5_1).f1).length c239_2) ∧ w'.cell? ⟨(ad239.add ((x5_1).toNat * 8)).block, (ad239.add ((x5_1).toNat * 8)).off + 3, none⟩ = some (.string ((rd_T36 l0 x5_1).f2)) ∧ w'.cell? ⟨(ad239.add ((x5_1).toNat * 8)).block, (ad239.add ((x5_1).toNat * 8)).off + 4, none⟩ = some (.int .i64 ((rd_T36 l0 x5_1).f3)) ∧ w'.cell? ⟨(ad239.add ((x5_1).toNat * 8)).block, (ad239.add ((x5_1).toNat * 8)).off + 5, none⟩ = some (.string ((rd_T36 l0 x5_1).f4)) ∧ w'.cell? ⟨(ad239.add ((x5_1).toNat * 8)).block, (ad239.add ((x5_1).toNat * 8)).off + 6, none⟩ = some (.int .i64 ((rd_T36 l0 x5_1).f5)) ∧ w'.cell? ⟨(ad239.add ((x5_1).toNat * 8)).block, (ad239.add ((x5_1).toNat * 8)).off + 7, none⟩ = some (.slice A239_7 ((rd_T36 l0 x5_1).f6).length c239_7) ∧ w'.cell? (ad240.add ((x5_1).toNat * 8)) = some (.string ((rd_T36 l1 x5_1).f0.f0)) ∧ w'.cell? ⟨(ad240.add ((x5_1).toNat * 8)).block, (ad240.add ((x5_1).toNat * 8)).off + 1, none⟩ = some (.int .i64 ((rd_T36 l1 x5_1).f0.f1)) ∧ w'.cell? ⟨(ad240.add ((x5_1).toNat * 8)).block, (ad240.add ((x5_1).toNat * 8)).off + 2, none⟩ = some (.slice A240_2 ((rd_T36 l1 x5_1).f1).length c240_2) ∧ w'.cell? ⟨(ad240.add ((x5_1).toNat * 8)).block, (ad240.add ((x5_1).toNat * 8)).off + 3, none⟩ = some (.string ((rd_T36 l1 x5_1).f2)) ∧ w'.cell? ⟨(ad240.add ((x5_1).toNat * 8)).block, (ad240.add ((x5_1).toNat * 8)).off + 4, none⟩ = some (.int .i64 ((rd_T36 l1 x5_1).f3)) ∧ w'.cell? ⟨(ad240.add ((x5_1).toNat * 8)).block, (ad240.add ((x5_1).toNat * 8)).off + 5, none⟩ = some (.string ((rd_T36 l1 x5_1).f4)) ∧ w'.cell? ⟨(ad240.add ((x5_1).toNat * 8)).block, (ad240.add ((x5_1).toNat * 8)).off + 6, none⟩ = some (.int .i64 ((rd_T36 l1 x5_1).f5)) ∧ w'.cell? ⟨(ad240.add ((x5_1).toNat * 8)).block, (ad240.add ((x5_1).toNat * 8)).off + 7, none⟩ = some (.slice A240_7 ((rd_T36 l1 x5_1).f6).length c240_7)) (ds := []) bqaPOx14_0 (by kernel_rfl) rfl rfl ⟨((HB.out.cell (World.block_lt_of_cell? w _ hw239_0)).trans hw239_0), ((HB.out.cell (World.block_lt_of_cell? w _ hw239_1)).trans hw239_1), ((HB.out.cell (World.block_lt_of_cell? w _ hw239_2)).trans hw239_2), ((HB.out.cell (World.block_lt_of_cell? w _ hw239_3)).trans hw239_3), ((HB.out.cell (World.block_lt_of_cell? w _ hw239_4)).trans hw239_4), ((HB.out.cell (World.block_lt_of_cell? w _ hw239_5)).trans hw239_5), ((HB.out.cell (World.block_lt_of_cell? w _ hw239_6)).trans hw239_6), ((HB.out.cell (World.block_lt_of_cell? w _ hw239_7)).trans hw239_7), ((HB.out.cell (World.block_lt_of_cell? w _ hw240_0)).trans hw240_0), ((HB.out.cell (World.block_lt_of_cell? w _ hw240_1)).trans hw240_1), ((HB.out.cell (World.block_lt_of_cell? w _ hw240_2)).trans hw240_2), ((HB.out.cell (World.block_lt_of_cell? w _ hw240_3)).trans hw240_3), ((HB.out.cell (World.block_lt_of_cell? w _ hw240_4)).trans hw240_4), ((HB.out.cell (World.block_lt_of_cell? w _ hw240_5)).trans hw240_5), ((HB.out.cell (World.block_lt_of_cell? w _ hw240_6)).trans hw240_6), ((HB.out.cell (World.block_lt_of_cell? w _ hw240_7)).trans hw240_7)⟩ (fun hHeld => ?_); refine with_tabW pannierref08_SameOps.tab6 pannierref08_SameOps.bits6 (fun HT_ HW_ => ?_)
             generalize wr.drew = w9 at HB HR239_2 HR239_7 HR240_2 HR240_7 hx239_0 hx239_1 hx239_2 hx239_3 hx239_4 hx239_5 hx239_6 hx239_7 hx240_0 hx240_1 hx240_2 hx240_3 hx240_4 hx240_5 hx240_6 hx240_7 hHeld ⊢
             refine XReg.pu 0 18 (h := ?_)
             refine XReg.pu 1 19 (h := ?_)
             refine XReg.pu 2 20 (h := ?_)
             refine XReg.pu 4 22 (h := ?_)
             refine XReg.pu 5 23 (h := ?_)
             refine XReg.pu 6 24 (h := ?_)
             refine XReg.tk 3 21 (hS := hHeld) (hy := by (rintro w' ⟨s0, s1, s2, s3, s4, s5, s6, s7, s8, s9, s10, s11, s12, s13, s14, s15⟩; go_simp; with_reducible rfl)) (h := ?_)
             refine XReg.tk 7 25 (hS := hHeld) (hy := by (rintro w' ⟨s0, s1, s2, s3, s4, s5, s6, s7, s8, s9, s10, s11, s12, s13, s14, s15⟩; go_simp; with_reducible rfl)) (h := ?_)
             refine one_ (i := 8) (N := some 26) bqaPOx14_9 rfl rfl (_root_.Go.Proofs.YtenbkljgmgdegaaW.PrintLast.one_of HT_.out (by kernel_rfl)) (by decide) (fun K hK => ?_)
             refine goes_ Try.func48 (by kernel_rfl) rfl #[.agg #[.string ((rd_T36 l0 x5_1).f0.f0), .int .i64 ((rd_T36 l0 x5_1).f0.f1), .slice A239_2 ((rd_T36 l0 x5_1).f1).length c239_2, .string ((rd_T36 l0 x5_1).f2), .int .i64 ((rd_T36 l0 x5_1).f3), .string ((rd_T36 l0 x5_1).f4), .int .i64 ((rd_T36 l0 x5_1).f5), .slice A239_7 ((rd_T36 l0 x5_1).f6).length c239_7], .agg #[.string ((rd_T36 l1 x5_1).f0.f0), .int .i64 ((rd_T36 l1 x5_1).f0.f1), .slice A240_2 ((rd_T36 l1 x5_1).f1).length c240_2, .string ((rd_T36 l1 x5_1).f2), .int .i64 ((rd_T36 l1 x5_1).f3), .string ((rd_T36 l1 x5_1).f4), .int .i64 ((rd_T36 l1 x5_1).f5), .slice A240_7 ((rd_T36 l1 x5_1).f6).length c240_7]] (by rfl) rfl rfl (by (try simp only [List.map_toArray, List.map_cons, List.map_nil]); first | done | rfl | (simp only [List.length_drop, List.length_take]; rfl)) ?_
             with_reducible refine (pannierref08_Equal.calls k1 ((rd_T36 l0 x5_1).f0.f0) ((rd_T36 l0 x5_1).f0.f1) _ _ ((rd_T36 l0 x5_1).f1) ((rd_T36 l0 x5_1).f2) ((rd_T36 l0 x5_1).f3) ((rd_T36 l0 x5_1).f4) ((rd_T36 l0 x5_1).f5) _ _ ((rd_T36 l0 x5_1).f6) ((rd_T36 l1 x5_1).f0.f0) ((rd_T36 l1 x5_1).f0.f1) _ _ ((rd_T36 l1 x5_1).f1) ((rd_T36 l1 x5_1).f2) ((rd_T36 l1 x5_1).f3) ((rd_T36 l1 x5_1).f4) ((rd_T36 l1 x5_1).f5) _ _ ((rd_T36 l1 x5_1).f6) true _ ?side1 ?side2 ?side3 ?side4 ?side5 ?side6 ?side7 ?side8 A7.out).mono ?_
             (case side1 => repeat (first | exact (Kd.C_below HR239_2.out HB.out) | (with_reducible refine Kd.C_alloc ?_ _) | (with_reducible refine Kd.C_drewN ?_ _) | (with_reducible refine Kd.C_drew ?_)))
             (case side2 => exact HC239_2.out)
             (case side3 => repeat (first | exact (Kd.C_below HR239_7.out HB.out) | (with_reducible refine Kd.C_alloc ?_ _) | (with_reducible refine Kd.C_drewN ?_ _) | (with_reducible refine Kd.C_drew ?_)))
             (case side4 => exact HC239_7.out)
             (case side5 => repeat (first | exact (Kd.C_below HR240_2.out HB.out) | (with_reducible refine Kd.C_alloc ?_ _) | (with_reducible refine Kd.C_drewN ?_ _) | (with_reducible refine Kd.C_drew ?_)))
             (case side6 => exact HC240_2.out)
             (case side7 => repeat (first | exact (Kd.C_below HR240_7.out HB.out) | (with_reducible refine Kd.C_alloc ?_ _) | (with_reducible refine Kd.C_drewN ?_ _) | (with_reducible refine Kd.C_drew ?_)))
             (case side8 => exact HC240_7.out)
             rintro e w10 ⟨rfl, hb⟩
             refine ⟨_, rfl, ?_⟩
             have n0_ := Aside0.mk (below_step (by repeat (first | (with_reducible first | exact HB.out | apply below_alloc | apply pw_below_drewN | apply below_drew1) | exact HB.out)) hb)
             clear HB
             have HB := n0_
             clear n0_
             (try clear hb)
             (try clear hb2)
             (try clear hk)
             (try clear hi)
             refine hK.out _ _ ⟨((HB.out.cell (World.block_lt_of_cell? w _ hw239_0)).trans hw239_0), ((HB.out.cell (World.block_lt_of_cell? w _ hw239_1)).trans hw239_1), ((HB.out.cell (World.block_lt_of_cell? w _ hw239_2)).trans hw239_2), ((HB.out.cell (World.block_lt_of_cell? w _ hw239_3)).trans hw239_3), ((HB.out.cell (World.block_lt_of_cell? w _ hw239_4)).trans hw239_4), ((HB.out.cell (World.block_lt_of_cell? w _ hw239_5)).trans hw239_5), ((HB.out.cell (World.block_lt_of_cell? w _ hw239_6)).trans hw239_6), ((HB.out.cell (World.block_lt_of_cell? w _ hw239_7)).trans hw239_7), ((HB.out.cell (World.block_lt_of_cell? w _ hw240_0)).trans hw240_0), ((HB.out.cell (World.block_lt_of_cell? w _ hw240_1)).trans hw240_1), ((HB.out.cell (World.block_lt_of_cell? w _ hw240_2)).trans hw240_2), ((HB.out.cell (World.block_lt_of_cell? w _ hw240_3)).trans hw240_3), ((HB.out.cell (World.block_lt_of_cell? w _ hw240_4)).trans hw240_4), ((HB.out.cell (World.block_lt_of_cell? w _ hw240_5)).trans hw240_5), ((HB.out.cell (World.block_lt_of_cell? w _ hw240_6)).trans hw240_6), ((HB.out.cell (World.block_lt_of_cell? w _ hw240_7)).trans hw240_7)⟩ (fun hHeld => ?_)
             clear hK K
             refine norm_ (a' := ?_) ?_ ?_
             rotate_left
             · show Act.put _ (some 26) _ = _
               simp only [Act.put, List.setIfInBounds_toArray, List.set_cons_zero, List.set_cons_succ, i64_w, i32_w]
               rfl
             refine XReg.pu 9 6 (h := ?_)
             refine done_ (done_of HT_.out (by kernel_rfl)) ?_
             try go_wp2
             go_roundg k1
             case measure => have := HK1.out; omega
             case rel => exact ⟨(wrap64 (x5_1 + 1)), (by first | rfl | (simp; done) | (simp [*]; done)), H', ⟨by have := HK1.out; omega⟩, ⟨by repeat (first | (with_reducible first | exact HB.out | apply below_alloc | apply pw_below_drewN | apply below_drew1) | exact HB.out)⟩⟩
           · replace c8 := Bool.eq_false_iff.mpr c8
             subst c8
             have H1 : (some false) = some r := by rw [if_neg (show ¬ (false = true) by decide)] at H; exact H
             clear H
             have H := H1
             clear H1
             obtain rfl := Option.some.inj H
             try go_wp2
             have n0_ := Aside0.mk (below_drew1 HB.out)
             clear HB
             have HB := n0_
             clear n0_
             have p239 : 0 ≤ (x5_1 : Int) := of_decide_eq_true (by first | (with_reducible assumption) | assumption)
             have q239 : x5_1 < (l0.length : Int) := of_decide_eq_true (by first | (with_reducible assumption) | assumption)
             obtain ⟨ad239, A239_2, c239_2, A239_7, c239_7, e239, hx239_0, hx239_1, hx239_2, hx239_3, hx239_4, hx239_5, hx239_6, hx239_7, hl239_2, hi239_2, hl239_7, hi239_7⟩ := at_T36 HR0.out x5_1 p239 q239
             have hw239_7 := hx239_7
             have hw239_6 := hx239_6
             have hw239_5 := hx239_5
             have hw239_4 := hx239_4
             have hw239_3 := hx239_3
             have hw239_2 := hx239_2
             have hw239_1 := hx239_1
             have hw239_0 := hx239_0
             cases e239
             replace hx239_0 := (HB.out.cell (World.block_lt_of_cell? w _ hx239_0)).trans hx239_0
             replace hx239_1 := (HB.out.cell (World.block_lt_of_cell? w _ hx239_1)).trans hx239_1
             replace hx239_2 := (HB.out.cell (World.block_lt_of_cell? w _ hx239_2)).trans hx239_2
             replace hx239_3 := (HB.out.cell (World.block_lt_of_cell? w _ hx239_3)).trans hx239_3
             replace hx239_4 := (HB.out.cell (World.block_lt_of_cell? w _ hx239_4)).trans hx239_4
             replace hx239_5 := (HB.out.cell (World.block_lt_of_cell? w _ hx239_5)).trans hx239_5
             replace hx239_6 := (HB.out.cell (World.block_lt_of_cell? w _ hx239_6)).trans hx239_6
             replace hx239_7 := (HB.out.cell (World.block_lt_of_cell? w _ hx239_7)).trans hx239_7
             have HR239_2 := Aside0.mk hi239_2
             have HC239_2 := Aside0.mk hl239_2
             clear hi239_2 hl239_2
             have HR239_7 := Aside0.mk hi239_7
             have HC239_7 := Aside0.mk hl239_7
             clear hi239_7 hl239_7
             replace p239 := eq_true p239
             replace q239 := eq_true q239
             have p240 : 0 ≤ (x5_1 : Int) := of_decide_eq_true (by first | (with_reducible assumption) | assumption)
             have q240 : x5_1 < (l1.length : Int) := of_decide_eq_true (by first | (with_reducible assumption) | assumption)
             obtain ⟨ad240, A240_2, c240_2, A240_7, c240_7, e240, hx240_0, hx240_1, hx240_2, hx240_3, hx240_4, hx240_5, hx240_6, hx240_7, hl240_2, hi240_2, hl240_7, hi240_7⟩ := at_T36 HR1.out x5_1 p240 q240
             have hw240_7 := hx240_7
             have hw240_6 := hx240_6
             have hw240_5 := hx240_5
             have hw240_4 := hx240_4
             have hw240_3 := hx240_3
             have hw240_2 := hx240_2
             have hw240_1 := hx240_1
             have hw240_0 := hx240_0
             cases e240
             replace hx240_0 := (HB.out.cell (World.block_lt_of_cell? w _ hx240_0)).trans hx240_0
             replace hx240_1 := (HB.out.cell (World.block_lt_of_cell? w _ hx240_1)).trans hx240_1
             replace hx240_2 := (HB.out.cell (World.block_lt_of_cell? w _ hx240_2)).trans hx240_2
             replace hx240_3 := (HB.out.cell (World.block_lt_of_cell? w _ hx240_3)).trans hx240_3
             replace hx240_4 := (HB.out.cell (World.block_lt_of_cell? w _ hx240_4)).trans hx240_4
             replace hx240_5 := (HB.out.cell (World.block_lt_of_cell? w _ hx240_5)).trans hx240_5
             replace hx240_6 := (HB.out.cell (World.block_lt_of_cell? w _ hx240_6)).trans hx240_6
             replace hx240_7 := (HB.out.cell (World.block_lt_of_cell? w _ hx240_7)).trans hx240_7
             have HR240_2 := Aside0.mk hi240_2
             have HC240_2 := Aside0.mk hl240_2
             clear hi240_2 hl240_2
             have HR240_7 := Aside0.mk hi240_7
             have HC240_7 := Aside0.mk hl240_7
             clear hi240_7 hl240_7
             replace p240 := eq_true p240
             replace q240 := eq_true q240
             refine start_ (n := 10) (S := fun w' => w'.cell? (ad239.add ((x5_1).toNat * 8)) = some (.string ((rd_T36 l0 x5_1).f0.f0)) ∧ w'.cell? ⟨(ad239.add ((x5_1).toNat * 8)).block, (ad239.add ((x5_1).toNat * 8)).off + 1, none⟩ = some (.int .i64 ((rd_T36 l0 x5_1).f0.f1)) ∧ w'.cell? ⟨(ad239.add ((x5_1).toNat * 8)).block, (ad239.add ((x5_1).toNat * 8)).off + 2, none⟩ = some (.slice A239_2 ((rd_T36 l0 x5_1).f1).length c239_2) ∧ w'.cell? ⟨(ad239.add ((x5_1).toNat * 8)).block, (ad239.add ((x5_1).toNat * 8)).off + 3, none⟩ = some (.string ((rd_T36 l0 x5_1).f2)) ∧ w'.cell? ⟨(ad239.add ((x5_1).toNat * 8)).block, (ad239.add ((x5_1).toNat * 8)).off + 4, none⟩ = some (.int .i64 ((rd_T36 l0 x5_1).f3)) ∧ w'.cell? ⟨(ad239.add ((x5_1).toNat * 8)).block, (ad239.add ((x5_1).toNat * 8)).off + 5, none⟩ = some (.string ((rd_T36 l0 x5_1).f4)) ∧ w'.cell? ⟨(ad239.add ((x5_1).toNat * 8)).block, (ad239.add ((x5_1).toNat * 8)).off + 6, none⟩ = some (.int .i64 ((rd_T36 l0 x5_1).f5)) ∧ w'.cell? ⟨(ad239.add ((x5_1).toNat * 8)).block, (ad239.add ((x5_1).toNat * 8)).off + 7, none⟩ = some (.slice A239_7 ((rd_T36 l0 x5_1).f6).length c239_7) ∧ w'.cell? (ad240.add ((x5_1).toNat * 8)) = some (.string ((rd_T36 l1 x5_1).f0.f0)) ∧ w'.cell? ⟨(ad240.add ((x5_1).toNat * 8)).block, (ad240.add ((x5_1).toNat * 8)).off + 1, none⟩ = some (.int .i64 ((rd_T36 l1 x5_1).f0.f1)) ∧ w'.cell? ⟨(ad240.add ((x5_1).toNat * 8)).block, (ad240.add ((x5_1).toNat * 8)).off + 2, none⟩ = some (.slice A240_2 ((rd_T36 l1 x5_1).f1).length c240_2) ∧ w'.cell? ⟨(ad240.add ((x5_1).toNat * 8)).block, (ad240.add ((x5_1).toNat * 8)).off + 3, none⟩ = some (.string ((rd_T36 l1 x5_1).f2)) ∧ w'.cell? ⟨(ad240.add ((x5_1).toNat * 8)).block, (ad240.add ((x5_1).toNat * 8)).off + 4, none⟩ = some (.int .i64 ((rd_T36 l1 x5_1).f3)) ∧ w'.cell? ⟨(ad240.add ((x5_1).toNat * 8)).block, (ad240.add ((x5_1).toNat * 8)).off + 5, none⟩ = some (.string ((rd_T36 l1 x5_1).f4)) ∧ w'.cell? ⟨(ad240.add ((x5_1).toNat * 8)).block, (ad240.add ((x5_1).toNat * 8)).off + 6, none⟩ = some (.int .i64 ((rd_T36 l1 x5_1).f5)) ∧ w'.cell? ⟨(ad240.add ((x5_1).toNat * 8)).block, (ad240.add ((x5_1).toNat * 8)).off + 7, none⟩ = some (.slice A240_7 ((rd_T36 l1 x5_1).f6).length c240_7)) (ds := []) bqaPOx14_0 (by kernel_rfl) rfl rfl ⟨((HB.out.cell (World.block_lt_of_cell? w _ hw239_0)).trans hw239_0), ((HB.out.cell (World.block_lt_of_cell? w _ hw239_1)).trans hw239_1), ((HB.out.cell (World.block_lt_of_cell? w _ hw239_2)).trans hw239_2), ((HB.out.cell (World.block_lt_of_cell? w _ hw239_3)).trans hw239_3), ((HB.out.cell (World.block_lt_of_cell? w _ hw239_4)).trans hw239_4), ((HB.out.cell (World.block_lt_of_cell? w _ hw239_5)).trans hw239_5), ((HB.out.cell (World.block_lt_of_cell? w _ hw239_6)).trans hw239_6), ((HB.out.cell (World.block_lt_of_cell? w _ hw239_7)).trans hw239_7), ((HB.out.cell (World.block_lt_of_cell? w _ hw240_0)).trans hw240_0), ((HB.out.cell (World.block_lt_of_cell? w _ hw240_1)).trans hw240_1), ((HB.out.cell (World.block_lt_of_cell? w _ hw240_2)).trans hw240_2), ((HB.out.cell (World.block_lt_of_cell? w _ hw240_3)).trans hw240_3), ((HB.out.cell (World.block_lt_of_cell? w _ hw240_4)).trans hw240_4), ((HB.out.cell (World.block_lt_of_cell? w _ hw240_5)).trans hw240_5), ((HB.out.cell (World.block_lt_of_cell? w _ hw240_6)).trans hw240_6), ((HB.out.cell (World.block_lt_of_cell? w _ hw240_7)).trans hw240_7)⟩ (fun hHeld => ?_); refine with_tabW pannierref08_SameOps.tab6 pannierref08_SameOps.bits6 (fun HT_ HW_ => ?_)
             generalize wr.drew = w11 at HB HR239_2 HR239_7 HR240_2 HR240_7 hx239_0 hx239_1 hx239_2 hx239_3 hx239_4 hx239_5 hx239_6 hx239_7 hx240_0 hx240_1 hx240_2 hx240_3 hx240_4 hx240_5 hx240_6 hx240_7 hHeld ⊢
             refine XReg.pu 0 18 (h := ?_)
             refine XReg.pu 1 19 (h := ?_)
             refine XReg.pu 2 20 (h := ?_)
             refine XReg.pu 4 22 (h := ?_)
             refine XReg.pu 5 23 (h := ?_)
             refine XReg.pu 6 24 (h := ?_)
             refine XReg.tk 3 21 (hS := hHeld) (hy := by (rintro w' ⟨s0, s1, s2, s3, s4, s5, s6, s7, s8, s9, s10, s11, s12, s13, s14, s15⟩; go_simp; with_reducible rfl)) (h := ?_)
             refine XReg.tk 7 25 (hS := hHeld) (hy := by (rintro w' ⟨s0, s1, s2, s3, s4, s5, s6, s7, s8, s9, s10, s11, s12, s13, s14, s15⟩; go_simp; with_reducible rfl)) (h := ?_)
             refine one_ (i := 8) (N := some 26) bqaPOx14_9 rfl rfl (_root_.Go.Proofs.YtenbkljgmgdegaaW.PrintLast.one_of HT_.out (by kernel_rfl)) (by decide) (fun K hK => ?_)
             refine goes_ Try.func48 (by kernel_rfl) rfl #[.agg #[.string ((rd_T36 l0 x5_1).f0.f0), .int .i64 ((rd_T36 l0 x5_1).f0.f1), .slice A239_2 ((rd_T36 l0 x5_1).f1).length c239_2, .string ((rd_T36 l0 x5_1).f2), .int .i64 ((rd_T36 l0 x5_1).f3), .string ((rd_T36 l0 x5_1).f4), .int .i64 ((rd_T36 l0 x5_1).f5), .slice A239_7 ((rd_T36 l0 x5_1).f6).length c239_7], .agg #[.string ((rd_T36 l1 x5_1).f0.f0), .int .i64 ((rd_T36 l1 x5_1).f0.f1), .slice A240_2 ((rd_T36 l1 x5_1).f1).length c240_2, .string ((rd_T36 l1 x5_1).f2), .int .i64 ((rd_T36 l1 x5_1).f3), .string ((rd_T36 l1 x5_1).f4), .int .i64 ((rd_T36 l1 x5_1).f5), .slice A240_7 ((rd_T36 l1 x5_1).f6).length c240_7]] (by rfl) rfl rfl (by (try simp only [List.map_toArray, List.map_cons, List.map_nil]); first | done | rfl | (simp only [List.length_drop, List.length_take]; rfl)) ?_
             with_reducible refine (pannierref08_Equal.calls k1 ((rd_T36 l0 x5_1).f0.f0) ((rd_T36 l0 x5_1).f0.f1) _ _ ((rd_T36 l0 x5_1).f1) ((rd_T36 l0 x5_1).f2) ((rd_T36 l0 x5_1).f3) ((rd_T36 l0 x5_1).f4) ((rd_T36 l0 x5_1).f5) _ _ ((rd_T36 l0 x5_1).f6) ((rd_T36 l1 x5_1).f0.f0) ((rd_T36 l1 x5_1).f0.f1) _ _ ((rd_T36 l1 x5_1).f1) ((rd_T36 l1 x5_1).f2) ((rd_T36 l1 x5_1).f3) ((rd_T36 l1 x5_1).f4) ((rd_T36 l1 x5_1).f5) _ _ ((rd_T36 l1 x5_1).f6) false _ ?side1 ?side2 ?side3 ?side4 ?side5 ?side6 ?side7 ?side8 A7.out).mono ?_
             (case side1 => repeat (first | exact (Kd.C_below HR239_2.out HB.out) | (with_reducible refine Kd.C_alloc ?_ _) | (with_reducible refine Kd.C_drewN ?_ _) | (with_reducible refine Kd.C_drew ?_)))
             (case side2 => exact HC239_2.out)
             (case side3 => repeat (first | exact (Kd.C_below HR239_7.out HB.out) | (with_reducible refine Kd.C_alloc ?_ _) | (with_reducible refine Kd.C_drewN ?_ _) | (with_reducible refine Kd.C_drew ?_)))
             (case side4 => exact HC239_7.out)
             (case side5 => repeat (first | exact (Kd.C_below HR240_2.out HB.out) | (with_reducible refine Kd.C_alloc ?_ _) | (with_reducible refine Kd.C_drewN ?_ _) | (with_reducible refine Kd.C_drew ?_)))
             (case side6 => exact HC240_2.out)
             (case side7 => repeat (first | exact (Kd.C_below HR240_7.out HB.out) | (with_reducible refine Kd.C_alloc ?_ _) | (with_reducible refine Kd.C_drewN ?_ _) | (with_reducible refine Kd.C_drew ?_)))
             (case side8 => exact HC240_7.out)
             rintro e w12 ⟨rfl, hb⟩
             refine ⟨_, rfl, ?_⟩
             have n0_ := Aside0.mk (below_step (by repeat (first | (with_reducible first | exact HB.out | apply below_alloc | apply pw_below_drewN | apply below_drew1) | exact HB.out)) hb)
             clear HB
             have HB := n0_
             clear n0_
             (try clear hb)
             (try clear hb2)
             (try clear hk)
             (try clear hi)
             refine hK.out _ _ ⟨((HB.out.cell (World.block_lt_of_cell? w _ hw239_0)).trans hw239_0), ((HB.out.cell (World.block_lt_of_cell? w _ hw239_1)).trans hw239_1), ((HB.out.cell (World.block_lt_of_cell? w _ hw239_2)).trans hw239_2), ((HB.out.cell (World.block_lt_of_cell? w _ hw239_3)).trans hw239_3), ((HB.out.cell (World.block_lt_of_cell? w _ hw239_4)).trans hw239_4), ((HB.out.cell (World.block_lt_of_cell? w _ hw239_5)).trans hw239_5), ((HB.out.cell (World.block_lt_of_cell? w _ hw239_6)).trans hw239_6), ((HB.out.cell (World.block_lt_of_cell? w _ hw239_7)).trans hw239_7), ((HB.out.cell (World.block_lt_of_cell? w _ hw240_0)).trans hw240_0), ((HB.out.cell (World.block_lt_of_cell? w _ hw240_1)).trans hw240_1), ((HB.out.cell (World.block_lt_of_cell? w _ hw240_2)).trans hw240_2), ((HB.out.cell (World.block_lt_of_cell? w _ hw240_3)).trans hw240_3), ((HB.out.cell (World.block_lt_of_cell? w _ hw240_4)).trans hw240_4), ((HB.out.cell (World.block_lt_of_cell? w _ hw240_5)).trans hw240_5), ((HB.out.cell (World.block_lt_of_cell? w _ hw240_6)).trans hw240_6), ((HB.out.cell (World.block_lt_of_cell? w _ hw240_7)).trans hw240_7)⟩ (fun hHeld => ?_)
             clear hK K
             refine norm_ (a' := ?_) ?_ ?_
             rotate_left
             · show Act.put _ (some 26) _ = _
               simp only [Act.put, List.setIfInBounds_toArray, List.set_cons_zero, List.set_cons_succ, i64_w, i32_w]
               rfl
             refine XReg.pu 9 6 (h := ?_)
             refine done_ (done_of HT_.out (by kernel_rfl)) ?_
             try go_wp2
             go_ret
             exact ⟨by first | rfl | (simp [errW_none, errW_some] <;> rfl) | (simp [*, errW_none, errW_some] <;> rfl), by repeat (first | (with_reducible first | exact HB.out | apply below_alloc | apply pw_below_drewN | apply below_drew1) | exact HB.out)⟩
         · rw [if_neg c6] at H
           exact absurd H (by simp)
       · rw [if_neg c5] at H
         exact absurd H (by simp)
     · rw [if_neg c4] at H
       have c4b0 : decide (x5_1 < (l0.length : Int)) = false := decide_eq_false c4
       clear c4
       obtain rfl := Option.some.inj H
       go_wp2
       go_ret
       exact ⟨by first | rfl | (simp [errW_none, errW_some] <;> rfl) | (simp [*, errW_none, errW_some] <;> rfl), by repeat (first | (with_reducible first | exact HB.out | apply below_alloc | apply pw_below_drewN | apply below_drew1) | exact HB.out)⟩
 · rw [if_neg c3] at H
   have c3b0 : ((l0.length : Int) == (l1.length : Int)) = false := beq_eq_false_iff_ne.mpr c3
   have c3b1 : ((l0.length : Int) != (l1.length : Int)) = true := bne_iff_ne.mpr c3
   have c3b2 : (l0.length == l1.length) = false := by first | simpa using c3 | (simp at c3 ⊢; omega)
   obtain rfl := Option.some.inj H
   go_enter Try.func21, Try.ntmps21
   go_wp2
   go_ret
   exact ⟨by first | rfl | (simp [errW_none, errW_some] <;> rfl) | (simp [*, errW_none, errW_some] <;> rfl), by repeat (first | (with_reducible first | exact HB.out | apply below_alloc | apply pw_below_drewN | apply below_drew1) | exact HB.out)⟩
end Go.Proofs.Ytenbkljgmgdegaa.PO
end
section
namespace Go.Proofs.Ytenbkljgmgdegaa.PO
open Go.Proofs.Ytenbkljgmgdegaa
open Go.RowKit Go.Proofs.YtenbkljgmgdegaaW.PrintWords Go.Proofs.YtenbkljgmgdegaaW.PrintLast Go.Proofs.YtenbkljgmgdegaaW.PrintMore
open Go.Proofs.Ytenbkljgmgdegaa.XRange Go.Proofs.Ytenbkljgmgdegaa.XMap
set_option linter.unusedVariables false
set_option linter.unusedSimpArgs false
section
variable {P : Program} {md : Region.Mode} {ops : Array Oper} {Q : Exit → Act → World → Prop} {S : World → Prop} {ds : List Nat}
end
def opV (p : S36 × List Value) : Value := .agg p.2.toArray
def dotV (d : S34) : Value := .agg #[.string d.f0, .int .i64 d.f1]
structure PoolAt (G : Nat → Prop) (w : World) (base g : Nat) (vl vk vw : Value) (m : Nat) (L : List S36) (K : List S34) (Q : List S36) (D : List (S34 × (S36 × List Value))) : Prop where
 blk : w.heap[g]? = some (.cells #[vl, vk, vw, .map (some m)] 73 (0, 0))
 hb : base ≤ g
 rl : k36.R 36 w base (fun k => G k ∧ some k ≠ vw.ownBlock) vl L
 rk : k34.R 34 w base G vk K
 rq : k36.R 36 w base (fun k => G k ∧ some k ≠ vl.ownBlock) vw Q
 mp : MapAt w m dotV opV D
 hm : base ≤ m
 vals : ∀ p ∈ D, k36.M w base G p.2.1 p.2.2
theorem info36 : (Try.prog.info? 36).map (fun i => (i.zero, i.size, i.bytes)) = some (some (.agg #[(.string ⟨#[]⟩), (.int .i64 0), .slice none 0 0, (.string ⟨#[]⟩), (.int .i64 0), (.string ⟨#[]⟩), (.int .i64 0), .slice none 0 0]), 8, 120) := by kernel_rfl
theorem k36_E : ∀ q, q ∈ (36 : Nat) :: k36.E → q = 36 ∨ q = 34 := by decide
theorem k36_E' : ∀ q, q ∈ k36.E → q = 34 := by decide
theorem k34_E : ∀ q, q ∈ (34 : Nat) :: k34.E → q = 34 := by decide
theorem keeps_grown {w w1 : World} {row : Option Nat} (h : w.grownBy w1 row) : Keeps (fun k => some k = row) w w1 := ⟨h.os, h.tape, h.output, h.size, fun k hk hne => h.block k hk hne⟩
theorem keeps_weak {M M' : Nat → Prop} {A B : World} (h : Keeps M A B) (hm : ∀ k, M k → M' k) : Keeps M' A B := ⟨h.os, h.tape, h.output, h.size, fun k hk hne => h.block k hk (fun e => hne (hm k e))⟩
section
variable {G : Nat → Prop} {w w1 : World} {base g : Nat} {vl vk vw : Value} {m : Nat} {L : List S36} {K : List S34} {Q : List S36} {D : List (S34 × (S36 × List Value))}
theorem PoolAt.step (h : PoolAt G w base g vl vk vw m L K Q D) (hm : ∀ k, k < w.heap.size → w1.heap[k]? = w.heap[k]?) : PoolAt G w1 base g vl vk vw m L K Q D :=
 ⟨(hm g (blk_lt h.blk)).trans h.blk, h.hb, Kd.R_step h.rl (fun k _ hk => hm k hk), Kd.R_step h.rk (fun k _ hk => hm k hk), Kd.R_step h.rq (fun k _ hk => hm k hk), h.mp.step (hm m h.mp.lt), h.hm, fun p hp => Kd.M_step (h.vals p hp) (fun k _ hk => hm k hk)⟩
theorem PoolAt.below (h : PoolAt G w base g vl vk vw m L K Q D) (hb : Below w.heap.size w w1) : PoolAt G w1 base g vl vk vw m L K Q D := h.step (fun k hk => hb.block k hk)
theorem PoolAt.keeps (h : PoolAt G w base g vl vk vw m L K Q D) (hb : Keeps (fun _ => False) w w1) : PoolAt G w1 base g vl vk vw m L K Q D := h.step (fun k hk => hb.block k hk (fun f => f))
theorem PoolAt.m_g (h : PoolAt G w base g vl vk vw m L K Q D) : m ≠ g := fun e => by
 obtain ⟨es, cl, hm, _⟩ := h.mp.at_
 rw [e, h.blk] at hm
 cases hm
theorem far_cells {w : World} {p : Addr} (u : Value) (k : Nat) (h : k ≠ p.block) : (w.setCell p u).heap[k]? = w.heap[k]? := Below.heap_setCell w p u k h
theorem PoolAt.known (h : PoolAt G w base g vl vk vw m L K Q D) {v0 : Value} {K' : List S34} (hr : k34.R 34 w base G v0 K') : PoolAt G (w.setCell ⟨g, 1, none⟩ v0) base g vl v0 vw m L K' Q D :=
 ⟨blk_set h.blk 1 v0, h.hb, Kd.R_mono (Kd.R_far (Kd.R_types h.rl h.blk (fun q hq => by have := k36_E q hq; omega)) (fun k hk => hk.2) v0) (fun k hk => hk.1),
  Kd.R_mono (Kd.R_far (Kd.R_types hr h.blk (fun q hq => by have := k34_E q hq; omega)) (fun k hk => hk.2) v0) (fun k hk => hk.1),
  Kd.R_mono (Kd.R_far (Kd.R_types h.rq h.blk (fun q hq => by have := k36_E q hq; omega)) (fun k hk => hk.2) v0) (fun k hk => hk.1),
  h.mp.step (far_cells v0 m h.m_g), h.hm, fun p hp => k36.M_mono (fun k hk => hk.1) (Kd.M_far (Kd.M_types (h.vals p hp) h.blk (fun q hq => by have := k36_E' q hq; omega)) (fun k hk => hk.2) v0)⟩
end
end Go.Proofs.Ytenbkljgmgdegaa.PO
end
section
namespace Go.Proofs.Ytenbkljgmgdegaa.PO
open Go.Proofs.Ytenbkljgmgdegaa
open Go.RowKit Go.Proofs.YtenbkljgmgdegaaW.PrintWords Go.Proofs.YtenbkljgmgdegaaW.PrintLast Go.Proofs.YtenbkljgmgdegaaW.PrintMore
open Go.Proofs.Ytenbkljgmgdegaa.XRange Go.Proofs.Ytenbkljgmgdegaa.XMap
set_option linter.unusedVariables false
set_option linter.unusedSimpArgs false
def z8 : List Value := [.string ⟨#[]⟩, .int .i64 0, .slice none 0 0, .string ⟨#[]⟩, .int .i64 0, .string ⟨#[]⟩, .int .i64 0, .slice none 0 0]
end Go.Proofs.Ytenbkljgmgdegaa.PO
end
section
namespace Go.Proofs.Ytenbkljgmgdegaa.PO
open Go.Proofs.Ytenbkljgmgdegaa
open Go.RowKit Go.Proofs.YtenbkljgmgdegaaW.PrintWords Go.Proofs.YtenbkljgmgdegaaW.PrintLast Go.Proofs.YtenbkljgmgdegaaW.PrintMore
open Go.Proofs.Ytenbkljgmgdegaa.XRange Go.Proofs.Ytenbkljgmgdegaa.XMap Go.Proofs.Ytenbkljgmgdegaa.XSeq
set_option linter.unusedVariables false
set_option linter.unusedSimpArgs false
structure PSt where
 L : List S36
 K : List S34
 Q : List S36
 D : List (S34 × (S36 × List Value))
def PoolIn (G : Nat → Prop) (n1 : Nat) (F : Nat → Prop) (base g m : Nat) (s : PSt) (w : World) : Prop :=
 ∃ vl vk vw, PoolAt G w base g vl vk vw m s.L s.K s.Q s.D ∧ F g ∧ (∀ k, vl.ownBlock = some k → F k ∨ n1 ≤ k) ∧ (∀ k, vw.ownBlock = some k → F k ∨ n1 ≤ k)
def JS (G : Nat → Prop) (w1 : World) (F : Nat → Prop) (base g m N8 : Nat) (s : PSt × Int) (w : World) : Prop :=
 Keeps (fun k => F k ∨ k = N8) w1 w ∧ PoolIn G w1.heap.size F base g m s.1 w ∧ w.heap[N8]? = some (.cells #[.int .i64 s.2] 3 (0, 0))
section
variable {G : Nat → Prop} {w w1 : World} {base g : Nat} {vl vk vw : Value} {m : Nat} {L : List S36} {K : List S34} {Q : List S36} {D : List (S34 × (S36 × List Value))}
end
theorem JS.keeps {G : Nat → Prop} {w1 : World} {F : Nat → Prop} {base g m N8 : Nat} {s : PSt × Int} {w w' : World} (h : JS G w1 F base g m N8 s w) (hk : Keeps (fun _ => False) w w') : JS G w1 F base g m N8 s w' := by
 obtain ⟨h1, ⟨vl, vk, vw, hp, h2, h3, h4⟩, h5⟩ := h
 exact ⟨h1.trans (keeps_weak hk (fun _ f => f.elim)), ⟨vl, vk, vw, hp.keeps hk, h2, h3, h4⟩, (hk.block N8 (blk_lt h5) (fun f => f)).trans h5⟩
end Go.Proofs.Ytenbkljgmgdegaa.PO
end
section
namespace Go.Proofs.Ytenbkljgmgdegaa.PO
open Go.Proofs.Ytenbkljgmgdegaa
open Go.RowKit Go.Proofs.YtenbkljgmgdegaaW.PrintWords Go.Proofs.YtenbkljgmgdegaaW.PrintLast Go.Proofs.YtenbkljgmgdegaaW.PrintMore
open Go.Proofs.Ytenbkljgmgdegaa.XRange Go.Proofs.Ytenbkljgmgdegaa.XMap Go.Proofs.Ytenbkljgmgdegaa.XSeq
set_option linter.unusedVariables false
set_option linter.unusedSimpArgs false
section
variable {G G' : Nat → Prop} {w w1 : World} {base g : Nat} {vl vk vw : Value} {m : Nat} {L : List S36} {K : List S34} {Q : List S36} {D : List (S34 × (S36 × List Value))}
theorem PoolAt.move (h : PoolAt G w base g vl vk vw m L K Q D) (hm : ∀ k, (k = g ∨ k = m ∨ G k) → k < w.heap.size → w1.heap[k]? = w.heap[k]?) : PoolAt G w1 base g vl vk vw m L K Q D :=
 ⟨(hm g (.inl rfl) (blk_lt h.blk)).trans h.blk, h.hb, Kd.R_step h.rl (fun k hk hlt => hm k (.inr (.inr hk.1)) hlt), Kd.R_step h.rk (fun k hk hlt => hm k (.inr (.inr hk)) hlt), Kd.R_step h.rq (fun k hk hlt => hm k (.inr (.inr hk.1)) hlt),
  h.mp.step (hm m (.inr (.inl rfl)) h.mp.lt), h.hm, fun p hp => Kd.M_step (h.vals p hp) (fun k hk hlt => hm k (.inr (.inr hk)) hlt)⟩
end
def PoolOwn (S : Nat → Prop) (g : Nat) (s : PSt) (w : World) : Prop := ∃ m vl vk vw, PoolAt S w 0 g vl vk vw m s.L s.K s.Q s.D ∧ S g ∧ S m ∧ ∀ k, S k → k < w.heap.size
theorem PoolOwn.keeps {S M : Nat → Prop} {g : Nat} {s : PSt} {w w1 : World} (h : PoolOwn S g s w) (hk : Keeps M w w1) (hd : ∀ k, S k → ¬ M k) : PoolOwn S g s w1 := by
 obtain ⟨m, vl, vk, vw, h1, h2, h3, h4⟩ := h
 exact ⟨m, vl, vk, vw, h1.move (fun k hkS hlt => hk.block k hlt (hd k (by rcases hkS with rfl | rfl | h; exact h2; exact h3; exact h))), h2, h3, fun k hS => Nat.lt_of_lt_of_le (h4 k hS) hk.size⟩
theorem PoolOwn.below {S : Nat → Prop} {g : Nat} {s : PSt} {w w1 : World} (h : PoolOwn S g s w) (hb : Below w.heap.size w w1) : PoolOwn S g s w1 := h.keeps (Keeps.of_below hb) (fun _ _ f => f)
theorem PoolOwn.step {S : Nat → Prop} {g : Nat} {s : PSt} {w w1 : World} (h : PoolOwn S g s w) (hm : ∀ k, S k → w1.heap[k]? = w.heap[k]?) (hs : w.heap.size ≤ w1.heap.size) : PoolOwn S g s w1 := by
 obtain ⟨m, vl, vk, vw, h1, h2, h3, h4⟩ := h
 exact ⟨m, vl, vk, vw, h1.move (fun k hkS hlt => hm k (by rcases hkS with rfl | rfl | h; exact h2; exact h3; exact h)), h2, h3, fun k hS => Nat.lt_of_lt_of_le (h4 k hS) hs⟩
end Go.Proofs.Ytenbkljgmgdegaa.PO
end
section
namespace Go.Proofs.Ytenbkljgmgdegaa.PO
open Go.Proofs.Ytenbkljgmgdegaa
open Go.RowKit Go.Proofs.YtenbkljgmgdegaaW.PrintWords Go.Proofs.YtenbkljgmgdegaaW.PrintLast Go.Proofs.YtenbkljgmgdegaaW.PrintMore Go.Proofs.Ytenbkljgmgdegaa.XW
open Go.Proofs.Ytenbkljgmgdegaa.XRange Go.Proofs.Ytenbkljgmgdegaa.XMap Go.Proofs.Ytenbkljgmgdegaa.XSeq
set_option linter.unusedVariables false
set_option linter.unusedSimpArgs false
def PSt.ab (s : PSt) : AP := ⟨s.L, s.K, s.Q⟩
def DOk (s : PSt) : Prop := ∀ d, (Go.Proofs.Ytenbkljgmgdegaa.XMap.look s.D d).map (·.1) = ofDot (s.L ++ s.Q) d
def PoolS (S : Nat → Prop) (g : Nat) (a : AP) (w : World) : Prop := ∃ s : PSt, PoolOwn S g s w ∧ s.ab = a ∧ DOk s ∧ InvA a
theorem PoolS.keeps {S M : Nat → Prop} {g : Nat} {a : AP} {w w1 : World} (h : PoolS S g a w) (hk : Keeps M w w1) (hd : ∀ k, S k → ¬ M k) : PoolS S g a w1 := by
 obtain ⟨s, h1, h2⟩ := h
 exact ⟨s, h1.keeps hk hd, h2⟩
theorem PoolS.below {S : Nat → Prop} {g : Nat} {a : AP} {w w1 : World} (h : PoolS S g a w) (hb : Below w.heap.size w w1) : PoolS S g a w1 := h.keeps (Keeps.of_below hb) (fun _ _ f => f)
theorem PoolS.lt {S : Nat → Prop} {g : Nat} {a : AP} {w : World} (h : PoolS S g a w) : ∀ k, S k → k < w.heap.size := by obtain ⟨s, ⟨m, vl, vk, vw, h1, h2, h3, h4⟩, _⟩ := h; exact h4
end Go.Proofs.Ytenbkljgmgdegaa.PO
end
section
namespace Go.Proofs.Ytenbkljgmgdegaa.PO
open Go.Proofs.Ytenbkljgmgdegaa
open Go.RowKit Go.Proofs.YtenbkljgmgdegaaW.PrintWords Go.Proofs.YtenbkljgmgdegaaW.PrintLast Go.Proofs.YtenbkljgmgdegaaW.PrintMore Go.Proofs.Ytenbkljgmgdegaa.XW
open Go.Proofs.Ytenbkljgmgdegaa.XRange Go.Proofs.Ytenbkljgmgdegaa.XMap Go.Proofs.Ytenbkljgmgdegaa.XSeq
set_option linter.unusedVariables false
set_option linter.unusedSimpArgs false
def sA : ByteArray := ⟨#[97]⟩
def sC : ByteArray := ⟨#[99]⟩
def sI : ByteArray := ⟨#[105]⟩
def x1 : S36 := ⟨⟨sA, 2⟩, [⟨sA, 1⟩], sC, 1, sI, 1, []⟩
def x2 : S36 := ⟨⟨sA, 1⟩, [], sC, 1, sI, 1, []⟩
end Go.Proofs.Ytenbkljgmgdegaa.PO
end
section
namespace Go.Proofs.Ytenbkljgmgdegaa.PO
open Go.Proofs.Ytenbkljgmgdegaa
open Go.RowKit Go.Proofs.YtenbkljgmgdegaaW.PrintWords Go.Proofs.YtenbkljgmgdegaaW.PrintLast Go.Proofs.YtenbkljgmgdegaaW.PrintMore Go.Proofs.Ytenbkljgmgdegaa.XW
open Go.Proofs.Ytenbkljgmgdegaa.XRange Go.Proofs.Ytenbkljgmgdegaa.XMap Go.Proofs.Ytenbkljgmgdegaa.XSeq
set_option linter.unusedVariables false
set_option linter.unusedSimpArgs false
structure OpAt (w : World) (p : Addr) (x : S36) (A2 : Option Addr) (c2 : Nat) (A7 : Option Addr) (c7 : Nat) : Prop where
 e0 : w.cell? p = some (.string x.f0.f0)
 e1 : w.cell? ⟨p.block, p.off + 1, none⟩ = some (.int .i64 x.f0.f1)
 e2 : w.cell? ⟨p.block, p.off + 2, none⟩ = some (.slice A2 x.f1.length c2)
 e3 : w.cell? ⟨p.block, p.off + 3, none⟩ = some (.string x.f2)
 e4 : w.cell? ⟨p.block, p.off + 4, none⟩ = some (.int .i64 x.f3)
 e5 : w.cell? ⟨p.block, p.off + 5, none⟩ = some (.string x.f4)
 e6 : w.cell? ⟨p.block, p.off + 6, none⟩ = some (.int .i64 x.f5)
 e7 : w.cell? ⟨p.block, p.off + 7, none⟩ = some (.slice A7 x.f6.length c7)
 l2 : x.f1.length ≤ c2
 g2 : Kd.C k34 w A2 x.f1.length x.f1
 l7 : x.f6.length ≤ c7
 g7 : Kd.C k34 w A7 x.f6.length x.f6
theorem R_apart {α : Type} {d : Kd α} {e base : Nat} {ok M : Nat → Prop} {w w1 : World} {v : Value} {xs : List α} (h : d.R e w base ok v xs) (hk : Keeps M w w1) (hm : ∀ k, M k → k < base) : d.R e w1 base ok v xs :=
 Kd.R_mono (Kd.R_step (Kd.R_bound h) (fun k hk' hlt => hk.block k hlt (fun hM => by have := hm k hM; have := hk'.2.1; omega))) (fun _ hk' => hk'.1)
end Go.Proofs.Ytenbkljgmgdegaa.PO
end
section
namespace Go.Proofs.Ytenbkljgmgdegaa.PO
open Go.Proofs.Ytenbkljgmgdegaa
open Go.RowKit Go.Proofs.YtenbkljgmgdegaaW.PrintWords Go.Proofs.YtenbkljgmgdegaaW.PrintLast Go.Proofs.YtenbkljgmgdegaaW.PrintMore Go.Proofs.Ytenbkljgmgdegaa.XW
open Go.Proofs.Ytenbkljgmgdegaa.XRange Go.Proofs.Ytenbkljgmgdegaa.XMap Go.Proofs.Ytenbkljgmgdegaa.XSeq
set_option linter.unusedVariables false
set_option linter.unusedSimpArgs false
def kAt (w0 : World) : Kd S36 where
 sz := 8
 E := []
 K := fun _ x cs => k36.K w0 x cs
 M := fun _ _ _ x cs => k36.K w0 x cs
 K_len := k36.K_len
 K_one := k36.K_one
 K_below := fun _ h => h
 K_of_M := fun h => h
 M_mono := fun _ h => h
 M_bound := fun h => h
 M_move := fun _ h => h
 M_lower := fun _ h => h
structure OpAt0 (w0 w : World) (p : Addr) (x : S36) (A2 : Option Addr) (c2 : Nat) (A7 : Option Addr) (c7 : Nat) : Prop where
 e0 : w.cell? p = some (.string x.f0.f0)
 e1 : w.cell? ⟨p.block, p.off + 1, none⟩ = some (.int .i64 x.f0.f1)
 e2 : w.cell? ⟨p.block, p.off + 2, none⟩ = some (.slice A2 x.f1.length c2)
 e3 : w.cell? ⟨p.block, p.off + 3, none⟩ = some (.string x.f2)
 e4 : w.cell? ⟨p.block, p.off + 4, none⟩ = some (.int .i64 x.f3)
 e5 : w.cell? ⟨p.block, p.off + 5, none⟩ = some (.string x.f4)
 e6 : w.cell? ⟨p.block, p.off + 6, none⟩ = some (.int .i64 x.f5)
 e7 : w.cell? ⟨p.block, p.off + 7, none⟩ = some (.slice A7 x.f6.length c7)
 l2 : x.f1.length ≤ c2
 g2 : Kd.C k34 w0 A2 x.f1.length x.f1
 l7 : x.f6.length ≤ c7
 g7 : Kd.C k34 w0 A7 x.f6.length x.f6
theorem OpAt.below {w w1 : World} {p : Addr} {x : S36} {A2 A7 : Option Addr} {c2 c7 : Nat} (h : OpAt w p x A2 c2 A7 c7) (hb : Below w.heap.size w w1) : OpAt w1 p x A2 c2 A7 c7 := by
 have st : ∀ {q : Addr} {u : Value}, w.cell? q = some u → w1.cell? q = some u := fun hq => (hb.cell (World.block_lt_of_cell? w _ hq)).trans hq
 exact ⟨st h.e0, st h.e1, st h.e2, st h.e3, st h.e4, st h.e5, st h.e6, st h.e7, h.l2, Kd.C_below h.g2 hb, h.l7, Kd.C_below h.g7 hb⟩
end Go.Proofs.Ytenbkljgmgdegaa.PO
end
section
namespace Go.Proofs.Ytenbkljgmgdegaa.PO
open Go.Proofs.Ytenbkljgmgdegaa
open Go.RowKit Go.Proofs.YtenbkljgmgdegaaW.PrintWords Go.Proofs.YtenbkljgmgdegaaW.PrintLast Go.Proofs.YtenbkljgmgdegaaW.PrintMore Go.Proofs.Ytenbkljgmgdegaa.XW
open Go.Proofs.Ytenbkljgmgdegaa.XRange Go.Proofs.Ytenbkljgmgdegaa.XMap Go.Proofs.Ytenbkljgmgdegaa.XSeq
set_option linter.unusedVariables false
set_option linter.unusedSimpArgs false
structure RefAt (w0 : World) (G : Nat → Prop) (w : World) (g : Nat) (vl vk vw : Value) (a : AP) : Prop where
 blk : w.heap[g]? = some (.cells #[vl, vk, vw] 29 (0, 0))
 rl : Kd.R (kAt w0) 36 w 0 (fun k => G k ∧ some k ≠ vw.ownBlock) vl a.L
 rk : Kd.R k34 34 w 0 G vk a.K
 rq : Kd.R (kAt w0) 36 w 0 (fun k => G k ∧ some k ≠ vl.ownBlock) vw a.Q
section
variable {w0 w w1 : World} {G G' : Nat → Prop} {g : Nat} {vl vk vw : Value} {a : AP}
theorem kAt_E : ∀ q, q ∈ (36 : Nat) :: (kAt w0).E → q ≠ 29 := by intro q hq; simp [kAt] at hq; omega
theorem k34_E29 : ∀ q, q ∈ (34 : Nat) :: k34.E → q ≠ 29 := by intro q hq; have := k34_E q hq; omega
theorem RefAt.move (h : RefAt w0 G w g vl vk vw a) (hm : ∀ k, (k = g ∨ G k) → k < w.heap.size → w1.heap[k]? = w.heap[k]?) : RefAt w0 G w1 g vl vk vw a :=
 ⟨(hm g (.inl rfl) (blk_lt h.blk)).trans h.blk, Kd.R_step h.rl (fun k hk hlt => hm k (.inr hk.1) hlt), Kd.R_step h.rk (fun k hk hlt => hm k (.inr hk) hlt), Kd.R_step h.rq (fun k hk hlt => hm k (.inr hk.1) hlt)⟩
theorem RefAt.below (h : RefAt w0 G w g vl vk vw a) (hb : Below w.heap.size w w1) : RefAt w0 G w1 g vl vk vw a := h.move (fun k _ hlt => hb.block k hlt)
theorem RefAt.known (h : RefAt w0 G w g vl vk vw a) {v0 : Value} {K' : List S34} (hr : Kd.R k34 34 w 0 G v0 K') : RefAt w0 G (w.setCell ⟨g, 1, none⟩ v0) g vl v0 vw { a with K := K' } :=
 ⟨blk_set h.blk 1 v0, Kd.R_mono (Kd.R_far (Kd.R_types h.rl h.blk kAt_E) (fun k hk => hk.2) v0) (fun k hk => hk.1), Kd.R_mono (Kd.R_far (Kd.R_types hr h.blk k34_E29) (fun k hk => hk.2) v0) (fun k hk => hk.1),
  Kd.R_mono (Kd.R_far (Kd.R_types h.rq h.blk kAt_E) (fun k hk => hk.2) v0) (fun k hk => hk.1)⟩
theorem RefAt.waits (h : RefAt w0 G w g vl vk vw a) {v0 : Value} {Q' : List S36} (hr : Kd.R (kAt w0) 36 w 0 (fun k => G k ∧ some k ≠ vl.ownBlock) v0 Q') (hne : ∀ k, v0.ownBlock = some k → some k ≠ vl.ownBlock) : RefAt w0 G (w.setCell ⟨g, 2, none⟩ v0) g vl vk v0 { a with Q := Q' } := by
 have hl := Kd.R_types h.rl h.blk kAt_E
 refine ⟨blk_set h.blk 2 v0, ?_, Kd.R_mono (Kd.R_far (Kd.R_types h.rk h.blk k34_E29) (fun k hk => hk.2) v0) (fun k hk => hk.1), Kd.R_mono (Kd.R_far (Kd.R_types hr h.blk kAt_E) (fun k hk => hk.2) v0) (fun k hk => hk.1)⟩
 have h1 := Kd.R_far (p := ⟨g, 2, none⟩) hl (fun k hk => hk.2) v0
 obtain ⟨ho, inner, hown, hrep⟩ := h1
 refine ⟨fun k hk => ⟨(ho k hk).1.1, fun e => hne k e.symm hk.symm⟩, inner, hown, hrep.imp_ (fun _ _ hp => hp)⟩
end
theorem OpAt0.below {w0 w w1 : World} {p : Addr} {x : S36} {A2 A7 : Option Addr} {c2 c7 : Nat} (h : OpAt0 w0 w p x A2 c2 A7 c7) (hb : Below w.heap.size w w1) : OpAt0 w0 w1 p x A2 c2 A7 c7 := by
 have st : ∀ {q : Addr} {u : Value}, w.cell? q = some u → w1.cell? q = some u := fun hq => (hb.cell (World.block_lt_of_cell? w _ hq)).trans hq
 exact ⟨st h.e0, st h.e1, st h.e2, st h.e3, st h.e4, st h.e5, st h.e6, st h.e7, h.l2, h.g2, h.l7, h.g7⟩
end Go.Proofs.Ytenbkljgmgdegaa.PO
end
section
namespace Go.Proofs.Ytenbkljgmgdegaa.PO
open Go.Proofs.Ytenbkljgmgdegaa
open Go.RowKit Go.Proofs.YtenbkljgmgdegaaW.PrintWords Go.Proofs.YtenbkljgmgdegaaW.PrintLast Go.Proofs.YtenbkljgmgdegaaW.PrintMore Go.Proofs.Ytenbkljgmgdegaa.XW
open Go.Proofs.Ytenbkljgmgdegaa.XRange Go.Proofs.Ytenbkljgmgdegaa.XMap Go.Proofs.Ytenbkljgmgdegaa.XSeq
set_option linter.unusedVariables false
set_option linter.unusedSimpArgs false
def RefS (w0 : World) (S : Nat → Prop) (g : Nat) (a : AP) (w : World) : Prop := (∃ vl vk vw, RefAt w0 S w g vl vk vw a) ∧ S g ∧ (∀ k, S k → k < w.heap.size) ∧ InvA a
theorem RefS.keeps {w0 : World} {S M : Nat → Prop} {g : Nat} {a : AP} {w w1 : World} (h : RefS w0 S g a w) (hk : Keeps M w w1) (hd : ∀ k, S k → ¬ M k) : RefS w0 S g a w1 := by
 obtain ⟨⟨vl, vk, vw, h1⟩, h2, h3, h4⟩ := h
 exact ⟨⟨vl, vk, vw, h1.move (fun k hkS hlt => hk.block k hlt (hd k (by rcases hkS with rfl | h; exact h2; exact h)))⟩, h2, fun k hS => Nat.lt_of_lt_of_le (h3 k hS) hk.size, h4⟩
theorem RefS.below {w0 : World} {S : Nat → Prop} {g : Nat} {a : AP} {w w1 : World} (h : RefS w0 S g a w) (hb : Below w.heap.size w w1) : RefS w0 S g a w1 := h.keeps (Keeps.of_below hb) (fun _ _ f => f)
end Go.Proofs.Ytenbkljgmgdegaa.PO
end
