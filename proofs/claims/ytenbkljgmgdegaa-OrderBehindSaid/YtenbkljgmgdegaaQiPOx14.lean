/- What the rows of this claim use, out of the texts of this work (POx14). No condition beyond those that each statement names. -/
import Derived.Test.YtenbkljgmgdegaaQiX
import Derived.Test.YtenbkljgmgdegaaQiPOx0
import Derived.Test.YtenbkljgmgdegaaQiPOx6
import Derived.Test.YtenbkljgmgdegaaQiPOx12
namespace Go.Proofs.Ytenbkljgmgdegaa.PO
open Go.Proofs.Ytenbkljgmgdegaa
open Go.RowKit Go.Proofs.YtenbkljgmgdegaaW.PrintWords Go.Proofs.YtenbkljgmgdegaaW.PrintLast Go.Proofs.YtenbkljgmgdegaaW.PrintMore
attribute [local go_sem] max2_int min2_int max_two min_two max_three min_three max_four min_four   -- for this text's walks alone
set_option linter.unusedVariables false
set_option linter.unusedSimpArgs false
abbrev bqaPOx14_0 : Array Bool := #[false, false, false, false, false, false, false, false, false, false]
abbrev bqaPOx14_1 : Array Bool := #[true, false, false, false, false, false, false, false, false, false]
abbrev bqaPOx14_2 : Array Bool := #[true, true, false, false, false, false, false, false, false, false]
abbrev bqaPOx14_3 : Array Bool := #[true, true, true, false, false, false, false, false, false, false]
abbrev bqaPOx14_4 : Array Bool := #[true, true, true, false, true, false, false, false, false, false]
abbrev bqaPOx14_5 : Array Bool := #[true, true, true, false, true, true, false, false, false, false]
abbrev bqaPOx14_6 : Array Bool := #[true, true, true, false, true, true, true, false, false, false]
abbrev bqaPOx14_7 : Array Bool := #[true, true, true, true, true, true, true, false, false, false]
abbrev bqaPOx14_8 : Array Bool := #[true, true, true, true, true, true, true, true, false, false]
abbrev bqaPOx14_9 : Array Bool := #[true, true, true, true, true, true, true, true, true, false]
abbrev bqaPOx14_10 : Array Bool := #[true, true, true, true, true, true, true, true, true, true]
def pannierref08_SameOps.l0 : Nat → List (S36) → List (S36) → Int → Option (Bool)
  | 0, _, _, _ => none
  | k + 1, x0, x1, x5 => if x5 < (x0.length : Int) then (if 0 ≤ x5 then (if x5 < (x1.length : Int) then ((pannierref08_Equal.f k ((rd_T36 x0 x5).f0.f0) ((rd_T36 x0 x5).f0.f1) ((rd_T36 x0 x5).f1) ((rd_T36 x0 x5).f2) ((rd_T36 x0 x5).f3) ((rd_T36 x0 x5).f4) ((rd_T36 x0 x5).f5) ((rd_T36 x0 x5).f6) ((rd_T36 x1 x5).f0.f0) ((rd_T36 x1 x5).f0.f1) ((rd_T36 x1 x5).f1) ((rd_T36 x1 x5).f2) ((rd_T36 x1 x5).f3) ((rd_T36 x1 x5).f4) ((rd_T36 x1 x5).f5) ((rd_T36 x1 x5).f6)).bind fun t241 => (if t241 = true then (pannierref08_SameOps.l0 k x0 x1 (wrap64 (x5 + 1))) else (some false))) else (none)) else (none)) else (some true)
def pannierref08_SameOps.f (k : Nat) (l0 : List (S36)) (l1 : List (S36)) : Option (Bool) := if (l0.length : Int) = (l1.length : Int) then (pannierref08_SameOps.l0 k l0 l1 0) else (some false)
def pannierref08_SameOps.T6 : Bool × List (List Nat × List Nat) := (true, [([], []), ([], []), ([0, 1], [0, 1]), ([2], [2]), ([], []), ([], []), ([4, 5], [4, 5]), ([6], [6]), ([3, 7], [3, 7]), ([8, 8, 0, 1, 2, 3, 4, 5, 6, 7, 8], [8])])
def pannierref08_SameOps.B6 : List Nat := [0, 0, 3, 7, 0, 0, 48, 112, 255, 511]
theorem pannierref08_SameOps.tab6 : rtab .any (opsOf Try.f21 6) = pannierref08_SameOps.T6 := by kernel_rfl
theorem pannierref08_SameOps.bits6 : waitsOk pannierref08_SameOps.T6.2 pannierref08_SameOps.B6 = true := by kernel_rfl
set_option maxHeartbeats 8000000 in
set_option maxRecDepth 100000 in
theorem pannierref08_SameOps.calls (k : Nat) (A0 : Option Addr) (c0 : Nat) (l0 : List (S36)) (A1 : Option Addr) (c1 : Nat) (l1 : List (S36)) (r : Bool) (w : World) (hr0 : Kd.C k36 w A0 l0.length l0) (hc0 : l0.length ≤ c0) (hr1 : Kd.C k36 w A1 l1.length l1) (hc1 : l1.length ≤ c1) (h : pannierref08_SameOps.f k l0 l1 = some r) :
    Calls Try.prog 21 #[.slice A0 l0.length c0, .slice A1 l1.length c1] w fun e w' => e = .returned (.bool r) ∧ Below w.heap.size w w' := by
 have hu36 := Try.underlying36
 have HR0 := Aside0.mk hr0
 have HC0 := Aside0.mk hc0
 clear hr0 hc0
 have HR1 := Aside0.mk hr1
 have HC1 := Aside0.mk hc1
 clear hr1 hc1
 have HB := Aside0.mk (Below.refl w.heap.size w)
 have H : (if (l0.length : Int) = (l1.length : Int) then (pannierref08_SameOps.l0 k l0 l1 0) else (some false)) = some r := h
 clear h
 by_cases c3 : (l0.length : Int) = (l1.length : Int)
 · rw [if_pos c3] at H
   have c3b0 : ((l0.length : Int) == (l1.length : Int)) = true := beq_iff_eq.mpr c3
   have c3b1 : ((l0.length : Int) != (l1.length : Int)) = false := bne_eq_false_iff_eq.mpr c3
   have c3b2 : (l0.length == l1.length) = true := by first | simpa using c3 | (simp at c3 ⊢; omega)
   clear c3
   have H' := Aside0.mk H
   clear H
   go_enter Try.func21, Try.ntmps21
   go_wp2
   go_loopg [5] k (fun kq v5 w' => ∃ (x5_1 : Int), v5 = .int .i64 x5_1 ∧ Aside0 (pannierref08_SameOps.l0 kq l0 l1 x5_1 = some r) ∧ Aside0 (kq ≤ k) ∧ Aside0 (Below w.heap.size w w'))
   case atStart => exact ⟨(0), (by first | rfl | (simp; done) | (simp [*]; done)), H', ⟨Nat.le_refl _⟩, ⟨by repeat (first | (with_reducible first | exact HB.out | apply below_alloc | apply pw_below_drewN | apply below_drew1) | exact HB.out)⟩⟩
   case round =>
    clear H'
    try clear c1
    try clear c2
    try clear p2
    try clear c3
    try clear c3b0
    try clear c3b1
    try clear c3b2
    obtain ⟨x5_1, rfl, HA, HK1, HB⟩ := hrel
    cases gk with
    | zero => exact absurd HA.out (by simp [pannierref08_SameOps.l0])
    | succ k1 =>
     have H := HA.out
     clear HA
     simp only [pannierref08_SameOps.l0] at H
     by_cases c4 : x5_1 < (l0.length : Int)
     · rw [if_pos c4] at H
       have c4b0 : decide (x5_1 < (l0.length : Int)) = true := decide_eq_true c4
       clear c4
       by_cases c5 : 0 ≤ x5_1
       · rw [if_pos c5] at H
         have c5b0 : decide (0 ≤ x5_1) = true := decide_eq_true c5
         clear c5
         by_cases c6 : x5_1 < (l1.length : Int)
         · rw [if_pos c6] at H
           have c6b0 : decide (x5_1 < (l1.length : Int)) = true := decide_eq_true c6
           clear c6
           replace H := Option.bind_eq_some_iff.mp H
           obtain ⟨t241, A70, H⟩ := H
           replace H : (if t241 = true then (pannierref08_SameOps.l0 k1 l0 l1 (wrap64 (x5_1 + 1))) else (some false)) = some r := H
           have A7 := Aside0.mk A70
           clear A70
           by_cases c8 : t241 = true
           · subst c8
             have H1 : (pannierref08_SameOps.l0 k1 l0 l1 (wrap64 (x5_1 + 1))) = some r := by rw [if_pos rfl] at H; exact H
             clear H
             have H := H1
             clear H1
             have H' := Aside0.mk H
             clear H
             try go_wp2
             have n0_ := Aside0.mk (below_drew1 HB.out)
             clear HB
             have HB := n0_
             clear n0_
             have p239 : 0 ≤ (x5_1 : Int) := of_decide_eq_true (by first | (with_reducible assumption) | assumption)
             have q239 : x5_1 < (l0.length : Int) := of_decide_eq_true (by first | (with_reducible assumption) | assumption)
             obtain ⟨ad239, A239_2, c239_2, A239_7, c239_7, e239, hx239_0, hx239_1, hx239_2, hx239_3, hx239_4, hx239_5, hx239_6, hx239_7, hl239_2, hi239_2, hl239_7, hi239_7⟩ := at_T36 HR0.out x5_1 p239 q239
             have hw239_7 := hx239_7
             have hw239_6 := hx239_6
             have hw239_5 := hx239_5
             have hw239_4 := hx239_4
             have hw239_3 := hx239_3
             have hw239_2 := hx239_2
             have hw239_1 := hx239_1
             have hw239_0 := hx239_0
             cases e239
             replace hx239_0 := (HB.out.cell (World.block_lt_of_cell? w _ hx239_0)).trans hx239_0
             replace hx239_1 := (HB.out.cell (World.block_lt_of_cell? w _ hx239_1)).trans hx239_1
             replace hx239_2 := (HB.out.cell (World.block_lt_of_cell? w _ hx239_2)).trans hx239_2
             replace hx239_3 := (HB.out.cell (World.block_lt_of_cell? w _ hx239_3)).trans hx239_3
             replace hx239_4 := (HB.out.cell (World.block_lt_of_cell? w _ hx239_4)).trans hx239_4
             replace hx239_5 := (HB.out.cell (World.block_lt_of_cell? w _ hx239_5)).trans hx239_5
             replace hx239_6 := (HB.out.cell (World.block_lt_of_cell? w _ hx239_6)).trans hx239_6
             replace hx239_7 := (HB.out.cell (World.block_lt_of_cell? w _ hx239_7)).trans hx239_7
             have HR239_2 := Aside0.mk hi239_2
             have HC239_2 := Aside0.mk hl239_2
             clear hi239_2 hl239_2
             have HR239_7 := Aside0.mk hi239_7
             have HC239_7 := Aside0.mk hl239_7
             clear hi239_7 hl239_7
             replace p239 := eq_true p239
             replace q239 := eq_true q239
             have p240 : 0 ≤ (x5_1 : Int) := of_decide_eq_true (by first | (with_reducible assumption) | assumption)
             have q240 : x5_1 < (l1.length : Int) := of_decide_eq_true (by first | (with_reducible assumption) | assumption)
             obtain ⟨ad240, A240_2, c240_2, A240_7, c240_7, e240, hx240_0, hx240_1, hx240_2, hx240_3, hx240_4, hx240_5, hx240_6, hx240_7, hl240_2, hi240_2, hl240_7, hi240_7⟩ := at_T36 HR1.out x5_1 p240 q240
             have hw240_7 := hx240_7
             have hw240_6 := hx240_6
             have hw240_5 := hx240_5
             have hw240_4 := hx240_4
             have hw240_3 := hx240_3
             have hw240_2 := hx240_2
             have hw240_1 := hx240_1
             have hw240_0 := hx240_0
             cases e240
             replace hx240_0 := (HB.out.cell (World.block_lt_of_cell? w _ hx240_0)).trans hx240_0
             replace hx240_1 := (HB.out.cell (World.block_lt_of_cell? w _ hx240_1)).trans hx240_1
             replace hx240_2 := (HB.out.cell (World.block_lt_of_cell? w _ hx240_2)).trans hx240_2
             replace hx240_3 := (HB.out.cell (World.block_lt_of_cell? w _ hx240_3)).trans hx240_3
             replace hx240_4 := (HB.out.cell (World.block_lt_of_cell? w _ hx240_4)).trans hx240_4
             replace hx240_5 := (HB.out.cell (World.block_lt_of_cell? w _ hx240_5)).trans hx240_5
             replace hx240_6 := (HB.out.cell (World.block_lt_of_cell? w _ hx240_6)).trans hx240_6
             replace hx240_7 := (HB.out.cell (World.block_lt_of_cell? w _ hx240_7)).trans hx240_7
             have HR240_2 := Aside0.mk hi240_2
             have HC240_2 := Aside0.mk hl240_2
             clear hi240_2 hl240_2
             have HR240_7 := Aside0.mk hi240_7
             have HC240_7 := Aside0.mk hl240_7
             clear hi240_7 hl240_7
             replace p240 := eq_true p240
             replace q240 := eq_true q240
             refine start_ (n := 10) (S := fun w' => w'.cell? (ad239.add ((x5_1).toNat * 8)) = some (.string ((rd_T36 l0 x5_1).f0.f0)) ∧ w'.cell? ⟨(ad239.add ((x5_1).toNat * 8)).block, (ad239.add ((x5_1).toNat * 8)).off + 1, none⟩ = some (.int .i64 ((rd_T36 l0 x5_1).f0.f1)) ∧ w'.cell? ⟨(ad239.add ((x5_1).toNat * 8)).block, (ad239.add ((x5_1).toNat * 8)).off + 2, none⟩ = some (.slice A239_2 ((rd_T36 l0 x5_1).f1).length c239_2) ∧ w'.cell? ⟨(ad239.add ((x5_1).toNat * 8)).block, (ad239.add ((x5_1).toNat * 8)).off + 3, none⟩ = some (.string ((rd_T36 l0 x5_1).f2)) ∧ w'.cell? ⟨(ad239.add ((x5_1).toNat * 8)).block, (ad239.add ((x5_1).toNat * 8)).off + 4, none⟩ = some (.int .i64 ((rd_T36 l0 x5_1).f3)) ∧ w'.cell? ⟨(ad239.add ((x5_1).toNat * 8)).block, (ad239.add ((x5_1).toNat * 8)).off + 5, none⟩ = some (.string ((rd_T36 l0 x5_1).f4)) ∧ w'.cell? ⟨(ad239.add ((x5_1).toNat * 8)).block, (ad239.add ((x5_1).toNat * 8)).off + 6, none⟩ = some (.int .i64 ((rd_T36 l0 x5_1).f5)) ∧ w'.cell? ⟨(ad239.add ((x5_1).toNat * 8)).block, (ad239.add ((x5_1).toNat * 8)).off + 7, none⟩ = some (.slice A239_7 ((rd_T36 l0 x5_1).f6).length c239_7) ∧ w'.cell? (ad240.add ((x5_1).toNat * 8)) = some (.string ((rd_T36 l1 x5_1).f0.f0)) ∧ w'.cell? ⟨(ad240.add ((x5_1).toNat * 8)).block, (ad240.add ((x5_1).toNat * 8)).off + 1, none⟩ = some (.int .i64 ((rd_T36 l1 x5_1).f0.f1)) ∧ w'.cell? ⟨(ad240.add ((x5_1).toNat * 8)).block, (ad240.add ((x5_1).toNat * 8)).off + 2, none⟩ = some (.slice A240_2 ((rd_T36 l1 x5_1).f1).length c240_2) ∧ w'.cell? ⟨(ad240.add ((x5_1).toNat * 8)).block, (ad240.add ((x5_1).toNat * 8)).off + 3, none⟩ = some (.string ((rd_T36 l1 x5_1).f2)) ∧ w'.cell? ⟨(ad240.add ((x5_1).toNat * 8)).block, (ad240.add ((x5_1).toNat * 8)).off + 4, none⟩ = some (.int .i64 ((rd_T36 l1 x5_1).f3)) ∧ w'.cell? ⟨(ad240.add ((x5_1).toNat * 8)).block, (ad240.add ((x5_1).toNat * 8)).off + 5, none⟩ = some (.string ((rd_T36 l1 x5_1).f4)) ∧ w'.cell? ⟨(ad240.add ((x5_1).toNat * 8)).block, (ad240.add ((x5_1).toNat * 8)).off + 6, none⟩ = some (.int .i64 ((rd_T36 l1 x5_1).f5)) ∧ w'.cell? ⟨(ad240.add ((x5_1).toNat * 8)).block, (ad240.add ((x5_1).toNat * 8)).off + 7, none⟩ = some (.slice A240_7 ((rd_T36 l1 x5_1).f6).length c240_7)) (ds := []) bqaPOx14_0 (by kernel_rfl) rfl rfl ⟨((HB.out.cell (World.block_lt_of_cell? w _ hw239_0)).trans hw239_0), ((HB.out.cell (World.block_lt_of_cell? w _ hw239_1)).trans hw239_1), ((HB.out.cell (World.block_lt_of_cell? w _ hw239_2)).trans hw239_2), ((HB.out.cell (World.block_lt_of_cell? w _ hw239_3)).trans hw239_3), ((HB.out.cell (World.block_lt_of_cell? w _ hw239_4)).trans hw239_4), ((HB.out.cell (World.block_lt_of_cell? w _ hw239_5)).trans hw239_5), ((HB.out.cell (World.block_lt_of_cell? w _ hw239_6)).trans hw239_6), ((HB.out.cell (World.block_lt_of_cell? w _ hw239_7)).trans hw239_7), ((HB.out.cell (World.block_lt_of_cell? w _ hw240_0)).trans hw240_0), ((HB.out.cell (World.block_lt_of_cell? w _ hw240_1)).trans hw240_1), ((HB.out.cell (World.block_lt_of_cell? w _ hw240_2)).trans hw240_2), ((HB.out.cell (World.block_lt_of_cell? w _ hw240_3)).trans hw240_3), ((HB.out.cell (World.block_lt_of_cell? w _ hw240_4)).trans hw240_4), ((HB.out.cell (World.block_lt_of_cell? w _ hw240_5)).trans hw240_5), ((HB.out.cell (World.block_lt_of_cell? w _ hw240_6)).trans hw240_6), ((HB.out.cell (World.block_lt_of_cell? w _ hw240_7)).trans hw240_7)⟩ (fun hHeld => ?_); refine with_tabW pannierref08_SameOps.tab6 pannierref08_SameOps.bits6 (fun HT_ HW_ => ?_)
             generalize wr.drew = w9 at HB HR239_2 HR239_7 HR240_2 HR240_7 hx239_0 hx239_1 hx239_2 hx239_3 hx239_4 hx239_5 hx239_6 hx239_7 hx240_0 hx240_1 hx240_2 hx240_3 hx240_4 hx240_5 hx240_6 hx240_7 hHeld ⊢
             refine XReg.pu 0 18 (h := ?_)
             refine XReg.pu 1 19 (h := ?_)
             refine XReg.pu 2 20 (h := ?_)
             refine XReg.pu 4 22 (h := ?_)
             refine XReg.pu 5 23 (h := ?_)
             refine XReg.pu 6 24 (h := ?_)
             refine XReg.tk 3 21 (hS := hHeld) (hy := by (rintro w' ⟨s0, s1, s2, s3, s4, s5, s6, s7, s8, s9, s10, s11, s12, s13, s14, s15⟩; go_simp; with_reducible rfl)) (h := ?_)
             refine XReg.tk 7 25 (hS := hHeld) (hy := by (rintro w' ⟨s0, s1, s2, s3, s4, s5, s6, s7, s8, s9, s10, s11, s12, s13, s14, s15⟩; go_simp; with_reducible rfl)) (h := ?_)
             refine one_ (i := 8) (N := some 26) bqaPOx14_9 rfl rfl (one_of HT_.out (by kernel_rfl)) (by decide) (fun K hK => ?_)
             refine goes_ Try.func48 (by kernel_rfl) rfl #[.agg #[.string ((rd_T36 l0 x5_1).f0.f0), .int .i64 ((rd_T36 l0 x5_1).f0.f1), .slice A239_2 ((rd_T36 l0 x5_1).f1).length c239_2, .string ((rd_T36 l0 x5_1).f2), .int .i64 ((rd_T36 l0 x5_1).f3), .string ((rd_T36 l0 x5_1).f4), .int .i64 ((rd_T36 l0 x5_1).f5), .slice A239_7 ((rd_T36 l0 x5_1).f6).length c239_7], .agg #[.string ((rd_T36 l1 x5_1).f0.f0), .int .i64 ((rd_T36 l1 x5_1).f0.f1), .slice A240_2 ((rd_T36 l1 x5_1).f1).length c240_2, .string ((rd_T36 l1 x5_1).f2), .int .i64 ((rd_T36 l1 x5_1).f3), .string ((rd_T36 l1 x5_1).f4), .int .i64 ((rd_T36 l1 x5_1).f5), .slice A240_7 ((rd_T36 l1 x5_1).f6).length c240_7]] (by rfl) rfl rfl (by (try simp only [List.map_toArray, List.map_cons, List.map_nil]); first | done | rfl | (simp only [List.length_drop, List.length_take]; rfl)) ?_
             with_reducible refine (pannierref08_Equal.calls k1 ((rd_T36 l0 x5_1).f0.f0) ((rd_T36 l0 x5_1).f0.f1) _ _ ((rd_T36 l0 x5_1).f1) ((rd_T36 l0 x5_1).f2) ((rd_T36 l0 x5_1).f3) ((rd_T36 l0 x5_1).f4) ((rd_T36 l0 x5_1).f5) _ _ ((rd_T36 l0 x5_1).f6) ((rd_T36 l1 x5_1).f0.f0) ((rd_T36 l1 x5_1).f0.f1) _ _ ((rd_T36 l1 x5_1).f1) ((rd_T36 l1 x5_1).f2) ((rd_T36 l1 x5_1).f3) ((rd_T36 l1 x5_1).f4) ((rd_T36 l1 x5_1).f5) _ _ ((rd_T36 l1 x5_1).f6) true _ ?side1 ?side2 ?side3 ?side4 ?side5 ?side6 ?side7 ?side8 A7.out).mono ?_
             (case side1 => repeat (first | exact (Kd.C_below HR239_2.out HB.out) | (with_reducible refine Kd.C_alloc ?_ _) | (with_reducible refine Kd.C_drewN ?_ _) | (with_reducible refine Kd.C_drew ?_)))
             (case side2 => exact HC239_2.out)
             (case side3 => repeat (first | exact (Kd.C_below HR239_7.out HB.out) | (with_reducible refine Kd.C_alloc ?_ _) | (with_reducible refine Kd.C_drewN ?_ _) | (with_reducible refine Kd.C_drew ?_)))
             (case side4 => exact HC239_7.out)
             (case side5 => repeat (first | exact (Kd.C_below HR240_2.out HB.out) | (with_reducible refine Kd.C_alloc ?_ _) | (with_reducible refine Kd.C_drewN ?_ _) | (with_reducible refine Kd.C_drew ?_)))
             (case side6 => exact HC240_2.out)
             (case side7 => repeat (first | exact (Kd.C_below HR240_7.out HB.out) | (with_reducible refine Kd.C_alloc ?_ _) | (with_reducible refine Kd.C_drewN ?_ _) | (with_reducible refine Kd.C_drew ?_)))
             (case side8 => exact HC240_7.out)
             rintro e w10 ⟨rfl, hb⟩
             refine ⟨_, rfl, ?_⟩
             have n0_ := Aside0.mk (below_step (by repeat (first | (with_reducible first | exact HB.out | apply below_alloc | apply pw_below_drewN | apply below_drew1) | exact HB.out)) hb)
             clear HB
             have HB := n0_
             clear n0_
             (try clear hb)
             (try clear hb2)
             (try clear hk)
             (try clear hi)
             refine hK.out _ _ ⟨((HB.out.cell (World.block_lt_of_cell? w _ hw239_0)).trans hw239_0), ((HB.out.cell (World.block_lt_of_cell? w _ hw239_1)).trans hw239_1), ((HB.out.cell (World.block_lt_of_cell? w _ hw239_2)).trans hw239_2), ((HB.out.cell (World.block_lt_of_cell? w _ hw239_3)).trans hw239_3), ((HB.out.cell (World.block_lt_of_cell? w _ hw239_4)).trans hw239_4), ((HB.out.cell (World.block_lt_of_cell? w _ hw239_5)).trans hw239_5), ((HB.out.cell (World.block_lt_of_cell? w _ hw239_6)).trans hw239_6), ((HB.out.cell (World.block_lt_of_cell? w _ hw239_7)).trans hw239_7), ((HB.out.cell (World.block_lt_of_cell? w _ hw240_0)).trans hw240_0), ((HB.out.cell (World.block_lt_of_cell? w _ hw240_1)).trans hw240_1), ((HB.out.cell (World.block_lt_of_cell? w _ hw240_2)).trans hw240_2), ((HB.out.cell (World.block_lt_of_cell? w _ hw240_3)).trans hw240_3), ((HB.out.cell (World.block_lt_of_cell? w _ hw240_4)).trans hw240_4), ((HB.out.cell (World.block_lt_of_cell? w _ hw240_5)).trans hw240_5), ((HB.out.cell (World.block_lt_of_cell? w _ hw240_6)).trans hw240_6), ((HB.out.cell (World.block_lt_of_cell? w _ hw240_7)).trans hw240_7)⟩ (fun hHeld => ?_)
             clear hK K
             refine norm_ (a' := ?_) ?_ ?_
             rotate_left
             · show Act.put _ (some 26) _ = _
               simp only [Act.put, List.setIfInBounds_toArray, List.set_cons_zero, List.set_cons_succ, i64_w, i32_w]
               rfl
             refine XReg.pu 9 6 (h := ?_)
             refine done_ (done_of HT_.out (by kernel_rfl)) ?_
             try go_wp2
             go_roundg k1
             case measure => have := HK1.out; omega
             case rel => exact ⟨(wrap64 (x5_1 + 1)), (by first | rfl | (simp; done) | (simp [*]; done)), H', ⟨by have := HK1.out; omega⟩, ⟨by repeat (first | (with_reducible first | exact HB.out | apply below_alloc | apply pw_below_drewN | apply below_drew1) | exact HB.out)⟩⟩
           · replace c8 := Bool.eq_false_iff.mpr c8
             subst c8
             have H1 : (some false) = some r := by rw [if_neg (show ¬ (false = true) by decide)] at H; exact H
             clear H
             have H := H1
             clear H1
             obtain rfl := Option.some.inj H
             try go_wp2
             have n0_ := Aside0.mk (below_drew1 HB.out)
             clear HB
             have HB := n0_
             clear n0_
             have p239 : 0 ≤ (x5_1 : Int) := of_decide_eq_true (by first | (with_reducible assumption) | assumption)
             have q239 : x5_1 < (l0.length : Int) := of_decide_eq_true (by first | (with_reducible assumption) | assumption)
             obtain ⟨ad239, A239_2, c239_2, A239_7, c239_7, e239, hx239_0, hx239_1, hx239_2, hx239_3, hx239_4, hx239_5, hx239_6, hx239_7, hl239_2, hi239_2, hl239_7, hi239_7⟩ := at_T36 HR0.out x5_1 p239 q239
             have hw239_7 := hx239_7
             have hw239_6 := hx239_6
             have hw239_5 := hx239_5
             have hw239_4 := hx239_4
             have hw239_3 := hx239_3
             have hw239_2 := hx239_2
             have hw239_1 := hx239_1
             have hw239_0 := hx239_0
             cases e239
             replace hx239_0 := (HB.out.cell (World.block_lt_of_cell? w _ hx239_0)).trans hx239_0
             replace hx239_1 := (HB.out.cell (World.block_lt_of_cell? w _ hx239_1)).trans hx239_1
             replace hx239_2 := (HB.out.cell (World.block_lt_of_cell? w _ hx239_2)).trans hx239_2
             replace hx239_3 := (HB.out.cell (World.block_lt_of_cell? w _ hx239_3)).trans hx239_3
             replace hx239_4 := (HB.out.cell (World.block_lt_of_cell? w _ hx239_4)).trans hx239_4
             replace hx239_5 := (HB.out.cell (World.block_lt_of_cell? w _ hx239_5)).trans hx239_5
             replace hx239_6 := (HB.out.cell (World.block_lt_of_cell? w _ hx239_6)).trans hx239_6
             replace hx239_7 := (HB.out.cell (World.block_lt_of_cell? w _ hx239_7)).trans hx239_7
             have HR239_2 := Aside0.mk hi239_2
             have HC239_2 := Aside0.mk hl239_2
             clear hi239_2 hl239_2
             have HR239_7 := Aside0.mk hi239_7
             have HC239_7 := Aside0.mk hl239_7
             clear hi239_7 hl239_7
             replace p239 := eq_true p239
             replace q239 := eq_true q239
             have p240 : 0 ≤ (x5_1 : Int) := of_decide_eq_true (by first | (with_reducible assumption) | assumption)
             have q240 : x5_1 < (l1.length : Int) := of_decide_eq_true (by first | (with_reducible assumption) | assumption)
             obtain ⟨ad240, A240_2, c240_2, A240_7, c240_7, e240, hx240_0, hx240_1, hx240_2, hx240_3, hx240_4, hx240_5, hx240_6, hx240_7, hl240_2, hi240_2, hl240_7, hi240_7⟩ := at_T36 HR1.out x5_1 p240 q240
             have hw240_7 := hx240_7
             have hw240_6 := hx240_6
             have hw240_5 := hx240_5
             have hw240_4 := hx240_4
             have hw240_3 := hx240_3
             have hw240_2 := hx240_2
             have hw240_1 := hx240_1
             have hw240_0 := hx240_0
             cases e240
             replace hx240_0 := (HB.out.cell (World.block_lt_of_cell? w _ hx240_0)).trans hx240_0
             replace hx240_1 := (HB.out.cell (World.block_lt_of_cell? w _ hx240_1)).trans hx240_1
             replace hx240_2 := (HB.out.cell (World.block_lt_of_cell? w _ hx240_2)).trans hx240_2
             replace hx240_3 := (HB.out.cell (World.block_lt_of_cell? w _ hx240_3)).trans hx240_3
             replace hx240_4 := (HB.out.cell (World.block_lt_of_cell? w _ hx240_4)).trans hx240_4
             replace hx240_5 := (HB.out.cell (World.block_lt_of_cell? w _ hx240_5)).trans hx240_5
             replace hx240_6 := (HB.out.cell (World.block_lt_of_cell? w _ hx240_6)).trans hx240_6
             replace hx240_7 := (HB.out.cell (World.block_lt_of_cell? w _ hx240_7)).trans hx240_7
             have HR240_2 := Aside0.mk hi240_2
             have HC240_2 := Aside0.mk hl240_2
             clear hi240_2 hl240_2
             have HR240_7 := Aside0.mk hi240_7
             have HC240_7 := Aside0.mk hl240_7
             clear hi240_7 hl240_7
             replace p240 := eq_true p240
             replace q240 := eq_true q240
             refine start_ (n := 10) (S := fun w' => w'.cell? (ad239.add ((x5_1).toNat * 8)) = some (.string ((rd_T36 l0 x5_1).f0.f0)) ∧ w'.cell? ⟨(ad239.add ((x5_1).toNat * 8)).block, (ad239.add ((x5_1).toNat * 8)).off + 1, none⟩ = some (.int .i64 ((rd_T36 l0 x5_1).f0.f1)) ∧ w'.cell? ⟨(ad239.add ((x5_1).toNat * 8)).block, (ad239.add ((x5_1).toNat * 8)).off + 2, none⟩ = some (.slice A239_2 ((rd_T36 l0 x5_1).f1).length c239_2) ∧ w'.cell? ⟨(ad239.add ((x5_1).toNat * 8)).block, (ad239.add ((x5_1).toNat * 8)).off + 3, none⟩ = some (.string ((rd_T36 l0 x5_1).f2)) ∧ w'.cell? ⟨(ad239.add ((x5_1).toNat * 8)).block, (ad239.add ((x5_1).toNat * 8)).off + 4, none⟩ = some (.int .i64 ((rd_T36 l0 x5_1).f3)) ∧ w'.cell? ⟨(ad239.add ((x5_1).toNat * 8)).block, (ad239.add ((x5_1).toNat * 8)).off + 5, none⟩ = some (.string ((rd_T36 l0 x5_1).f4)) ∧ w'.cell? ⟨(ad239.add ((x5_1).toNat * 8)).block, (ad239.add ((x5_1).toNat * 8)).off + 6, none⟩ = some (.int .i64 ((rd_T36 l0 x5_1).f5)) ∧ w'.cell? ⟨(ad239.add ((x5_1).toNat * 8)).block, (ad239.add ((x5_1).toNat * 8)).off + 7, none⟩ = some (.slice A239_7 ((rd_T36 l0 x5_1).f6).length c239_7) ∧ w'.cell? (ad240.add ((x5_1).toNat * 8)) = some (.string ((rd_T36 l1 x5_1).f0.f0)) ∧ w'.cell? ⟨(ad240.add ((x5_1).toNat * 8)).block, (ad240.add ((x5_1).toNat * 8)).off + 1, none⟩ = some (.int .i64 ((rd_T36 l1 x5_1).f0.f1)) ∧ w'.cell? ⟨(ad240.add ((x5_1).toNat * 8)).block, (ad240.add ((x5_1).toNat * 8)).off + 2, none⟩ = some (.slice A240_2 ((rd_T36 l1 x5_1).f1).length c240_2) ∧ w'.cell? ⟨(ad240.add ((x5_1).toNat * 8)).block, (ad240.add ((x5_1).toNat * 8)).off + 3, none⟩ = some (.string ((rd_T36 l1 x5_1).f2)) ∧ w'.cell? ⟨(ad240.add ((x5_1).toNat * 8)).block, (ad240.add ((x5_1).toNat * 8)).off + 4, none⟩ = some (.int .i64 ((rd_T36 l1 x5_1).f3)) ∧ w'.cell? ⟨(ad240.add ((x5_1).toNat * 8)).block, (ad240.add ((x5_1).toNat * 8)).off + 5, none⟩ = some (.string ((rd_T36 l1 x5_1).f4)) ∧ w'.cell? ⟨(ad240.add ((x5_1).toNat * 8)).block, (ad240.add ((x5_1).toNat * 8)).off + 6, none⟩ = some (.int .i64 ((rd_T36 l1 x5_1).f5)) ∧ w'.cell? ⟨(ad240.add ((x5_1).toNat * 8)).block, (ad240.add ((x5_1).toNat * 8)).off + 7, none⟩ = some (.slice A240_7 ((rd_T36 l1 x5_1).f6).length c240_7)) (ds := []) bqaPOx14_0 (by kernel_rfl) rfl rfl ⟨((HB.out.cell (World.block_lt_of_cell? w _ hw239_0)).trans hw239_0), ((HB.out.cell (World.block_lt_of_cell? w _ hw239_1)).trans hw239_1), ((HB.out.cell (World.block_lt_of_cell? w _ hw239_2)).trans hw239_2), ((HB.out.cell (World.block_lt_of_cell? w _ hw239_3)).trans hw239_3), ((HB.out.cell (World.block_lt_of_cell? w _ hw239_4)).trans hw239_4), ((HB.out.cell (World.block_lt_of_cell? w _ hw239_5)).trans hw239_5), ((HB.out.cell (World.block_lt_of_cell? w _ hw239_6)).trans hw239_6), ((HB.out.cell (World.block_lt_of_cell? w _ hw239_7)).trans hw239_7), ((HB.out.cell (World.block_lt_of_cell? w _ hw240_0)).trans hw240_0), ((HB.out.cell (World.block_lt_of_cell? w _ hw240_1)).trans hw240_1), ((HB.out.cell (World.block_lt_of_cell? w _ hw240_2)).trans hw240_2), ((HB.out.cell (World.block_lt_of_cell? w _ hw240_3)).trans hw240_3), ((HB.out.cell (World.block_lt_of_cell? w _ hw240_4)).trans hw240_4), ((HB.out.cell (World.block_lt_of_cell? w _ hw240_5)).trans hw240_5), ((HB.out.cell (World.block_lt_of_cell? w _ hw240_6)).trans hw240_6), ((HB.out.cell (World.block_lt_of_cell? w _ hw240_7)).trans hw240_7)⟩ (fun hHeld => ?_); refine with_tabW pannierref08_SameOps.tab6 pannierref08_SameOps.bits6 (fun HT_ HW_ => ?_)
             generalize wr.drew = w11 at HB HR239_2 HR239_7 HR240_2 HR240_7 hx239_0 hx239_1 hx239_2 hx239_3 hx239_4 hx239_5 hx239_6 hx239_7 hx240_0 hx240_1 hx240_2 hx240_3 hx240_4 hx240_5 hx240_6 hx240_7 hHeld ⊢
             refine XReg.pu 0 18 (h := ?_)
             refine XReg.pu 1 19 (h := ?_)
             refine XReg.pu 2 20 (h := ?_)
             refine XReg.pu 4 22 (h := ?_)
             refine XReg.pu 5 23 (h := ?_)
             refine XReg.pu 6 24 (h := ?_)
             refine XReg.tk 3 21 (hS := hHeld) (hy := by (rintro w' ⟨s0, s1, s2, s3, s4, s5, s6, s7, s8, s9, s10, s11, s12, s13, s14, s15⟩; go_simp; with_reducible rfl)) (h := ?_)
             refine XReg.tk 7 25 (hS := hHeld) (hy := by (rintro w' ⟨s0, s1, s2, s3, s4, s5, s6, s7, s8, s9, s10, s11, s12, s13, s14, s15⟩; go_simp; with_reducible rfl)) (h := ?_)
             refine one_ (i := 8) (N := some 26) bqaPOx14_9 rfl rfl (one_of HT_.out (by kernel_rfl)) (by decide) (fun K hK => ?_)
             refine goes_ Try.func48 (by kernel_rfl) rfl #[.agg #[.string ((rd_T36 l0 x5_1).f0.f0), .int .i64 ((rd_T36 l0 x5_1).f0.f1), .slice A239_2 ((rd_T36 l0 x5_1).f1).length c239_2, .string ((rd_T36 l0 x5_1).f2), .int .i64 ((rd_T36 l0 x5_1).f3), .string ((rd_T36 l0 x5_1).f4), .int .i64 ((rd_T36 l0 x5_1).f5), .slice A239_7 ((rd_T36 l0 x5_1).f6).length c239_7], .agg #[.string ((rd_T36 l1 x5_1).f0.f0), .int .i64 ((rd_T36 l1 x5_1).f0.f1), .slice A240_2 ((rd_T36 l1 x5_1).f1).length c240_2, .string ((rd_T36 l1 x5_1).f2), .int .i64 ((rd_T36 l1 x5_1).f3), .string ((rd_T36 l1 x5_1).f4), .int .i64 ((rd_T36 l1 x5_1).f5), .slice A240_7 ((rd_T36 l1 x5_1).f6).length c240_7]] (by rfl) rfl rfl (by (try simp only [List.map_toArray, List.map_cons, List.map_nil]); first | done | rfl | (simp only [List.length_drop, List.length_take]; rfl)) ?_
             with_reducible refine (pannierref08_Equal.calls k1 ((rd_T36 l0 x5_1).f0.f0) ((rd_T36 l0 x5_1).f0.f1) _ _ ((rd_T36 l0 x5_1).f1) ((rd_T36 l0 x5_1).f2) ((rd_T36 l0 x5_1).f3) ((rd_T36 l0 x5_1).f4) ((rd_T36 l0 x5_1).f5) _ _ ((rd_T36 l0 x5_1).f6) ((rd_T36 l1 x5_1).f0.f0) ((rd_T36 l1 x5_1).f0.f1) _ _ ((rd_T36 l1 x5_1).f1) ((rd_T36 l1 x5_1).f2) ((rd_T36 l1 x5_1).f3) ((rd_T36 l1 x5_1).f4) ((rd_T36 l1 x5_1).f5) _ _ ((rd_T36 l1 x5_1).f6) false _ ?side1 ?side2 ?side3 ?side4 ?side5 ?side6 ?side7 ?side8 A7.out).mono ?_
             (case side1 => repeat (first | exact (Kd.C_below HR239_2.out HB.out) | (with_reducible refine Kd.C_alloc ?_ _) | (with_reducible refine Kd.C_drewN ?_ _) | (with_reducible refine Kd.C_drew ?_)))
             (case side2 => exact HC239_2.out)
             (case side3 => repeat (first | exact (Kd.C_below HR239_7.out HB.out) | (with_reducible refine Kd.C_alloc ?_ _) | (with_reducible refine Kd.C_drewN ?_ _) | (with_reducible refine Kd.C_drew ?_)))
             (case side4 => exact HC239_7.out)
             (case side5 => repeat (first | exact (Kd.C_below HR240_2.out HB.out) | (with_reducible refine Kd.C_alloc ?_ _) | (with_reducible refine Kd.C_drewN ?_ _) | (with_reducible refine Kd.C_drew ?_)))
             (case side6 => exact HC240_2.out)
             (case side7 => repeat (first | exact (Kd.C_below HR240_7.out HB.out) | (with_reducible refine Kd.C_alloc ?_ _) | (with_reducible refine Kd.C_drewN ?_ _) | (with_reducible refine Kd.C_drew ?_)))
             (case side8 => exact HC240_7.out)
             rintro e w12 ⟨rfl, hb⟩
             refine ⟨_, rfl, ?_⟩
             have n0_ := Aside0.mk (below_step (by repeat (first | (with_reducible first | exact HB.out | apply below_alloc | apply pw_below_drewN | apply below_drew1) | exact HB.out)) hb)
             clear HB
             have HB := n0_
             clear n0_
             (try clear hb)
             (try clear hb2)
             (try clear hk)
             (try clear hi)
             refine hK.out _ _ ⟨((HB.out.cell (World.block_lt_of_cell? w _ hw239_0)).trans hw239_0), ((HB.out.cell (World.block_lt_of_cell? w _ hw239_1)).trans hw239_1), ((HB.out.cell (World.block_lt_of_cell? w _ hw239_2)).trans hw239_2), ((HB.out.cell (World.block_lt_of_cell? w _ hw239_3)).trans hw239_3), ((HB.out.cell (World.block_lt_of_cell? w _ hw239_4)).trans hw239_4), ((HB.out.cell (World.block_lt_of_cell? w _ hw239_5)).trans hw239_5), ((HB.out.cell (World.block_lt_of_cell? w _ hw239_6)).trans hw239_6), ((HB.out.cell (World.block_lt_of_cell? w _ hw239_7)).trans hw239_7), ((HB.out.cell (World.block_lt_of_cell? w _ hw240_0)).trans hw240_0), ((HB.out.cell (World.block_lt_of_cell? w _ hw240_1)).trans hw240_1), ((HB.out.cell (World.block_lt_of_cell? w _ hw240_2)).trans hw240_2), ((HB.out.cell (World.block_lt_of_cell? w _ hw240_3)).trans hw240_3), ((HB.out.cell (World.block_lt_of_cell? w _ hw240_4)).trans hw240_4), ((HB.out.cell (World.block_lt_of_cell? w _ hw240_5)).trans hw240_5), ((HB.out.cell (World.block_lt_of_cell? w _ hw240_6)).trans hw240_6), ((HB.out.cell (World.block_lt_of_cell? w _ hw240_7)).trans hw240_7)⟩ (fun hHeld => ?_)
             clear hK K
             refine norm_ (a' := ?_) ?_ ?_
             rotate_left
             · show Act.put _ (some 26) _ = _
               simp only [Act.put, List.setIfInBounds_toArray, List.set_cons_zero, List.set_cons_succ, i64_w, i32_w]
               rfl
             refine XReg.pu 9 6 (h := ?_)
             refine done_ (done_of HT_.out (by kernel_rfl)) ?_
             try go_wp2
             go_ret
             exact ⟨by first | rfl | (simp [errW_none, errW_some] <;> rfl) | (simp [*, errW_none, errW_some] <;> rfl), by repeat (first | (with_reducible first | exact HB.out | apply below_alloc | apply pw_below_drewN | apply below_drew1) | exact HB.out)⟩
         · rw [if_neg c6] at H
           exact absurd H (by simp)
       · rw [if_neg c5] at H
         exact absurd H (by simp)
     · rw [if_neg c4] at H
       have c4b0 : decide (x5_1 < (l0.length : Int)) = false := decide_eq_false c4
       clear c4
       obtain rfl := Option.some.inj H
       go_wp2
       go_ret
       exact ⟨by first | rfl | (simp [errW_none, errW_some] <;> rfl) | (simp [*, errW_none, errW_some] <;> rfl), by repeat (first | (with_reducible first | exact HB.out | apply below_alloc | apply pw_below_drewN | apply below_drew1) | exact HB.out)⟩
 · rw [if_neg c3] at H
   have c3b0 : ((l0.length : Int) == (l1.length : Int)) = false := beq_eq_false_iff_ne.mpr c3
   have c3b1 : ((l0.length : Int) != (l1.length : Int)) = true := bne_iff_ne.mpr c3
   have c3b2 : (l0.length == l1.length) = false := by first | simpa using c3 | (simp at c3 ⊢; omega)
   obtain rfl := Option.some.inj H
   go_enter Try.func21, Try.ntmps21
   go_wp2
   go_ret
   exact ⟨by first | rfl | (simp [errW_none, errW_some] <;> rfl) | (simp [*, errW_none, errW_some] <;> rfl), by repeat (first | (with_reducible first | exact HB.out | apply below_alloc | apply pw_below_drewN | apply below_drew1) | exact HB.out)⟩
end Go.Proofs.Ytenbkljgmgdegaa.PO
