/- What the rows of this claim use, out of the texts of this work (YtenbkljgmgdegaaPOx14). No condition beyond those that each statement names. -/
import Derived.Test.YtenbkljgmgdegaaQnPOx0
import Derived.Test.YtenbkljgmgdegaaQnPOx5
import Derived.Test.YtenbkljgmgdegaaQnPOx6
import Derived.Test.YtenbkljgmgdegaaQnPOx12
namespace Go.Proofs.Ytenbkljgmgdegaa.PO
open Go.RowKit Go.Proofs.YtenbkljgmgdegaaW.PrintWords Go.Proofs.YtenbkljgmgdegaaW.PrintLast Go.Proofs.YtenbkljgmgdegaaW.PrintMore
attribute [local go_sem] max2_int min2_int max_two min_two max_three min_three max_four min_four   -- for this text's walks alone
set_option linter.unusedVariables false
set_option linter.unusedSimpArgs false
abbrev bqaPOx14_0 : Array Bool := #[false, false, false, false, false, false, false, false, false, false]
abbrev bqaPOx14_1 : Array Bool := #[true, false, false, false, false, false, false, false, false, false]
abbrev bqaPOx14_2 : Array Bool := #[true, true, false, false, false, false, false, false, false, false]
abbrev bqaPOx14_3 : Array Bool := #[true, true, true, false, false, false, false, false, false, false]
abbrev bqaPOx14_4 : Array Bool := #[true, true, true, false, true, false, false, false, false, false]
abbrev bqaPOx14_5 : Array Bool := #[true, true, true, false, true, true, false, false, false, false]
abbrev bqaPOx14_6 : Array Bool := #[true, true, true, false, true, true, true, false, false, false]
abbrev bqaPOx14_7 : Array Bool := #[true, true, true, true, true, true, true, false, false, false]
abbrev bqaPOx14_8 : Array Bool := #[true, true, true, true, true, true, true, true, false, false]
abbrev bqaPOx14_9 : Array Bool := #[true, true, true, true, true, true, true, true, true, false]
abbrev bqaPOx14_10 : Array Bool := #[true, true, true, true, true, true, true, true, true, true]
def pannierref08_SameOps.l0 : Nat → List (S36) → List (S36) → Int → Option (Bool)
  | 0, _, _, _ => none
  | k + 1, x0, x1, x5 => if x5 < (x0.length : Int) then (if 0 ≤ x5 then (if x5 < (x1.length : Int) then ((pannierref08_Equal.f k ((rd_T36 x0 x5).f0.f0) ((rd_T36 x0 x5).f0.f1) ((rd_T36 x0 x5).f1) ((rd_T36 x0 x5).f2) ((rd_T36 x0 x5).f3) ((rd_T36 x0 x5).f4) ((rd_T36 x0 x5).f5) ((rd_T36 x0 x5).f6) ((rd_T36 x1 x5).f0.f0) ((rd_T36 x1 x5).f0.f1) ((rd_T36 x1 x5).f1) ((rd_T36 x1 x5).f2) ((rd_T36 x1 x5).f3) ((rd_T36 x1 x5).f4) ((rd_T36 x1 x5).f5) ((rd_T36 x1 x5).f6)).bind fun t241 => (if t241 = true then (pannierref08_SameOps.l0 k x0 x1 (wrap64 (x5 + 1))) else (some false))) else (none)) else (none)) else (some true)
def pannierref08_SameOps.f (k : Nat) (l0 : List (S36)) (l1 : List (S36)) : Option (Bool) := if (l0.length : Int) = (l1.length : Int) then (pannierref08_SameOps.l0 k l0 l1 0) else (some false)
def pannierref08_SameOps.T6 : Bool × List (List Nat × List Nat) := (true, [([], []), ([], []), ([0, 1], [0, 1]), ([2], [2]), ([], []), ([], []), ([4, 5], [4, 5]), ([6], [6]), ([3, 7], [3, 7]), ([8, 8, 0, 1, 2, 3, 4, 5, 6, 7, 8], [8])])
def pannierref08_SameOps.B6 : List Nat := [0, 0, 3, 7, 0, 0, 48, 112, 255, 511]
theorem pannierref08_SameOps.tab6 : rtab .any (opsOf Try.f21 6) = pannierref08_SameOps.T6 := by kernel_rfl
theorem pannierref08_SameOps.bits6 : waitsOk pannierref08_SameOps.T6.2 pannierref08_SameOps.B6 = true := by kernel_rfl
set_option maxHeartbeats 8000000 in
set_option maxRecDepth 100000 in
theorem pannierref08_SameOps.calls (k : Nat) (A0 : Option Addr) (c0 : Nat) (l0 : List (S36)) (A1 : Option Addr) (c1 : Nat) (l1 : List (S36)) (r : Bool) (w : World) (hr0 : Kd.C k36 w A0 l0.length l0) (hc0 : l0.length ≤ c0) (hr1 : Kd.C k36 w A1 l1.length l1) (hc1 : l1.length ≤ c1) (h : pannierref08_SameOps.f k l0 l1 = some r) :
    Calls Try.prog 21 #[.slice A0 l0.length c0, .slice A1 l1.length c1] w fun e w' => e = .returned (.bool r) ∧ Below w.heap.size w w' := by
 have hu36 := Try.underlying36
 have HR0 := Aside0.mk hr0
 have HC0 := Aside0.mk hc0
 clear hr0 hc0
 have HR1 := Aside0.mk hr1
 have HC1 := Aside0.mk hc1
 clear hr1 hc1
 have HB := Aside0.mk (Below.refl w.heap.size w)
 have H : (if (l0.length : Int) = (l1.length : Int) then (pannierref08_SameOps.l0 k l0 l1 0) else (some false)) = some r := h
 clear h
 by_cases c3 : (l0.length : Int) = (l1.length : Int)
 · rw [if_pos c3] at H
   have c3b0 : ((l0.length : Int) == (l1.length : Int)) = true := beq_iff_eq.mpr c3
   have c3b1 : ((l0.length : Int) != (l1.length : Int)) = false := bne_eq_false_iff_eq.mpr c3
   have c3b2 : (l0.length == l1.length) = true := by first | simpa using c3 | (simp at c3 ⊢; omega)
   clear c3
   have H' := Aside0.mk H
   clear H
   go_enter Try.func21, Try.ntmps21
   go_wp2
   go_loopg [5] k (fun kq v5 w' => ∃ (x5_1 : Int), v5 = .int .i64 x5_1 ∧ Aside0 (pannierref08_SameOps.l0 kq l0 l1 x5_1 = some r) ∧ Aside0 (kq ≤ k) ∧ Aside0 (Below w.heap.size w w'))
   case atStart => exact ⟨(0), (by first | rfl | (simp; done) | (simp [*]; done)), H', ⟨Nat.le_refl _⟩, ⟨by repeat (first | (with_reducible first | exact HB.out | apply below_alloc | apply pw_below_drewN | apply below_drew1) | exact HB.out)⟩⟩
   case round =>
    clear H'
    try clear c1
    try clear c2
    try clear p2
    try clear c3
    try clear c3b0
    try clear c3b1
    try clear c3b2
    obtain ⟨x5_1, rfl, HA, HK1, HB⟩ := hrel
    cases gk with
    | zero => exact absurd HA.out (by simp [pannierref08_SameOps.l0])
    | succ k1 =>
     have H := HA.out
     clear HA
     simp only [pannierref08_SameOps.l0] at H
     by_cases c4 : x5_1 < (l0.length : Int)
     · rw [if_pos c4] at H
       have c4b0 : decide (x5_1 < (l0.length : Int)) = true := decide_eq_true c4
       clear c4
       by_cases c5 : 0 ≤ x5_1
       · rw [if_pos c5] at H
         have c5b0 : decide (0 ≤ x5_1) = true := decide_eq_true c5
         clear c5
         by_cases c6 : x5_1 < (l1.length : Int)
         · rw [if_pos c6] at H
           have c6b0 : decide (x5_1 < (l1.length : Int)) = true := decide_eq_true c6
           clear c6
           replace H := Option.bind_eq_some_iff.mp H
           obtain ⟨t241, A70, H⟩ := H
           replace H : (if t241 = true then (pannierref08_SameOps.l0 k1 l0 l1 (wrap64 (x5_1 + 1))) else (some false)) = some r := H
           have A7 := Aside0.mk A70
           clear A70
           by_cases c8 : t241 = true
           · subst c8
             have H1 : (pannierref08_SameOps.l0 k1 l0 l1 (wrap64 (x5_1 + 1))) = some r := by rw [if_pos rfl] at H; exact H
             clear H
             have H := H1
             clear H1
             have H' := Aside0.mk H
             clear H
             try go_wp2
             have n0_ := Aside0.mk (below_drew1 HB.out)
             clear HB
             have HB := n0_
             clear n0_
             have p239 : 0 ≤ (x5_1 : Int) := of_decide_eq_true (by first | (with_reducible assumption) | assumption)
             have q239 : x5_1 < (l0.length : Int) := of_decide_eq_true (by first | (with_reducible assumption) | assumption)
             obtain ⟨ad239, A239_2, c239_2, A239_7, c239_7, e239, hx239_0, hx239_1, hx239_2, hx239_3, hx239_4, hx239_5, hx239_6, hx239_7, hl239_2, hi239_2, hl239_7, hi239_7⟩ := at_T36 HR0.out x5_1 p239 q239
             have hw239_7 := hx239_7
             have hw239_6 := hx239_6
             have hw239_5 := hx239_5
             have hw239_4 := hx239_4
             have hw239_3 := hx239_3
             have hw239_2 := hx239_2
             have hw239_1 := hx239_1
             have hw239_0 := hx239_0
             cases e239
             replace hx239_0 := (HB.out.cell (World.block_lt_of_cell? w _ hx239_0)).trans hx239_0
             replace hx239_1 := (HB.out.cell (World.block_lt_of_cell? w _ hx239_1)).trans hx239_1
             replace hx239_2 := (HB.out.cell (World.block_lt_of_cell? w _ hx239_2)).trans hx239_2
             replace hx239_3 := (HB.out.cell (World.block_lt_of_cell? w _ hx239_3)).trans hx239_3
             replace hx239_4 := (HB.out.cell (World.block_lt_of_cell? w _ hx239_4)).trans hx239_4
             replace hx239_5 := (HB.out.cell (World.block_lt_of_cell? w _ hx239_5)).trans hx239_5
             replace hx239_6 := (HB.out.cell (World.block_lt_of_cell? w _ hx239_6)).trans hx239_6
             replace hx239_7 := (HB.out.cell (World.block_lt_of_cell? w _ hx239_7)).trans hx239_7
             have HR239_2 := Aside0.mk hi239_2
             have HC239_2 := Aside0.mk hl239_2
             clear hi239_2 hl239_2
             have HR239_7 := Aside0.mk hi239_7
             have HC239_7 := Aside0.mk hl239_7
             clear hi239_7 hl239_7
             replace p239 := eq_true p239
             replace q239 := eq_true q239
             have p240 : 0 ≤ (x5_1 : Int) := of_decide_eq_true (by first | (with_reducible assumption) | assumption)
             have q240 : x5_1 < (l1.length : Int) := of_decide_eq_true (by first | (with_reducible assumption) | assumption)
             obtain ⟨ad240, A240_2, c240_2, A240_7, c240_7, e240, hx240_0, hx240_1, hx240_2, hx240_3, hx240_4, hx240_5, hx240_6, hx240_7, hl240_2, hi240_2, hl240_7, hi240_7⟩ := at_T36 HR1.out x5_1 p240 q240
             have hw240_7 := hx240_7
             have hw240_6 := hx240_6
             have hw240_5 := hx240_5
             have hw240_4 := hx240_4
             have hw240_3 := hx240_3
             have hw240_2 := hx240_2
             have hw240_1 := hx240_1
             have hw240_0 := hx240_0
             cases e240
             replace hx240_0 := (HB.out.cell (World.block_lt_of_cell? w _ hx240_0)).trans hx240_0
             replace hx240_1 := (HB.out.cell (World.block_lt_of_cell? w _ hx240_1)).trans hx240_1
             replace hx240_2 := (HB.out.cell (World.block_lt_of_cell? w _ hx240_2)).trans hx240_2
             replace hx240_3 := (HB.out.cell (World.block_lt_of_cell? w _ hx240_3)).trans hx240_3
             replace hx240_4 := (HB.out.cell (World.block_lt_of_cell? w _ hx240_4)).trans hx240_4
             replace hx240_5 := (HB.out.cell (World.block_lt_of_cell? w _ hx240_5)).trans hx240_5
             replace hx240_6 := (HB.out.cell (World.block_lt_of_cell? w _ hx240_6)).trans hx240_6
             replace hx240_7 := (HB.out.cell (World.block_lt_of_cell? w _ hx240_7)).trans hx240_7
             have HR240_2 := Aside0.mk hi240_2
             have HC240_2 := Aside0.mk hl240_2
             clear hi240_2 hl240_2
             have HR240_7 := Aside0.mk hi240_7
             have HC240_7 := Aside0.mk hl240_7
             clear hi240_7 hl240_7
             replace p240 := eq_true p240
             replace q240 := eq_true q240
             refine start_ (n := 10) (S := fun w' => w'.cell? (ad239.add ((x5_1).toNat * 8)) = some (.string ((rd_T36 l0 x5_1).f0.f0)) ∧ w'.cell? ⟨(ad239.add ((x5_1).toNat * 8)).block, (ad239.add ((x5_1).toNat * 8)).off + 1, none⟩ = some (.int .i64 ((rd_T36 l0 x5_1).f0.f1)) ∧ w'.cell? ⟨(ad239.add ((x5_1).toNat * 8)).block, (ad239.add ((x5_1).toNat * 8)).off + 2, none⟩ = some (.slice A239_2 ((rd_T36 l0 x5_1).f1).length c239_2) ∧ w'.cell? ⟨(ad239.add ((x5_1).toNat * 8)).block, (ad239.add ((x5_1).toNat * 8)).off + 3, none⟩ = some (.string ((rd_T36 l0 x5_1).f2)) ∧ w'.cell? ⟨(ad239.add ((x5_1).toNat * 8)).block, (ad239.add ((x5_1).toNat * 8)).off + 4, none⟩ = some (.int .i64 ((rd_T36 l0 x5_1).f3)) ∧ w'.cell? ⟨(ad239.add ((x5_1).toNat * 8)).block, (ad239.add ((x5_1).toNat * 8)).off + 5, none⟩ = some (.string ((rd_T36 l0 x5_1).f4)) ∧ w'.cell? ⟨(ad239.add ((x5_1).toNat * 8)).block, (ad239.add ((x5_1).toNat * 8)).off + 6, none⟩ = some (.int .i64 ((rd_T36 l0 x5_1).f5)) ∧ w'.cell? ⟨(ad239.add ((x5_1).toNat * 8)).block, (ad239.add ((x5_1).toNat * 8)).off + 7, none⟩ = some (.slice A239_7 ((rd_T36 l0 x5_1).f6).length c239_7) ∧ w'.cell? (ad240.add ((x5_1).toNat * 8)) = some (.string ((rd_T36 l1 x5_1).f0.f0)) ∧ w'.cell? ⟨(ad240.add ((x5_1).toNat * 8)).block, (ad240.add ((x5_1).toNat * 8)).off + 1, none⟩ = some (.int .i64 ((rd_T36 l1 x5_1).f0.f1)) ∧ w'.cell? ⟨(ad240.add ((x5_1).toNat * 8)).block, (ad240.add ((x5_1).toNat * 8)).off + 2, none⟩ = some (.slice A240_2 ((rd_T36 l1 x5_1).f1).length c240_2) ∧ w'.cell? ⟨(ad240.add ((x5_1).toNat * 8)).block, (ad240.add ((x5_1).toNat * 8)).off + 3, none⟩ = some (.string ((rd_T36 l1 x5_1).f2)) ∧ w'.cell? ⟨(ad240.add ((x5_1).toNat * 8)).block, (ad240.add ((x5_1).toNat * 8)).off + 4, none⟩ = some (.int .i64 ((rd_T36 l1 x5_1).f3)) ∧ w'.cell? ⟨(ad240.add ((x5_1).toNat * 8)).block, (ad240.add ((x5_1).toNat * 8)).off + 5, none⟩ = some (.string ((rd_T36 l1 x5_1).f4)) ∧ w'.cell? ⟨(ad240.add ((x5_1).toNat * 8)).block, (ad240.add ((x5_1).toNat * 8)).off + 6, none⟩ = some (.int .i64 ((rd_T36 l1 x5_1).f5)) ∧ w'.cell? ⟨(ad240.add ((x5_1).toNat * 8)).block, (ad240.add ((x5_1).toNat * 8)).off + 7, none⟩ = some (.slice A240_7 ((rd_T36 l1 x5_1).f6).length c240_7)) (ds := []) bqaPOx14_0 (by kernel_rfl) rfl rfl ⟨((HB.out.cell (World.block_lt_of_cell? w _ hw239_0)).trans hw239_0), ((HB.out.cell (World.block_lt_of_cell? w _ hw239_1)).trans hw239_1), ((HB.out.cell (World.block_lt_of_cell? w _ hw239_2)).trans hw239_2), ((HB.out.cell (World.block_lt_of_cell? w _ hw239_3)).trans hw239_3), ((HB.out.cell (World.block_lt_of_cell? w _ hw239_4)).trans hw239_4), ((HB.out.cell (World.block_lt_of_cell? w _ hw239_5)).trans hw239_5), ((HB.out.cell (World.block_lt_of_cell? w _ hw239_6)).trans hw239_6), ((HB.out.cell (World.block_lt_of_cell? w _ hw239_7)).trans hw239_7), ((HB.out.cell (World.block_lt_of_cell? w _ hw240_0)).trans hw240_0), ((HB.out.cell (World.block_lt_of_cell? w _ hw240_1)).trans hw240_1), ((HB.out.cell (World.block_lt_of_cell? w _ hw240_2)).trans hw240_2), ((HB.out.cell (World.block_lt_of_cell? w _ hw240_3)).trans hw240_3), ((HB.out.cell (World.block_lt_of_cell? w _ hw240_4)).trans hw240_4), ((HB.out.cell (World.block_lt_of_cell? w _ hw240_5)).trans hw240_5), ((HB.out.cell (World.block_lt_of_cell? w _ hw240_6)).trans hw240_6), ((HB.out.cell (World.block_lt_of_cell? w _ hw240_7)).trans hw240_7)⟩ (fun hHeld => ?_); refine with_tabW pannierref08_SameOps.tab6 pannierref08_SameOps.bits6 (fun HT_ HW_ => ?_)
             generalize wr.drew = w9 at HB HR239_2 HR239_7 HR240_2 HR240_7 hx239_0 hx239_1 hx239_2 hx239_3 hx239_4 hx239_5 hx239_6 hx239_7 hx240_0 hx240_1 hx240_2 hx240_3 hx240_4 hx240_5 hx240_6 hx240_7 hHeld ⊢
             refine pure_ (i := 0) (N := some 18) (v := ?_) (a' := ?_) bqaPOx14_1 rfl rfl (any_of HT_.out (by kernel_rfl)) (fun _ _ _ h => h) (Or.inl ⟨by rfl, ?_⟩) ?_ ?_
             rotate_left
             · intro w'
               go_simp
               with_reducible rfl
             rotate_left
             · simp only [Act.put, List.setIfInBounds_toArray, List.set_cons_zero, List.set_cons_succ, i64_w, i32_w]
               rfl
             refine pure_ (i := 1) (N := some 19) (v := ?_) (a' := ?_) bqaPOx14_2 rfl rfl (any_of HT_.out (by kernel_rfl)) (fun _ _ _ h => h) (Or.inl ⟨by rfl, ?_⟩) ?_ ?_
             rotate_left
             · intro w'
               go_simp
               with_reducible rfl
             rotate_left
             · simp only [Act.put, List.setIfInBounds_toArray, List.set_cons_zero, List.set_cons_succ, i64_w, i32_w]
               rfl
             refine pure_ (i := 2) (N := some 20) (v := ?_) (a' := ?_) bqaPOx14_3 rfl rfl (any_of HT_.out (by kernel_rfl)) (fun _ _ _ h => h) (Or.inl ⟨by rfl, ?_⟩) ?_ ?_
             rotate_left
             · intro w'
               go_simp
               with_reducible rfl
             rotate_left
             · simp only [Act.put, List.setIfInBounds_toArray, List.set_cons_zero, List.set_cons_succ, i64_w, i32_w]
               rfl
             refine pure_ (i := 4) (N := some 22) (v := ?_) (a' := ?_) bqaPOx14_4 rfl rfl (any_of HT_.out (by kernel_rfl)) (fun _ _ _ h => h) (Or.inl ⟨by rfl, ?_⟩) ?_ ?_
             rotate_left
             · intro w'
               go_simp
               with_reducible rfl
             rotate_left
             · simp only [Act.put, List.setIfInBounds_toArray, List.set_cons_zero, List.set_cons_succ, i64_w, i32_w]
               rfl
             refine pure_ (i := 5) (N := some 23) (v := ?_) (a' := ?_) bqaPOx14_5 rfl rfl (any_of HT_.out (by kernel_rfl)) (fun _ _ _ h => h) (Or.inl ⟨by rfl, ?_⟩) ?_ ?_
             rotate_left
             · intro w'
               go_simp
               with_reducible rfl
             rotate_left
             · simp only [Act.put, List.setIfInBounds_toArray, List.set_cons_zero, List.set_cons_succ, i64_w, i32_w]
               rfl
             refine pure_ (i := 6) (N := some 24) (v := ?_) (a' := ?_) bqaPOx14_6 rfl rfl (any_of HT_.out (by kernel_rfl)) (fun _ _ _ h => h) (Or.inl ⟨by rfl, ?_⟩) ?_ ?_
             rotate_left
             · intro w'
               go_simp
               with_reducible rfl
             rotate_left
             · simp only [Act.put, List.setIfInBounds_toArray, List.set_cons_zero, List.set_cons_succ, i64_w, i32_w]
               rfl
             refine take_ (i := 3) (N := some 21) (v := ?_) (a' := ?_) bqaPOx14_7 rfl rfl (take_ofW HT_.out HW_.out (by kernel_rfl)) (fun _ _ _ h => h) (Or.inl ⟨by rfl, ?_⟩) hHeld ?_ ?_
             rotate_left
             · rintro w' ⟨s0, s1, s2, s3, s4, s5, s6, s7, s8, s9, s10, s11, s12, s13, s14, s15⟩
               go_simp
               with_reducible rfl
             rotate_left
             · simp only [Act.put, List.setIfInBounds_toArray, List.set_cons_zero, List.set_cons_succ, i64_w, i32_w]
               rfl
             refine take_ (i := 7) (N := some 25) (v := ?_) (a' := ?_) bqaPOx14_8 rfl rfl (take_ofW HT_.out HW_.out (by kernel_rfl)) (fun _ _ _ h => h) (Or.inl ⟨by rfl, ?_⟩) hHeld ?_ ?_
             rotate_left
             · rintro w' ⟨s0, s1, s2, s3, s4, s5, s6, s7, s8, s9, s10, s11, s12, s13, s14, s15⟩
               go_simp
               with_reducible rfl
             rotate_left
             · simp only [Act.put, List.setIfInBounds_toArray, List.set_cons_zero, List.set_cons_succ, i64_w, i32_w]
               rfl
             refine one_ (i := 8) (N := some 26) bqaPOx14_9 rfl rfl (one_of HT_.out (by kernel_rfl)) (by decide) (fun K hK => ?_)
             refine goes_ Try.func48 (by kernel_rfl) rfl #[.agg #[.string ((rd_T36 l0 x5_1).f0.f0), .int .i64 ((rd_T36 l0 x5_1).f0.f1), .slice A239_2 ((rd_T36 l0 x5_1).f1).length c239_2, .string ((rd_T36 l0 x5_1).f2), .int .i64 ((rd_T36 l0 x5_1).f3), .string ((rd_T36 l0 x5_1).f4), .int .i64 ((rd_T36 l0 x5_1).f5), .slice A239_7 ((rd_T36 l0 x5_1).f6).length c239_7], .agg #[.string ((rd_T36 l1 x5_1).f0.f0), .int .i64 ((rd_T36 l1 x5_1).f0.f1), .slice A240_2 ((rd_T36 l1 x5_1).f1).length c240_2, .string ((rd_T36 l1 x5_1).f2), .int .i64 ((rd_T36 l1 x5_1).f3), .string ((rd_T36 l1 x5_1).f4), .int .i64 ((rd_T36 l1 x5_1).f5), .slice A240_7 ((rd_T36 l1 x5_1).f6).length c240_7]] (by rfl) rfl rfl (by (try simp only [List.map_toArray, List.map_cons, List.map_nil]); first | done | rfl | (simp only [List.length_drop, List.length_take]; rfl)) ?_
             with_reducible refine (pannierref08_Equal.calls k1 ((rd_T36 l0 x5_1).f0.f0) ((rd_T36 l0 x5_1).f0.f1) _ _ ((rd_T36 l0 x5_1).f1) ((rd_T36 l0 x5_1).f2) ((rd_T36 l0 x5_1).f3) ((rd_T36 l0 x5_1).f4) ((rd_T36 l0 x5_1).f5) _ _ ((rd_T36 l0 x5_1).f6) ((rd_T36 l1 x5_1).f0.f0) ((rd_T36 l1 x5_1).f0.f1) _ _ ((rd_T36 l1 x5_1).f1) ((rd_T36 l1 x5_1).f2) ((rd_T36 l1 x5_1).f3) ((rd_T36 l1 x5_1).f4) ((rd_T36 l1 x5_1).f5) _ _ ((rd_T36 l1 x5_1).f6) true _ ?side1 ?side2 ?side3 ?side4 ?side5 ?side6 ?side7 ?side8 A7.out).mono ?_
             (case side1 => repeat (first | exact (Kd.C_below HR239_2.out HB.out) | (with_reducible refine Kd.C_alloc ?_ _) | (with_reducible refine Kd.C_drewN ?_ _) | (with_reducible refine Kd.C_drew ?_)))
             (case side2 => exact HC239_2.out)
             (case side3 => repeat (first | exact (Kd.C_below HR239_7.out HB.out) | (with_reducible refine Kd.C_alloc ?_ _) | (with_reducible refine Kd.C_drewN ?_ _) | (with_reducible refine Kd.C_drew ?_)))
             (case side4 => exact HC239_7.out)
             (case side5 => repeat (first | exact (Kd.C_below HR240_2.out HB.out) | (with_reducible refine Kd.C_alloc ?_ _) | (with_reducible refine Kd.C_drewN ?_ _) | (with_reducible refine Kd.C_drew ?_)))
             (case side6 => exact HC240_2.out)
             (case side7 => repeat (first | exact (Kd.C_below HR240_7.out HB.out) | (with_reducible refine Kd.C_alloc ?_ _) | (with_reducible refine Kd.C_drewN ?_ _) | (with_reducible refine Kd.C_drew ?_)))
             (case side8 => exact HC240_7.out)
             rintro e w10 ⟨rfl, hb⟩
             refine ⟨_, rfl, ?_⟩
             have n0_ := Aside0.mk (below_step (by repeat (first | (with_reducible first | exact HB.out | apply below_alloc | apply pw_below_drewN | apply below_drew1) | exact HB.out)) hb)
             clear HB
             have HB := n0_
             clear n0_
             (try clear hb)
             (try clear hb2)
             (try clear hk)
             (try clear hi)
             refine hK.out _ _ ⟨((HB.out.cell (World.block_lt_of_cell? w _ hw239_0)).trans hw239_0), ((HB.out.cell (World.block_lt_of_cell? w _ hw239_1)).trans hw239_1), ((HB.out.cell (World.block_lt_of_cell? w _ hw239_2)).trans hw239_2), ((HB.out.cell (World.block_lt_of_cell? w _ hw239_3)).trans hw239_3), ((HB.out.cell (World.block_lt_of_cell? w _ hw239_4)).trans hw239_4), ((HB.out.cell (World.block_lt_of_cell? w _ hw239_5)).trans hw239_5), ((HB.out.cell (World.block_lt_of_cell? w _ hw239_6)).trans hw239_6), ((HB.out.cell (World.block_lt_of_cell? w _ hw239_7)).trans hw239_7), ((HB.out.cell (World.block_lt_of_cell? w _ hw240_0)).trans hw240_0), ((HB.out.cell (World.block_lt_of_cell? w _ hw240_1)).trans hw240_1), ((HB.out.cell (World.block_lt_of_cell? w _ hw240_2)).trans hw240_2), ((HB.out.cell (World.block_lt_of_cell? w _ hw240_3)).trans hw240_3), ((HB.out.cell (World.block_lt_of_cell? w _ hw240_4)).trans hw240_4), ((HB.out.cell (World.block_lt_of_cell? w _ hw240_5)).trans hw240_5), ((HB.out.cell (World.block_lt_of_cell? w _ hw240_6)).trans hw240_6), ((HB.out.cell (World.block_lt_of_cell? w _ hw240_7)).trans hw240_7)⟩ (fun hHeld => ?_)
             clear hK K
             refine norm_ (a' := ?_) ?_ ?_
             rotate_left
             · show Act.put _ (some 26) _ = _
               simp only [Act.put, List.setIfInBounds_toArray, List.set_cons_zero, List.set_cons_succ, i64_w, i32_w]
               rfl
             refine pure_ (i := 9) (N := some 6) (v := ?_) (a' := ?_) bqaPOx14_10 rfl rfl (any_of HT_.out (by kernel_rfl)) (fun _ _ _ h => h) (Or.inl ⟨by rfl, ?_⟩) ?_ ?_
             rotate_left
             · intro w'
               go_simp
               with_reducible rfl
             rotate_left
             · simp only [Act.put, List.setIfInBounds_toArray, List.set_cons_zero, List.set_cons_succ, i64_w, i32_w]
               rfl
             refine done_ (done_of HT_.out (by kernel_rfl)) ?_
             try go_wp2
             go_roundg k1
             case measure => have := HK1.out; omega
             case rel => exact ⟨(wrap64 (x5_1 + 1)), (by first | rfl | (simp; done) | (simp [*]; done)), H', ⟨by have := HK1.out; omega⟩, ⟨by repeat (first | (with_reducible first | exact HB.out | apply below_alloc | apply pw_below_drewN | apply below_drew1) | exact HB.out)⟩⟩
           · replace c8 := Bool.eq_false_iff.mpr c8
             subst c8
             have H1 : (some false) = some r := by rw [if_neg (show ¬ (false = true) by decide)] at H; exact H
             clear H
             have H := H1
             clear H1
             obtain rfl := Option.some.inj H
             try go_wp2
             have n0_ := Aside0.mk (below_drew1 HB.out)
             clear HB
             have HB := n0_
             clear n0_
             have p239 : 0 ≤ (x5_1 : Int) := of_decide_eq_true (by first | (with_reducible assumption) | assumption)
             have q239 : x5_1 < (l0.length : Int) := of_decide_eq_true (by first | (with_reducible assumption) | assumption)
             obtain ⟨ad239, A239_2, c239_2, A239_7, c239_7, e239, hx239_0, hx239_1, hx239_2, hx239_3, hx239_4, hx239_5, hx239_6, hx239_7, hl239_2, hi239_2, hl239_7, hi239_7⟩ := at_T36 HR0.out x5_1 p239 q239
             have hw239_7 := hx239_7
             have hw239_6 := hx239_6
             have hw239_5 := hx239_5
             have hw239_4 := hx239_4
             have hw239_3 := hx239_3
             have hw239_2 := hx239_2
             have hw239_1 := hx239_1
             have hw239_0 := hx239_0
             cases e239
             replace hx239_0 := (HB.out.cell (World.block_lt_of_cell? w _ hx239_0)).trans hx239_0
             replace hx239_1 := (HB.out.cell (World.block_lt_of_cell? w _ hx239_1)).trans hx239_1
             replace hx239_2 := (HB.out.cell (World.block_lt_of_cell? w _ hx239_2)).trans hx239_2
             replace hx239_3 := (HB.out.cell (World.block_lt_of_cell? w _ hx239_3)).trans hx239_3
             replace hx239_4 := (HB.out.cell (World.block_lt_of_cell? w _ hx239_4)).trans hx239_4
             replace hx239_5 := (HB.out.cell (World.block_lt_of_cell? w _ hx239_5)).trans hx239_5
             replace hx239_6 := (HB.out.cell (World.block_lt_of_cell? w _ hx239_6)).trans hx239_6
             replace hx239_7 := (HB.out.cell (World.block_lt_of_cell? w _ hx239_7)).trans hx239_7
             have HR239_2 := Aside0.mk hi239_2
             have HC239_2 := Aside0.mk hl239_2
             clear hi239_2 hl239_2
             have HR239_7 := Aside0.mk hi239_7
             have HC239_7 := Aside0.mk hl239_7
             clear hi239_7 hl239_7
             replace p239 := eq_true p239
             replace q239 := eq_true q239
             have p240 : 0 ≤ (x5_1 : Int) := of_decide_eq_true (by first | (with_reducible assumption) | assumption)
             have q240 : x5_1 < (l1.length : Int) := of_decide_eq_true (by first | (with_reducible assumption) | assumption)
             obtain ⟨ad240, A240_2, c240_2, A240_7, c240_7, e240, hx240_0, hx240_1, hx240_2, hx240_3, hx240_4, hx240_5, hx240_6, hx240_7, hl240_2, hi240_2, hl240_7, hi240_7⟩ := at_T36 HR1.out x5_1 p240 q240
             have hw240_7 := hx240_7
             have hw240_6 := hx240_6
             have hw240_5 := hx240_5
             have hw240_4 := hx240_4
             have hw240_3 := hx240_3
             have hw240_2 := hx240_2
             have hw240_1 := hx240_1
             have hw240_0 := hx240_0
             cases e240
             replace hx240_0 := (HB.out.cell (World.block_lt_of_cell? w _ hx240_0)).trans hx240_0
             replace hx240_1 := (HB.out.cell (World.block_lt_of_cell? w _ hx240_1)).trans hx240_1
             replace hx240_2 := (HB.out.cell (World.block_lt_of_cell? w _ hx240_2)).trans hx240_2
             replace hx240_3 := (HB.out.cell (World.block_lt_of_cell? w _ hx240_3)).trans hx240_3
             replace hx240_4 := (HB.out.cell (World.block_lt_of_cell? w _ hx240_4)).trans hx240_4
             replace hx240_5 := (HB.out.cell (World.block_lt_of_cell? w _ hx240_5)).trans hx240_5
             replace hx240_6 := (HB.out.cell (World.block_lt_of_cell? w _ hx240_6)).trans hx240_6
             replace hx240_7 := (HB.out.cell (World.block_lt_of_cell? w _ hx240_7)).trans hx240_7
             have HR240_2 := Aside0.mk hi240_2
             have HC240_2 := Aside0.mk hl240_2
             clear hi240_2 hl240_2
             have HR240_7 := Aside0.mk hi240_7
             have HC240_7 := Aside0.mk hl240_7
             clear hi240_7 hl240_7
             replace p240 := eq_true p240
             replace q240 := eq_true q240
             refine start_ (n := 10) (S := fun w' => w'.cell? (ad239.add ((x5_1).toNat * 8)) = some (.string ((rd_T36 l0 x5_1).f0.f0)) ∧ w'.cell? ⟨(ad239.add ((x5_1).toNat * 8)).block, (ad239.add ((x5_1).toNat * 8)).off + 1, none⟩ = some (.int .i64 ((rd_T36 l0 x5_1).f0.f1)) ∧ w'.cell? ⟨(ad239.add ((x5_1).toNat * 8)).block, (ad239.add ((x5_1).toNat * 8)).off + 2, none⟩ = some (.slice A239_2 ((rd_T36 l0 x5_1).f1).length c239_2) ∧ w'.cell? ⟨(ad239.add ((x5_1).toNat * 8)).block, (ad239.add ((x5_1).toNat * 8)).off + 3, none⟩ = some (.string ((rd_T36 l0 x5_1).f2)) ∧ w'.cell? ⟨(ad239.add ((x5_1).toNat * 8)).block, (ad239.add ((x5_1).toNat * 8)).off + 4, none⟩ = some (.int .i64 ((rd_T36 l0 x5_1).f3)) ∧ w'.cell? ⟨(ad239.add ((x5_1).toNat * 8)).block, (ad239.add ((x5_1).toNat * 8)).off + 5, none⟩ = some (.string ((rd_T36 l0 x5_1).f4)) ∧ w'.cell? ⟨(ad239.add ((x5_1).toNat * 8)).block, (ad239.add ((x5_1).toNat * 8)).off + 6, none⟩ = some (.int .i64 ((rd_T36 l0 x5_1).f5)) ∧ w'.cell? ⟨(ad239.add ((x5_1).toNat * 8)).block, (ad239.add ((x5_1).toNat * 8)).off + 7, none⟩ = some (.slice A239_7 ((rd_T36 l0 x5_1).f6).length c239_7) ∧ w'.cell? (ad240.add ((x5_1).toNat * 8)) = some (.string ((rd_T36 l1 x5_1).f0.f0)) ∧ w'.cell? ⟨(ad240.add ((x5_1).toNat * 8)).block, (ad240.add ((x5_1).toNat * 8)).off + 1, none⟩ = some (.int .i64 ((rd_T36 l1 x5_1).f0.f1)) ∧ w'.cell? ⟨(ad240.add ((x5_1).toNat * 8)).block, (ad240.add ((x5_1).toNat * 8)).off + 2, none⟩ = some (.slice A240_2 ((rd_T36 l1 x5_1).f1).length c240_2) ∧ w'.cell? ⟨(ad240.add ((x5_1).toNat * 8)).block, (ad240.add ((x5_1).toNat * 8)).off + 3, none⟩ = some (.string ((rd_T36 l1 x5_1).f2)) ∧ w'.cell? ⟨(ad240.add ((x5_1).toNat * 8)).block, (ad240.add ((x5_1).toNat * 8)).off + 4, none⟩ = some (.int .i64 ((rd_T36 l1 x5_1).f3)) ∧ w'.cell? ⟨(ad240.add ((x5_1).toNat * 8)).block, (ad240.add ((x5_1).toNat * 8)).off + 5, none⟩ = some (.string ((rd_T36 l1 x5_1).f4)) ∧ w'.cell? ⟨(ad240.add ((x5_1).toNat * 8)).block, (ad240.add ((x5_1).toNat * 8)).off + 6, none⟩ = some (.int .i64 ((rd_T36 l1 x5_1).f5)) ∧ w'.cell? ⟨(ad240.add ((x5_1).toNat * 8)).block, (ad240.add ((x5_1).toNat * 8)).off + 7, none⟩ = some (.slice A240_7 ((rd_T36 l1 x5_1).f6).length c240_7)) (ds := []) bqaPOx14_0 (by kernel_rfl) rfl rfl ⟨((HB.out.cell (World.block_lt_of_cell? w _ hw239_0)).trans hw239_0), ((HB.out.cell (World.block_lt_of_cell? w _ hw239_1)).trans hw239_1), ((HB.out.cell (World.block_lt_of_cell? w _ hw239_2)).trans hw239_2), ((HB.out.cell (World.block_lt_of_cell? w _ hw239_3)).trans hw239_3), ((HB.out.cell (World.block_lt_of_cell? w _ hw239_4)).trans hw239_4), ((HB.out.cell (World.block_lt_of_cell? w _ hw239_5)).trans hw239_5), ((HB.out.cell (World.block_lt_of_cell? w _ hw239_6)).trans hw239_6), ((HB.out.cell (World.block_lt_of_cell? w _ hw239_7)).trans hw239_7), ((HB.out.cell (World.block_lt_of_cell? w _ hw240_0)).trans hw240_0), ((HB.out.cell (World.block_lt_of_cell? w _ hw240_1)).trans hw240_1), ((HB.out.cell (World.block_lt_of_cell? w _ hw240_2)).trans hw240_2), ((HB.out.cell (World.block_lt_of_cell? w _ hw240_3)).trans hw240_3), ((HB.out.cell (World.block_lt_of_cell? w _ hw240_4)).trans hw240_4), ((HB.out.cell (World.block_lt_of_cell? w _ hw240_5)).trans hw240_5), ((HB.out.cell (World.block_lt_of_cell? w _ hw240_6)).trans hw240_6), ((HB.out.cell (World.block_lt_of_cell? w _ hw240_7)).trans hw240_7)⟩ (fun hHeld => ?_); refine with_tabW pannierref08_SameOps.tab6 pannierref08_SameOps.bits6 (fun HT_ HW_ => ?_)
             generalize wr.drew = w11 at HB HR239_2 HR239_7 HR240_2 HR240_7 hx239_0 hx239_1 hx239_2 hx239_3 hx239_4 hx239_5 hx239_6 hx239_7 hx240_0 hx240_1 hx240_2 hx240_3 hx240_4 hx240_5 hx240_6 hx240_7 hHeld ⊢
             refine pure_ (i := 0) (N := some 18) (v := ?_) (a' := ?_) bqaPOx14_1 rfl rfl (any_of HT_.out (by kernel_rfl)) (fun _ _ _ h => h) (Or.inl ⟨by rfl, ?_⟩) ?_ ?_
             rotate_left
             · intro w'
               go_simp
               with_reducible rfl
             rotate_left
             · simp only [Act.put, List.setIfInBounds_toArray, List.set_cons_zero, List.set_cons_succ, i64_w, i32_w]
               rfl
             refine pure_ (i := 1) (N := some 19) (v := ?_) (a' := ?_) bqaPOx14_2 rfl rfl (any_of HT_.out (by kernel_rfl)) (fun _ _ _ h => h) (Or.inl ⟨by rfl, ?_⟩) ?_ ?_
             rotate_left
             · intro w'
               go_simp
               with_reducible rfl
             rotate_left
             · simp only [Act.put, List.setIfInBounds_toArray, List.set_cons_zero, List.set_cons_succ, i64_w, i32_w]
               rfl
             refine pure_ (i := 2) (N := some 20) (v := ?_) (a' := ?_) bqaPOx14_3 rfl rfl (any_of HT_.out (by kernel_rfl)) (fun _ _ _ h => h) (Or.inl ⟨by rfl, ?_⟩) ?_ ?_
             rotate_left
             · intro w'
               go_simp
               with_reducible rfl
             rotate_left
             · simp only [Act.put, List.setIfInBounds_toArray, List.set_cons_zero, List.set_cons_succ, i64_w, i32_w]
               rfl
             refine pure_ (i := 4) (N := some 22) (v := ?_) (a' := ?_) bqaPOx14_4 rfl rfl (any_of HT_.out (by kernel_rfl)) (fun _ _ _ h => h) (Or.inl ⟨by rfl, ?_⟩) ?_ ?_
             rotate_left
             · intro w'
               go_simp
               with_reducible rfl
             rotate_left
             · simp only [Act.put, List.setIfInBounds_toArray, List.set_cons_zero, List.set_cons_succ, i64_w, i32_w]
               rfl
             refine pure_ (i := 5) (N := some 23) (v := ?_) (a' := ?_) bqaPOx14_5 rfl rfl (any_of HT_.out (by kernel_rfl)) (fun _ _ _ h => h) (Or.inl ⟨by rfl, ?_⟩) ?_ ?_
             rotate_left
             · intro w'
               go_simp
               with_reducible rfl
             rotate_left
             · simp only [Act.put, List.setIfInBounds_toArray, List.set_cons_zero, List.set_cons_succ, i64_w, i32_w]
               rfl
             refine pure_ (i := 6) (N := some 24) (v := ?_) (a' := ?_) bqaPOx14_6 rfl rfl (any_of HT_.out (by kernel_rfl)) (fun _ _ _ h => h) (Or.inl ⟨by rfl, ?_⟩) ?_ ?_
             rotate_left
             · intro w'
               go_simp
               with_reducible rfl
             rotate_left
             · simp only [Act.put, List.setIfInBounds_toArray, List.set_cons_zero, List.set_cons_succ, i64_w, i32_w]
               rfl
             refine take_ (i := 3) (N := some 21) (v := ?_) (a' := ?_) bqaPOx14_7 rfl rfl (take_ofW HT_.out HW_.out (by kernel_rfl)) (fun _ _ _ h => h) (Or.inl ⟨by rfl, ?_⟩) hHeld ?_ ?_
             rotate_left
             · rintro w' ⟨s0, s1, s2, s3, s4, s5, s6, s7, s8, s9, s10, s11, s12, s13, s14, s15⟩
               go_simp
               with_reducible rfl
             rotate_left
             · simp only [Act.put, List.setIfInBounds_toArray, List.set_cons_zero, List.set_cons_succ, i64_w, i32_w]
               rfl
             refine take_ (i := 7) (N := some 25) (v := ?_) (a' := ?_) bqaPOx14_8 rfl rfl (take_ofW HT_.out HW_.out (by kernel_rfl)) (fun _ _ _ h => h) (Or.inl ⟨by rfl, ?_⟩) hHeld ?_ ?_
             rotate_left
             · rintro w' ⟨s0, s1, s2, s3, s4, s5, s6, s7, s8, s9, s10, s11, s12, s13, s14, s15⟩
               go_simp
               with_reducible rfl
             rotate_left
             · simp only [Act.put, List.setIfInBounds_toArray, List.set_cons_zero, List.set_cons_succ, i64_w, i32_w]
               rfl
             refine one_ (i := 8) (N := some 26) bqaPOx14_9 rfl rfl (one_of HT_.out (by kernel_rfl)) (by decide) (fun K hK => ?_)
             refine goes_ Try.func48 (by kernel_rfl) rfl #[.agg #[.string ((rd_T36 l0 x5_1).f0.f0), .int .i64 ((rd_T36 l0 x5_1).f0.f1), .slice A239_2 ((rd_T36 l0 x5_1).f1).length c239_2, .string ((rd_T36 l0 x5_1).f2), .int .i64 ((rd_T36 l0 x5_1).f3), .string ((rd_T36 l0 x5_1).f4), .int .i64 ((rd_T36 l0 x5_1).f5), .slice A239_7 ((rd_T36 l0 x5_1).f6).length c239_7], .agg #[.string ((rd_T36 l1 x5_1).f0.f0), .int .i64 ((rd_T36 l1 x5_1).f0.f1), .slice A240_2 ((rd_T36 l1 x5_1).f1).length c240_2, .string ((rd_T36 l1 x5_1).f2), .int .i64 ((rd_T36 l1 x5_1).f3), .string ((rd_T36 l1 x5_1).f4), .int .i64 ((rd_T36 l1 x5_1).f5), .slice A240_7 ((rd_T36 l1 x5_1).f6).length c240_7]] (by rfl) rfl rfl (by (try simp only [List.map_toArray, List.map_cons, List.map_nil]); first | done | rfl | (simp only [List.length_drop, List.length_take]; rfl)) ?_
             with_reducible refine (pannierref08_Equal.calls k1 ((rd_T36 l0 x5_1).f0.f0) ((rd_T36 l0 x5_1).f0.f1) _ _ ((rd_T36 l0 x5_1).f1) ((rd_T36 l0 x5_1).f2) ((rd_T36 l0 x5_1).f3) ((rd_T36 l0 x5_1).f4) ((rd_T36 l0 x5_1).f5) _ _ ((rd_T36 l0 x5_1).f6) ((rd_T36 l1 x5_1).f0.f0) ((rd_T36 l1 x5_1).f0.f1) _ _ ((rd_T36 l1 x5_1).f1) ((rd_T36 l1 x5_1).f2) ((rd_T36 l1 x5_1).f3) ((rd_T36 l1 x5_1).f4) ((rd_T36 l1 x5_1).f5) _ _ ((rd_T36 l1 x5_1).f6) false _ ?side1 ?side2 ?side3 ?side4 ?side5 ?side6 ?side7 ?side8 A7.out).mono ?_
             (case side1 => repeat (first | exact (Kd.C_below HR239_2.out HB.out) | (with_reducible refine Kd.C_alloc ?_ _) | (with_reducible refine Kd.C_drewN ?_ _) | (with_reducible refine Kd.C_drew ?_)))
             (case side2 => exact HC239_2.out)
             (case side3 => repeat (first | exact (Kd.C_below HR239_7.out HB.out) | (with_reducible refine Kd.C_alloc ?_ _) | (with_reducible refine Kd.C_drewN ?_ _) | (with_reducible refine Kd.C_drew ?_)))
             (case side4 => exact HC239_7.out)
             (case side5 => repeat (first | exact (Kd.C_below HR240_2.out HB.out) | (with_reducible refine Kd.C_alloc ?_ _) | (with_reducible refine Kd.C_drewN ?_ _) | (with_reducible refine Kd.C_drew ?_)))
             (case side6 => exact HC240_2.out)
             (case side7 => repeat (first | exact (Kd.C_below HR240_7.out HB.out) | (with_reducible refine Kd.C_alloc ?_ _) | (with_reducible refine Kd.C_drewN ?_ _) | (with_reducible refine Kd.C_drew ?_)))
             (case side8 => exact HC240_7.out)
             rintro e w12 ⟨rfl, hb⟩
             refine ⟨_, rfl, ?_⟩
             have n0_ := Aside0.mk (below_step (by repeat (first | (with_reducible first | exact HB.out | apply below_alloc | apply pw_below_drewN | apply below_drew1) | exact HB.out)) hb)
             clear HB
             have HB := n0_
             clear n0_
             (try clear hb)
             (try clear hb2)
             (try clear hk)
             (try clear hi)
             refine hK.out _ _ ⟨((HB.out.cell (World.block_lt_of_cell? w _ hw239_0)).trans hw239_0), ((HB.out.cell (World.block_lt_of_cell? w _ hw239_1)).trans hw239_1), ((HB.out.cell (World.block_lt_of_cell? w _ hw239_2)).trans hw239_2), ((HB.out.cell (World.block_lt_of_cell? w _ hw239_3)).trans hw239_3), ((HB.out.cell (World.block_lt_of_cell? w _ hw239_4)).trans hw239_4), ((HB.out.cell (World.block_lt_of_cell? w _ hw239_5)).trans hw239_5), ((HB.out.cell (World.block_lt_of_cell? w _ hw239_6)).trans hw239_6), ((HB.out.cell (World.block_lt_of_cell? w _ hw239_7)).trans hw239_7), ((HB.out.cell (World.block_lt_of_cell? w _ hw240_0)).trans hw240_0), ((HB.out.cell (World.block_lt_of_cell? w _ hw240_1)).trans hw240_1), ((HB.out.cell (World.block_lt_of_cell? w _ hw240_2)).trans hw240_2), ((HB.out.cell (World.block_lt_of_cell? w _ hw240_3)).trans hw240_3), ((HB.out.cell (World.block_lt_of_cell? w _ hw240_4)).trans hw240_4), ((HB.out.cell (World.block_lt_of_cell? w _ hw240_5)).trans hw240_5), ((HB.out.cell (World.block_lt_of_cell? w _ hw240_6)).trans hw240_6), ((HB.out.cell (World.block_lt_of_cell? w _ hw240_7)).trans hw240_7)⟩ (fun hHeld => ?_)
             clear hK K
             refine norm_ (a' := ?_) ?_ ?_
             rotate_left
             · show Act.put _ (some 26) _ = _
               simp only [Act.put, List.setIfInBounds_toArray, List.set_cons_zero, List.set_cons_succ, i64_w, i32_w]
               rfl
             refine pure_ (i := 9) (N := some 6) (v := ?_) (a' := ?_) bqaPOx14_10 rfl rfl (any_of HT_.out (by kernel_rfl)) (fun _ _ _ h => h) (Or.inl ⟨by rfl, ?_⟩) ?_ ?_
             rotate_left
             · intro w'
               go_simp
               with_reducible rfl
             rotate_left
             · simp only [Act.put, List.setIfInBounds_toArray, List.set_cons_zero, List.set_cons_succ, i64_w, i32_w]
               rfl
             refine done_ (done_of HT_.out (by kernel_rfl)) ?_
             try go_wp2
             go_ret
             exact ⟨by first | rfl | (simp [errW_none, errW_some] <;> rfl) | (simp [*, errW_none, errW_some] <;> rfl), by repeat (first | (with_reducible first | exact HB.out | apply below_alloc | apply pw_below_drewN | apply below_drew1) | exact HB.out)⟩
         · rw [if_neg c6] at H
           exact absurd H (by simp)
       · rw [if_neg c5] at H
         exact absurd H (by simp)
     · rw [if_neg c4] at H
       have c4b0 : decide (x5_1 < (l0.length : Int)) = false := decide_eq_false c4
       clear c4
       obtain rfl := Option.some.inj H
       go_wp2
       go_ret
       exact ⟨by first | rfl | (simp [errW_none, errW_some] <;> rfl) | (simp [*, errW_none, errW_some] <;> rfl), by repeat (first | (with_reducible first | exact HB.out | apply below_alloc | apply pw_below_drewN | apply below_drew1) | exact HB.out)⟩
 · rw [if_neg c3] at H
   have c3b0 : ((l0.length : Int) == (l1.length : Int)) = false := beq_eq_false_iff_ne.mpr c3
   have c3b1 : ((l0.length : Int) != (l1.length : Int)) = true := bne_iff_ne.mpr c3
   have c3b2 : (l0.length == l1.length) = false := by first | simpa using c3 | (simp at c3 ⊢; omega)
   obtain rfl := Option.some.inj H
   go_enter Try.func21, Try.ntmps21
   go_wp2
   go_ret
   exact ⟨by first | rfl | (simp [errW_none, errW_some] <;> rfl) | (simp [*, errW_none, errW_some] <;> rfl), by repeat (first | (with_reducible first | exact HB.out | apply below_alloc | apply pw_below_drewN | apply below_drew1) | exact HB.out)⟩
mutual
def pannierlaw08_makers.l0 : Nat → List (S36) → Int → Int → Option (Int)
  | 0, _, _, _ => none
  | k + 1, x0, x3, x4 => if x4 < (x0.length : Int) then (pannierlaw08_makers.l1 k x0 x3 x4 false 0) else (some x3)
def pannierlaw08_makers.l1 : Nat → List (S36) → Int → Int → Bool → Int → Option (Int)
  | 0, _, _, _, _, _ => none
  | k + 1, x0, x3, x4, x5, x6 => if x6 < x4 then (if x5 = true then (pannierlaw08_makers.l0 k x0 x3 (wrap64 (x4 + 1))) else (if 0 ≤ x6 then (if x6 < (x0.length : Int) then (if 0 ≤ x4 then (if x4 < (x0.length : Int) then (pannierlaw08_makers.l1 k x0 x3 x4 (((rd_T36 x0 x6).f0.f0).toList == ((rd_T36 x0 x4).f0.f0).toList) (wrap64 (x6 + 1))) else (none)) else (none)) else (none)) else (none))) else (if x5 = true then (pannierlaw08_makers.l0 k x0 x3 (wrap64 (x4 + 1))) else (pannierlaw08_makers.l0 k x0 (wrap64 (x3 + 1)) (wrap64 (x4 + 1))))
end
def pannierlaw08_makers.f (k : Nat) (l0 : List (S36)) : Option (Int) := pannierlaw08_makers.l0 k l0 0 0
set_option maxHeartbeats 8000000 in
set_option maxRecDepth 100000 in
theorem pannierlaw08_makers.calls (k : Nat) (A0 : Option Addr) (c0 : Nat) (l0 : List (S36)) (r : Int) (w : World) (hr0 : Kd.C k36 w A0 l0.length l0) (hc0 : l0.length ≤ c0) (h : pannierlaw08_makers.f k l0 = some r) :
    Calls Try.prog 29 #[.slice A0 l0.length c0] w fun e w' => e = .returned (.int .i64 r) ∧ Drawn0 w w' := by
 have HR0 := Aside0.mk hr0
 have HC0 := Aside0.mk hc0
 clear hr0 hc0
 have H : (pannierlaw08_makers.l0 k l0 0 0) = some r := h
 clear h
 have H' := Aside0.mk H
 clear H
 go_enter Try.func29, Try.ntmps29
 go_wp2
 repeat (go_quiet (fail); try go_wp2)
 go_loopg [3, 4] k (fun kq v3 v4 w' => ∃ (x3_1 : Int) (x4_1 : Int), v3 = .int .i64 x3_1 ∧ v4 = .int .i64 x4_1 ∧ Aside0 (pannierlaw08_makers.l0 kq l0 x3_1 x4_1 = some r) ∧ Aside0 (kq ≤ k) ∧ Drawn0 w w')
 case atStart => exact ⟨(0), (0), (by first | rfl | (simp; done) | (simp [*]; done)), (by first | rfl | (simp; done) | (simp [*]; done)), H', ⟨Nat.le_refl _⟩, by repeat (first | exact Drawn0.refl _ | apply Drawn0.step)⟩
 case round =>
  clear H'
  obtain ⟨x3_1, x4_1, rfl, rfl, HA, HK1, ⟨m1, rfl⟩⟩ := hrel
  cases gk with
  | zero => exact absurd HA.out (by simp [pannierlaw08_makers.l0])
  | succ k1 =>
   have H := HA.out
   clear HA
   simp only [pannierlaw08_makers.l0] at H
   by_cases c2 : x4_1 < (l0.length : Int)
   · rw [if_pos c2] at H
     have c2b0 : decide (x4_1 < (l0.length : Int)) = true := decide_eq_true c2
     clear c2
     have H' := Aside0.mk H
     clear H
     go_wp2
     repeat (go_quiet (fail); try go_wp2)
     go_loopg [5, 6] k1 (fun kq v5 v6 w' => ∃ (x5_2 : Bool) (x6_2 : Int), v5 = .bool x5_2 ∧ v6 = .int .i64 x6_2 ∧ Aside0 (pannierlaw08_makers.l1 kq l0 x3_1 x4_1 x5_2 x6_2 = some r) ∧ Aside0 (kq ≤ k1) ∧ Drawn0 w w')
     case atStart => exact ⟨(false), (0), (by first | rfl | (simp; done) | (simp [*]; done)), (by first | rfl | (simp; done) | (simp [*]; done)), H', ⟨Nat.le_refl _⟩, by repeat (first | exact Drawn0.refl _ | apply Drawn0.step)⟩
     case round =>
      clear H'
      try clear c2
      try clear c2b0
      try clear p2
      obtain ⟨x5_2, x6_2, rfl, rfl, HA, HK2, ⟨m2, rfl⟩⟩ := hrel
      cases gk with
      | zero => exact absurd HA.out (by simp [pannierlaw08_makers.l1])
      | succ k2 =>
       have H := HA.out
       clear HA
       simp only [pannierlaw08_makers.l1] at H
       by_cases c3 : x6_2 < x4_1
       rw [if_pos c3] at H
       have c3b0 : decide (x6_2 < x4_1) = true := decide_eq_true c3
       clear c3
       by_cases c4 : x5_2 = true
       subst c4
       have H1 : (pannierlaw08_makers.l0 k2 l0 x3_1 (wrap64 (x4_1 + 1))) = some r := by rw [if_pos rfl] at H; exact H
       clear H
       have H := H1
       clear H1
       rotate_left
       · replace c4 := Bool.eq_false_iff.mpr c4
         subst c4
         have H1 : (if 0 ≤ x6_2 then (if x6_2 < (l0.length : Int) then (if 0 ≤ x4_1 then (if x4_1 < (l0.length : Int) then (pannierlaw08_makers.l1 k2 l0 x3_1 x4_1 (((rd_T36 l0 x6_2).f0.f0).toList == ((rd_T36 l0 x4_1).f0.f0).toList) (wrap64 (x6_2 + 1))) else (none)) else (none)) else (none)) else (none)) = some r := by rw [if_neg (show ¬ (false = true) by decide)] at H; exact H
         clear H
         have H := H1
         clear H1
         by_cases c5 : 0 ≤ x6_2
         · rw [if_pos c5] at H
           have c5b0 : decide (0 ≤ x6_2) = true := decide_eq_true c5
           clear c5
           by_cases c6 : x6_2 < (l0.length : Int)
           · rw [if_pos c6] at H
             have c6b0 : decide (x6_2 < (l0.length : Int)) = true := decide_eq_true c6
             clear c6
             by_cases c7 : 0 ≤ x4_1
             · rw [if_pos c7] at H
               have c7b0 : decide (0 ≤ x4_1) = true := decide_eq_true c7
               clear c7
               by_cases c8 : x4_1 < (l0.length : Int)
               · rw [if_pos c8] at H
                 have c8b0 : decide (x4_1 < (l0.length : Int)) = true := decide_eq_true c8
                 clear c8
                 have H' := Aside0.mk H
                 clear H
                 have p247 : 0 ≤ (x6_2 : Int) := of_decide_eq_true (by first | (with_reducible assumption) | assumption)
                 have q247 : x6_2 < (l0.length : Int) := of_decide_eq_true (by first | (with_reducible assumption) | assumption)
                 obtain ⟨ad247, A247_2, c247_2, A247_7, c247_7, e247, hx247_0, hx247_1, hx247_2, hx247_3, hx247_4, hx247_5, hx247_6, hx247_7, hl247_2, hi247_2, hl247_7, hi247_7⟩ := at_T36 HR0.out x6_2 p247 q247
                 cases e247
                 have HR247_2 := Aside0.mk hi247_2
                 have HC247_2 := Aside0.mk hl247_2
                 clear hi247_2 hl247_2
                 have HR247_7 := Aside0.mk hi247_7
                 have HC247_7 := Aside0.mk hl247_7
                 clear hi247_7 hl247_7
                 replace p247 := eq_true p247
                 replace q247 := eq_true q247
                 have p248 : 0 ≤ (x4_1 : Int) := of_decide_eq_true (by first | (with_reducible assumption) | assumption)
                 have q248 : x4_1 < (l0.length : Int) := of_decide_eq_true (by first | (with_reducible assumption) | assumption)
                 obtain ⟨ad248, A248_2, c248_2, A248_7, c248_7, e248, hx248_0, hx248_1, hx248_2, hx248_3, hx248_4, hx248_5, hx248_6, hx248_7, hl248_2, hi248_2, hl248_7, hi248_7⟩ := at_T36 HR0.out x4_1 p248 q248
                 obtain rfl : ad247 = ad248 := (by injection e248)
                 have HR248_2 := Aside0.mk hi248_2
                 have HC248_2 := Aside0.mk hl248_2
                 clear hi248_2 hl248_2
                 have HR248_7 := Aside0.mk hi248_7
                 have HC248_7 := Aside0.mk hl248_7
                 clear hi248_7 hl248_7
                 replace p248 := eq_true p248
                 replace q248 := eq_true q248
                 go_wp2
                 repeat (go_quiet (fail); try go_wp2)
                 go_roundg k2
                 case measure => have := HK1.out; have := HK2.out; omega
                 case rel => exact ⟨((((rd_T36 l0 x6_2).f0.f0).toList == ((rd_T36 l0 x4_1).f0.f0).toList)), (wrap64 (x6_2 + 1)), (by first | rfl | (simp; done) | (simp [*]; done)), (by first | rfl | (simp; done) | (simp [*]; done)), H', ⟨by have := HK1.out; have := HK2.out; omega⟩, by repeat (first | exact Drawn0.refl _ | apply Drawn0.step)⟩
               · rw [if_neg c8] at H
                 exact absurd H (by simp)
             · rw [if_neg c7] at H
               exact absurd H (by simp)
           · rw [if_neg c6] at H
             exact absurd H (by simp)
         · rw [if_neg c5] at H
           exact absurd H (by simp)
       rw [if_neg c3] at H
       have c3b0 : decide (x6_2 < x4_1) = false := decide_eq_false c3
       clear c3
       by_cases c9 : x5_2 = true
       subst c9
       have H1 : (pannierlaw08_makers.l0 k2 l0 x3_1 (wrap64 (x4_1 + 1))) = some r := by rw [if_pos rfl] at H; exact H
       clear H
       have H := H1
       clear H1
       rotate_left
       replace c9 := Bool.eq_false_iff.mpr c9
       subst c9
       have H1 : (pannierlaw08_makers.l0 k2 l0 (wrap64 (x3_1 + 1)) (wrap64 (x4_1 + 1))) = some r := by rw [if_neg (show ¬ (false = true) by decide)] at H; exact H
       clear H
       have H := H1
       clear H1
       rotate_left
       all_goals (
        have H' := Aside0.mk H
        clear H
        go_wp2
        repeat (go_quiet (fail); try go_wp2)
        go_roundg k2
        case measure => have := HK1.out; have := HK2.out; omega
        case rel => exact ⟨_, _, (by first | rfl | (simp; done) | (simp [*]; done)), (by first | rfl | (simp; done) | (simp [*]; done)), H', ⟨by have := HK1.out; have := HK2.out; omega⟩, by repeat (first | exact Drawn0.refl _ | apply Drawn0.step)⟩
        )
   · rw [if_neg c2] at H
     have c2b0 : decide (x4_1 < (l0.length : Int)) = false := decide_eq_false c2
     clear c2
     obtain rfl := Option.some.inj H
     go_wp2
     repeat (go_quiet (fail); try go_wp2)
     go_ret
     exact ⟨by first | rfl | (simp; done) | (simp [*]; done), by repeat (first | exact Drawn0.refl _ | apply Drawn0.step)⟩
def order_Same.f (k : Nat) (a0_0 : ByteArray) (a0_1 : Int) (l0_2 : List (S34)) (a0_3 : ByteArray) (a0_4 : Int) (a0_5 : ByteArray) (a0_6 : Int) (l0_7 : List (S34)) (a1_0 : ByteArray) (a1_1 : Int) (l1_2 : List (S34)) (a1_3 : ByteArray) (a1_4 : Int) (a1_5 : ByteArray) (a1_6 : Int) (l1_7 : List (S34)) : Option (Bool) := (order_Right.f k a0_0 a0_1 l0_2 a0_3 a0_4 a0_5 a0_6 l0_7).bind fun t251 => (if t251 = true then ((order_Right.f k a1_0 a1_1 l1_2 a1_3 a1_4 a1_5 a1_6 l1_7).bind fun t252 => (if t252 = true then ((order_equal.f k a0_0 a0_1 l0_2 a0_3 a0_4 a0_5 a0_6 l0_7 a1_0 a1_1 l1_2 a1_3 a1_4 a1_5 a1_6 l1_7).bind fun t253 => (some t253)) else (some false))) else (some false))
set_option maxHeartbeats 8000000 in
set_option maxRecDepth 100000 in
theorem order_Same.calls (k : Nat) (a0_0 : ByteArray) (a0_1 : Int) (A0_2 : Option Addr) (c0_2 : Nat) (l0_2 : List (S34)) (a0_3 : ByteArray) (a0_4 : Int) (a0_5 : ByteArray) (a0_6 : Int) (A0_7 : Option Addr) (c0_7 : Nat) (l0_7 : List (S34)) (a1_0 : ByteArray) (a1_1 : Int) (A1_2 : Option Addr) (c1_2 : Nat) (l1_2 : List (S34)) (a1_3 : ByteArray) (a1_4 : Int) (a1_5 : ByteArray) (a1_6 : Int) (A1_7 : Option Addr) (c1_7 : Nat) (l1_7 : List (S34)) (r : Bool) (w : World) (hr0_2 : Kd.C k34 w A0_2 l0_2.length l0_2) (hc0_2 : l0_2.length ≤ c0_2) (hr0_7 : Kd.C k34 w A0_7 l0_7.length l0_7) (hc0_7 : l0_7.length ≤ c0_7) (hr1_2 : Kd.C k34 w A1_2 l1_2.length l1_2) (hc1_2 : l1_2.length ≤ c1_2) (hr1_7 : Kd.C k34 w A1_7 l1_7.length l1_7) (hc1_7 : l1_7.length ≤ c1_7) (h : order_Same.f k a0_0 a0_1 l0_2 a0_3 a0_4 a0_5 a0_6 l0_7 a1_0 a1_1 l1_2 a1_3 a1_4 a1_5 a1_6 l1_7 = some r) :
    Calls Try.prog 30 #[.agg #[.string a0_0, .int .i64 a0_1, .slice A0_2 l0_2.length c0_2, .string a0_3, .int .i64 a0_4, .string a0_5, .int .i64 a0_6, .slice A0_7 l0_7.length c0_7], .agg #[.string a1_0, .int .i64 a1_1, .slice A1_2 l1_2.length c1_2, .string a1_3, .int .i64 a1_4, .string a1_5, .int .i64 a1_6, .slice A1_7 l1_7.length c1_7]] w fun e w' => e = .returned (.bool r) ∧ Below w.heap.size w w' := by
 have hu36 := Try.underlying36
 have HR0_2 := Aside0.mk hr0_2
 have HC0_2 := Aside0.mk hc0_2
 clear hr0_2 hc0_2
 have HR0_7 := Aside0.mk hr0_7
 have HC0_7 := Aside0.mk hc0_7
 clear hr0_7 hc0_7
 have HR1_2 := Aside0.mk hr1_2
 have HC1_2 := Aside0.mk hc1_2
 clear hr1_2 hc1_2
 have HR1_7 := Aside0.mk hr1_7
 have HC1_7 := Aside0.mk hc1_7
 clear hr1_7 hc1_7
 have HB := Aside0.mk (Below.refl w.heap.size w)
 have H : ((order_Right.f k a0_0 a0_1 l0_2 a0_3 a0_4 a0_5 a0_6 l0_7).bind fun t251 => (if t251 = true then ((order_Right.f k a1_0 a1_1 l1_2 a1_3 a1_4 a1_5 a1_6 l1_7).bind fun t252 => (if t252 = true then ((order_equal.f k a0_0 a0_1 l0_2 a0_3 a0_4 a0_5 a0_6 l0_7 a1_0 a1_1 l1_2 a1_3 a1_4 a1_5 a1_6 l1_7).bind fun t253 => (some t253)) else (some false))) else (some false))) = some r := h
 clear h
 replace H := Option.bind_eq_some_iff.mp H
 obtain ⟨t251, A30, H⟩ := H
 replace H : (if t251 = true then ((order_Right.f k a1_0 a1_1 l1_2 a1_3 a1_4 a1_5 a1_6 l1_7).bind fun t252 => (if t252 = true then ((order_equal.f k a0_0 a0_1 l0_2 a0_3 a0_4 a0_5 a0_6 l0_7 a1_0 a1_1 l1_2 a1_3 a1_4 a1_5 a1_6 l1_7).bind fun t253 => (some t253)) else (some false))) else (some false)) = some r := H
 have A3 := Aside0.mk A30
 clear A30
 by_cases c4 : t251 = true
 · subst c4
   have H1 : ((order_Right.f k a1_0 a1_1 l1_2 a1_3 a1_4 a1_5 a1_6 l1_7).bind fun t252 => (if t252 = true then ((order_equal.f k a0_0 a0_1 l0_2 a0_3 a0_4 a0_5 a0_6 l0_7 a1_0 a1_1 l1_2 a1_3 a1_4 a1_5 a1_6 l1_7).bind fun t253 => (some t253)) else (some false))) = some r := by rw [if_pos rfl] at H; exact H
   clear H
   have H := H1
   clear H1
   replace H := Option.bind_eq_some_iff.mp H
   obtain ⟨t252, A50, H⟩ := H
   replace H : (if t252 = true then ((order_equal.f k a0_0 a0_1 l0_2 a0_3 a0_4 a0_5 a0_6 l0_7 a1_0 a1_1 l1_2 a1_3 a1_4 a1_5 a1_6 l1_7).bind fun t253 => (some t253)) else (some false)) = some r := H
   have A5 := Aside0.mk A50
   clear A50
   by_cases c6 : t252 = true
   · subst c6
     have H1 : ((order_equal.f k a0_0 a0_1 l0_2 a0_3 a0_4 a0_5 a0_6 l0_7 a1_0 a1_1 l1_2 a1_3 a1_4 a1_5 a1_6 l1_7).bind fun t253 => (some t253)) = some r := by rw [if_pos rfl] at H; exact H
     clear H
     have H := H1
     clear H1
     replace H := Option.bind_eq_some_iff.mp H
     obtain ⟨t253, A70, H⟩ := H
     replace H : (some t253) = some r := H
     have A7 := Aside0.mk A70
     clear A70
     obtain rfl := Option.some.inj H
     go_enter Try.func30, Try.ntmps30
     go_wp2_with (first | ((with_reducible refine gate_dst (N := 2) rfl ?_); refine box_event ?hg (N := 2) ?hd (cs := #[.string a0_0, .int .i64 a0_1, .slice A0_2 l0_2.length c0_2, .string a0_3, .int .i64 a0_4, .string a0_5, .int .i64 a0_6, .slice A0_7 l0_7.length c0_7]) (t := 36) ?hr ?_; (case hd => rfl); (case hg => rfl); (case hr => first | (go_simp; done) | (go_simp; rfl)); intro gb249 hg w8 hbox hb; have n0_ := Aside0.mk (below_step (by repeat (first | (with_reducible first | exact HB.out | apply below_alloc | apply pw_below_drewN | apply below_drew1) | exact HB.out)) hb); have n1_ := Aside0.mk (hbox); have n2_ := Aside0.mk ((by rw [hg]; exact (below_size (by repeat (first | (with_reducible first | exact HB.out | apply below_alloc | apply pw_below_drewN | apply below_drew1) | exact HB.out))) : w.heap.size ≤ gb249)); have n3_ := Aside0.mk ((by rw [hg]; exact (below_size (by repeat (first | (with_reducible first | exact HB.out | apply below_alloc | apply pw_below_drewN | apply below_drew1) | exact HB.out))) : w.heap.size ≤ gb249)); clear HB; have HB := n0_; have BK249 := n1_; have GW249 := n2_; have GE249 := n3_; clear n0_ n1_ n2_ n3_; clear hb hbox hg) | ((with_reducible refine gate_dst (N := 3) rfl ?_); refine box_event ?hg (N := 3) ?hd (cs := #[.string a1_0, .int .i64 a1_1, .slice A1_2 l1_2.length c1_2, .string a1_3, .int .i64 a1_4, .string a1_5, .int .i64 a1_6, .slice A1_7 l1_7.length c1_7]) (t := 36) ?hr ?_; (case hd => rfl); (case hg => rfl); (case hr => first | (go_simp; done) | (go_simp; rfl)); intro gb250 hg w9 hbox hb; have n0_ := Aside0.mk (blk_below (g := gb249) (o := .cells #[.string a0_0, .int .i64 a0_1, .slice A0_2 l0_2.length c0_2, .string a0_3, .int .i64 a0_4, .string a0_5, .int .i64 a0_6, .slice A0_7 l0_7.length c0_7] 36 (0, 0)) (by (with_reducible repeat (first | refine blk_drewN ?_ _ | refine blk_drew ?_ | refine blk_alloc ?_ _)); exact BK249.out) hb); have n1_ := Aside0.mk (below_step (by repeat (first | (with_reducible first | exact HB.out | apply below_alloc | apply pw_below_drewN | apply below_drew1 | refine below_set ?_ GE249.out) | exact HB.out)) hb); have n2_ := Aside0.mk (hbox); have n3_ := Aside0.mk ((by rw [hg]; exact (below_size (by repeat (first | (with_reducible first | exact HB.out | apply below_alloc | apply pw_below_drewN | apply below_drew1 | refine below_set ?_ GE249.out) | exact HB.out))) : w.heap.size ≤ gb250)); have n4_ := Aside0.mk ((by rw [hg]; exact (below_size (by repeat (first | (with_reducible first | exact HB.out | apply below_alloc | apply pw_below_drewN | apply below_drew1 | refine below_set ?_ GE249.out) | exact HB.out))) : w.heap.size ≤ gb250)); have n5_ := Aside0.mk ((by rw [hg]; exact Nat.ne_of_lt (blk_lt (g := gb249) (o := .cells #[.string a0_0, .int .i64 a0_1, .slice A0_2 l0_2.length c0_2, .string a0_3, .int .i64 a0_4, .string a0_5, .int .i64 a0_6, .slice A0_7 l0_7.length c0_7] 36 (0, 0)) (by (with_reducible repeat (first | refine blk_drewN ?_ _ | refine blk_drew ?_ | refine blk_alloc ?_ _)); exact BK249.out)) : gb249 ≠ gb250)); have n6_ := Aside0.mk ((by rw [hg]; exact Nat.ne_of_gt (blk_lt (g := gb249) (o := .cells #[.string a0_0, .int .i64 a0_1, .slice A0_2 l0_2.length c0_2, .string a0_3, .int .i64 a0_4, .string a0_5, .int .i64 a0_6, .slice A0_7 l0_7.length c0_7] 36 (0, 0)) (by (with_reducible repeat (first | refine blk_drewN ?_ _ | refine blk_drew ?_ | refine blk_alloc ?_ _)); exact BK249.out)) : gb250 ≠ gb249)); clear BK249; clear HB; have BK249 := n0_; have HB := n1_; have BK250 := n2_; have GW250 := n3_; have GE250 := n4_; have NB249_250 := n5_; have NB250_249 := n6_; clear n0_ n1_ n2_ n3_ n4_ n5_ n6_; clear hb hbox hg; have hnb10 := NB249_250.out; have hnc10 := NB250_249.out; have hcz11_0 : w9.cell? ⟨gb249, 0, none⟩ = some (.string a0_0) := (blk_cell BK249.out 0).trans rfl; have hcz11_1 : w9.cell? ⟨gb249, 1, none⟩ = some (.int .i64 a0_1) := (blk_cell BK249.out 1).trans rfl; have hcz11_2 : w9.cell? ⟨gb249, 2, none⟩ = some (.slice A0_2 l0_2.length c0_2) := (blk_cell BK249.out 2).trans rfl; have hcz11_3 : w9.cell? ⟨gb249, 3, none⟩ = some (.string a0_3) := (blk_cell BK249.out 3).trans rfl; have hcz11_4 : w9.cell? ⟨gb249, 4, none⟩ = some (.int .i64 a0_4) := (blk_cell BK249.out 4).trans rfl; have hcz11_5 : w9.cell? ⟨gb249, 5, none⟩ = some (.string a0_5) := (blk_cell BK249.out 5).trans rfl; have hcz11_6 : w9.cell? ⟨gb249, 6, none⟩ = some (.int .i64 a0_6) := (blk_cell BK249.out 6).trans rfl; have hcz11_7 : w9.cell? ⟨gb249, 7, none⟩ = some (.slice A0_7 l0_7.length c0_7) := (blk_cell BK249.out 7).trans rfl; have hfz11_0 := blk_frozen BK249.out 0; have hfz11_1 := blk_frozen BK249.out 1; have hfz11_2 := blk_frozen BK249.out 2; have hfz11_3 := blk_frozen BK249.out 3; have hfz11_4 := blk_frozen BK249.out 4; have hfz11_5 := blk_frozen BK249.out 5; have hfz11_6 := blk_frozen BK249.out 6; have hfz11_7 := blk_frozen BK249.out 7) | ((with_reducible refine gate_callee (f := 45) rfl ?_); refine goesL_ (some 6) rfl rfl Try.func45 (by kernel_rfl) rfl #[.agg #[.string a0_0, .int .i64 a0_1, .slice A0_2 l0_2.length c0_2, .string a0_3, .int .i64 a0_4, .string a0_5, .int .i64 a0_6, .slice A0_7 l0_7.length c0_7]] rfl (by (try simp only [List.map_toArray, List.map_cons, List.map_nil]); first | done | rfl | (simp only [List.length_drop, List.length_take]; rfl)) ?_; (with_reducible refine (order_Right.calls k a0_0 a0_1 _ _ l0_2 a0_3 a0_4 a0_5 a0_6 _ _ l0_7 true _ ?side1 ?side2 ?side3 ?side4 A3.out).mono ?_); (case side1 => repeat (first | exact (Kd.C_below HR0_2.out HB.out) | (with_reducible refine Kd.C_alloc ?_ _) | (with_reducible refine Kd.C_drewN ?_ _) | (with_reducible refine Kd.C_drew ?_))); (case side2 => exact HC0_2.out); (case side3 => repeat (first | exact (Kd.C_below HR0_7.out HB.out) | (with_reducible refine Kd.C_alloc ?_ _) | (with_reducible refine Kd.C_drewN ?_ _) | (with_reducible refine Kd.C_drew ?_))); (case side4 => exact HC0_7.out); rintro e w12 ⟨rfl, hb⟩; refine ⟨_, rfl, ?_⟩; have n0_ := Aside0.mk (blk_below (g := gb249) (o := .cells #[.string a0_0, .int .i64 a0_1, .slice A0_2 l0_2.length c0_2, .string a0_3, .int .i64 a0_4, .string a0_5, .int .i64 a0_6, .slice A0_7 l0_7.length c0_7] 36 (0, 0)) (by (with_reducible repeat (first | refine blk_drewN ?_ _ | refine blk_drew ?_ | refine blk_alloc ?_ _)); exact BK249.out) hb); have n1_ := Aside0.mk (blk_below (g := gb250) (o := .cells #[.string a1_0, .int .i64 a1_1, .slice A1_2 l1_2.length c1_2, .string a1_3, .int .i64 a1_4, .string a1_5, .int .i64 a1_6, .slice A1_7 l1_7.length c1_7] 36 (0, 0)) (by (with_reducible repeat (first | refine blk_drewN ?_ _ | refine blk_drew ?_ | refine blk_alloc ?_ _)); exact BK250.out) hb); have n2_ := Aside0.mk (below_step (by repeat (first | (with_reducible first | exact HB.out | apply below_alloc | apply pw_below_drewN | apply below_drew1 | refine below_set ?_ GE249.out | refine below_set ?_ GE250.out) | exact HB.out)) hb); clear BK249; clear BK250; clear HB; have BK249 := n0_; have BK250 := n1_; have HB := n2_; clear n0_ n1_ n2_; (try clear hb); (try clear hb2); (try clear hk); (try clear hi); have hcz13_0 : w12.cell? ⟨gb250, 0, none⟩ = some (.string a1_0) := (blk_cell BK250.out 0).trans rfl; have hcz13_1 : w12.cell? ⟨gb250, 1, none⟩ = some (.int .i64 a1_1) := (blk_cell BK250.out 1).trans rfl; have hcz13_2 : w12.cell? ⟨gb250, 2, none⟩ = some (.slice A1_2 l1_2.length c1_2) := (blk_cell BK250.out 2).trans rfl; have hcz13_3 : w12.cell? ⟨gb250, 3, none⟩ = some (.string a1_3) := (blk_cell BK250.out 3).trans rfl; have hcz13_4 : w12.cell? ⟨gb250, 4, none⟩ = some (.int .i64 a1_4) := (blk_cell BK250.out 4).trans rfl; have hcz13_5 : w12.cell? ⟨gb250, 5, none⟩ = some (.string a1_5) := (blk_cell BK250.out 5).trans rfl; have hcz13_6 : w12.cell? ⟨gb250, 6, none⟩ = some (.int .i64 a1_6) := (blk_cell BK250.out 6).trans rfl; have hcz13_7 : w12.cell? ⟨gb250, 7, none⟩ = some (.slice A1_7 l1_7.length c1_7) := (blk_cell BK250.out 7).trans rfl; have hfz13_0 := blk_frozen BK250.out 0; have hfz13_1 := blk_frozen BK250.out 1; have hfz13_2 := blk_frozen BK250.out 2; have hfz13_3 := blk_frozen BK250.out 3; have hfz13_4 := blk_frozen BK250.out 4; have hfz13_5 := blk_frozen BK250.out 5; have hfz13_6 := blk_frozen BK250.out 6; have hfz13_7 := blk_frozen BK250.out 7) | (go_at_call 45; (with_reducible refine (order_Right.calls k a1_0 a1_1 _ _ l1_2 a1_3 a1_4 a1_5 a1_6 _ _ l1_7 true _ ?side1 ?side2 ?side3 ?side4 A5.out).mono ?_); (case side1 => repeat (first | exact (Kd.C_below HR1_2.out HB.out) | (with_reducible refine Kd.C_alloc ?_ _) | (with_reducible refine Kd.C_drewN ?_ _) | (with_reducible refine Kd.C_drew ?_))); (case side2 => exact HC1_2.out); (case side3 => repeat (first | exact (Kd.C_below HR1_7.out HB.out) | (with_reducible refine Kd.C_alloc ?_ _) | (with_reducible refine Kd.C_drewN ?_ _) | (with_reducible refine Kd.C_drew ?_))); (case side4 => exact HC1_7.out); rintro e w14 ⟨rfl, hb⟩; have n0_ := Aside0.mk (blk_below (g := gb249) (o := .cells #[.string a0_0, .int .i64 a0_1, .slice A0_2 l0_2.length c0_2, .string a0_3, .int .i64 a0_4, .string a0_5, .int .i64 a0_6, .slice A0_7 l0_7.length c0_7] 36 (0, 0)) (by (with_reducible repeat (first | refine blk_drewN ?_ _ | refine blk_drew ?_ | refine blk_alloc ?_ _)); exact BK249.out) hb); have n1_ := Aside0.mk (blk_below (g := gb250) (o := .cells #[.string a1_0, .int .i64 a1_1, .slice A1_2 l1_2.length c1_2, .string a1_3, .int .i64 a1_4, .string a1_5, .int .i64 a1_6, .slice A1_7 l1_7.length c1_7] 36 (0, 0)) (by (with_reducible repeat (first | refine blk_drewN ?_ _ | refine blk_drew ?_ | refine blk_alloc ?_ _)); exact BK250.out) hb); have n2_ := Aside0.mk (below_step (by repeat (first | (with_reducible first | exact HB.out | apply below_alloc | apply pw_below_drewN | apply below_drew1 | refine below_set ?_ GE249.out | refine below_set ?_ GE250.out) | exact HB.out)) hb); clear BK249; clear BK250; clear HB; have BK249 := n0_; have BK250 := n1_; have HB := n2_; clear n0_ n1_ n2_; (try clear hb); (try clear hb2); (try clear hk); (try clear hi); have hcz15_0 : w14.cell? ⟨gb249, 0, none⟩ = some (.string a0_0) := (blk_cell BK249.out 0).trans rfl; have hcz15_1 : w14.cell? ⟨gb249, 1, none⟩ = some (.int .i64 a0_1) := (blk_cell BK249.out 1).trans rfl; have hcz15_2 : w14.cell? ⟨gb249, 2, none⟩ = some (.slice A0_2 l0_2.length c0_2) := (blk_cell BK249.out 2).trans rfl; have hcz15_3 : w14.cell? ⟨gb249, 3, none⟩ = some (.string a0_3) := (blk_cell BK249.out 3).trans rfl; have hcz15_4 : w14.cell? ⟨gb249, 4, none⟩ = some (.int .i64 a0_4) := (blk_cell BK249.out 4).trans rfl; have hcz15_5 : w14.cell? ⟨gb249, 5, none⟩ = some (.string a0_5) := (blk_cell BK249.out 5).trans rfl; have hcz15_6 : w14.cell? ⟨gb249, 6, none⟩ = some (.int .i64 a0_6) := (blk_cell BK249.out 6).trans rfl; have hcz15_7 : w14.cell? ⟨gb249, 7, none⟩ = some (.slice A0_7 l0_7.length c0_7) := (blk_cell BK249.out 7).trans rfl; have hfz15_0 := blk_frozen BK249.out 0; have hfz15_1 := blk_frozen BK249.out 1; have hfz15_2 := blk_frozen BK249.out 2; have hfz15_3 := blk_frozen BK249.out 3; have hfz15_4 := blk_frozen BK249.out 4; have hfz15_5 := blk_frozen BK249.out 5; have hfz15_6 := blk_frozen BK249.out 6; have hfz15_7 := blk_frozen BK249.out 7; have hcz16_0 : w14.cell? ⟨gb250, 0, none⟩ = some (.string a1_0) := (blk_cell BK250.out 0).trans rfl; have hcz16_1 : w14.cell? ⟨gb250, 1, none⟩ = some (.int .i64 a1_1) := (blk_cell BK250.out 1).trans rfl; have hcz16_2 : w14.cell? ⟨gb250, 2, none⟩ = some (.slice A1_2 l1_2.length c1_2) := (blk_cell BK250.out 2).trans rfl; have hcz16_3 : w14.cell? ⟨gb250, 3, none⟩ = some (.string a1_3) := (blk_cell BK250.out 3).trans rfl; have hcz16_4 : w14.cell? ⟨gb250, 4, none⟩ = some (.int .i64 a1_4) := (blk_cell BK250.out 4).trans rfl; have hcz16_5 : w14.cell? ⟨gb250, 5, none⟩ = some (.string a1_5) := (blk_cell BK250.out 5).trans rfl; have hcz16_6 : w14.cell? ⟨gb250, 6, none⟩ = some (.int .i64 a1_6) := (blk_cell BK250.out 6).trans rfl; have hcz16_7 : w14.cell? ⟨gb250, 7, none⟩ = some (.slice A1_7 l1_7.length c1_7) := (blk_cell BK250.out 7).trans rfl; have hfz16_0 := blk_frozen BK250.out 0; have hfz16_1 := blk_frozen BK250.out 1; have hfz16_2 := blk_frozen BK250.out 2; have hfz16_3 := blk_frozen BK250.out 3; have hfz16_4 := blk_frozen BK250.out 4; have hfz16_5 := blk_frozen BK250.out 5; have hfz16_6 := blk_frozen BK250.out 6; have hfz16_7 := blk_frozen BK250.out 7) | (go_at_call 50; (with_reducible refine (order_equal.calls k a0_0 a0_1 _ _ l0_2 a0_3 a0_4 a0_5 a0_6 _ _ l0_7 a1_0 a1_1 _ _ l1_2 a1_3 a1_4 a1_5 a1_6 _ _ l1_7 t253 _ ?side1 ?side2 ?side3 ?side4 ?side5 ?side6 ?side7 ?side8 A7.out).mono ?_); (case side1 => repeat (first | exact (Kd.C_below HR0_2.out HB.out) | (with_reducible refine Kd.C_alloc ?_ _) | (with_reducible refine Kd.C_drewN ?_ _) | (with_reducible refine Kd.C_drew ?_))); (case side2 => exact HC0_2.out); (case side3 => repeat (first | exact (Kd.C_below HR0_7.out HB.out) | (with_reducible refine Kd.C_alloc ?_ _) | (with_reducible refine Kd.C_drewN ?_ _) | (with_reducible refine Kd.C_drew ?_))); (case side4 => exact HC0_7.out); (case side5 => repeat (first | exact (Kd.C_below HR1_2.out HB.out) | (with_reducible refine Kd.C_alloc ?_ _) | (with_reducible refine Kd.C_drewN ?_ _) | (with_reducible refine Kd.C_drew ?_))); (case side6 => exact HC1_2.out); (case side7 => repeat (first | exact (Kd.C_below HR1_7.out HB.out) | (with_reducible refine Kd.C_alloc ?_ _) | (with_reducible refine Kd.C_drewN ?_ _) | (with_reducible refine Kd.C_drew ?_))); (case side8 => exact HC1_7.out); rintro e w17 ⟨rfl, hb⟩; have n0_ := Aside0.mk (blk_below (g := gb249) (o := .cells #[.string a0_0, .int .i64 a0_1, .slice A0_2 l0_2.length c0_2, .string a0_3, .int .i64 a0_4, .string a0_5, .int .i64 a0_6, .slice A0_7 l0_7.length c0_7] 36 (0, 0)) (by (with_reducible repeat (first | refine blk_drewN ?_ _ | refine blk_drew ?_ | refine blk_alloc ?_ _)); exact BK249.out) hb); have n1_ := Aside0.mk (blk_below (g := gb250) (o := .cells #[.string a1_0, .int .i64 a1_1, .slice A1_2 l1_2.length c1_2, .string a1_3, .int .i64 a1_4, .string a1_5, .int .i64 a1_6, .slice A1_7 l1_7.length c1_7] 36 (0, 0)) (by (with_reducible repeat (first | refine blk_drewN ?_ _ | refine blk_drew ?_ | refine blk_alloc ?_ _)); exact BK250.out) hb); have n2_ := Aside0.mk (below_step (by repeat (first | (with_reducible first | exact HB.out | apply below_alloc | apply pw_below_drewN | apply below_drew1 | refine below_set ?_ GE249.out | refine below_set ?_ GE250.out) | exact HB.out)) hb); clear BK249; clear BK250; clear HB; have BK249 := n0_; have BK250 := n1_; have HB := n2_; clear n0_ n1_ n2_; (try clear hb); (try clear hb2); (try clear hk); (try clear hi)))
     go_ret
     exact ⟨by first | rfl | (simp [errW_none, errW_some] <;> rfl) | (simp [*, errW_none, errW_some] <;> rfl), by repeat (first | (with_reducible first | exact HB.out | apply below_alloc | apply pw_below_drewN | apply below_drew1 | refine below_set ?_ GE249.out | refine below_set ?_ GE250.out) | exact HB.out)⟩
   · replace c6 := Bool.eq_false_iff.mpr c6
     subst c6
     have H1 : (some false) = some r := by rw [if_neg (show ¬ (false = true) by decide)] at H; exact H
     clear H
     have H := H1
     clear H1
     obtain rfl := Option.some.inj H
     go_enter Try.func30, Try.ntmps30
     go_wp2_with (first | ((with_reducible refine gate_dst (N := 2) rfl ?_); refine box_event ?hg (N := 2) ?hd (cs := #[.string a0_0, .int .i64 a0_1, .slice A0_2 l0_2.length c0_2, .string a0_3, .int .i64 a0_4, .string a0_5, .int .i64 a0_6, .slice A0_7 l0_7.length c0_7]) (t := 36) ?hr ?_; (case hd => rfl); (case hg => rfl); (case hr => first | (go_simp; done) | (go_simp; rfl)); intro gb249 hg w18 hbox hb; have n0_ := Aside0.mk (below_step (by repeat (first | (with_reducible first | exact HB.out | apply below_alloc | apply pw_below_drewN | apply below_drew1) | exact HB.out)) hb); have n1_ := Aside0.mk (hbox); have n2_ := Aside0.mk ((by rw [hg]; exact (below_size (by repeat (first | (with_reducible first | exact HB.out | apply below_alloc | apply pw_below_drewN | apply below_drew1) | exact HB.out))) : w.heap.size ≤ gb249)); have n3_ := Aside0.mk ((by rw [hg]; exact (below_size (by repeat (first | (with_reducible first | exact HB.out | apply below_alloc | apply pw_below_drewN | apply below_drew1) | exact HB.out))) : w.heap.size ≤ gb249)); clear HB; have HB := n0_; have BK249 := n1_; have GW249 := n2_; have GE249 := n3_; clear n0_ n1_ n2_ n3_; clear hb hbox hg) | ((with_reducible refine gate_dst (N := 3) rfl ?_); refine box_event ?hg (N := 3) ?hd (cs := #[.string a1_0, .int .i64 a1_1, .slice A1_2 l1_2.length c1_2, .string a1_3, .int .i64 a1_4, .string a1_5, .int .i64 a1_6, .slice A1_7 l1_7.length c1_7]) (t := 36) ?hr ?_; (case hd => rfl); (case hg => rfl); (case hr => first | (go_simp; done) | (go_simp; rfl)); intro gb250 hg w19 hbox hb; have n0_ := Aside0.mk (blk_below (g := gb249) (o := .cells #[.string a0_0, .int .i64 a0_1, .slice A0_2 l0_2.length c0_2, .string a0_3, .int .i64 a0_4, .string a0_5, .int .i64 a0_6, .slice A0_7 l0_7.length c0_7] 36 (0, 0)) (by (with_reducible repeat (first | refine blk_drewN ?_ _ | refine blk_drew ?_ | refine blk_alloc ?_ _)); exact BK249.out) hb); have n1_ := Aside0.mk (below_step (by repeat (first | (with_reducible first | exact HB.out | apply below_alloc | apply pw_below_drewN | apply below_drew1 | refine below_set ?_ GE249.out) | exact HB.out)) hb); have n2_ := Aside0.mk (hbox); have n3_ := Aside0.mk ((by rw [hg]; exact (below_size (by repeat (first | (with_reducible first | exact HB.out | apply below_alloc | apply pw_below_drewN | apply below_drew1 | refine below_set ?_ GE249.out) | exact HB.out))) : w.heap.size ≤ gb250)); have n4_ := Aside0.mk ((by rw [hg]; exact (below_size (by repeat (first | (with_reducible first | exact HB.out | apply below_alloc | apply pw_below_drewN | apply below_drew1 | refine below_set ?_ GE249.out) | exact HB.out))) : w.heap.size ≤ gb250)); have n5_ := Aside0.mk ((by rw [hg]; exact Nat.ne_of_lt (blk_lt (g := gb249) (o := .cells #[.string a0_0, .int .i64 a0_1, .slice A0_2 l0_2.length c0_2, .string a0_3, .int .i64 a0_4, .string a0_5, .int .i64 a0_6, .slice A0_7 l0_7.length c0_7] 36 (0, 0)) (by (with_reducible repeat (first | refine blk_drewN ?_ _ | refine blk_drew ?_ | refine blk_alloc ?_ _)); exact BK249.out)) : gb249 ≠ gb250)); have n6_ := Aside0.mk ((by rw [hg]; exact Nat.ne_of_gt (blk_lt (g := gb249) (o := .cells #[.string a0_0, .int .i64 a0_1, .slice A0_2 l0_2.length c0_2, .string a0_3, .int .i64 a0_4, .string a0_5, .int .i64 a0_6, .slice A0_7 l0_7.length c0_7] 36 (0, 0)) (by (with_reducible repeat (first | refine blk_drewN ?_ _ | refine blk_drew ?_ | refine blk_alloc ?_ _)); exact BK249.out)) : gb250 ≠ gb249)); clear BK249; clear HB; have BK249 := n0_; have HB := n1_; have BK250 := n2_; have GW250 := n3_; have GE250 := n4_; have NB249_250 := n5_; have NB250_249 := n6_; clear n0_ n1_ n2_ n3_ n4_ n5_ n6_; clear hb hbox hg; have hnb20 := NB249_250.out; have hnc20 := NB250_249.out; have hcz21_0 : w19.cell? ⟨gb249, 0, none⟩ = some (.string a0_0) := (blk_cell BK249.out 0).trans rfl; have hcz21_1 : w19.cell? ⟨gb249, 1, none⟩ = some (.int .i64 a0_1) := (blk_cell BK249.out 1).trans rfl; have hcz21_2 : w19.cell? ⟨gb249, 2, none⟩ = some (.slice A0_2 l0_2.length c0_2) := (blk_cell BK249.out 2).trans rfl; have hcz21_3 : w19.cell? ⟨gb249, 3, none⟩ = some (.string a0_3) := (blk_cell BK249.out 3).trans rfl; have hcz21_4 : w19.cell? ⟨gb249, 4, none⟩ = some (.int .i64 a0_4) := (blk_cell BK249.out 4).trans rfl; have hcz21_5 : w19.cell? ⟨gb249, 5, none⟩ = some (.string a0_5) := (blk_cell BK249.out 5).trans rfl; have hcz21_6 : w19.cell? ⟨gb249, 6, none⟩ = some (.int .i64 a0_6) := (blk_cell BK249.out 6).trans rfl; have hcz21_7 : w19.cell? ⟨gb249, 7, none⟩ = some (.slice A0_7 l0_7.length c0_7) := (blk_cell BK249.out 7).trans rfl; have hfz21_0 := blk_frozen BK249.out 0; have hfz21_1 := blk_frozen BK249.out 1; have hfz21_2 := blk_frozen BK249.out 2; have hfz21_3 := blk_frozen BK249.out 3; have hfz21_4 := blk_frozen BK249.out 4; have hfz21_5 := blk_frozen BK249.out 5; have hfz21_6 := blk_frozen BK249.out 6; have hfz21_7 := blk_frozen BK249.out 7) | ((with_reducible refine gate_callee (f := 45) rfl ?_); refine goesL_ (some 6) rfl rfl Try.func45 (by kernel_rfl) rfl #[.agg #[.string a0_0, .int .i64 a0_1, .slice A0_2 l0_2.length c0_2, .string a0_3, .int .i64 a0_4, .string a0_5, .int .i64 a0_6, .slice A0_7 l0_7.length c0_7]] rfl (by (try simp only [List.map_toArray, List.map_cons, List.map_nil]); first | done | rfl | (simp only [List.length_drop, List.length_take]; rfl)) ?_; (with_reducible refine (order_Right.calls k a0_0 a0_1 _ _ l0_2 a0_3 a0_4 a0_5 a0_6 _ _ l0_7 true _ ?side1 ?side2 ?side3 ?side4 A3.out).mono ?_); (case side1 => repeat (first | exact (Kd.C_below HR0_2.out HB.out) | (with_reducible refine Kd.C_alloc ?_ _) | (with_reducible refine Kd.C_drewN ?_ _) | (with_reducible refine Kd.C_drew ?_))); (case side2 => exact HC0_2.out); (case side3 => repeat (first | exact (Kd.C_below HR0_7.out HB.out) | (with_reducible refine Kd.C_alloc ?_ _) | (with_reducible refine Kd.C_drewN ?_ _) | (with_reducible refine Kd.C_drew ?_))); (case side4 => exact HC0_7.out); rintro e w22 ⟨rfl, hb⟩; refine ⟨_, rfl, ?_⟩; have n0_ := Aside0.mk (blk_below (g := gb249) (o := .cells #[.string a0_0, .int .i64 a0_1, .slice A0_2 l0_2.length c0_2, .string a0_3, .int .i64 a0_4, .string a0_5, .int .i64 a0_6, .slice A0_7 l0_7.length c0_7] 36 (0, 0)) (by (with_reducible repeat (first | refine blk_drewN ?_ _ | refine blk_drew ?_ | refine blk_alloc ?_ _)); exact BK249.out) hb); have n1_ := Aside0.mk (blk_below (g := gb250) (o := .cells #[.string a1_0, .int .i64 a1_1, .slice A1_2 l1_2.length c1_2, .string a1_3, .int .i64 a1_4, .string a1_5, .int .i64 a1_6, .slice A1_7 l1_7.length c1_7] 36 (0, 0)) (by (with_reducible repeat (first | refine blk_drewN ?_ _ | refine blk_drew ?_ | refine blk_alloc ?_ _)); exact BK250.out) hb); have n2_ := Aside0.mk (below_step (by repeat (first | (with_reducible first | exact HB.out | apply below_alloc | apply pw_below_drewN | apply below_drew1 | refine below_set ?_ GE249.out | refine below_set ?_ GE250.out) | exact HB.out)) hb); clear BK249; clear BK250; clear HB; have BK249 := n0_; have BK250 := n1_; have HB := n2_; clear n0_ n1_ n2_; (try clear hb); (try clear hb2); (try clear hk); (try clear hi); have hcz23_0 : w22.cell? ⟨gb250, 0, none⟩ = some (.string a1_0) := (blk_cell BK250.out 0).trans rfl; have hcz23_1 : w22.cell? ⟨gb250, 1, none⟩ = some (.int .i64 a1_1) := (blk_cell BK250.out 1).trans rfl; have hcz23_2 : w22.cell? ⟨gb250, 2, none⟩ = some (.slice A1_2 l1_2.length c1_2) := (blk_cell BK250.out 2).trans rfl; have hcz23_3 : w22.cell? ⟨gb250, 3, none⟩ = some (.string a1_3) := (blk_cell BK250.out 3).trans rfl; have hcz23_4 : w22.cell? ⟨gb250, 4, none⟩ = some (.int .i64 a1_4) := (blk_cell BK250.out 4).trans rfl; have hcz23_5 : w22.cell? ⟨gb250, 5, none⟩ = some (.string a1_5) := (blk_cell BK250.out 5).trans rfl; have hcz23_6 : w22.cell? ⟨gb250, 6, none⟩ = some (.int .i64 a1_6) := (blk_cell BK250.out 6).trans rfl; have hcz23_7 : w22.cell? ⟨gb250, 7, none⟩ = some (.slice A1_7 l1_7.length c1_7) := (blk_cell BK250.out 7).trans rfl; have hfz23_0 := blk_frozen BK250.out 0; have hfz23_1 := blk_frozen BK250.out 1; have hfz23_2 := blk_frozen BK250.out 2; have hfz23_3 := blk_frozen BK250.out 3; have hfz23_4 := blk_frozen BK250.out 4; have hfz23_5 := blk_frozen BK250.out 5; have hfz23_6 := blk_frozen BK250.out 6; have hfz23_7 := blk_frozen BK250.out 7) | (go_at_call 45; (with_reducible refine (order_Right.calls k a1_0 a1_1 _ _ l1_2 a1_3 a1_4 a1_5 a1_6 _ _ l1_7 false _ ?side1 ?side2 ?side3 ?side4 A5.out).mono ?_); (case side1 => repeat (first | exact (Kd.C_below HR1_2.out HB.out) | (with_reducible refine Kd.C_alloc ?_ _) | (with_reducible refine Kd.C_drewN ?_ _) | (with_reducible refine Kd.C_drew ?_))); (case side2 => exact HC1_2.out); (case side3 => repeat (first | exact (Kd.C_below HR1_7.out HB.out) | (with_reducible refine Kd.C_alloc ?_ _) | (with_reducible refine Kd.C_drewN ?_ _) | (with_reducible refine Kd.C_drew ?_))); (case side4 => exact HC1_7.out); rintro e w24 ⟨rfl, hb⟩; have n0_ := Aside0.mk (blk_below (g := gb249) (o := .cells #[.string a0_0, .int .i64 a0_1, .slice A0_2 l0_2.length c0_2, .string a0_3, .int .i64 a0_4, .string a0_5, .int .i64 a0_6, .slice A0_7 l0_7.length c0_7] 36 (0, 0)) (by (with_reducible repeat (first | refine blk_drewN ?_ _ | refine blk_drew ?_ | refine blk_alloc ?_ _)); exact BK249.out) hb); have n1_ := Aside0.mk (blk_below (g := gb250) (o := .cells #[.string a1_0, .int .i64 a1_1, .slice A1_2 l1_2.length c1_2, .string a1_3, .int .i64 a1_4, .string a1_5, .int .i64 a1_6, .slice A1_7 l1_7.length c1_7] 36 (0, 0)) (by (with_reducible repeat (first | refine blk_drewN ?_ _ | refine blk_drew ?_ | refine blk_alloc ?_ _)); exact BK250.out) hb); have n2_ := Aside0.mk (below_step (by repeat (first | (with_reducible first | exact HB.out | apply below_alloc | apply pw_below_drewN | apply below_drew1 | refine below_set ?_ GE249.out | refine below_set ?_ GE250.out) | exact HB.out)) hb); clear BK249; clear BK250; clear HB; have BK249 := n0_; have BK250 := n1_; have HB := n2_; clear n0_ n1_ n2_; (try clear hb); (try clear hb2); (try clear hk); (try clear hi)))
     go_ret
     exact ⟨by first | rfl | (simp [errW_none, errW_some] <;> rfl) | (simp [*, errW_none, errW_some] <;> rfl), by repeat (first | (with_reducible first | exact HB.out | apply below_alloc | apply pw_below_drewN | apply below_drew1 | refine below_set ?_ GE249.out | refine below_set ?_ GE250.out) | exact HB.out)⟩
 · replace c4 := Bool.eq_false_iff.mpr c4
   subst c4
   have H1 : (some false) = some r := by rw [if_neg (show ¬ (false = true) by decide)] at H; exact H
   clear H
   have H := H1
   clear H1
   obtain rfl := Option.some.inj H
   go_enter Try.func30, Try.ntmps30
   go_wp2_with (first | ((with_reducible refine gate_dst (N := 2) rfl ?_); refine box_event ?hg (N := 2) ?hd (cs := #[.string a0_0, .int .i64 a0_1, .slice A0_2 l0_2.length c0_2, .string a0_3, .int .i64 a0_4, .string a0_5, .int .i64 a0_6, .slice A0_7 l0_7.length c0_7]) (t := 36) ?hr ?_; (case hd => rfl); (case hg => rfl); (case hr => first | (go_simp; done) | (go_simp; rfl)); intro gb249 hg w25 hbox hb; have n0_ := Aside0.mk (below_step (by repeat (first | (with_reducible first | exact HB.out | apply below_alloc | apply pw_below_drewN | apply below_drew1) | exact HB.out)) hb); have n1_ := Aside0.mk (hbox); have n2_ := Aside0.mk ((by rw [hg]; exact (below_size (by repeat (first | (with_reducible first | exact HB.out | apply below_alloc | apply pw_below_drewN | apply below_drew1) | exact HB.out))) : w.heap.size ≤ gb249)); have n3_ := Aside0.mk ((by rw [hg]; exact (below_size (by repeat (first | (with_reducible first | exact HB.out | apply below_alloc | apply pw_below_drewN | apply below_drew1) | exact HB.out))) : w.heap.size ≤ gb249)); clear HB; have HB := n0_; have BK249 := n1_; have GW249 := n2_; have GE249 := n3_; clear n0_ n1_ n2_ n3_; clear hb hbox hg) | ((with_reducible refine gate_dst (N := 3) rfl ?_); refine box_event ?hg (N := 3) ?hd (cs := #[.string a1_0, .int .i64 a1_1, .slice A1_2 l1_2.length c1_2, .string a1_3, .int .i64 a1_4, .string a1_5, .int .i64 a1_6, .slice A1_7 l1_7.length c1_7]) (t := 36) ?hr ?_; (case hd => rfl); (case hg => rfl); (case hr => first | (go_simp; done) | (go_simp; rfl)); intro gb250 hg w26 hbox hb; have n0_ := Aside0.mk (blk_below (g := gb249) (o := .cells #[.string a0_0, .int .i64 a0_1, .slice A0_2 l0_2.length c0_2, .string a0_3, .int .i64 a0_4, .string a0_5, .int .i64 a0_6, .slice A0_7 l0_7.length c0_7] 36 (0, 0)) (by (with_reducible repeat (first | refine blk_drewN ?_ _ | refine blk_drew ?_ | refine blk_alloc ?_ _)); exact BK249.out) hb); have n1_ := Aside0.mk (below_step (by repeat (first | (with_reducible first | exact HB.out | apply below_alloc | apply pw_below_drewN | apply below_drew1 | refine below_set ?_ GE249.out) | exact HB.out)) hb); have n2_ := Aside0.mk (hbox); have n3_ := Aside0.mk ((by rw [hg]; exact (below_size (by repeat (first | (with_reducible first | exact HB.out | apply below_alloc | apply pw_below_drewN | apply below_drew1 | refine below_set ?_ GE249.out) | exact HB.out))) : w.heap.size ≤ gb250)); have n4_ := Aside0.mk ((by rw [hg]; exact (below_size (by repeat (first | (with_reducible first | exact HB.out | apply below_alloc | apply pw_below_drewN | apply below_drew1 | refine below_set ?_ GE249.out) | exact HB.out))) : w.heap.size ≤ gb250)); have n5_ := Aside0.mk ((by rw [hg]; exact Nat.ne_of_lt (blk_lt (g := gb249) (o := .cells #[.string a0_0, .int .i64 a0_1, .slice A0_2 l0_2.length c0_2, .string a0_3, .int .i64 a0_4, .string a0_5, .int .i64 a0_6, .slice A0_7 l0_7.length c0_7] 36 (0, 0)) (by (with_reducible repeat (first | refine blk_drewN ?_ _ | refine blk_drew ?_ | refine blk_alloc ?_ _)); exact BK249.out)) : gb249 ≠ gb250)); have n6_ := Aside0.mk ((by rw [hg]; exact Nat.ne_of_gt (blk_lt (g := gb249) (o := .cells #[.string a0_0, .int .i64 a0_1, .slice A0_2 l0_2.length c0_2, .string a0_3, .int .i64 a0_4, .string a0_5, .int .i64 a0_6, .slice A0_7 l0_7.length c0_7] 36 (0, 0)) (by (with_reducible repeat (first | refine blk_drewN ?_ _ | refine blk_drew ?_ | refine blk_alloc ?_ _)); exact BK249.out)) : gb250 ≠ gb249)); clear BK249; clear HB; have BK249 := n0_; have HB := n1_; have BK250 := n2_; have GW250 := n3_; have GE250 := n4_; have NB249_250 := n5_; have NB250_249 := n6_; clear n0_ n1_ n2_ n3_ n4_ n5_ n6_; clear hb hbox hg; have hnb27 := NB249_250.out; have hnc27 := NB250_249.out; have hcz28_0 : w26.cell? ⟨gb249, 0, none⟩ = some (.string a0_0) := (blk_cell BK249.out 0).trans rfl; have hcz28_1 : w26.cell? ⟨gb249, 1, none⟩ = some (.int .i64 a0_1) := (blk_cell BK249.out 1).trans rfl; have hcz28_2 : w26.cell? ⟨gb249, 2, none⟩ = some (.slice A0_2 l0_2.length c0_2) := (blk_cell BK249.out 2).trans rfl; have hcz28_3 : w26.cell? ⟨gb249, 3, none⟩ = some (.string a0_3) := (blk_cell BK249.out 3).trans rfl; have hcz28_4 : w26.cell? ⟨gb249, 4, none⟩ = some (.int .i64 a0_4) := (blk_cell BK249.out 4).trans rfl; have hcz28_5 : w26.cell? ⟨gb249, 5, none⟩ = some (.string a0_5) := (blk_cell BK249.out 5).trans rfl; have hcz28_6 : w26.cell? ⟨gb249, 6, none⟩ = some (.int .i64 a0_6) := (blk_cell BK249.out 6).trans rfl; have hcz28_7 : w26.cell? ⟨gb249, 7, none⟩ = some (.slice A0_7 l0_7.length c0_7) := (blk_cell BK249.out 7).trans rfl; have hfz28_0 := blk_frozen BK249.out 0; have hfz28_1 := blk_frozen BK249.out 1; have hfz28_2 := blk_frozen BK249.out 2; have hfz28_3 := blk_frozen BK249.out 3; have hfz28_4 := blk_frozen BK249.out 4; have hfz28_5 := blk_frozen BK249.out 5; have hfz28_6 := blk_frozen BK249.out 6; have hfz28_7 := blk_frozen BK249.out 7) | ((with_reducible refine gate_callee (f := 45) rfl ?_); refine goesL_ (some 6) rfl rfl Try.func45 (by kernel_rfl) rfl #[.agg #[.string a0_0, .int .i64 a0_1, .slice A0_2 l0_2.length c0_2, .string a0_3, .int .i64 a0_4, .string a0_5, .int .i64 a0_6, .slice A0_7 l0_7.length c0_7]] rfl (by (try simp only [List.map_toArray, List.map_cons, List.map_nil]); first | done | rfl | (simp only [List.length_drop, List.length_take]; rfl)) ?_; (with_reducible refine (order_Right.calls k a0_0 a0_1 _ _ l0_2 a0_3 a0_4 a0_5 a0_6 _ _ l0_7 false _ ?side1 ?side2 ?side3 ?side4 A3.out).mono ?_); (case side1 => repeat (first | exact (Kd.C_below HR0_2.out HB.out) | (with_reducible refine Kd.C_alloc ?_ _) | (with_reducible refine Kd.C_drewN ?_ _) | (with_reducible refine Kd.C_drew ?_))); (case side2 => exact HC0_2.out); (case side3 => repeat (first | exact (Kd.C_below HR0_7.out HB.out) | (with_reducible refine Kd.C_alloc ?_ _) | (with_reducible refine Kd.C_drewN ?_ _) | (with_reducible refine Kd.C_drew ?_))); (case side4 => exact HC0_7.out); rintro e w29 ⟨rfl, hb⟩; refine ⟨_, rfl, ?_⟩; have n0_ := Aside0.mk (blk_below (g := gb249) (o := .cells #[.string a0_0, .int .i64 a0_1, .slice A0_2 l0_2.length c0_2, .string a0_3, .int .i64 a0_4, .string a0_5, .int .i64 a0_6, .slice A0_7 l0_7.length c0_7] 36 (0, 0)) (by (with_reducible repeat (first | refine blk_drewN ?_ _ | refine blk_drew ?_ | refine blk_alloc ?_ _)); exact BK249.out) hb); have n1_ := Aside0.mk (blk_below (g := gb250) (o := .cells #[.string a1_0, .int .i64 a1_1, .slice A1_2 l1_2.length c1_2, .string a1_3, .int .i64 a1_4, .string a1_5, .int .i64 a1_6, .slice A1_7 l1_7.length c1_7] 36 (0, 0)) (by (with_reducible repeat (first | refine blk_drewN ?_ _ | refine blk_drew ?_ | refine blk_alloc ?_ _)); exact BK250.out) hb); have n2_ := Aside0.mk (below_step (by repeat (first | (with_reducible first | exact HB.out | apply below_alloc | apply pw_below_drewN | apply below_drew1 | refine below_set ?_ GE249.out | refine below_set ?_ GE250.out) | exact HB.out)) hb); clear BK249; clear BK250; clear HB; have BK249 := n0_; have BK250 := n1_; have HB := n2_; clear n0_ n1_ n2_; (try clear hb); (try clear hb2); (try clear hk); (try clear hi)))
   go_ret
   exact ⟨by first | rfl | (simp [errW_none, errW_some] <;> rfl) | (simp [*, errW_none, errW_some] <;> rfl), by repeat (first | (with_reducible first | exact HB.out | apply below_alloc | apply pw_below_drewN | apply below_drew1 | refine below_set ?_ GE249.out | refine below_set ?_ GE250.out) | exact HB.out)⟩
end Go.Proofs.Ytenbkljgmgdegaa.PO
