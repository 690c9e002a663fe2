-- Printed by a program of this work round the kit's print; Lean checks it.
import Derived.Test.YtnnlpelogabokaaPVx0
import Derived.Test.YtnnlpelogabokaaPVx3
import Derived.Test.YtnnlpelogabokaaPVx4
import Derived.Test.YtnnlpelogabokaaPVx7
import Derived.Test.YtnnlpelogabokaaPVx11
namespace Go.Proofs.Ytnnlpelogabokaa.PV
open Go.RowKit Go.Proofs.YtnnlpelogabokaaW.PrintWords Go.Proofs.YtnnlpelogabokaaW.PrintLast Go.Proofs.YtnnlpelogabokaaW.PrintMore
attribute [local go_sem] max2_int min2_int max_two min_two max_three min_three max_four min_four   -- for this text's walks alone
set_option linter.unusedVariables false
set_option linter.unusedSimpArgs false

/-! ### pannierref07_Join: function 26 -/
mutual
def pannierref07_Join.j0 : Nat → List (S35) → List (S35) → Bool → Option ((List (S35)) × Int)
  | 0, _, _, _ => none
  | k + 1, x0, x1, x19 => if x19 = true then (some (([] : List (S35)), 2)) else (pannierref07_Join.l0 k x0 x1 x0 0)
def pannierref07_Join.l0 : Nat → List (S35) → List (S35) → List (S35) → Int → Option ((List (S35)) × Int)
  | 0, _, _, _, _ => none
  | k + 1, x0, x1, x8, x9 => if x9 < (x1.length : Int) then (if 0 ≤ x9 then ((pannierref07_At.f k x0 ((rd_T35 x1 x9).f0)).bind fun t210 => ((pannierref07_put.f k x8 ((rd_T35 x1 x9).f0) (mx ((rd_T35 x1 x9).f1) t210)).bind fun t211 => (pannierref07_Join.l0 k x0 x1 t211 (wrap64 (x9 + 1))))) else (none)) else (if (x8.length : Int) > 64 then (some (([] : List (S35)), 70)) else (some (x8, 0)))
end
def pannierref07_Join.f (k : Nat) (l0 : List (S35)) (l1 : List (S35)) : Option ((List (S35)) × Int) := (pannierref07_Right.f k l0).bind fun t205 => ((pannierref07_Right.f k l1).bind fun t206 => (if t205 = true then (pannierref07_Join.j0 k l0 l1 (!t206)) else (pannierref07_Join.j0 k l0 l1 true)))
theorem pannierref07_Join.mono_l : ∀ k, (∀ y0 y1 y2, LeO (pannierref07_Join.j0 k y0 y1 y2) (pannierref07_Join.j0 (k + 1) y0 y1 y2)) ∧ (∀ y0 y1 y2 y3, LeO (pannierref07_Join.l0 k y0 y1 y2 y3) (pannierref07_Join.l0 (k + 1) y0 y1 y2 y3))
  | 0 => ⟨fun _ _ _ r h => by simp [pannierref07_Join.j0] at h, fun _ _ _ _ r h => by simp [pannierref07_Join.l0] at h⟩
  | k + 1 => by
    obtain ⟨ih0, ih1⟩ := pannierref07_Join.mono_l k
    refine ⟨?_, ?_⟩
    · intro y0 y1 y2
      unfold pannierref07_Join.j0
      repeat' first
      | (with_reducible exact ih0 _ _ _)
      | (with_reducible exact ih1 _ _ _ _)
      | (with_reducible exact pannierref07_At.mono _ _ _)
      | (with_reducible exact pannierref07_Right.mono _ _)
      | (with_reducible exact pannierref07_put.mono _ _ _ _)
      | (with_reducible exact LeO.refl _)
      | (with_reducible exact LeO.none _)
      | (with_reducible refine LeO.ite ?_ ?_)
      | (with_reducible refine LeO.bind ?_ (fun _ => ?_))
      | exact ih0 _ _ _
      | exact ih1 _ _ _ _
      | exact pannierref07_At.mono _ _ _
      | exact pannierref07_Right.mono _ _
      | exact pannierref07_put.mono _ _ _ _
      | exact LeO.none _
      | refine LeO.ite ?_ ?_
      | refine LeO.bind ?_ (fun _ => ?_)
    · intro y0 y1 y2 y3
      unfold pannierref07_Join.l0
      repeat' first
      | (with_reducible exact ih0 _ _ _)
      | (with_reducible exact ih1 _ _ _ _)
      | (with_reducible exact pannierref07_At.mono _ _ _)
      | (with_reducible exact pannierref07_Right.mono _ _)
      | (with_reducible exact pannierref07_put.mono _ _ _ _)
      | (with_reducible exact LeO.refl _)
      | (with_reducible exact LeO.none _)
      | (with_reducible refine LeO.ite ?_ ?_)
      | (with_reducible refine LeO.bind ?_ (fun _ => ?_))
      | exact ih0 _ _ _
      | exact ih1 _ _ _ _
      | exact pannierref07_At.mono _ _ _
      | exact pannierref07_Right.mono _ _
      | exact pannierref07_put.mono _ _ _ _
      | exact LeO.none _
      | refine LeO.ite ?_ ?_
      | refine LeO.bind ?_ (fun _ => ?_)
theorem pannierref07_Join.mono : ∀ a0 a1 k, LeO (pannierref07_Join.f k a0 a1) (pannierref07_Join.f (k + 1) a0 a1) := by
  intro a0 a1 k
  obtain ⟨ih0, ih1⟩ := pannierref07_Join.mono_l k
  unfold pannierref07_Join.f
  repeat' first
      | (with_reducible exact ih0 _ _ _)
      | (with_reducible exact ih1 _ _ _ _)
      | (with_reducible exact pannierref07_At.mono _ _ _)
      | (with_reducible exact pannierref07_Right.mono _ _)
      | (with_reducible exact pannierref07_put.mono _ _ _ _)
      | (with_reducible exact LeO.refl _)
      | (with_reducible exact LeO.none _)
      | (with_reducible refine LeO.ite ?_ ?_)
      | (with_reducible refine LeO.bind ?_ (fun _ => ?_))
      | exact ih0 _ _ _
      | exact ih1 _ _ _ _
      | exact pannierref07_At.mono _ _ _
      | exact pannierref07_Right.mono _ _
      | exact pannierref07_put.mono _ _ _ _
      | exact LeO.none _
      | refine LeO.ite ?_ ?_
      | refine LeO.bind ?_ (fun _ => ?_)
def pannierref07_Join.T9 : Bool × List (List Nat × List Nat) := (true, [([], []), ([], []), ([], []), ([1, 2], [1, 2]), ([3], [3]), ([4], [4]), ([], []), ([], []), ([6, 7], [6, 7]), ([8], [8]), ([9], [9]), ([], []), ([], []), ([], []), ([12, 13], [12, 13]), ([14], [14]), ([15], [15]), ([11, 16], [11, 16]), ([10, 17], [10, 17]), ([0, 5, 18, 17], [0, 5, 18]), ([19, 19, 0, 1, 2, 3, 4, 5, 6, 7, 8, 9, 10, 11, 12, 13, 14, 15, 16, 17, 18, 19], [0, 19])])
def pannierref07_Join.B9 : List Nat := [0, 0, 0, 6, 14, 30, 0, 0, 192, 448, 960, 0, 0, 0, 12288, 28672, 61440, 129024, 262080, 524287, 1048575]
theorem pannierref07_Join.tab9 : rtab .any (opsOf Try.f26 9) = pannierref07_Join.T9 := by kernel_rfl
theorem pannierref07_Join.bits9 : waitsOk pannierref07_Join.T9.2 pannierref07_Join.B9 = true := by kernel_rfl
set_option maxHeartbeats 8000000 in
set_option maxRecDepth 100000 in
theorem pannierref07_Join.calls (k : Nat) (P0_ : Nat → Prop) (A0 : Option Addr) (c0 : Nat) (l0 : List (S35)) (A1 : Option Addr) (c1 : Nat) (l1 : List (S35)) (r1 : List (S35)) (r2 : Int) (w : World) (hs0 : Kd.V k35 35 w w.heap.size (fun k_ => P0_ k_) (.slice A0 l0.length c0) l0) (hr1 : Kd.C k35 w A1 l1.length l1) (hc1 : l1.length ≤ c1) (h : pannierref07_Join.f k l0 l1 = some (r1, r2)) :
    Calls Try.prog 26 #[.slice A0 l0.length c0, .slice A1 l1.length c1] w fun e w' => ∃ v0_ : Value, e = .returned (.tuple #[v0_, .int .i64 r2]) ∧ Kd.V k35 35 w' w.heap.size (fun k_ => (P0_ k_ ∨ w.heap.size ≤ k_)) v0_ r1 ∧ Below w.heap.size w w' := by
  have HO0 := Aside0.mk (show Kd.V k35 35 w w.heap.size (fun k_ => (P0_ k_ ∨ w.heap.size ≤ k_)) (.slice A0 l0.length c0) l0 from Kd.V_mono hs0 (fun k_ hk => .inl hk))
  have HR1 := Aside0.mk hr1
  have HC1 := Aside0.mk hc1
  clear hr1 hc1
  have HB := Aside0.mk (Below.refl w.heap.size w)
  have H : ((pannierref07_Right.f k l0).bind fun t205 => ((pannierref07_Right.f k l1).bind fun t206 => (if t205 = true then (pannierref07_Join.j0 k l0 l1 (!t206)) else (pannierref07_Join.j0 k l0 l1 true)))) = some (r1, r2) := h
  clear h
  replace H := Option.bind_eq_some_iff.mp H
  obtain ⟨t205, A30, H⟩ := H
  replace H : ((pannierref07_Right.f k l1).bind fun t206 => (if t205 = true then (pannierref07_Join.j0 k l0 l1 (!t206)) else (pannierref07_Join.j0 k l0 l1 true))) = some (r1, r2) := H
  have A3 := Aside0.mk A30
  clear A30
  replace H := Option.bind_eq_some_iff.mp H
  obtain ⟨t206, A40, H⟩ := H
  replace H : (if t205 = true then (pannierref07_Join.j0 k l0 l1 (!t206)) else (pannierref07_Join.j0 k l0 l1 true)) = some (r1, r2) := H
  have A4 := Aside0.mk A40
  clear A40
  have HC5 := Aside0.mk H
  clear H
  go_enter Try.func26, Try.ntmps26
  go_upto_region 3 with (first | ((with_reducible refine gate_callee (f := 20) rfl ?_); refine goesL_ (some 11) rfl rfl Try.func20 (by kernel_rfl) rfl #[.slice A0 l0.length c0] rfl (by (try simp only [List.map_toArray, List.map_cons, List.map_nil]); first | done | rfl | (simp only [List.length_drop, List.length_take]; rfl)) ?_; (with_reducible refine (pannierref07_Right.calls k _ _ l0 t205 _ ?side1 ?side2 A3.out).mono ?_); (case side1 => repeat (first | exact (Kd.V_reads' HO0.out).2.2 | (with_reducible refine Kd.C_alloc ?_ _) | (with_reducible refine Kd.C_drewN ?_ _) | (with_reducible refine Kd.C_drew ?_))); (case side2 => exact (Kd.V_reads' HO0.out).2.1); rintro e w6 ⟨rfl, hb⟩; refine ⟨_, rfl, ?_⟩; have n0_ := Aside0.mk (Kd.V_below (by (with_reducible repeat (first | apply Kd.V_alloc | apply Kd.V_drewN | apply Kd.V_drew)); exact HO0.out) hb); have n1_ := Aside0.mk (below_step (by repeat (first | (with_reducible first | exact HB.out | apply below_alloc | apply pw_below_drewN | apply below_drew1) | exact HB.out)) hb); clear HO0; clear HB; have HO0 := n0_; have HB := n1_; clear n0_ n1_; (try clear hb); (try clear hb2); (try clear hk); (try clear hi)) | ((with_reducible refine gate_callee (f := 20) rfl ?_); refine goesL_ (some 13) rfl rfl Try.func20 (by kernel_rfl) rfl #[.slice A1 l1.length c1] rfl (by (try simp only [List.map_toArray, List.map_cons, List.map_nil]); first | done | rfl | (simp only [List.length_drop, List.length_take]; rfl)) ?_; (with_reducible refine (pannierref07_Right.calls k _ _ l1 t206 _ ?side1 ?side2 A4.out).mono ?_); (case side1 => repeat (first | exact (Kd.C_below HR1.out HB.out) | (with_reducible refine Kd.C_alloc ?_ _) | (with_reducible refine Kd.C_drewN ?_ _) | (with_reducible refine Kd.C_drew ?_))); (case side2 => exact HC1.out); rintro e w7 ⟨rfl, hb⟩; refine ⟨_, rfl, ?_⟩; have n0_ := Aside0.mk (Kd.V_below (by (with_reducible repeat (first | apply Kd.V_alloc | apply Kd.V_drewN | apply Kd.V_drew)); exact HO0.out) hb); have n1_ := Aside0.mk (below_step (by repeat (first | (with_reducible first | exact HB.out | apply below_alloc | apply pw_below_drewN | apply below_drew1) | exact HB.out)) hb); clear HO0; clear HB; have HO0 := n0_; have HB := n1_; clear n0_ n1_; (try clear hb); (try clear hb2); (try clear hk); (try clear hi)))
  (try simp only [Act.put, List.setIfInBounds_toArray, List.set_cons_zero, List.set_cons_succ])
  go_cut [19] (fun v19 wc => ∃ (kq : Nat) (x19_4 : Bool), v19 = .bool x19_4 ∧ Aside0 (pannierref07_Join.j0 kq l0 l1 x19_4 = some (r1, r2)) ∧ Aside0 (kq ≤ k) ∧ Aside0 (Kd.V k35 35 wc w.heap.size (fun k_ => (P0_ k_ ∨ w.heap.size ≤ k_)) (.slice A0 l0.length c0) l0) ∧ Aside0 (Below w.heap.size w wc))
  case first =>
    have H := HC5.out
    clear HC5
    by_cases c8 : t205 = true
    · subst c8
      have H1 : (pannierref07_Join.j0 k l0 l1 (!t206)) = some (r1, r2) := by rw [if_pos rfl] at H; exact H
      clear H
      have H := H1
      clear H1
      have H' := Aside0.mk H
      clear H
      go_wp2
      go_meet
      case rel => exact ⟨_, (!t206), (by first | rfl | (simp; done) | (simp [*]; done)), H', ⟨by first | omega | exact Nat.le_refl _⟩, ⟨by (with_reducible repeat (first | apply Kd.V_alloc | apply Kd.V_drewN | apply Kd.V_drew)); exact HO0.out⟩, ⟨by repeat (first | (with_reducible first | exact HB.out | apply below_alloc | apply pw_below_drewN | apply below_drew1) | exact HB.out)⟩⟩
    · replace c8 := Bool.eq_false_iff.mpr c8
      subst c8
      have H1 : (pannierref07_Join.j0 k l0 l1 true) = some (r1, r2) := by rw [if_neg (show ¬ (false = true) by decide)] at H; exact H
      clear H
      have H := H1
      clear H1
      have H' := Aside0.mk H
      clear H
      go_wp2
      go_meet
      case rel => exact ⟨_, (true), (by first | rfl | (simp; done) | (simp [*]; done)), H', ⟨by first | omega | exact Nat.le_refl _⟩, ⟨by (with_reducible repeat (first | apply Kd.V_alloc | apply Kd.V_drewN | apply Kd.V_drew)); exact HO0.out⟩, ⟨by repeat (first | (with_reducible first | exact HB.out | apply below_alloc | apply pw_below_drewN | apply below_drew1) | exact HB.out)⟩⟩
  case rest =>
    clear HC5
    try clear c1
    try clear c2
    try clear p2
    try clear c8
    obtain ⟨kq, x19_4, rfl, HA, HJ4, HO_0, HB⟩ := hcut
    cases kq with
    | zero => exact absurd HA.out (by simp [pannierref07_Join.j0])
    | succ kj4 =>
      have H := HA.out
      clear HA
      simp only [pannierref07_Join.j0] at H
      by_cases c9 : x19_4 = true
      · subst c9
        have H1 : (some (([] : List (S35)), 2)) = some (r1, r2) := by rw [if_pos rfl] at H; exact H
        clear H
        have H := H1
        clear H1
        simp only [Option.some.injEq, Prod.mk.injEq] at H
        obtain ⟨rfl, rfl⟩ := H
        go_wp2
        go_ret2
        exact ⟨_, by first | rfl | (simp [errW_none, errW_some] <;> rfl) | (simp [*, errW_none, errW_some] <;> rfl), Kd.V_nil _ _ _ _ _, by repeat (first | (with_reducible first | exact HB.out | apply below_alloc | apply pw_below_drewN | apply below_drew1) | exact HB.out)⟩
      · replace c9 := Bool.eq_false_iff.mpr c9
        subst c9
        have H1 : (pannierref07_Join.l0 kj4 l0 l1 l0 0) = some (r1, r2) := by rw [if_neg (show ¬ (false = true) by decide)] at H; exact H
        clear H
        have H := H1
        clear H1
        have H' := Aside0.mk H
        clear H
        go_wp2
        go_loopg [8, 9] kj4 (fun kq v8 v9 w' => ∃ (x8_2 : List (S35)) (x9_2 : Int), v9 = .int .i64 x9_2 ∧ Aside0 (pannierref07_Join.l0 kq l0 l1 x8_2 x9_2 = some (r1, r2)) ∧ Aside0 (kq ≤ kj4) ∧ Aside0 (Kd.V k35 35 w' w.heap.size (fun k_ => (P0_ k_ ∨ w.heap.size ≤ k_)) (.slice A0 l0.length c0) l0) ∧ Aside0 (Kd.V k35 35 w' w.heap.size (fun k_ => (P0_ k_ ∨ w.heap.size ≤ k_)) v8 x8_2) ∧ Aside0 (Below w.heap.size w w'))
        case atStart => exact ⟨(l0), (0), (by first | rfl | (simp; done) | (simp [*]; done)), H', ⟨Nat.le_refl _⟩, ⟨by (with_reducible repeat (first | apply Kd.V_alloc | apply Kd.V_drewN | apply Kd.V_drew)); exact HO_0.out⟩, ⟨by (with_reducible repeat (first | apply Kd.V_alloc | apply Kd.V_drewN | apply Kd.V_drew)); exact HO_0.out⟩, ⟨by repeat (first | (with_reducible first | exact HB.out | apply below_alloc | apply pw_below_drewN | apply below_drew1) | exact HB.out)⟩⟩
        case round =>
          clear H'
          try clear c1
          try clear c2
          try clear p2
          try clear c8
          try clear c9
          try clear p2
          obtain ⟨x8_2, x9_2, rfl, HA, HK2, HO_0, HO_8, HB⟩ := hrel
          cases gk with
          | zero => exact absurd HA.out (by simp [pannierref07_Join.l0])
          | succ k2 =>
            have H := HA.out
            clear HA
            simp only [pannierref07_Join.l0] at H
            by_cases c10 : x9_2 < (l1.length : Int)
            · rw [if_pos c10] at H
              have c10b0 : decide (x9_2 < (l1.length : Int)) = true := decide_eq_true c10
              clear c10
              by_cases c11 : 0 ≤ x9_2
              · rw [if_pos c11] at H
                have c11b0 : decide (0 ≤ x9_2) = true := decide_eq_true c11
                clear c11
                replace H := Option.bind_eq_some_iff.mp H
                obtain ⟨t210, A120, H⟩ := H
                replace H : ((pannierref07_put.f k2 x8_2 ((rd_T35 l1 x9_2).f0) (mx ((rd_T35 l1 x9_2).f1) t210)).bind fun t211 => (pannierref07_Join.l0 k2 l0 l1 t211 (wrap64 (x9_2 + 1)))) = some (r1, r2) := H
                have A12 := Aside0.mk A120
                clear A120
                obtain ⟨ji13, hji13⟩ : ∃ j_ : Int, (mx ((rd_T35 l1 x9_2).f1) t210) = j_ := ⟨_, rfl⟩
                replace H : ((pannierref07_put.f k2 x8_2 ((rd_T35 l1 x9_2).f0) (ji13)).bind fun t211 => (pannierref07_Join.l0 k2 l0 l1 t211 (wrap64 (x9_2 + 1)))) = some (r1, r2) := by first | (rw [hji13] at H; exact H) | (simp only [hji13] at H ⊢; exact H)
                (try rw [hji13] at A12)
                have hji13_ : (if ((rd_T35 l1 x9_2).f1) < t210 then t210 else ((rd_T35 l1 x9_2).f1)) = ji13 := hji13
                replace H := Option.bind_eq_some_iff.mp H
                obtain ⟨t211, A140, H⟩ := H
                replace H : (pannierref07_Join.l0 k2 l0 l1 t211 (wrap64 (x9_2 + 1))) = some (r1, r2) := H
                have A14 := Aside0.mk A140
                clear A140
                have H' := Aside0.mk H
                clear H
                try go_wp2
                have n0_ := Aside0.mk (Kd.V_drew HO_0.out)
                have n1_ := Aside0.mk (Kd.V_drew HO_8.out)
                have n2_ := Aside0.mk (below_drew1 HB.out)
                clear HO_0
                clear HO_8
                clear HB
                have HO_0 := n0_
                have HO_8 := n1_
                have HB := n2_
                clear n0_ n1_ n2_
                have p207 : 0 ≤ (x9_2 : Int) := of_decide_eq_true (by first | (with_reducible assumption) | assumption)
                have q207 : x9_2 < (l1.length : Int) := of_decide_eq_true (by first | (with_reducible assumption) | assumption)
                obtain ⟨ad207, e207, hx207_0, hx207_1⟩ := at_T35 HR1.out x9_2 p207 q207
                have hw207_1 := hx207_1
                have hw207_0 := hx207_0
                cases e207
                replace hx207_0 := (HB.out.cell (World.block_lt_of_cell? w _ hx207_0)).trans hx207_0
                replace hx207_1 := (HB.out.cell (World.block_lt_of_cell? w _ hx207_1)).trans hx207_1
                replace p207 := eq_true p207
                replace q207 := eq_true q207
                have p208 : 0 ≤ (x9_2 : Int) := of_decide_eq_true (by first | (with_reducible assumption) | assumption)
                have q208 : x9_2 < (l1.length : Int) := of_decide_eq_true (by first | (with_reducible assumption) | assumption)
                obtain ⟨ad208, e208, hx208_0, hx208_1⟩ := at_T35 HR1.out x9_2 p208 q208
                have hw208_1 := hx208_1
                have hw208_0 := hx208_0
                obtain rfl : ad207 = ad208 := (by injection e208)
                replace hx208_0 := (HB.out.cell (World.block_lt_of_cell? w _ hx208_0)).trans hx208_0
                replace hx208_1 := (HB.out.cell (World.block_lt_of_cell? w _ hx208_1)).trans hx208_1
                replace p208 := eq_true p208
                replace q208 := eq_true q208
                have p209 : 0 ≤ (x9_2 : Int) := of_decide_eq_true (by first | (with_reducible assumption) | assumption)
                have q209 : x9_2 < (l1.length : Int) := of_decide_eq_true (by first | (with_reducible assumption) | assumption)
                obtain ⟨ad209, e209, hx209_0, hx209_1⟩ := at_T35 HR1.out x9_2 p209 q209
                have hw209_1 := hx209_1
                have hw209_0 := hx209_0
                obtain rfl : ad207 = ad209 := (by injection e209)
                replace hx209_0 := (HB.out.cell (World.block_lt_of_cell? w _ hx209_0)).trans hx209_0
                replace hx209_1 := (HB.out.cell (World.block_lt_of_cell? w _ hx209_1)).trans hx209_1
                replace p209 := eq_true p209
                replace q209 := eq_true q209
                refine start_ (n := 21) (S := fun w' => w'.cell? (ad207.add ((x9_2).toNat * 2)) = some (.string ((rd_T35 l1 x9_2).f0)) ∧ w'.cell? ⟨(ad207.add ((x9_2).toNat * 2)).block, (ad207.add ((x9_2).toNat * 2)).off + 1, none⟩ = some (.int .i64 ((rd_T35 l1 x9_2).f1)) ∧ w'.cell? (ad207.add ((x9_2).toNat * 2)) = some (.string ((rd_T35 l1 x9_2).f0)) ∧ w'.cell? ⟨(ad207.add ((x9_2).toNat * 2)).block, (ad207.add ((x9_2).toNat * 2)).off + 1, none⟩ = some (.int .i64 ((rd_T35 l1 x9_2).f1)) ∧ w'.cell? (ad207.add ((x9_2).toNat * 2)) = some (.string ((rd_T35 l1 x9_2).f0)) ∧ w'.cell? ⟨(ad207.add ((x9_2).toNat * 2)).block, (ad207.add ((x9_2).toNat * 2)).off + 1, none⟩ = some (.int .i64 ((rd_T35 l1 x9_2).f1))) (ds := []) #[false, false, false, false, false, false, false, false, false, false, false, false, false, false, false, false, false, false, false, false, false] (by kernel_rfl) rfl rfl ⟨((HB.out.cell (World.block_lt_of_cell? w _ hw207_0)).trans hw207_0), ((HB.out.cell (World.block_lt_of_cell? w _ hw207_1)).trans hw207_1), ((HB.out.cell (World.block_lt_of_cell? w _ hw208_0)).trans hw208_0), ((HB.out.cell (World.block_lt_of_cell? w _ hw208_1)).trans hw208_1), ((HB.out.cell (World.block_lt_of_cell? w _ hw209_0)).trans hw209_0), ((HB.out.cell (World.block_lt_of_cell? w _ hw209_1)).trans hw209_1)⟩ (fun hHeld => ?_); refine with_tabW pannierref07_Join.tab9 pannierref07_Join.bits9 (fun HT_ HW_ => ?_)
                generalize wr.drew = w15 at HO_0 HO_8 HB hx207_0 hx207_1 hx208_0 hx208_1 hx209_0 hx209_1 hHeld ⊢
                refine pure_ (i := 0) (N := some 27) (v := ?_) (a' := ?_) #[true, false, false, false, false, false, false, false, false, false, false, false, false, false, false, false, false, false, false, false, false] rfl rfl (any_of HT_.out (by kernel_rfl)) (fun _ _ _ h => h) (Or.inl ⟨by rfl, ?_⟩) ?_ ?_
                rotate_left
                · intro w'
                  go_simp
                  with_reducible rfl
                rotate_left
                · simp only [Act.put, List.setIfInBounds_toArray, List.set_cons_zero, List.set_cons_succ, i64_w, i32_w]
                  rfl
                refine pure_ (i := 1) (N := some 28) (v := ?_) (a' := ?_) #[true, true, false, false, false, false, false, false, false, false, false, false, false, false, false, false, false, false, false, false, false] rfl rfl (any_of HT_.out (by kernel_rfl)) (fun _ _ _ h => h) (Or.inl ⟨by rfl, ?_⟩) ?_ ?_
                rotate_left
                · intro w'
                  go_simp
                  with_reducible rfl
                rotate_left
                · simp only [Act.put, List.setIfInBounds_toArray, List.set_cons_zero, List.set_cons_succ, i64_w, i32_w]
                  rfl
                refine pure_ (i := 2) (N := some 29) (v := ?_) (a' := ?_) #[true, true, true, false, false, false, false, false, false, false, false, false, false, false, false, false, false, false, false, false, false] rfl rfl (any_of HT_.out (by kernel_rfl)) (fun _ _ _ h => h) (Or.inl ⟨by rfl, ?_⟩) ?_ ?_
                rotate_left
                · intro w'
                  go_simp
                  with_reducible rfl
                rotate_left
                · simp only [Act.put, List.setIfInBounds_toArray, List.set_cons_zero, List.set_cons_succ, i64_w, i32_w]
                  rfl
                refine pure_ (i := 3) (N := some 30) (v := ?_) (a' := ?_) #[true, true, true, true, false, false, false, false, false, false, false, false, false, false, false, false, false, false, false, false, false] rfl rfl (any_of HT_.out (by kernel_rfl)) (fun _ _ _ h => h) (Or.inl ⟨by rfl, ?_⟩) ?_ ?_
                rotate_left
                · intro w'
                  go_simp
                  with_reducible rfl
                rotate_left
                · simp only [Act.put, List.setIfInBounds_toArray, List.set_cons_zero, List.set_cons_succ, i64_w, i32_w]
                  rfl
                refine pure_ (i := 4) (N := some 31) (v := ?_) (a' := ?_) #[true, true, true, true, true, false, false, false, false, false, false, false, false, false, false, false, false, false, false, false, false] rfl rfl (any_of HT_.out (by kernel_rfl)) (fun _ _ _ h => h) (Or.inl ⟨by rfl, ?_⟩) ?_ ?_
                rotate_left
                · intro w'
                  go_simp
                  with_reducible rfl
                rotate_left
                · simp only [Act.put, List.setIfInBounds_toArray, List.set_cons_zero, List.set_cons_succ, i64_w, i32_w]
                  rfl
                refine pure_ (i := 6) (N := some 33) (v := ?_) (a' := ?_) #[true, true, true, true, true, false, true, false, false, false, false, false, false, false, false, false, false, false, false, false, false] rfl rfl (any_of HT_.out (by kernel_rfl)) (fun _ _ _ h => h) (Or.inl ⟨by rfl, ?_⟩) ?_ ?_
                rotate_left
                · intro w'
                  go_simp
                  with_reducible rfl
                rotate_left
                · simp only [Act.put, List.setIfInBounds_toArray, List.set_cons_zero, List.set_cons_succ, i64_w, i32_w]
                  rfl
                refine pure_ (i := 7) (N := some 34) (v := ?_) (a' := ?_) #[true, true, true, true, true, false, true, true, false, false, false, false, false, false, false, false, false, false, false, false, false] rfl rfl (any_of HT_.out (by kernel_rfl)) (fun _ _ _ h => h) (Or.inl ⟨by rfl, ?_⟩) ?_ ?_
                rotate_left
                · intro w'
                  go_simp
                  with_reducible rfl
                rotate_left
                · simp only [Act.put, List.setIfInBounds_toArray, List.set_cons_zero, List.set_cons_succ, i64_w, i32_w]
                  rfl
                refine pure_ (i := 8) (N := some 35) (v := ?_) (a' := ?_) #[true, true, true, true, true, false, true, true, true, false, false, false, false, false, false, false, false, false, false, false, false] rfl rfl (any_of HT_.out (by kernel_rfl)) (fun _ _ _ h => h) (Or.inl ⟨by rfl, ?_⟩) ?_ ?_
                rotate_left
                · intro w'
                  go_simp
                  with_reducible rfl
                rotate_left
                · simp only [Act.put, List.setIfInBounds_toArray, List.set_cons_zero, List.set_cons_succ, i64_w, i32_w]
                  rfl
                refine pure_ (i := 9) (N := some 36) (v := ?_) (a' := ?_) #[true, true, true, true, true, false, true, true, true, true, false, false, false, false, false, false, false, false, false, false, false] rfl rfl (any_of HT_.out (by kernel_rfl)) (fun _ _ _ h => h) (Or.inl ⟨by rfl, ?_⟩) ?_ ?_
                rotate_left
                · intro w'
                  go_simp
                  with_reducible rfl
                rotate_left
                · simp only [Act.put, List.setIfInBounds_toArray, List.set_cons_zero, List.set_cons_succ, i64_w, i32_w]
                  rfl
                refine pure_ (i := 11) (N := some 38) (v := ?_) (a' := ?_) #[true, true, true, true, true, false, true, true, true, true, false, true, false, false, false, false, false, false, false, false, false] rfl rfl (any_of HT_.out (by kernel_rfl)) (fun _ _ _ h => h) (Or.inl ⟨by rfl, ?_⟩) ?_ ?_
                rotate_left
                · intro w'
                  go_simp
                  with_reducible rfl
                rotate_left
                · simp only [Act.put, List.setIfInBounds_toArray, List.set_cons_zero, List.set_cons_succ, i64_w, i32_w]
                  rfl
                refine pure_ (i := 12) (N := some 39) (v := ?_) (a' := ?_) #[true, true, true, true, true, false, true, true, true, true, false, true, true, false, false, false, false, false, false, false, false] rfl rfl (any_of HT_.out (by kernel_rfl)) (fun _ _ _ h => h) (Or.inl ⟨by rfl, ?_⟩) ?_ ?_
                rotate_left
                · intro w'
                  go_simp
                  with_reducible rfl
                rotate_left
                · simp only [Act.put, List.setIfInBounds_toArray, List.set_cons_zero, List.set_cons_succ, i64_w, i32_w]
                  rfl
                refine pure_ (i := 13) (N := some 40) (v := ?_) (a' := ?_) #[true, true, true, true, true, false, true, true, true, true, false, true, true, true, false, false, false, false, false, false, false] rfl rfl (any_of HT_.out (by kernel_rfl)) (fun _ _ _ h => h) (Or.inl ⟨by rfl, ?_⟩) ?_ ?_
                rotate_left
                · intro w'
                  go_simp
                  with_reducible rfl
                rotate_left
                · simp only [Act.put, List.setIfInBounds_toArray, List.set_cons_zero, List.set_cons_succ, i64_w, i32_w]
                  rfl
                refine pure_ (i := 14) (N := some 41) (v := ?_) (a' := ?_) #[true, true, true, true, true, false, true, true, true, true, false, true, true, true, true, false, false, false, false, false, false] rfl rfl (any_of HT_.out (by kernel_rfl)) (fun _ _ _ h => h) (Or.inl ⟨by rfl, ?_⟩) ?_ ?_
                rotate_left
                · intro w'
                  go_simp
                  with_reducible rfl
                rotate_left
                · simp only [Act.put, List.setIfInBounds_toArray, List.set_cons_zero, List.set_cons_succ, i64_w, i32_w]
                  rfl
                refine pure_ (i := 15) (N := some 42) (v := ?_) (a' := ?_) #[true, true, true, true, true, false, true, true, true, true, false, true, true, true, true, true, false, false, false, false, false] rfl rfl (any_of HT_.out (by kernel_rfl)) (fun _ _ _ h => h) (Or.inl ⟨by rfl, ?_⟩) ?_ ?_
                rotate_left
                · intro w'
                  go_simp
                  with_reducible rfl
                rotate_left
                · simp only [Act.put, List.setIfInBounds_toArray, List.set_cons_zero, List.set_cons_succ, i64_w, i32_w]
                  rfl
                refine take_ (i := 5) (N := some 32) (v := ?_) (a' := ?_) #[true, true, true, true, true, true, true, true, true, true, false, true, true, true, true, true, false, false, false, false, false] rfl rfl (take_ofW HT_.out HW_.out (by kernel_rfl)) (fun _ _ _ h => h) (Or.inl ⟨by rfl, ?_⟩) hHeld ?_ ?_
                rotate_left
                · rintro w' ⟨s0, s1, s2, s3, s4, s5⟩
                  go_simp
                  with_reducible rfl
                rotate_left
                · simp only [Act.put, List.setIfInBounds_toArray, List.set_cons_zero, List.set_cons_succ, i64_w, i32_w]
                  rfl
                refine take_ (i := 10) (N := some 37) (v := ?_) (a' := ?_) #[true, true, true, true, true, true, true, true, true, true, true, true, true, true, true, true, false, false, false, false, false] rfl rfl (take_ofW HT_.out HW_.out (by kernel_rfl)) (fun _ _ _ h => h) (Or.inl ⟨by rfl, ?_⟩) hHeld ?_ ?_
                rotate_left
                · rintro w' ⟨s0, s1, s2, s3, s4, s5⟩
                  go_simp
                  with_reducible rfl
                rotate_left
                · simp only [Act.put, List.setIfInBounds_toArray, List.set_cons_zero, List.set_cons_succ, i64_w, i32_w]
                  rfl
                refine take_ (i := 16) (N := some 43) (v := ?_) (a' := ?_) #[true, true, true, true, true, true, true, true, true, true, true, true, true, true, true, true, true, false, false, false, false] rfl rfl (take_ofW HT_.out HW_.out (by kernel_rfl)) (fun _ _ _ h => h) (Or.inl ⟨by rfl, ?_⟩) hHeld ?_ ?_
                rotate_left
                · rintro w' ⟨s0, s1, s2, s3, s4, s5⟩
                  go_simp
                  with_reducible rfl
                rotate_left
                · simp only [Act.put, List.setIfInBounds_toArray, List.set_cons_zero, List.set_cons_succ, i64_w, i32_w]
                  rfl
                refine one_ (i := 17) (N := some 44) #[true, true, true, true, true, true, true, true, true, true, true, true, true, true, true, true, true, true, false, false, false] rfl rfl (one_of HT_.out (by kernel_rfl)) (by decide) (fun K hK => ?_)
                refine goes_ Try.func22 (by kernel_rfl) rfl #[.slice A0 l0.length c0, .string ((rd_T35 l1 x9_2).f0)] (by rfl) rfl rfl (by (try simp only [List.map_toArray, List.map_cons, List.map_nil]); first | done | rfl | (simp only [List.length_drop, List.length_take]; rfl)) ?_
                with_reducible refine (pannierref07_At.calls k2 _ _ l0 ((rd_T35 l1 x9_2).f0) t210 _ ?side1 ?side2 A12.out).mono ?_
                (case side1 => repeat (first | exact (Kd.V_reads' HO_0.out).2.2 | (with_reducible refine Kd.C_alloc ?_ _) | (with_reducible refine Kd.C_drewN ?_ _) | (with_reducible refine Kd.C_drew ?_)))
                (case side2 => exact (Kd.V_reads' HO_0.out).2.1)
                rintro e w' ⟨rfl, ⟨nd, rfl⟩⟩
                refine ⟨_, rfl, ?_⟩
                obtain ⟨Ao16, co16, eo16⟩ := Kd.V_slice HO_8.out
                (first | subst eo16 | (injection eo16 with f1_ f2_ f3_; have f4_ := f1_.symm; have f5_ := f3_.symm; clear f1_ f2_ f3_; subst f4_; subst f5_))
                refine hK.out _ _ ⟨((HB.out.cell (World.block_lt_of_cell? w _ hw207_0)).trans hw207_0), ((HB.out.cell (World.block_lt_of_cell? w _ hw207_1)).trans hw207_1), ((HB.out.cell (World.block_lt_of_cell? w _ hw208_0)).trans hw208_0), ((HB.out.cell (World.block_lt_of_cell? w _ hw208_1)).trans hw208_1), ((HB.out.cell (World.block_lt_of_cell? w _ hw209_0)).trans hw209_0), ((HB.out.cell (World.block_lt_of_cell? w _ hw209_1)).trans hw209_1)⟩ (fun hHeld => ?_)
                clear hK K
                refine norm_ (a' := ?_) ?_ ?_
                rotate_left
                · show Act.put _ (some 44) _ = _
                  simp only [Act.put, List.setIfInBounds_toArray, List.set_cons_zero, List.set_cons_succ, i64_w, i32_w]
                  rfl
                refine pure_ (i := 18) (N := some 45) (v := ?_) (a' := ?_) #[true, true, true, true, true, true, true, true, true, true, true, true, true, true, true, true, true, true, true, false, false] rfl rfl (any_of HT_.out (by kernel_rfl)) (fun _ _ _ h => h) (Or.inl ⟨by rfl, ?_⟩) ?_ ?_
                rotate_left
                · intro w'
                  go_simp
                  with_reducible rfl
                rotate_left
                · simp only [Act.put, List.setIfInBounds_toArray, List.set_cons_zero, List.set_cons_succ, i64_w, i32_w]
                  rfl
                refine one_ (i := 19) (N := some 46) #[true, true, true, true, true, true, true, true, true, true, true, true, true, true, true, true, true, true, true, true, false] rfl rfl (one_of HT_.out (by kernel_rfl)) (by decide) (fun K hK => ?_)
                refine goes_ Try.func44 (by kernel_rfl) rfl #[.slice Ao16 x8_2.length co16, .string ((rd_T35 l1 x9_2).f0), .int .i64 ji13] (by rfl) rfl rfl (by (try simp only [List.map_toArray, List.map_cons, List.map_nil]); first | done | (simp only [hji13]; rfl) | rfl | (simp only [List.length_drop, List.length_take]; rfl)) ?_
                with_reducible refine (pannierref07_put.calls k2 _ _ x8_2 ((rd_T35 l1 x9_2).f0) ji13 t211 _ ?side1 ?side2 A14.out).mono ?_
                (case side1 => repeat (first | exact (Kd.V_reads' HO_8.out).2.2 | (with_reducible refine Kd.C_alloc ?_ _) | (with_reducible refine Kd.C_drewN ?_ _) | (with_reducible refine Kd.C_drew ?_)))
                (case side2 => exact (Kd.V_reads' HO_8.out).2.1)
                rintro e w17 ⟨v212, rfl, ho0, hb⟩
                refine ⟨_, rfl, ?_⟩
                have n0_ := Aside0.mk (Kd.V_elder' (by (with_reducible repeat (first | apply Kd.V_alloc | apply Kd.V_drewN | apply Kd.V_drew)); exact HO_0.out) (Kd.R_base ho0) hb)
                have n1_ := Aside0.mk (Kd.V_elder' (by (with_reducible repeat (first | apply Kd.V_alloc | apply Kd.V_drewN | apply Kd.V_drew)); exact HO_8.out) (Kd.R_base ho0) hb)
                have n2_ := Aside0.mk (Kd.R_lower (Kd.R_newM (M := fun k_ => (w.heap.size ≤ k_)) ho0 (below_size (by repeat (first | (with_reducible first | exact HB.out | apply below_alloc | apply pw_below_drewN | apply below_drew1) | exact HB.out))) (fun k_ h_ => h_)) (below_size (by repeat (first | (with_reducible first | exact HB.out | apply below_alloc | apply pw_below_drewN | apply below_drew1) | exact HB.out))))
                have n3_ := Aside0.mk (below_step (by repeat (first | (with_reducible first | exact HB.out | apply below_alloc | apply pw_below_drewN | apply below_drew1) | exact HB.out)) hb)
                clear HO_0
                clear HO_8
                clear HB
                have HO_0 := n0_
                have HO_8 := n1_
                have HO213 := n2_
                have HB := n3_
                clear n0_ n1_ n2_ n3_
                (try clear hb)
                (try clear hb2)
                (try clear hk)
                (try clear hi)
                (try clear ho0)
                refine hK.out _ _ ⟨((HB.out.cell (World.block_lt_of_cell? w _ hw207_0)).trans hw207_0), ((HB.out.cell (World.block_lt_of_cell? w _ hw207_1)).trans hw207_1), ((HB.out.cell (World.block_lt_of_cell? w _ hw208_0)).trans hw208_0), ((HB.out.cell (World.block_lt_of_cell? w _ hw208_1)).trans hw208_1), ((HB.out.cell (World.block_lt_of_cell? w _ hw209_0)).trans hw209_0), ((HB.out.cell (World.block_lt_of_cell? w _ hw209_1)).trans hw209_1)⟩ (fun hHeld => ?_)
                clear hK K
                refine norm_ (a' := ?_) ?_ ?_
                rotate_left
                · show Act.put _ (some 46) _ = _
                  simp only [Act.put, List.setIfInBounds_toArray, List.set_cons_zero, List.set_cons_succ, i64_w, i32_w]
                  rfl
                refine pure_ (i := 20) (N := some 8) (v := ?_) (a' := ?_) #[true, true, true, true, true, true, true, true, true, true, true, true, true, true, true, true, true, true, true, true, true] rfl rfl (any_of HT_.out (by kernel_rfl)) (fun _ _ _ h => h) (Or.inl ⟨by rfl, ?_⟩) ?_ ?_
                rotate_left
                · intro w'
                  go_simp
                  with_reducible rfl
                rotate_left
                · simp only [Act.put, List.setIfInBounds_toArray, List.set_cons_zero, List.set_cons_succ, i64_w, i32_w]
                  rfl
                refine done_ (done_of HT_.out (by kernel_rfl)) ?_
                try go_wp2
                go_roundg k2
                case measure => have := HJ4.out; have := HK2.out; omega
                case rel => exact ⟨(t211), (wrap64 (x9_2 + 1)), (by first | rfl | (simp; done) | (simp [*]; done)), H', ⟨by have := HJ4.out; have := HK2.out; omega⟩, ⟨by (with_reducible repeat (first | apply Kd.V_alloc | apply Kd.V_drewN | apply Kd.V_drew)); exact Kd.V_mono HO_0.out (fun _ hk => hk.1)⟩, ⟨Kd.V_mono (Kd.R_V (by (with_reducible repeat (first | apply Kd.R_alloc | apply Kd.R_drewN | apply Kd.R_drew)); exact Kd.R_mono HO213.out (fun _ hk => hk.1))) (fun k_ hk => by first | exact ⟨(.inr (hk.1)), hk.2⟩ | exact (.inr (hk)))⟩, ⟨by repeat (first | (with_reducible first | exact HB.out | apply below_alloc | apply pw_below_drewN | apply below_drew1) | exact HB.out)⟩⟩
              · rw [if_neg c11] at H
                exact absurd H (by simp)
            · rw [if_neg c10] at H
              have c10b0 : decide (x9_2 < (l1.length : Int)) = false := decide_eq_false c10
              clear c10
              by_cases c18 : (x8_2.length : Int) > 64
              · rw [if_pos c18] at H
                have c18b0 : decide (64 < (x8_2.length : Int)) = true := decide_eq_true c18
                have c18b1 : decide (64 < x8_2.length) = true := decide_eq_true (by omega)
                clear c18
                simp only [Option.some.injEq, Prod.mk.injEq] at H
                obtain ⟨rfl, rfl⟩ := H
                obtain ⟨Ao19, co19, eo19⟩ := Kd.V_slice HO_8.out
                subst eo19
                go_wp2
                go_ret2
                exact ⟨_, by first | rfl | (simp [errW_none, errW_some] <;> rfl) | (simp [*, errW_none, errW_some] <;> rfl), Kd.V_nil _ _ _ _ _, by repeat (first | (with_reducible first | exact HB.out | apply below_alloc | apply pw_below_drewN | apply below_drew1) | exact HB.out)⟩
              · rw [if_neg c18] at H
                have c18b0 : decide (64 < (x8_2.length : Int)) = false := decide_eq_false c18
                have c18b1 : decide (64 < x8_2.length) = false := decide_eq_false (by omega)
                clear c18
                simp only [Option.some.injEq, Prod.mk.injEq] at H
                obtain ⟨rfl, rfl⟩ := H
                obtain ⟨Ao20, co20, eo20⟩ := Kd.V_slice HO_8.out
                subst eo20
                go_wp2
                go_ret2
                exact ⟨_, by first | rfl | (simp [errW_none, errW_some] <;> rfl) | (simp [*, errW_none, errW_some] <;> rfl), by (with_reducible repeat (first | apply Kd.V_alloc | apply Kd.V_drewN | apply Kd.V_drew)); exact HO_8.out, by repeat (first | (with_reducible first | exact HB.out | apply below_alloc | apply pw_below_drewN | apply below_drew1) | exact HB.out)⟩

/-! ### vector_Lack: function 27 -/
section
open Go.Proofs.Ytnnlpelogabokaa.XRange Go.Proofs.Ytnnlpelogabokaa.XHeld
attribute [local go_sem] Oper.semAt_some
def lackL : List (ByteArray × Int × Int) → List S52
  | [] => []
  | x :: l => if x.2.1 < x.2.2 then ⟨x.1, wrap64 (x.2.1 + 1), x.2.2⟩ :: lackL l else lackL l
theorem lackL_append (a b : List (ByteArray × Int × Int)) : lackL (a ++ b) = lackL a ++ lackL b := by
  induction a with
  | nil => rfl
  | cons x a ih => simp only [List.cons_append, lackL]; split <;> simp [ih]
theorem lackL_le (a : List (ByteArray × Int × Int)) : (lackL a).length ≤ a.length := by
  induction a with
  | nil => simp [lackL]
  | cons x a ih => simp only [lackL]; split <;> simp <;> omega
def vector_Lack.f (k : Nat) (l0 l1 : List S35) : Option (List S52 × Int) :=
  (vector_Right.f k l0).bind fun r0 => if r0 = true then (vector_Right.f k l1).bind fun r1 => if r1 = true then
    (if (mrg l0 l1).length ≤ 1000000 then some (lackL (mrg l0 l1), 0) else none) else some ([], 2) else some ([], 2)

set_option maxHeartbeats 4000000 in
set_option maxRecDepth 100000 in
theorem vector_Lack.calls (k : Nat) (A0 : Option Addr) (c0 : Nat) (l0 : List S35) (A1 : Option Addr) (c1 : Nat) (l1 : List S35) (r1 : List S52) (r2 : Int) (w : World) (hr0 : Kd.C k35 w A0 l0.length l0) (hc0 : l0.length ≤ c0) (hr1 : Kd.C k35 w A1 l1.length l1) (hc1 : l1.length ≤ c1) (h : vector_Lack.f k l0 l1 = some (r1, r2)) :
    Calls Try.prog 27 #[.slice A0 l0.length c0, .slice A1 l1.length c1] w fun e w' => ∃ v0_ : Value, e = .returned (.tuple #[v0_, .int .i64 r2]) ∧ Kd.R k52 52 w' w.heap.size (fun _ => True) v0_ r1 ∧ Below w.heap.size w w' := by
  unfold vector_Lack.f at h
  obtain ⟨q0, h0, h⟩ := Option.bind_eq_some_iff.mp h
  have H0 := Aside0.mk h0
  have HX0 := Aside0.mk hr0
  have HX1 := Aside0.mk hr1
  have HC0 := Aside0.mk hc0
  have HC1 := Aside0.mk hc1
  clear h0 hr0 hr1 hc0 hc1
  cases q0 with
  | false =>
    simp only [Bool.false_eq_true, if_false, Option.some.injEq, Prod.mk.injEq] at h
    obtain ⟨rfl, rfl⟩ := h
    go_enter Try.func27, Try.ntmps27
    go_wp2_with fail
    refine (vector_Right.calls k A0 c0 l0 false _ HX0.out HC0.out H0.out).mono ?_
    rintro e w1 ⟨rfl, hb1⟩
    have HB1 := Aside0.mk hb1
    clear hb1
    go_wp2
    go_ret2
    exact ⟨_, rfl, Kd.R_nil _ _ _ _ _, HB1.out⟩
  | true =>
    simp only [if_true] at h
    obtain ⟨q1, h1, h⟩ := Option.bind_eq_some_iff.mp h
    have H1 := Aside0.mk h1
    clear h1
    cases q1 with
    | false =>
      simp only [Bool.false_eq_true, if_false, Option.some.injEq, Prod.mk.injEq] at h
      obtain ⟨rfl, rfl⟩ := h
      go_enter Try.func27, Try.ntmps27
      go_wp2_with fail
      refine (vector_Right.calls k A0 c0 l0 true _ HX0.out HC0.out H0.out).mono ?_
      rintro e w1 ⟨rfl, hb1⟩
      have HB1 := Aside0.mk hb1
      clear hb1
      go_wp2_with fail
      refine (vector_Right.calls k A1 c1 l1 false _ (Kd.C_below HX1.out HB1.out) HC1.out H1.out).mono ?_
      rintro e w2 ⟨rfl, hb2⟩
      have HB2 := Aside0.mk (show Below w.heap.size w w2 from HB1.out.trans (hb2.mono HB1.out.size))
      clear hb2
      go_wp2
      go_ret2
      exact ⟨_, rfl, Kd.R_nil _ _ _ _ _, HB2.out⟩
    | true =>
      simp only [if_true] at h
      by_cases hlen : (mrg l0 l1).length ≤ 1000000
      case neg => rw [if_neg hlen] at h; cases h
      rw [if_pos hlen] at h
      have HLEN := Aside0.mk hlen
      have H := Aside0.mk h
      clear h hlen
      refine (callsIn_wide (n := 3)).1 ?_
      refine callsIn_of_wp_marks Try.func27 rfl trivial ?_ rfl
      simp only [Try.ntmps27, List.size_toArray, List.length_cons, List.length_nil, Nat.reduceAdd, Nat.reduceSub, Array.replicate_succ, Array.replicate_zero, List.push_toArray, List.append_toArray, List.nil_append, List.cons_append]
      gi_wp2_with fail
      refine ⟨trivial, (callsIn_wide.2 (vector_Right.calls k A0 c0 l0 true _ HX0.out HC0.out H0.out)).mono ?_⟩
      rintro e w1 ⟨rfl, hb1⟩
      have HQ1 := Aside0.mk hb1
      clear hb1
      gi_wp2_with fail
      refine ⟨trivial, (callsIn_wide.2 (vector_Right.calls k A1 c1 l1 true _ (Kd.C_below HX1.out HQ1.out) HC1.out H1.out)).mono ?_⟩
      rintro e w2 ⟨rfl, hb2⟩
      have HQ2 := Aside0.mk (show Below w.heap.size w w2 from HQ1.out.trans (hb2.mono HQ1.out.size))
      clear hb2
      gi_wp2_with fail
      refine ⟨trivial, (callsIn_wide.2 (vector_together.calls A0 A1 l0.length c0 l1.length c1 _)).mono ?_⟩
      rintro e w3 ⟨rfl, hw3⟩
      have hQ2' : Below w.heap.size w (w2.alloc (.cells #[.slice none 0 0] 39)) := HQ2.out.alloc HQ2.out.size _
      have hbx := holds_boxes rfl hQ2' HX0.out HX1.out HC0.out HC1.out
      rw [← hw3] at hbx
      simp only [World.size_alloc] at hbx hw3 ⊢
      have HBX := Aside0.mk hbx
      have hs3 : w3.heap.size = w2.heap.size + 3 := by rw [hw3]; simp
      have HS3 := Aside0.mk hs3
      have HQ3 := Aside0.mk (show Below w.heap.size w w3 from by rw [hw3]; exact (hQ2'.alloc hQ2'.size _).alloc (by have := hQ2'.size; simp at this ⊢; omega) _)
      have HE3 := Aside0.mk (show w3.heap[w2.heap.size]? = some (.cells #[.slice none 0 0] 39 (0, 0)) from by rw [hw3]; exact blk_alloc (blk_alloc (blk_new w2 _) _) _)
      have hlt0 := HQ2.out.size
      clear hbx hw3 hs3 hQ2'
      gi_wp2_with fail
      refine range_law (gf := 56) rfl (enters_of Try.func56 (by kernel_rfl) rfl)
        (together1_seq 2 (fun k => k < w.heap.size ∨ k = w2.heap.size + 1 ∨ k = w2.heap.size + 1 + 1) (w2.heap.size + 1) (w2.heap.size + 1 + 1) l0 l1 w3 (by omega) (.inr (.inl rfl)) (.inr (.inr rfl)) (fun k hk => by have := HS3.out; omega) HLEN.out HBX.out.1 HBX.out.2)
        (fun _ => rfl) (fun k hk => by have := HS3.out; omega) (fun k hk => by have := HS3.out; omega)
        (OutInv k52 52 39 w2.heap.size w2.heap.size lackL (fun _ => True) w.heap.size w) (fun c => OutInv k52 52 39 w2.heap.size w2.heap.size lackL (fun _ => False) w.heap.size w)
        (outInv_keeps (fun m hm => by omega) hlt0 hlt0) (fun c => outInv_keeps (fun m hm => by omega) hlt0 hlt0) (outInv_keeps (fun m hm => by have := HS3.out; omega) hlt0 hlt0) (fun c => outInv_keeps (fun m hm => by have := HS3.out; omega) hlt0 hlt0)
        ⟨trivial, HQ3.out, none, 0, HE3.out, Kd.R_nil _ _ _ _ _⟩ ?round ?done ?stop
      case round =>
        rintro pre x W hI hlen hsz
        have HI := Aside0.mk hI
        have HPL := Aside0.mk hlen
        clear hI hlen
        obtain ⟨xw, xa, xb⟩ := x
        simp only [encs3]
        gi_wp2_with fail
        refine ⟨(Keeps.refl _ _).alloc _, fun Wb hkb hib => ?_⟩
        have hsb : W.heap.size < Wb.heap.size := by have := hkb.size; simp at this; omega
        have hpb : Wb.heap[W.heap.size]? = some (.cells #[.int .i64 xa, .int .i64 xb] 59 (0, 0)) := keeps_heap (blk_new W _) (by omega) hkb
        obtain ⟨_, hB, A, c, hO, hR⟩ := hib
        have b0 : Wb.cell? ⟨W.heap.size, 0, none⟩ = some (.int .i64 xa) := (blk_cell hpb 0).trans rfl
        have b1 : Wb.cell? ⟨W.heap.size, 1, none⟩ = some (.int .i64 xb) := (blk_cell hpb 1).trans rfl
        have e0 : Wb.cell? ⟨w2.heap.size, 0, none⟩ = some (.slice A (lackL pre).length c) := (blk_cell hO 0).trans rfl
        have e1 := blk_frozen hO 0
        have HB := Aside0.mk hB
        have HO := Aside0.mk hO
        have HR := Aside0.mk hR
        by_cases hx : xa < xb
        · have HN := Aside0.mk (show (lackL (pre ++ [(xw, xa, xb)])) = lackL pre ++ [⟨xw, wrap64 (xa + 1), xb⟩] from by rw [lackL_append]; simp [lackL, hx])
          have HL := Aside0.mk (show ((lackL pre).length + 1) * 32 ≤ 140737488355328 from by have := HLEN.out; have := HPL.out; have := lackL_le pre; omega)
          have hsw := hB.size
          have hx' : decide (xa < xb) = true := decide_eq_true hx
          clear hkb hpb hB hO hR hx
          gi_wp2_with (gi_at_builtin; refine R_append_in k52 w.heap.size rfl (.tmp 27) (.tmp 35) 39 52 (.agg #[(.string ⟨#[]⟩), (.int .i64 0), (.int .i64 0)]) 32 rfl Try.underlying39 info52 rfl (by decide) (by omega) _ (lackL pre) ⟨xw, wrap64 (xa + 1), xb⟩ [.string xw, .int .i64 (wrap64 (xa + 1)), .int .i64 xb] (fun k => ¬ (w2.heap.size ≤ k ∧ k < w2.heap.size + 5)) (fun _ => False) rfl rfl (k52_mkM _ _ _ _) (fun _ h => h.elim) (fun k hk => by have := HS3.out; omega) HR.out hsw HL.out ?_; intro A' c' Wc hR' hg'; have HR' := Aside0.mk hR'; have HG' := Aside0.mk hg'; clear hR' hg'; have HO' := Aside0.mk (blk_grown HO.out HG'.out (by intro e; have := HR.out.1 _ e.symm; omega)); have e2 : Wc.cell? ⟨w2.heap.size, 0, none⟩ = some (.slice A (lackL pre).length c) := (blk_cell HO'.out 0).trans rfl; have e3 := blk_frozen HO'.out 0)
          have hne : w2.heap.size ≠ w3.heap.size := by have := HS3.out; omega
          have hlb : ∀ i, i < Wb.heap.size → ¬ (i = w2.heap.size) → (i < w.heap.size ∨ (w2.heap.size ≤ i ∧ i < w2.heap.size + 5)) → (Wc.setCell ⟨w2.heap.size, 0, none⟩ (.slice A' ((lackL pre).length + 1) c')).heap[i]? = Wb.heap[i]? := fun i hi h1 h2 =>
            (Below.heap_setCell _ _ _ _ h1).trans (HG'.out.block i hi (fun e => by have := HR.out.1 _ e.symm; have := own_base (by exact HR.out.2.choose_spec.1) i e.symm; omega))
          refine ⟨⟨by have := HG'.out.size; simp [World.setCell]; omega, fun i hi => hlb i (by have := HS3.out; omega) (by have := HS3.out; omega) (by have := HS3.out; omega)⟩, ⟨by have := HG'.out.size; simp [World.setCell]; omega, fun i hi => hlb i (by have := HS3.out; omega) (by omega) (by omega)⟩, trivial, ?_, A', c', ?_, ?_⟩
          · exact (HB.out.grown HG'.out hsw (fun i e => own_base (by exact HR.out.2.choose_spec.1) i e)).setCell (p := ⟨w2.heap.size, 0, none⟩) hlt0 _
          · rw [HN.out, List.length_append, List.length_singleton]; exact blk_set HO'.out 0 _
          · rw [HN.out, List.length_append, List.length_singleton]; exact Kd.R_far HR'.out (p := ⟨w2.heap.size, 0, none⟩) (fun i hi e => hi (by simp at e; omega)) _
        · have hx' : decide (xa < xb) = false := decide_eq_false hx
          have HN := Aside0.mk (show (lackL (pre ++ [(xw, xa, xb)])) = lackL pre from by rw [lackL_append]; simp [lackL, hx])
          clear hkb hpb hB hO hR hx
          gi_wp2_with fail
          exact ⟨KeepOn.refl _ _, KeepOn.refl _ _, trivial, HB.out, A, c, by rw [HN.out]; exact HO.out, by rw [HN.out]; exact HR.out⟩
      case done =>
        rintro xs W rfl ⟨_, hB, A, c, hO, hR⟩ hsz hD
        have e0 : W.cell? ⟨w2.heap.size, 0, none⟩ = some (.slice A (lackL (mrg l0 l1)).length c) := (blk_cell hO 0).trans rfl
        have HD := Aside0.mk (hD)
        have HB := Aside0.mk hB
        have HR := Aside0.mk hR
        have hws : w.heap.size ≤ W.heap.size := by have := HS3.out; omega
        clear hD hB hO hR
        have h := H.out
        simp only [Option.some.injEq, Prod.mk.injEq] at h
        obtain ⟨rfl, rfl⟩ := h
        gi_wp2_with fail
        exact leave_mark HD.out ⟨.tuple #[.slice A (lackL (mrg l0 l1)).length c, .int .i64 0], by simp [results, Try.f27, go_sem], _, rfl, Kd.R_mono (Kd.R_step HR.out (fun i hi _ => World.putObj_heap_other (by have := HS3.out; omega))) (fun _ _ => trivial), below_put HB.out (by have := HS3.out; omega) hws⟩
      case stop =>
        rintro c pre W hpre ⟨hf, _⟩ hsz hD
        exact hf.elim

theorem vector_Lack.mono : ∀ a0 a1 k, LeO (vector_Lack.f k a0 a1) (vector_Lack.f (k + 1) a0 a1) := by
  intro a0 a1 k
  unfold vector_Lack.f
  refine LeO.bind (vector_Right.mono _ _) (fun _ => ?_)
  refine LeO.ite ?_ (LeO.refl _)
  exact LeO.bind (vector_Right.mono _ _) (fun _ => LeO.refl _)
end

end Go.Proofs.Ytnnlpelogabokaa.PV
