-- Printed by a program of this work round the kit's print; Lean checks it.
import Derived.Test.YtnnlpelogabokaaPWx0
import Derived.Test.YtnnlpelogabokaaPWx4
import Derived.Test.YtnnlpelogabokaaPWx5
import Derived.Test.YtnnlpelogabokaaPWx6
import Derived.Test.YtnnlpelogabokaaPWx8
namespace Go.Proofs.Ytnnlpelogabokaa.PW
open Go.RowKit Go.Proofs.YtnnlpelogabokaaW.PrintWords Go.Proofs.YtnnlpelogabokaaW.PrintLast Go.Proofs.YtnnlpelogabokaaW.PrintMore
attribute [local go_sem] max2_int min2_int max_two min_two max_three min_three max_four min_four   -- for this text's walks alone
set_option linter.unusedVariables false
set_option linter.unusedSimpArgs false

/-! ### pannierlaw07_VectorSpans: function 11 -/
mutual
def pannierlaw07_VectorSpans.j0 : Nat → List (S35) → List (S35) → Bool → List (S52) → List (S35) → Bool → Option (Bool)
  | 0, _, _, _, _, _, _ => none
  | k + 1, x0, x1, x5, x6, x8, x35 => if x35 = true then (some x5) else (pannierlaw07_VectorSpans.l0 k x0 x1 x5 x6 x8 x0 500 0)
def pannierlaw07_VectorSpans.l0 : Nat → List (S35) → List (S35) → Bool → List (S52) → List (S35) → List (S35) → Int → Int → Option (Bool)
  | 0, _, _, _, _, _, _, _, _ => none
  | k + 1, x0, x1, x5, x6, x8, x10, x11, x12 => if x12 < (x6.length : Int) then (if 0 ≤ x12 then (if ((rd_T52 x6 x12).f1) > ((rd_T52 x6 x12).f2) then (pannierlaw07_VectorSpans.j2 k x0 x1 x5 x6 x8 x10 x11 x12 true) else (pannierlaw07_VectorSpans.j2 k x0 x1 x5 x6 x8 x10 x11 x12 (decide ((wrap64 (((rd_T52 x6 x12).f2) - ((rd_T52 x6 x12).f1))) ≥ x11)))) else (none)) else (if x5 = true then ((pannierref07_Same.f k x10 x8).bind fun t188 => (some t188)) else (some false))
def pannierlaw07_VectorSpans.j2 : Nat → List (S35) → List (S35) → Bool → List (S52) → List (S35) → List (S35) → Int → Int → Bool → Option (Bool)
  | 0, _, _, _, _, _, _, _, _, _ => none
  | k + 1, x0, x1, x5, x6, x8, x10, x11, x12, x69 => if x69 = true then (if x5 = true then (if 0 ≤ x12 then (if x12 < (x6.length : Int) then (some (decide (((rd_T52 x6 x12).f1) ≤ ((rd_T52 x6 x12).f2)))) else (none)) else (none)) else (some false)) else (if 0 ≤ x12 then (if x12 < (x6.length : Int) then (pannierlaw07_VectorSpans.l1 k x0 x1 x5 x6 x8 x10 (wrap64 ((wrap64 (x11 - (wrap64 (((rd_T52 x6 x12).f2) - ((rd_T52 x6 x12).f1))))) - 1)) x12 ((rd_T52 x6 x12).f1)) else (none)) else (none))
def pannierlaw07_VectorSpans.l1 : Nat → List (S35) → List (S35) → Bool → List (S52) → List (S35) → List (S35) → Int → Int → Int → Option (Bool)
  | 0, _, _, _, _, _, _, _, _, _ => none
  | k + 1, x0, x1, x5, x6, x8, x10, x11, x12, x13 => if 0 ≤ x12 then (if x12 < (x6.length : Int) then (if x13 ≤ ((rd_T52 x6 x12).f2) then ((vector_Has.f k x0 ((rd_T52 x6 x12).f0) x13).bind fun t201 => (if t201 = true then (pannierlaw07_VectorSpans.j4 k x0 x1 x5 x6 x8 x10 x11 x12 x13 true ((rd_T52 x6 x12).f0) x13) else ((vector_Has.f k x1 ((rd_T52 x6 x12).f0) x13).bind fun t202 => (pannierlaw07_VectorSpans.j4 k x0 x1 x5 x6 x8 x10 x11 x12 x13 (!t202) ((rd_T52 x6 x12).f0) x13)))) else (pannierlaw07_VectorSpans.l0 k x0 x1 x5 x6 x8 x10 x11 (wrap64 (x12 + 1)))) else (none)) else (none)
def pannierlaw07_VectorSpans.j4 : Nat → List (S35) → List (S35) → Bool → List (S52) → List (S35) → List (S35) → Int → Int → Int → Bool → ByteArray → Int → Option (Bool)
  | 0, _, _, _, _, _, _, _, _, _, _, _, _ => none
  | k + 1, x0, x1, x5, x6, x8, x10, x11, x12, x13, x127, x201000, x201001 => if x127 = true then (some false) else ((vector_With.f k x10 x201000 x201001).bind fun bt203 => (if bt203.2 = 0 then (pannierlaw07_VectorSpans.l1 k x0 x1 x5 x6 x8 bt203.1 x11 x12 (wrap64 (x13 + 1))) else (some false)))
end
def pannierlaw07_VectorSpans.f (k : Nat) (l0 : List (S35)) (l1 : List (S35)) : Option (Bool) := (pannierlaw07_shown.f k).bind fun t179 => ((vector_Lack.f k l0 l1).bind fun bt180 => ((vector_Join.f k l0 l1).bind fun bt184 => (if bt180.2 = 0 then (pannierlaw07_VectorSpans.j0 k l0 l1 t179 bt180.1 bt184.1 (bt184.2 != 0)) else (pannierlaw07_VectorSpans.j0 k l0 l1 t179 bt180.1 bt184.1 true))))
theorem pannierlaw07_VectorSpans.mono_l : ∀ k, (∀ y0 y1 y2 y3 y4 y5, LeO (pannierlaw07_VectorSpans.j0 k y0 y1 y2 y3 y4 y5) (pannierlaw07_VectorSpans.j0 (k + 1) y0 y1 y2 y3 y4 y5)) ∧ (∀ y0 y1 y2 y3 y4 y5 y6 y7, LeO (pannierlaw07_VectorSpans.l0 k y0 y1 y2 y3 y4 y5 y6 y7) (pannierlaw07_VectorSpans.l0 (k + 1) y0 y1 y2 y3 y4 y5 y6 y7)) ∧ (∀ y0 y1 y2 y3 y4 y5 y6 y7 y8, LeO (pannierlaw07_VectorSpans.j2 k y0 y1 y2 y3 y4 y5 y6 y7 y8) (pannierlaw07_VectorSpans.j2 (k + 1) y0 y1 y2 y3 y4 y5 y6 y7 y8)) ∧ (∀ y0 y1 y2 y3 y4 y5 y6 y7 y8, LeO (pannierlaw07_VectorSpans.l1 k y0 y1 y2 y3 y4 y5 y6 y7 y8) (pannierlaw07_VectorSpans.l1 (k + 1) y0 y1 y2 y3 y4 y5 y6 y7 y8)) ∧ (∀ y0 y1 y2 y3 y4 y5 y6 y7 y8 y9 y10 y11, LeO (pannierlaw07_VectorSpans.j4 k y0 y1 y2 y3 y4 y5 y6 y7 y8 y9 y10 y11) (pannierlaw07_VectorSpans.j4 (k + 1) y0 y1 y2 y3 y4 y5 y6 y7 y8 y9 y10 y11))
  | 0 => ⟨fun _ _ _ _ _ _ r h => by simp [pannierlaw07_VectorSpans.j0] at h, fun _ _ _ _ _ _ _ _ r h => by simp [pannierlaw07_VectorSpans.l0] at h, fun _ _ _ _ _ _ _ _ _ r h => by simp [pannierlaw07_VectorSpans.j2] at h, fun _ _ _ _ _ _ _ _ _ r h => by simp [pannierlaw07_VectorSpans.l1] at h, fun _ _ _ _ _ _ _ _ _ _ _ _ r h => by simp [pannierlaw07_VectorSpans.j4] at h⟩
  | k + 1 => by
    obtain ⟨ih0, ih1, ih2, ih3, ih4⟩ := pannierlaw07_VectorSpans.mono_l k
    refine ⟨?_, ?_, ?_, ?_, ?_⟩
    · intro y0 y1 y2 y3 y4 y5
      unfold pannierlaw07_VectorSpans.j0
      repeat' first
      | (with_reducible exact ih0 _ _ _ _ _ _)
      | (with_reducible exact ih1 _ _ _ _ _ _ _ _)
      | (with_reducible exact ih2 _ _ _ _ _ _ _ _ _)
      | (with_reducible exact ih3 _ _ _ _ _ _ _ _ _)
      | (with_reducible exact ih4 _ _ _ _ _ _ _ _ _ _ _ _)
      | (with_reducible exact pannierlaw07_shown.mono _)
      | (with_reducible exact pannierref07_Same.mono _ _ _)
      | (with_reducible exact vector_Has.mono _ _ _ _)
      | (with_reducible exact vector_Join.mono _ _ _)
      | (with_reducible exact vector_Lack.mono _ _ _)
      | (with_reducible exact vector_With.mono _ _ _ _)
      | (with_reducible exact LeO.refl _)
      | (with_reducible exact LeO.none _)
      | (with_reducible refine LeO.ite ?_ ?_)
      | (with_reducible refine LeO.bind ?_ (fun _ => ?_))
      | exact ih0 _ _ _ _ _ _
      | exact ih1 _ _ _ _ _ _ _ _
      | exact ih2 _ _ _ _ _ _ _ _ _
      | exact ih3 _ _ _ _ _ _ _ _ _
      | exact ih4 _ _ _ _ _ _ _ _ _ _ _ _
      | exact pannierlaw07_shown.mono _
      | exact pannierref07_Same.mono _ _ _
      | exact vector_Has.mono _ _ _ _
      | exact vector_Join.mono _ _ _
      | exact vector_Lack.mono _ _ _
      | exact vector_With.mono _ _ _ _
      | exact LeO.none _
      | refine LeO.ite ?_ ?_
      | refine LeO.bind ?_ (fun _ => ?_)
    · intro y0 y1 y2 y3 y4 y5 y6 y7
      unfold pannierlaw07_VectorSpans.l0
      repeat' first
      | (with_reducible exact ih0 _ _ _ _ _ _)
      | (with_reducible exact ih1 _ _ _ _ _ _ _ _)
      | (with_reducible exact ih2 _ _ _ _ _ _ _ _ _)
      | (with_reducible exact ih3 _ _ _ _ _ _ _ _ _)
      | (with_reducible exact ih4 _ _ _ _ _ _ _ _ _ _ _ _)
      | (with_reducible exact pannierlaw07_shown.mono _)
      | (with_reducible exact pannierref07_Same.mono _ _ _)
      | (with_reducible exact vector_Has.mono _ _ _ _)
      | (with_reducible exact vector_Join.mono _ _ _)
      | (with_reducible exact vector_Lack.mono _ _ _)
      | (with_reducible exact vector_With.mono _ _ _ _)
      | (with_reducible exact LeO.refl _)
      | (with_reducible exact LeO.none _)
      | (with_reducible refine LeO.ite ?_ ?_)
      | (with_reducible refine LeO.bind ?_ (fun _ => ?_))
      | exact ih0 _ _ _ _ _ _
      | exact ih1 _ _ _ _ _ _ _ _
      | exact ih2 _ _ _ _ _ _ _ _ _
      | exact ih3 _ _ _ _ _ _ _ _ _
      | exact ih4 _ _ _ _ _ _ _ _ _ _ _ _
      | exact pannierlaw07_shown.mono _
      | exact pannierref07_Same.mono _ _ _
      | exact vector_Has.mono _ _ _ _
      | exact vector_Join.mono _ _ _
      | exact vector_Lack.mono _ _ _
      | exact vector_With.mono _ _ _ _
      | exact LeO.none _
      | refine LeO.ite ?_ ?_
      | refine LeO.bind ?_ (fun _ => ?_)
    · intro y0 y1 y2 y3 y4 y5 y6 y7 y8
      unfold pannierlaw07_VectorSpans.j2
      repeat' first
      | (with_reducible exact ih0 _ _ _ _ _ _)
      | (with_reducible exact ih1 _ _ _ _ _ _ _ _)
      | (with_reducible exact ih2 _ _ _ _ _ _ _ _ _)
      | (with_reducible exact ih3 _ _ _ _ _ _ _ _ _)
      | (with_reducible exact ih4 _ _ _ _ _ _ _ _ _ _ _ _)
      | (with_reducible exact pannierlaw07_shown.mono _)
      | (with_reducible exact pannierref07_Same.mono _ _ _)
      | (with_reducible exact vector_Has.mono _ _ _ _)
      | (with_reducible exact vector_Join.mono _ _ _)
      | (with_reducible exact vector_Lack.mono _ _ _)
      | (with_reducible exact vector_With.mono _ _ _ _)
      | (with_reducible exact LeO.refl _)
      | (with_reducible exact LeO.none _)
      | (with_reducible refine LeO.ite ?_ ?_)
      | (with_reducible refine LeO.bind ?_ (fun _ => ?_))
      | exact ih0 _ _ _ _ _ _
      | exact ih1 _ _ _ _ _ _ _ _
      | exact ih2 _ _ _ _ _ _ _ _ _
      | exact ih3 _ _ _ _ _ _ _ _ _
      | exact ih4 _ _ _ _ _ _ _ _ _ _ _ _
      | exact pannierlaw07_shown.mono _
      | exact pannierref07_Same.mono _ _ _
      | exact vector_Has.mono _ _ _ _
      | exact vector_Join.mono _ _ _
      | exact vector_Lack.mono _ _ _
      | exact vector_With.mono _ _ _ _
      | exact LeO.none _
      | refine LeO.ite ?_ ?_
      | refine LeO.bind ?_ (fun _ => ?_)
    · intro y0 y1 y2 y3 y4 y5 y6 y7 y8
      unfold pannierlaw07_VectorSpans.l1
      repeat' first
      | (with_reducible exact ih0 _ _ _ _ _ _)
      | (with_reducible exact ih1 _ _ _ _ _ _ _ _)
      | (with_reducible exact ih2 _ _ _ _ _ _ _ _ _)
      | (with_reducible exact ih3 _ _ _ _ _ _ _ _ _)
      | (with_reducible exact ih4 _ _ _ _ _ _ _ _ _ _ _ _)
      | (with_reducible exact pannierlaw07_shown.mono _)
      | (with_reducible exact pannierref07_Same.mono _ _ _)
      | (with_reducible exact vector_Has.mono _ _ _ _)
      | (with_reducible exact vector_Join.mono _ _ _)
      | (with_reducible exact vector_Lack.mono _ _ _)
      | (with_reducible exact vector_With.mono _ _ _ _)
      | (with_reducible exact LeO.refl _)
      | (with_reducible exact LeO.none _)
      | (with_reducible refine LeO.ite ?_ ?_)
      | (with_reducible refine LeO.bind ?_ (fun _ => ?_))
      | exact ih0 _ _ _ _ _ _
      | exact ih1 _ _ _ _ _ _ _ _
      | exact ih2 _ _ _ _ _ _ _ _ _
      | exact ih3 _ _ _ _ _ _ _ _ _
      | exact ih4 _ _ _ _ _ _ _ _ _ _ _ _
      | exact pannierlaw07_shown.mono _
      | exact pannierref07_Same.mono _ _ _
      | exact vector_Has.mono _ _ _ _
      | exact vector_Join.mono _ _ _
      | exact vector_Lack.mono _ _ _
      | exact vector_With.mono _ _ _ _
      | exact LeO.none _
      | refine LeO.ite ?_ ?_
      | refine LeO.bind ?_ (fun _ => ?_)
    · intro y0 y1 y2 y3 y4 y5 y6 y7 y8 y9 y10 y11
      unfold pannierlaw07_VectorSpans.j4
      repeat' first
      | (with_reducible exact ih0 _ _ _ _ _ _)
      | (with_reducible exact ih1 _ _ _ _ _ _ _ _)
      | (with_reducible exact ih2 _ _ _ _ _ _ _ _ _)
      | (with_reducible exact ih3 _ _ _ _ _ _ _ _ _)
      | (with_reducible exact ih4 _ _ _ _ _ _ _ _ _ _ _ _)
      | (with_reducible exact pannierlaw07_shown.mono _)
      | (with_reducible exact pannierref07_Same.mono _ _ _)
      | (with_reducible exact vector_Has.mono _ _ _ _)
      | (with_reducible exact vector_Join.mono _ _ _)
      | (with_reducible exact vector_Lack.mono _ _ _)
      | (with_reducible exact vector_With.mono _ _ _ _)
      | (with_reducible exact LeO.refl _)
      | (with_reducible exact LeO.none _)
      | (with_reducible refine LeO.ite ?_ ?_)
      | (with_reducible refine LeO.bind ?_ (fun _ => ?_))
      | exact ih0 _ _ _ _ _ _
      | exact ih1 _ _ _ _ _ _ _ _
      | exact ih2 _ _ _ _ _ _ _ _ _
      | exact ih3 _ _ _ _ _ _ _ _ _
      | exact ih4 _ _ _ _ _ _ _ _ _ _ _ _
      | exact pannierlaw07_shown.mono _
      | exact pannierref07_Same.mono _ _ _
      | exact vector_Has.mono _ _ _ _
      | exact vector_Join.mono _ _ _
      | exact vector_Lack.mono _ _ _
      | exact vector_With.mono _ _ _ _
      | exact LeO.none _
      | refine LeO.ite ?_ ?_
      | refine LeO.bind ?_ (fun _ => ?_)
theorem pannierlaw07_VectorSpans.mono : ∀ a0 a1 k, LeO (pannierlaw07_VectorSpans.f k a0 a1) (pannierlaw07_VectorSpans.f (k + 1) a0 a1) := by
  intro a0 a1 k
  obtain ⟨ih0, ih1, ih2, ih3, ih4⟩ := pannierlaw07_VectorSpans.mono_l k
  unfold pannierlaw07_VectorSpans.f
  repeat' first
      | (with_reducible exact ih0 _ _ _ _ _ _)
      | (with_reducible exact ih1 _ _ _ _ _ _ _ _)
      | (with_reducible exact ih2 _ _ _ _ _ _ _ _ _)
      | (with_reducible exact ih3 _ _ _ _ _ _ _ _ _)
      | (with_reducible exact ih4 _ _ _ _ _ _ _ _ _ _ _ _)
      | (with_reducible exact pannierlaw07_shown.mono _)
      | (with_reducible exact pannierref07_Same.mono _ _ _)
      | (with_reducible exact vector_Has.mono _ _ _ _)
      | (with_reducible exact vector_Join.mono _ _ _)
      | (with_reducible exact vector_Lack.mono _ _ _)
      | (with_reducible exact vector_With.mono _ _ _ _)
      | (with_reducible exact LeO.refl _)
      | (with_reducible exact LeO.none _)
      | (with_reducible refine LeO.ite ?_ ?_)
      | (with_reducible refine LeO.bind ?_ (fun _ => ?_))
      | exact ih0 _ _ _ _ _ _
      | exact ih1 _ _ _ _ _ _ _ _
      | exact ih2 _ _ _ _ _ _ _ _ _
      | exact ih3 _ _ _ _ _ _ _ _ _
      | exact ih4 _ _ _ _ _ _ _ _ _ _ _ _
      | exact pannierlaw07_shown.mono _
      | exact pannierref07_Same.mono _ _ _
      | exact vector_Has.mono _ _ _ _
      | exact vector_Join.mono _ _ _
      | exact vector_Lack.mono _ _ _
      | exact vector_With.mono _ _ _ _
      | exact LeO.none _
      | refine LeO.ite ?_ ?_
      | refine LeO.bind ?_ (fun _ => ?_)
set_option maxHeartbeats 8000000 in
set_option maxRecDepth 100000 in
theorem pannierlaw07_VectorSpans.calls (k : Nat) (P0_ : Nat → Prop) (A0 : Option Addr) (c0 : Nat) (l0 : List (S35)) (A1 : Option Addr) (c1 : Nat) (l1 : List (S35)) (r : Bool) (w : World) (hs0 : Kd.V k35 35 w w.heap.size (fun k_ => P0_ k_) (.slice A0 l0.length c0) l0) (hr1 : Kd.C k35 w A1 l1.length l1) (hc1 : l1.length ≤ c1) (h : pannierlaw07_VectorSpans.f k l0 l1 = some r) :
    Calls Try.prog 11 #[.slice A0 l0.length c0, .slice A1 l1.length c1] w fun e w' => e = .returned (.bool r) ∧ Below w.heap.size w w' := by
  have hu35 := Try.underlying35
  have HO0 := Aside0.mk (show Kd.V k35 35 w w.heap.size (fun k_ => (P0_ k_ ∨ w.heap.size ≤ k_)) (.slice A0 l0.length c0) l0 from Kd.V_mono hs0 (fun k_ hk => .inl hk))
  have HR1 := Aside0.mk hr1
  have HC1 := Aside0.mk hc1
  clear hr1 hc1
  have HB := Aside0.mk (Below.refl w.heap.size w)
  have H : ((pannierlaw07_shown.f k).bind fun t179 => ((vector_Lack.f k l0 l1).bind fun bt180 => ((vector_Join.f k l0 l1).bind fun bt184 => (if bt180.2 = 0 then (pannierlaw07_VectorSpans.j0 k l0 l1 t179 bt180.1 bt184.1 (bt184.2 != 0)) else (pannierlaw07_VectorSpans.j0 k l0 l1 t179 bt180.1 bt184.1 true))))) = some r := h
  clear h
  replace H := Option.bind_eq_some_iff.mp H
  obtain ⟨t179, A30, H⟩ := H
  replace H : ((vector_Lack.f k l0 l1).bind fun bt180 => ((vector_Join.f k l0 l1).bind fun bt184 => (if bt180.2 = 0 then (pannierlaw07_VectorSpans.j0 k l0 l1 t179 bt180.1 bt184.1 (bt184.2 != 0)) else (pannierlaw07_VectorSpans.j0 k l0 l1 t179 bt180.1 bt184.1 true)))) = some r := H
  have A3 := Aside0.mk A30
  clear A30
  replace H := Option.bind_eq_some_iff.mp H
  obtain ⟨⟨t180, t181⟩, A40, H⟩ := H
  replace H : ((vector_Join.f k l0 l1).bind fun bt184 => (if t181 = 0 then (pannierlaw07_VectorSpans.j0 k l0 l1 t179 t180 bt184.1 (bt184.2 != 0)) else (pannierlaw07_VectorSpans.j0 k l0 l1 t179 t180 bt184.1 true))) = some r := H
  have A4 := Aside0.mk A40
  clear A40
  replace H := Option.bind_eq_some_iff.mp H
  obtain ⟨⟨t184, t185⟩, A50, H⟩ := H
  replace H : (if t181 = 0 then (pannierlaw07_VectorSpans.j0 k l0 l1 t179 t180 t184 (t185 != 0)) else (pannierlaw07_VectorSpans.j0 k l0 l1 t179 t180 t184 true)) = some r := H
  have A5 := Aside0.mk A50
  clear A50
  have HC6 := Aside0.mk H
  clear H
  go_enter Try.func11, Try.ntmps11
  go_upto_region 4 with (first | (go_at_call 12; (with_reducible refine (pannierlaw07_shown.calls k  t179 _ A3.out).mono ?_); rintro e w7 ⟨rfl, hb⟩; have n0_ := Aside0.mk (Kd.V_below (by (with_reducible repeat (first | apply Kd.V_alloc | apply Kd.V_drewN | apply Kd.V_drew)); exact HO0.out) hb); have n1_ := Aside0.mk (below_step (by repeat (first | (with_reducible first | exact HB.out | apply below_alloc | apply pw_below_drewN | apply below_drew1) | exact HB.out)) hb); clear HO0; clear HB; have HO0 := n0_; have HB := n1_; clear n0_ n1_; (try clear hb); (try clear hb2); (try clear hk); (try clear hi)) | (go_at_call 27; (with_reducible refine (vector_Lack.calls k _ _ l0 _ _ l1 t180 t181 _ ?side1 ?side2 ?side3 ?side4 A4.out).mono ?_); (case side1 => repeat (first | exact (Kd.V_reads' HO0.out).2.2 | (with_reducible refine Kd.C_alloc ?_ _) | (with_reducible refine Kd.C_drewN ?_ _) | (with_reducible refine Kd.C_drew ?_))); (case side2 => exact (Kd.V_reads' HO0.out).2.1); (case side3 => repeat (first | exact (Kd.C_below HR1.out HB.out) | (with_reducible refine Kd.C_alloc ?_ _) | (with_reducible refine Kd.C_drewN ?_ _) | (with_reducible refine Kd.C_drew ?_))); (case side4 => exact HC1.out); rintro e w8 ⟨v182, rfl, ho0, hb⟩; have n0_ := Aside0.mk (Kd.V_elder' (by (with_reducible repeat (first | apply Kd.V_alloc | apply Kd.V_drewN | apply Kd.V_drew)); exact HO0.out) (Kd.R_base ho0) hb); have n1_ := Aside0.mk (Kd.R_lower (Kd.R_newM (M := fun k_ => (w.heap.size ≤ k_)) ho0 (below_size (by repeat (first | (with_reducible first | exact HB.out | apply below_alloc | apply pw_below_drewN | apply below_drew1) | exact HB.out))) (fun k_ h_ => h_)) (below_size (by repeat (first | (with_reducible first | exact HB.out | apply below_alloc | apply pw_below_drewN | apply below_drew1) | exact HB.out)))); have n2_ := Aside0.mk (below_step (by repeat (first | (with_reducible first | exact HB.out | apply below_alloc | apply pw_below_drewN | apply below_drew1) | exact HB.out)) hb); clear HO0; clear HB; have HO0 := n0_; have HO183 := n1_; have HB := n2_; clear n0_ n1_ n2_; (try clear hb); (try clear hb2); (try clear hk); (try clear hi); (try clear ho0)) | (go_at_call 17; (with_reducible refine (vector_Join.calls k _ _ l0 _ _ l1 t184 t185 _ ?side1 ?side2 ?side3 ?side4 A5.out).mono ?_); (case side1 => repeat (first | exact (Kd.V_reads' HO0.out).2.2 | (with_reducible refine Kd.C_alloc ?_ _) | (with_reducible refine Kd.C_drewN ?_ _) | (with_reducible refine Kd.C_drew ?_))); (case side2 => exact (Kd.V_reads' HO0.out).2.1); (case side3 => repeat (first | exact (Kd.C_below HR1.out HB.out) | (with_reducible refine Kd.C_alloc ?_ _) | (with_reducible refine Kd.C_drewN ?_ _) | (with_reducible refine Kd.C_drew ?_))); (case side4 => exact HC1.out); rintro e w9 ⟨v186, rfl, ho0, hb⟩; have n0_ := Aside0.mk (Kd.V_elder' (by (with_reducible repeat (first | apply Kd.V_alloc | apply Kd.V_drewN | apply Kd.V_drew)); exact HO0.out) (Kd.R_base ho0) hb); have n1_ := Aside0.mk (Kd.R_below (by (with_reducible repeat (first | apply Kd.R_alloc | apply Kd.R_drewN | apply Kd.R_drew)); exact HO183.out) hb); have n2_ := Aside0.mk (Kd.R_lower (Kd.R_newM (M := fun k_ => (w.heap.size ≤ k_)) ho0 (below_size (by repeat (first | (with_reducible first | exact HB.out | apply below_alloc | apply pw_below_drewN | apply below_drew1) | exact HB.out))) (fun k_ h_ => h_)) (below_size (by repeat (first | (with_reducible first | exact HB.out | apply below_alloc | apply pw_below_drewN | apply below_drew1) | exact HB.out)))); have n3_ := Aside0.mk (below_step (by repeat (first | (with_reducible first | exact HB.out | apply below_alloc | apply pw_below_drewN | apply below_drew1) | exact HB.out)) hb); clear HO0; clear HO183; clear HB; have HO0 := n0_; have HO183 := n1_; have HO187 := n2_; have HB := n3_; clear n0_ n1_ n2_ n3_; (try clear hb); (try clear hb2); (try clear hk); (try clear hi); (try clear ho0)))
  repeat (go_quiet (first | (go_at_call 12; (with_reducible refine (pannierlaw07_shown.calls k  t179 _ A3.out).mono ?_); rintro e w7 ⟨rfl, hb⟩; have n0_ := Aside0.mk (Kd.V_below (by (with_reducible repeat (first | apply Kd.V_alloc | apply Kd.V_drewN | apply Kd.V_drew)); exact HO0.out) hb); have n1_ := Aside0.mk (below_step (by repeat (first | (with_reducible first | exact HB.out | apply below_alloc | apply pw_below_drewN | apply below_drew1) | exact HB.out)) hb); clear HO0; clear HB; have HO0 := n0_; have HB := n1_; clear n0_ n1_; (try clear hb); (try clear hb2); (try clear hk); (try clear hi)) | (go_at_call 27; (with_reducible refine (vector_Lack.calls k _ _ l0 _ _ l1 t180 t181 _ ?side1 ?side2 ?side3 ?side4 A4.out).mono ?_); (case side1 => repeat (first | exact (Kd.V_reads' HO0.out).2.2 | (with_reducible refine Kd.C_alloc ?_ _) | (with_reducible refine Kd.C_drewN ?_ _) | (with_reducible refine Kd.C_drew ?_))); (case side2 => exact (Kd.V_reads' HO0.out).2.1); (case side3 => repeat (first | exact (Kd.C_below HR1.out HB.out) | (with_reducible refine Kd.C_alloc ?_ _) | (with_reducible refine Kd.C_drewN ?_ _) | (with_reducible refine Kd.C_drew ?_))); (case side4 => exact HC1.out); rintro e w8 ⟨v182, rfl, ho0, hb⟩; have n0_ := Aside0.mk (Kd.V_elder' (by (with_reducible repeat (first | apply Kd.V_alloc | apply Kd.V_drewN | apply Kd.V_drew)); exact HO0.out) (Kd.R_base ho0) hb); have n1_ := Aside0.mk (Kd.R_lower (Kd.R_newM (M := fun k_ => (w.heap.size ≤ k_)) ho0 (below_size (by repeat (first | (with_reducible first | exact HB.out | apply below_alloc | apply pw_below_drewN | apply below_drew1) | exact HB.out))) (fun k_ h_ => h_)) (below_size (by repeat (first | (with_reducible first | exact HB.out | apply below_alloc | apply pw_below_drewN | apply below_drew1) | exact HB.out)))); have n2_ := Aside0.mk (below_step (by repeat (first | (with_reducible first | exact HB.out | apply below_alloc | apply pw_below_drewN | apply below_drew1) | exact HB.out)) hb); clear HO0; clear HB; have HO0 := n0_; have HO183 := n1_; have HB := n2_; clear n0_ n1_ n2_; (try clear hb); (try clear hb2); (try clear hk); (try clear hi); (try clear ho0)) | (go_at_call 17; (with_reducible refine (vector_Join.calls k _ _ l0 _ _ l1 t184 t185 _ ?side1 ?side2 ?side3 ?side4 A5.out).mono ?_); (case side1 => repeat (first | exact (Kd.V_reads' HO0.out).2.2 | (with_reducible refine Kd.C_alloc ?_ _) | (with_reducible refine Kd.C_drewN ?_ _) | (with_reducible refine Kd.C_drew ?_))); (case side2 => exact (Kd.V_reads' HO0.out).2.1); (case side3 => repeat (first | exact (Kd.C_below HR1.out HB.out) | (with_reducible refine Kd.C_alloc ?_ _) | (with_reducible refine Kd.C_drewN ?_ _) | (with_reducible refine Kd.C_drew ?_))); (case side4 => exact HC1.out); rintro e w9 ⟨v186, rfl, ho0, hb⟩; have n0_ := Aside0.mk (Kd.V_elder' (by (with_reducible repeat (first | apply Kd.V_alloc | apply Kd.V_drewN | apply Kd.V_drew)); exact HO0.out) (Kd.R_base ho0) hb); have n1_ := Aside0.mk (Kd.R_below (by (with_reducible repeat (first | apply Kd.R_alloc | apply Kd.R_drewN | apply Kd.R_drew)); exact HO183.out) hb); have n2_ := Aside0.mk (Kd.R_lower (Kd.R_newM (M := fun k_ => (w.heap.size ≤ k_)) ho0 (below_size (by repeat (first | (with_reducible first | exact HB.out | apply below_alloc | apply pw_below_drewN | apply below_drew1) | exact HB.out))) (fun k_ h_ => h_)) (below_size (by repeat (first | (with_reducible first | exact HB.out | apply below_alloc | apply pw_below_drewN | apply below_drew1) | exact HB.out)))); have n3_ := Aside0.mk (below_step (by repeat (first | (with_reducible first | exact HB.out | apply below_alloc | apply pw_below_drewN | apply below_drew1) | exact HB.out)) hb); clear HO0; clear HO183; clear HB; have HO0 := n0_; have HO183 := n1_; have HO187 := n2_; have HB := n3_; clear n0_ n1_ n2_ n3_; (try clear hb); (try clear hb2); (try clear hk); (try clear hi); (try clear ho0))); go_upto_region 4 with (first | (go_at_call 12; (with_reducible refine (pannierlaw07_shown.calls k  t179 _ A3.out).mono ?_); rintro e w7 ⟨rfl, hb⟩; have n0_ := Aside0.mk (Kd.V_below (by (with_reducible repeat (first | apply Kd.V_alloc | apply Kd.V_drewN | apply Kd.V_drew)); exact HO0.out) hb); have n1_ := Aside0.mk (below_step (by repeat (first | (with_reducible first | exact HB.out | apply below_alloc | apply pw_below_drewN | apply below_drew1) | exact HB.out)) hb); clear HO0; clear HB; have HO0 := n0_; have HB := n1_; clear n0_ n1_; (try clear hb); (try clear hb2); (try clear hk); (try clear hi)) | (go_at_call 27; (with_reducible refine (vector_Lack.calls k _ _ l0 _ _ l1 t180 t181 _ ?side1 ?side2 ?side3 ?side4 A4.out).mono ?_); (case side1 => repeat (first | exact (Kd.V_reads' HO0.out).2.2 | (with_reducible refine Kd.C_alloc ?_ _) | (with_reducible refine Kd.C_drewN ?_ _) | (with_reducible refine Kd.C_drew ?_))); (case side2 => exact (Kd.V_reads' HO0.out).2.1); (case side3 => repeat (first | exact (Kd.C_below HR1.out HB.out) | (with_reducible refine Kd.C_alloc ?_ _) | (with_reducible refine Kd.C_drewN ?_ _) | (with_reducible refine Kd.C_drew ?_))); (case side4 => exact HC1.out); rintro e w8 ⟨v182, rfl, ho0, hb⟩; have n0_ := Aside0.mk (Kd.V_elder' (by (with_reducible repeat (first | apply Kd.V_alloc | apply Kd.V_drewN | apply Kd.V_drew)); exact HO0.out) (Kd.R_base ho0) hb); have n1_ := Aside0.mk (Kd.R_lower (Kd.R_newM (M := fun k_ => (w.heap.size ≤ k_)) ho0 (below_size (by repeat (first | (with_reducible first | exact HB.out | apply below_alloc | apply pw_below_drewN | apply below_drew1) | exact HB.out))) (fun k_ h_ => h_)) (below_size (by repeat (first | (with_reducible first | exact HB.out | apply below_alloc | apply pw_below_drewN | apply below_drew1) | exact HB.out)))); have n2_ := Aside0.mk (below_step (by repeat (first | (with_reducible first | exact HB.out | apply below_alloc | apply pw_below_drewN | apply below_drew1) | exact HB.out)) hb); clear HO0; clear HB; have HO0 := n0_; have HO183 := n1_; have HB := n2_; clear n0_ n1_ n2_; (try clear hb); (try clear hb2); (try clear hk); (try clear hi); (try clear ho0)) | (go_at_call 17; (with_reducible refine (vector_Join.calls k _ _ l0 _ _ l1 t184 t185 _ ?side1 ?side2 ?side3 ?side4 A5.out).mono ?_); (case side1 => repeat (first | exact (Kd.V_reads' HO0.out).2.2 | (with_reducible refine Kd.C_alloc ?_ _) | (with_reducible refine Kd.C_drewN ?_ _) | (with_reducible refine Kd.C_drew ?_))); (case side2 => exact (Kd.V_reads' HO0.out).2.1); (case side3 => repeat (first | exact (Kd.C_below HR1.out HB.out) | (with_reducible refine Kd.C_alloc ?_ _) | (with_reducible refine Kd.C_drewN ?_ _) | (with_reducible refine Kd.C_drew ?_))); (case side4 => exact HC1.out); rintro e w9 ⟨v186, rfl, ho0, hb⟩; have n0_ := Aside0.mk (Kd.V_elder' (by (with_reducible repeat (first | apply Kd.V_alloc | apply Kd.V_drewN | apply Kd.V_drew)); exact HO0.out) (Kd.R_base ho0) hb); have n1_ := Aside0.mk (Kd.R_below (by (with_reducible repeat (first | apply Kd.R_alloc | apply Kd.R_drewN | apply Kd.R_drew)); exact HO183.out) hb); have n2_ := Aside0.mk (Kd.R_lower (Kd.R_newM (M := fun k_ => (w.heap.size ≤ k_)) ho0 (below_size (by repeat (first | (with_reducible first | exact HB.out | apply below_alloc | apply pw_below_drewN | apply below_drew1) | exact HB.out))) (fun k_ h_ => h_)) (below_size (by repeat (first | (with_reducible first | exact HB.out | apply below_alloc | apply pw_below_drewN | apply below_drew1) | exact HB.out)))); have n3_ := Aside0.mk (below_step (by repeat (first | (with_reducible first | exact HB.out | apply below_alloc | apply pw_below_drewN | apply below_drew1) | exact HB.out)) hb); clear HO0; clear HO183; clear HB; have HO0 := n0_; have HO183 := n1_; have HO187 := n2_; have HB := n3_; clear n0_ n1_ n2_ n3_; (try clear hb); (try clear hb2); (try clear hk); (try clear hi); (try clear ho0))))
  (try simp only [Act.put, List.setIfInBounds_toArray, List.set_cons_zero, List.set_cons_succ])
  go_cut [35] (fun v35 wc => ∃ (kq : Nat) (x35_5 : Bool), v35 = .bool x35_5 ∧ Aside0 (pannierlaw07_VectorSpans.j0 kq l0 l1 t179 t180 t184 x35_5 = some r) ∧ Aside0 (kq ≤ k) ∧ Aside0 (Kd.V k35 35 wc w.heap.size (fun k_ => (P0_ k_ ∨ w.heap.size ≤ k_) ∧ some k_ ≠ (v182 : Value).ownBlock ∧ some k_ ≠ (v186 : Value).ownBlock) (.slice A0 l0.length c0) l0) ∧ Aside0 (Kd.R k52 52 wc w.heap.size (fun k_ => (w.heap.size ≤ k_)) v182 t180) ∧ Aside0 (Kd.R k35 35 wc w.heap.size (fun k_ => (w.heap.size ≤ k_)) v186 t184) ∧ Aside0 (Below w.heap.size w wc))
  case first =>
    have H := HC6.out
    clear HC6
    by_cases c10 : t181 = 0
    · rw [if_pos c10] at H
      have c10b0 : (t181 == 0) = true := beq_iff_eq.mpr c10
      have c10b1 : (t181 != 0) = false := bne_eq_false_iff_eq.mpr c10
      clear c10
      (first | rw [c10b0] | (simp only [i64_w, i32_w]; rw [c10b0]) | skip)
      have H' := Aside0.mk H
      clear H
      go_wp2
      repeat (go_quiet (fail); try go_wp2)
      go_meet
      case rel => exact ⟨_, ((t185 != 0)), (by first | rfl | (simp; done) | (simp [*]; done)), H', ⟨by first | omega | exact Nat.le_refl _⟩, ⟨by (with_reducible repeat (first | apply Kd.V_alloc | apply Kd.V_drewN | apply Kd.V_drew)); exact Kd.V_mono HO0.out (fun _ hk => ⟨hk.1.1, ⟨hk.1.2, hk.2⟩⟩)⟩, ⟨by (with_reducible repeat (first | apply Kd.R_alloc | apply Kd.R_drewN | apply Kd.R_drew)); exact Kd.R_mono HO183.out (fun _ hk => hk.1)⟩, ⟨by (with_reducible repeat (first | apply Kd.R_alloc | apply Kd.R_drewN | apply Kd.R_drew)); exact Kd.R_mono HO187.out (fun _ hk => hk.1)⟩, ⟨by repeat (first | (with_reducible first | exact HB.out | apply below_alloc | apply pw_below_drewN | apply below_drew1) | exact HB.out)⟩⟩
    · rw [if_neg c10] at H
      have c10b0 : (t181 == 0) = false := beq_eq_false_iff_ne.mpr c10
      have c10b1 : (t181 != 0) = true := bne_iff_ne.mpr c10
      (first | rw [c10b0] | (simp only [i64_w, i32_w]; rw [c10b0]) | skip)
      have H' := Aside0.mk H
      clear H
      go_wp2
      repeat (go_quiet (fail); try go_wp2)
      go_meet
      case rel => exact ⟨_, (true), (by first | rfl | (simp; done) | (simp [*]; done)), H', ⟨by first | omega | exact Nat.le_refl _⟩, ⟨by (with_reducible repeat (first | apply Kd.V_alloc | apply Kd.V_drewN | apply Kd.V_drew)); exact Kd.V_mono HO0.out (fun _ hk => ⟨hk.1.1, ⟨hk.1.2, hk.2⟩⟩)⟩, ⟨by (with_reducible repeat (first | apply Kd.R_alloc | apply Kd.R_drewN | apply Kd.R_drew)); exact Kd.R_mono HO183.out (fun _ hk => hk.1)⟩, ⟨by (with_reducible repeat (first | apply Kd.R_alloc | apply Kd.R_drewN | apply Kd.R_drew)); exact Kd.R_mono HO187.out (fun _ hk => hk.1)⟩, ⟨by repeat (first | (with_reducible first | exact HB.out | apply below_alloc | apply pw_below_drewN | apply below_drew1) | exact HB.out)⟩⟩
  case rest =>
    clear HC6
    try clear c1
    try clear p2
    try clear c10
    try clear c10b0
    try clear c10b1
    obtain ⟨kq, x35_5, rfl, HA, HJ5, HO_0, HO_6, HO_8, HB⟩ := hcut
    cases kq with
    | zero => exact absurd HA.out (by simp [pannierlaw07_VectorSpans.j0])
    | succ kj5 =>
      have H := HA.out
      clear HA
      simp only [pannierlaw07_VectorSpans.j0] at H
      by_cases c11 : x35_5 = true
      · subst c11
        have H1 : (some t179) = some r := by rw [if_pos rfl] at H; exact H
        clear H
        have H := H1
        clear H1
        obtain rfl := Option.some.inj H
        go_wp2
        repeat (go_quiet (fail); try go_wp2)
        go_ret
        exact ⟨by first | rfl | (simp [errW_none, errW_some] <;> rfl) | (simp [*, errW_none, errW_some] <;> rfl), by repeat (first | (with_reducible first | exact HB.out | apply below_alloc | apply pw_below_drewN | apply below_drew1) | exact HB.out)⟩
      · replace c11 := Bool.eq_false_iff.mpr c11
        subst c11
        have H1 : (pannierlaw07_VectorSpans.l0 kj5 l0 l1 t179 t180 t184 l0 500 0) = some r := by rw [if_neg (show ¬ (false = true) by decide)] at H; exact H
        clear H
        have H := H1
        clear H1
        have H' := Aside0.mk H
        clear H
        go_wp2
        repeat (go_quiet (fail); try go_wp2)
        go_loopg [10, 11, 12] kj5 (fun kq v10 v11 v12 w' => ∃ (x10_2 : List (S35)) (x11_2 : Int) (x12_2 : Int), v11 = .int .i64 x11_2 ∧ v12 = .int .i64 x12_2 ∧ Aside0 (pannierlaw07_VectorSpans.l0 kq l0 l1 t179 t180 t184 x10_2 x11_2 x12_2 = some r) ∧ Aside0 (kq ≤ kj5) ∧ Aside0 (Kd.V k35 35 w' w.heap.size (fun k_ => (P0_ k_ ∨ w.heap.size ≤ k_) ∧ some k_ ≠ (v182 : Value).ownBlock ∧ some k_ ≠ (v186 : Value).ownBlock) (.slice A0 l0.length c0) l0) ∧ Aside0 (Kd.R k52 52 w' w.heap.size (fun k_ => (w.heap.size ≤ k_)) v182 t180) ∧ Aside0 (Kd.R k35 35 w' w.heap.size (fun k_ => (w.heap.size ≤ k_)) v186 t184) ∧ Aside0 (Kd.V k35 35 w' w.heap.size (fun k_ => (P0_ k_ ∨ w.heap.size ≤ k_) ∧ some k_ ≠ (v182 : Value).ownBlock ∧ some k_ ≠ (v186 : Value).ownBlock) v10 x10_2) ∧ Aside0 (Below w.heap.size w w'))
        case atStart => exact ⟨(l0), (500), (0), (by first | rfl | (simp; done) | (simp [*]; done)), (by first | rfl | (simp; done) | (simp [*]; done)), H', ⟨Nat.le_refl _⟩, ⟨by (with_reducible repeat (first | apply Kd.V_alloc | apply Kd.V_drewN | apply Kd.V_drew)); exact HO_0.out⟩, ⟨by (with_reducible repeat (first | apply Kd.R_alloc | apply Kd.R_drewN | apply Kd.R_drew)); exact HO_6.out⟩, ⟨by (with_reducible repeat (first | apply Kd.R_alloc | apply Kd.R_drewN | apply Kd.R_drew)); exact HO_8.out⟩, ⟨by (with_reducible repeat (first | apply Kd.V_alloc | apply Kd.V_drewN | apply Kd.V_drew)); exact HO_0.out⟩, ⟨by repeat (first | (with_reducible first | exact HB.out | apply below_alloc | apply pw_below_drewN | apply below_drew1) | exact HB.out)⟩⟩
        case round =>
          clear H'
          try clear c1
          try clear p2
          try clear c10
          try clear c10b0
          try clear c10b1
          try clear c11
          try clear p2
          obtain ⟨x10_2, x11_2, x12_2, rfl, rfl, HA, HK2, HO_0, HO_6, HO_8, HO_10, HB⟩ := hrel
          cases gk with
          | zero => exact absurd HA.out (by simp [pannierlaw07_VectorSpans.l0])
          | succ k2 =>
            have H := HA.out
            clear HA
            simp only [pannierlaw07_VectorSpans.l0] at H
            by_cases c12 : x12_2 < (t180.length : Int)
            · rw [if_pos c12] at H
              have c12b0 : decide (x12_2 < (t180.length : Int)) = true := decide_eq_true c12
              clear c12
              have HC13 := Aside0.mk H
              clear H
              obtain ⟨Ao14, co14, eo14⟩ := Kd.R_slice HO_6.out
              subst eo14
              go_upto_region 11 with (fail)
              repeat (go_quiet (fail); go_upto_region 11 with (fail))
              go_cut [69] (fun v69 wc => ∃ (kq : Nat) (x69_12 : Bool), v69 = .bool x69_12 ∧ Aside0 (pannierlaw07_VectorSpans.j2 kq l0 l1 t179 t180 t184 x10_2 x11_2 x12_2 x69_12 = some r) ∧ Aside0 (kq ≤ k2) ∧ Aside0 (Kd.V k35 35 wc w.heap.size (fun k_ => (P0_ k_ ∨ w.heap.size ≤ k_) ∧ some k_ ≠ ((.slice Ao14 t180.length co14) : Value).ownBlock ∧ some k_ ≠ (v186 : Value).ownBlock) (.slice A0 l0.length c0) l0) ∧ Aside0 (Kd.R k52 52 wc w.heap.size (fun k_ => (w.heap.size ≤ k_)) (.slice Ao14 t180.length co14) t180) ∧ Aside0 (Kd.R k35 35 wc w.heap.size (fun k_ => (w.heap.size ≤ k_)) v186 t184) ∧ Aside0 (Kd.V k35 35 wc w.heap.size (fun k_ => (P0_ k_ ∨ w.heap.size ≤ k_) ∧ some k_ ≠ ((.slice Ao14 t180.length co14) : Value).ownBlock ∧ some k_ ≠ (v186 : Value).ownBlock) u10 x10_2) ∧ Aside0 (Below w.heap.size w wc))
              case first =>
                have H := HC13.out
                clear HC13
                by_cases c15 : 0 ≤ x12_2
                · rw [if_pos c15] at H
                  have c15b0 : decide (0 ≤ x12_2) = true := decide_eq_true c15
                  clear c15
                  (first | rw [c15b0] | (simp only [i64_w, i32_w]; rw [c15b0]) | skip)
                  by_cases c16 : ((rd_T52 t180 x12_2).f1) > ((rd_T52 t180 x12_2).f2)
                  · rw [if_pos c16] at H
                    have c16b0 : decide (((rd_T52 t180 x12_2).f2) < ((rd_T52 t180 x12_2).f1)) = true := decide_eq_true c16
                    clear c16
                    have H' := Aside0.mk H
                    clear H
                    have p189 : 0 ≤ (x12_2 : Int) := of_decide_eq_true (by first | (with_reducible assumption) | assumption)
                    have q189 : x12_2 < (t180.length : Int) := of_decide_eq_true (by first | (with_reducible assumption) | assumption)
                    obtain ⟨ad189, e189, hx189_0, hx189_1, hx189_2⟩ := at_T52 (Kd.R_reads' HO_6.out).2.2 x12_2 p189 q189
                    cases e189
                    replace p189 := eq_true p189
                    replace q189 := eq_true q189
                    have p190 : 0 ≤ (x12_2 : Int) := of_decide_eq_true (by first | (with_reducible assumption) | assumption)
                    have q190 : x12_2 < (t180.length : Int) := of_decide_eq_true (by first | (with_reducible assumption) | assumption)
                    obtain ⟨ad190, e190, hx190_0, hx190_1, hx190_2⟩ := at_T52 (Kd.R_reads' HO_6.out).2.2 x12_2 p190 q190
                    obtain rfl : ad189 = ad190 := (by injection e190)
                    replace p190 := eq_true p190
                    replace q190 := eq_true q190
                    go_wp2
                    repeat (go_quiet (fail); try go_wp2)
                    go_meet
                    case rel => exact ⟨_, (true), (by first | rfl | (simp; done) | (simp [*]; done)), H', ⟨by have := HJ5.out; have := HK2.out; first | omega | exact Nat.le_refl _⟩, ⟨by (with_reducible repeat (first | apply Kd.V_alloc | apply Kd.V_drewN | apply Kd.V_drew)); exact HO_0.out⟩, ⟨by (with_reducible repeat (first | apply Kd.R_alloc | apply Kd.R_drewN | apply Kd.R_drew)); exact HO_6.out⟩, ⟨by (with_reducible repeat (first | apply Kd.R_alloc | apply Kd.R_drewN | apply Kd.R_drew)); exact HO_8.out⟩, ⟨by (with_reducible repeat (first | apply Kd.V_alloc | apply Kd.V_drewN | apply Kd.V_drew)); exact HO_10.out⟩, ⟨by repeat (first | (with_reducible first | exact HB.out | apply below_alloc | apply pw_below_drewN | apply below_drew1) | exact HB.out)⟩⟩
                  · rw [if_neg c16] at H
                    have c16b0 : decide (((rd_T52 t180 x12_2).f2) < ((rd_T52 t180 x12_2).f1)) = false := decide_eq_false c16
                    clear c16
                    have H' := Aside0.mk H
                    clear H
                    have p189 : 0 ≤ (x12_2 : Int) := of_decide_eq_true (by first | (with_reducible assumption) | assumption)
                    have q189 : x12_2 < (t180.length : Int) := of_decide_eq_true (by first | (with_reducible assumption) | assumption)
                    obtain ⟨ad189, e189, hx189_0, hx189_1, hx189_2⟩ := at_T52 (Kd.R_reads' HO_6.out).2.2 x12_2 p189 q189
                    cases e189
                    replace p189 := eq_true p189
                    replace q189 := eq_true q189
                    have p190 : 0 ≤ (x12_2 : Int) := of_decide_eq_true (by first | (with_reducible assumption) | assumption)
                    have q190 : x12_2 < (t180.length : Int) := of_decide_eq_true (by first | (with_reducible assumption) | assumption)
                    obtain ⟨ad190, e190, hx190_0, hx190_1, hx190_2⟩ := at_T52 (Kd.R_reads' HO_6.out).2.2 x12_2 p190 q190
                    obtain rfl : ad189 = ad190 := (by injection e190)
                    replace p190 := eq_true p190
                    replace q190 := eq_true q190
                    have p191 : 0 ≤ (x12_2 : Int) := of_decide_eq_true (by first | (with_reducible assumption) | assumption)
                    have q191 : x12_2 < (t180.length : Int) := of_decide_eq_true (by first | (with_reducible assumption) | assumption)
                    obtain ⟨ad191, e191, hx191_0, hx191_1, hx191_2⟩ := at_T52 (Kd.R_reads' HO_6.out).2.2 x12_2 p191 q191
                    obtain rfl : ad189 = ad191 := (by injection e191)
                    replace p191 := eq_true p191
                    replace q191 := eq_true q191
                    have p192 : 0 ≤ (x12_2 : Int) := of_decide_eq_true (by first | (with_reducible assumption) | assumption)
                    have q192 : x12_2 < (t180.length : Int) := of_decide_eq_true (by first | (with_reducible assumption) | assumption)
                    obtain ⟨ad192, e192, hx192_0, hx192_1, hx192_2⟩ := at_T52 (Kd.R_reads' HO_6.out).2.2 x12_2 p192 q192
                    obtain rfl : ad189 = ad192 := (by injection e192)
                    replace p192 := eq_true p192
                    replace q192 := eq_true q192
                    go_wp2
                    repeat (go_quiet (fail); try go_wp2)
                    go_meet
                    case rel => exact ⟨_, (decide ((wrap64 (((rd_T52 t180 x12_2).f2) - ((rd_T52 t180 x12_2).f1))) ≥ x11_2)), (by first | rfl | (simp; done) | (simp [*]; done)), H', ⟨by have := HJ5.out; have := HK2.out; first | omega | exact Nat.le_refl _⟩, ⟨by (with_reducible repeat (first | apply Kd.V_alloc | apply Kd.V_drewN | apply Kd.V_drew)); exact HO_0.out⟩, ⟨by (with_reducible repeat (first | apply Kd.R_alloc | apply Kd.R_drewN | apply Kd.R_drew)); exact HO_6.out⟩, ⟨by (with_reducible repeat (first | apply Kd.R_alloc | apply Kd.R_drewN | apply Kd.R_drew)); exact HO_8.out⟩, ⟨by (with_reducible repeat (first | apply Kd.V_alloc | apply Kd.V_drewN | apply Kd.V_drew)); exact HO_10.out⟩, ⟨by repeat (first | (with_reducible first | exact HB.out | apply below_alloc | apply pw_below_drewN | apply below_drew1) | exact HB.out)⟩⟩
                · rw [if_neg c15] at H
                  exact absurd H (by simp)
              case rest =>
                clear HC13
                try clear c1
                try clear p1
                try clear q1
                try clear hx1
                try clear p2
                try clear p6
                try clear c10
                try clear c10b0
                try clear c10b1
                try clear c11
                try clear c12
                try clear c12b0
                try clear c15
                try clear c15b0
                try clear c16
                try clear c16b0
                try clear hx189_0
                try clear hx189_1
                try clear hx189_2
                try clear hx190_0
                try clear hx190_1
                try clear hx190_2
                try clear hx191_0
                try clear hx191_1
                try clear hx191_2
                try clear hx192_0
                try clear hx192_1
                try clear hx192_2
                try clear p189
                try clear p190
                try clear p191
                try clear p192
                try clear p2
                try clear q189
                try clear q190
                try clear q191
                try clear q192
                obtain ⟨kq, x69_12, rfl, HA, HJ12, HO_0, HO_6, HO_8, HO_10, HB⟩ := hcut
                cases kq with
                | zero => exact absurd HA.out (by simp [pannierlaw07_VectorSpans.j2])
                | succ kj12 =>
                  have H := HA.out
                  clear HA
                  simp only [pannierlaw07_VectorSpans.j2] at H
                  by_cases c17 : x69_12 = true
                  · subst c17
                    have H1 : (if t179 = true then (if 0 ≤ x12_2 then (if x12_2 < (t180.length : Int) then (some (decide (((rd_T52 t180 x12_2).f1) ≤ ((rd_T52 t180 x12_2).f2)))) else (none)) else (none)) else (some false)) = some r := by rw [if_pos rfl] at H; exact H
                    clear H
                    have H := H1
                    clear H1
                    by_cases c18 : t179 = true
                    · subst c18
                      have H1 : (if 0 ≤ x12_2 then (if x12_2 < (t180.length : Int) then (some (decide (((rd_T52 t180 x12_2).f1) ≤ ((rd_T52 t180 x12_2).f2)))) else (none)) else (none)) = some r := by rw [if_pos rfl] at H; exact H
                      clear H
                      have H := H1
                      clear H1
                      by_cases c19 : 0 ≤ x12_2
                      · rw [if_pos c19] at H
                        have c19b0 : decide (0 ≤ x12_2) = true := decide_eq_true c19
                        clear c19
                        by_cases c20 : x12_2 < (t180.length : Int)
                        · rw [if_pos c20] at H
                          have c20b0 : decide (x12_2 < (t180.length : Int)) = true := decide_eq_true c20
                          clear c20
                          obtain rfl := Option.some.inj H
                          have p193 : 0 ≤ (x12_2 : Int) := of_decide_eq_true (by first | (with_reducible assumption) | assumption)
                          have q193 : x12_2 < (t180.length : Int) := of_decide_eq_true (by first | (with_reducible assumption) | assumption)
                          obtain ⟨ad193, e193, hx193_0, hx193_1, hx193_2⟩ := at_T52 (Kd.R_reads' HO_6.out).2.2 x12_2 p193 q193
                          cases e193
                          replace p193 := eq_true p193
                          replace q193 := eq_true q193
                          have p194 : 0 ≤ (x12_2 : Int) := of_decide_eq_true (by first | (with_reducible assumption) | assumption)
                          have q194 : x12_2 < (t180.length : Int) := of_decide_eq_true (by first | (with_reducible assumption) | assumption)
                          obtain ⟨ad194, e194, hx194_0, hx194_1, hx194_2⟩ := at_T52 (Kd.R_reads' HO_6.out).2.2 x12_2 p194 q194
                          obtain rfl : ad193 = ad194 := (by injection e194)
                          replace p194 := eq_true p194
                          replace q194 := eq_true q194
                          go_wp2
                          repeat (go_quiet (fail); try go_wp2)
                          go_ret
                          exact ⟨by first | rfl | (simp [errW_none, errW_some] <;> rfl) | (simp [*, errW_none, errW_some] <;> rfl), by repeat (first | (with_reducible first | exact HB.out | apply below_alloc | apply pw_below_drewN | apply below_drew1) | exact HB.out)⟩
                        · rw [if_neg c20] at H
                          exact absurd H (by simp)
                      · rw [if_neg c19] at H
                        exact absurd H (by simp)
                    · replace c18 := Bool.eq_false_iff.mpr c18
                      subst c18
                      have H1 : (some false) = some r := by rw [if_neg (show ¬ (false = true) by decide)] at H; exact H
                      clear H
                      have H := H1
                      clear H1
                      obtain rfl := Option.some.inj H
                      go_wp2
                      repeat (go_quiet (fail); try go_wp2)
                      go_ret
                      exact ⟨by first | rfl | (simp [errW_none, errW_some] <;> rfl) | (simp [*, errW_none, errW_some] <;> rfl), by repeat (first | (with_reducible first | exact HB.out | apply below_alloc | apply pw_below_drewN | apply below_drew1) | exact HB.out)⟩
                  · replace c17 := Bool.eq_false_iff.mpr c17
                    subst c17
                    have H1 : (if 0 ≤ x12_2 then (if x12_2 < (t180.length : Int) then (pannierlaw07_VectorSpans.l1 kj12 l0 l1 t179 t180 t184 x10_2 (wrap64 ((wrap64 (x11_2 - (wrap64 (((rd_T52 t180 x12_2).f2) - ((rd_T52 t180 x12_2).f1))))) - 1)) x12_2 ((rd_T52 t180 x12_2).f1)) else (none)) else (none)) = some r := by rw [if_neg (show ¬ (false = true) by decide)] at H; exact H
                    clear H
                    have H := H1
                    clear H1
                    by_cases c21 : 0 ≤ x12_2
                    · rw [if_pos c21] at H
                      have c21b0 : decide (0 ≤ x12_2) = true := decide_eq_true c21
                      clear c21
                      by_cases c22 : x12_2 < (t180.length : Int)
                      · rw [if_pos c22] at H
                        have c22b0 : decide (x12_2 < (t180.length : Int)) = true := decide_eq_true c22
                        clear c22
                        have H' := Aside0.mk H
                        clear H
                        have p195 : 0 ≤ (x12_2 : Int) := of_decide_eq_true (by first | (with_reducible assumption) | assumption)
                        have q195 : x12_2 < (t180.length : Int) := of_decide_eq_true (by first | (with_reducible assumption) | assumption)
                        obtain ⟨ad195, e195, hx195_0, hx195_1, hx195_2⟩ := at_T52 (Kd.R_reads' HO_6.out).2.2 x12_2 p195 q195
                        cases e195
                        replace p195 := eq_true p195
                        replace q195 := eq_true q195
                        have p196 : 0 ≤ (x12_2 : Int) := of_decide_eq_true (by first | (with_reducible assumption) | assumption)
                        have q196 : x12_2 < (t180.length : Int) := of_decide_eq_true (by first | (with_reducible assumption) | assumption)
                        obtain ⟨ad196, e196, hx196_0, hx196_1, hx196_2⟩ := at_T52 (Kd.R_reads' HO_6.out).2.2 x12_2 p196 q196
                        obtain rfl : ad195 = ad196 := (by injection e196)
                        replace p196 := eq_true p196
                        replace q196 := eq_true q196
                        have p197 : 0 ≤ (x12_2 : Int) := of_decide_eq_true (by first | (with_reducible assumption) | assumption)
                        have q197 : x12_2 < (t180.length : Int) := of_decide_eq_true (by first | (with_reducible assumption) | assumption)
                        obtain ⟨ad197, e197, hx197_0, hx197_1, hx197_2⟩ := at_T52 (Kd.R_reads' HO_6.out).2.2 x12_2 p197 q197
                        obtain rfl : ad195 = ad197 := (by injection e197)
                        replace p197 := eq_true p197
                        replace q197 := eq_true q197
                        go_wp2
                        repeat (go_quiet (fail); try go_wp2)
                        go_loopg [10, 13] kj12 (fun kq v10 v13 w' => ∃ (x10_4 : List (S35)) (x13_4 : Int), v13 = .int .i64 x13_4 ∧ Aside0 (pannierlaw07_VectorSpans.l1 kq l0 l1 t179 t180 t184 x10_4 (wrap64 ((wrap64 (x11_2 - (wrap64 (((rd_T52 t180 x12_2).f2) - ((rd_T52 t180 x12_2).f1))))) - 1)) x12_2 x13_4 = some r) ∧ Aside0 (kq ≤ kj12) ∧ Aside0 (Kd.V k35 35 w' w.heap.size (fun k_ => (P0_ k_ ∨ w.heap.size ≤ k_) ∧ some k_ ≠ ((.slice (some ad195) t180.length co14) : Value).ownBlock ∧ some k_ ≠ (v186 : Value).ownBlock) (.slice A0 l0.length c0) l0) ∧ Aside0 (Kd.R k52 52 w' w.heap.size (fun k_ => (w.heap.size ≤ k_)) (.slice (some ad195) t180.length co14) t180) ∧ Aside0 (Kd.R k35 35 w' w.heap.size (fun k_ => (w.heap.size ≤ k_)) v186 t184) ∧ Aside0 (Kd.V k35 35 w' w.heap.size (fun k_ => (P0_ k_ ∨ w.heap.size ≤ k_) ∧ some k_ ≠ ((.slice (some ad195) t180.length co14) : Value).ownBlock ∧ some k_ ≠ (v186 : Value).ownBlock) v10 x10_4) ∧ Aside0 (Below w.heap.size w w'))
                        case atStart => exact ⟨(x10_2), ((rd_T52 t180 x12_2).f1), (by first | rfl | (simp; done) | (simp [*]; done)), H', ⟨Nat.le_refl _⟩, ⟨by (with_reducible repeat (first | apply Kd.V_alloc | apply Kd.V_drewN | apply Kd.V_drew)); exact HO_0.out⟩, ⟨by (with_reducible repeat (first | apply Kd.R_alloc | apply Kd.R_drewN | apply Kd.R_drew)); exact HO_6.out⟩, ⟨by (with_reducible repeat (first | apply Kd.R_alloc | apply Kd.R_drewN | apply Kd.R_drew)); exact HO_8.out⟩, ⟨by (with_reducible repeat (first | apply Kd.V_alloc | apply Kd.V_drewN | apply Kd.V_drew)); exact HO_10.out⟩, ⟨by repeat (first | (with_reducible first | exact HB.out | apply below_alloc | apply pw_below_drewN | apply below_drew1) | exact HB.out)⟩⟩
                        case round =>
                          clear H'
                          try clear c1
                          try clear p1
                          try clear q1
                          try clear hx1
                          try clear c2
                          try clear p2
                          try clear p6
                          try clear c10
                          try clear c10b0
                          try clear c10b1
                          try clear c11
                          try clear c12
                          try clear c12b0
                          try clear c15
                          try clear c15b0
                          try clear c16
                          try clear c16b0
                          try clear c17
                          try clear c18
                          try clear p18
                          try clear q18
                          try clear hx18
                          try clear c19
                          try clear c19b0
                          try clear p19
                          try clear q19
                          try clear hx19
                          try clear c20
                          try clear c20b0
                          try clear c21
                          try clear c21b0
                          try clear c22
                          try clear c22b0
                          try clear hx189_0
                          try clear hx189_1
                          try clear hx189_2
                          try clear hx190_0
                          try clear hx190_1
                          try clear hx190_2
                          try clear hx191_0
                          try clear hx191_1
                          try clear hx191_2
                          try clear hx192_0
                          try clear hx192_1
                          try clear hx192_2
                          try clear hx193_0
                          try clear hx193_1
                          try clear hx193_2
                          try clear hx194_0
                          try clear hx194_1
                          try clear hx194_2
                          try clear hx195_0
                          try clear hx195_1
                          try clear hx195_2
                          try clear hx196_0
                          try clear hx196_1
                          try clear hx196_2
                          try clear hx197_0
                          try clear hx197_1
                          try clear hx197_2
                          try clear p1
                          try clear p189
                          try clear p190
                          try clear p191
                          try clear p192
                          try clear p193
                          try clear p194
                          try clear p195
                          try clear p196
                          try clear p197
                          try clear p2
                          try clear p6
                          try clear q1
                          try clear q189
                          try clear q190
                          try clear q191
                          try clear q192
                          try clear q193
                          try clear q194
                          try clear q195
                          try clear q196
                          try clear q197
                          obtain ⟨x10_4, x13_4, rfl, HA, HK4, HO_0, HO_6, HO_8, HO_10, HB⟩ := hrel
                          cases gk with
                          | zero => exact absurd HA.out (by simp [pannierlaw07_VectorSpans.l1])
                          | succ k4 =>
                            have H := HA.out
                            clear HA
                            simp only [pannierlaw07_VectorSpans.l1] at H
                            by_cases c23 : 0 ≤ x12_2
                            · rw [if_pos c23] at H
                              have c23b0 : decide (0 ≤ x12_2) = true := decide_eq_true c23
                              clear c23
                              by_cases c24 : x12_2 < (t180.length : Int)
                              · rw [if_pos c24] at H
                                have c24b0 : decide (x12_2 < (t180.length : Int)) = true := decide_eq_true c24
                                clear c24
                                by_cases c25 : x13_4 ≤ ((rd_T52 t180 x12_2).f2)
                                · rw [if_pos c25] at H
                                  have c25b0 : decide (x13_4 ≤ ((rd_T52 t180 x12_2).f2)) = true := decide_eq_true c25
                                  clear c25
                                  have HC26 := Aside0.mk H
                                  clear H
                                  have p198 : 0 ≤ (x12_2 : Int) := of_decide_eq_true (by first | (with_reducible assumption) | assumption)
                                  have q198 : x12_2 < (t180.length : Int) := of_decide_eq_true (by first | (with_reducible assumption) | assumption)
                                  obtain ⟨ad198, e198, hx198_0, hx198_1, hx198_2⟩ := at_T52 (Kd.R_reads' HO_6.out).2.2 x12_2 p198 q198
                                  obtain rfl : ad195 = ad198 := (by injection e198)
                                  replace p198 := eq_true p198
                                  replace q198 := eq_true q198
                                  have p199 : 0 ≤ (x12_2 : Int) := of_decide_eq_true (by first | (with_reducible assumption) | assumption)
                                  have q199 : x12_2 < (t180.length : Int) := of_decide_eq_true (by first | (with_reducible assumption) | assumption)
                                  obtain ⟨ad199, e199, hx199_0, hx199_1, hx199_2⟩ := at_T52 (Kd.R_reads' HO_6.out).2.2 x12_2 p199 q199
                                  obtain rfl : ad195 = ad199 := (by injection e199)
                                  replace p199 := eq_true p199
                                  replace q199 := eq_true q199
                                  go_upto_region 18 with (first | ((with_reducible refine gate_dst (N := 14) rfl ?_); refine box_event ?hg (N := 14) ?hd (cs := #[.string (⟨#[]⟩ : ByteArray), .int .i64 0]) (t := 35) ?hr ?_; (case hd => rfl); (case hg => rfl); (case hr => first | (go_simp; done) | (go_simp; rfl)); intro gb200 hg w27 hbox hb; have n0_ := Aside0.mk (Kd.V_below (Kd.V_elderB (by (with_reducible repeat (first | apply Kd.V_alloc | apply Kd.V_drewN | apply Kd.V_drew)); exact HO_0.out) gb200 (Nat.le_of_eq hg.symm)) hb); have n1_ := Aside0.mk (Kd.R_below (by (with_reducible repeat (first | apply Kd.R_alloc | apply Kd.R_drewN | apply Kd.R_drew)); exact HO_6.out) hb); have n2_ := Aside0.mk (Kd.R_below (Kd.R_elderB (by (with_reducible repeat (first | apply Kd.R_alloc | apply Kd.R_drewN | apply Kd.R_drew)); exact HO_8.out) gb200 (Nat.le_of_eq hg.symm)) hb); have n3_ := Aside0.mk (Kd.V_below (Kd.V_elderB (by (with_reducible repeat (first | apply Kd.V_alloc | apply Kd.V_drewN | apply Kd.V_drew)); exact HO_10.out) gb200 (Nat.le_of_eq hg.symm)) hb); have n4_ := Aside0.mk (below_step (by repeat (first | (with_reducible first | exact HB.out | apply below_alloc | apply pw_below_drewN | apply below_drew1) | exact HB.out)) hb); have n5_ := Aside0.mk (hbox); have n6_ := Aside0.mk ((by rw [hg]; exact (below_size (by repeat (first | (with_reducible first | exact HB.out | apply below_alloc | apply pw_below_drewN | apply below_drew1) | exact HB.out))) : w.heap.size ≤ gb200)); have n7_ := Aside0.mk ((by rw [hg]; exact (below_size (by repeat (first | (with_reducible first | exact HB.out | apply below_alloc | apply pw_below_drewN | apply below_drew1) | exact HB.out))) : w.heap.size ≤ gb200)); clear HO_0; clear HO_6; clear HO_8; clear HO_10; clear HB; have HO_0 := n0_; have HO_6 := n1_; have HO_8 := n2_; have HO_10 := n3_; have HB := n4_; have BK200 := n5_; have GW200 := n6_; have GE200 := n7_; clear n0_ n1_ n2_ n3_ n4_ n5_ n6_ n7_; clear hb hbox hg; have hcz28_0 : w27.cell? ⟨gb200, 0, none⟩ = some (.string (⟨#[]⟩ : ByteArray)) := (blk_cell BK200.out 0).trans rfl; have hcz28_1 : w27.cell? ⟨gb200, 1, none⟩ = some (.int .i64 0) := (blk_cell BK200.out 1).trans rfl; have hfz28_0 := blk_frozen BK200.out 0; have hfz28_1 := blk_frozen BK200.out 1))
                                  repeat (go_quiet (first | ((with_reducible refine gate_dst (N := 14) rfl ?_); refine box_event ?hg (N := 14) ?hd (cs := #[.string (⟨#[]⟩ : ByteArray), .int .i64 0]) (t := 35) ?hr ?_; (case hd => rfl); (case hg => rfl); (case hr => first | (go_simp; done) | (go_simp; rfl)); intro gb200 hg w27 hbox hb; have n0_ := Aside0.mk (Kd.V_below (Kd.V_elderB (by (with_reducible repeat (first | apply Kd.V_alloc | apply Kd.V_drewN | apply Kd.V_drew)); exact HO_0.out) gb200 (Nat.le_of_eq hg.symm)) hb); have n1_ := Aside0.mk (Kd.R_below (by (with_reducible repeat (first | apply Kd.R_alloc | apply Kd.R_drewN | apply Kd.R_drew)); exact HO_6.out) hb); have n2_ := Aside0.mk (Kd.R_below (Kd.R_elderB (by (with_reducible repeat (first | apply Kd.R_alloc | apply Kd.R_drewN | apply Kd.R_drew)); exact HO_8.out) gb200 (Nat.le_of_eq hg.symm)) hb); have n3_ := Aside0.mk (Kd.V_below (Kd.V_elderB (by (with_reducible repeat (first | apply Kd.V_alloc | apply Kd.V_drewN | apply Kd.V_drew)); exact HO_10.out) gb200 (Nat.le_of_eq hg.symm)) hb); have n4_ := Aside0.mk (below_step (by repeat (first | (with_reducible first | exact HB.out | apply below_alloc | apply pw_below_drewN | apply below_drew1) | exact HB.out)) hb); have n5_ := Aside0.mk (hbox); have n6_ := Aside0.mk ((by rw [hg]; exact (below_size (by repeat (first | (with_reducible first | exact HB.out | apply below_alloc | apply pw_below_drewN | apply below_drew1) | exact HB.out))) : w.heap.size ≤ gb200)); have n7_ := Aside0.mk ((by rw [hg]; exact (below_size (by repeat (first | (with_reducible first | exact HB.out | apply below_alloc | apply pw_below_drewN | apply below_drew1) | exact HB.out))) : w.heap.size ≤ gb200)); clear HO_0; clear HO_6; clear HO_8; clear HO_10; clear HB; have HO_0 := n0_; have HO_6 := n1_; have HO_8 := n2_; have HO_10 := n3_; have HB := n4_; have BK200 := n5_; have GW200 := n6_; have GE200 := n7_; clear n0_ n1_ n2_ n3_ n4_ n5_ n6_ n7_; clear hb hbox hg; have hcz28_0 : w27.cell? ⟨gb200, 0, none⟩ = some (.string (⟨#[]⟩ : ByteArray)) := (blk_cell BK200.out 0).trans rfl; have hcz28_1 : w27.cell? ⟨gb200, 1, none⟩ = some (.int .i64 0) := (blk_cell BK200.out 1).trans rfl; have hfz28_0 := blk_frozen BK200.out 0; have hfz28_1 := blk_frozen BK200.out 1)); go_upto_region 18 with (first | ((with_reducible refine gate_dst (N := 14) rfl ?_); refine box_event ?hg (N := 14) ?hd (cs := #[.string (⟨#[]⟩ : ByteArray), .int .i64 0]) (t := 35) ?hr ?_; (case hd => rfl); (case hg => rfl); (case hr => first | (go_simp; done) | (go_simp; rfl)); intro gb200 hg w27 hbox hb; have n0_ := Aside0.mk (Kd.V_below (Kd.V_elderB (by (with_reducible repeat (first | apply Kd.V_alloc | apply Kd.V_drewN | apply Kd.V_drew)); exact HO_0.out) gb200 (Nat.le_of_eq hg.symm)) hb); have n1_ := Aside0.mk (Kd.R_below (by (with_reducible repeat (first | apply Kd.R_alloc | apply Kd.R_drewN | apply Kd.R_drew)); exact HO_6.out) hb); have n2_ := Aside0.mk (Kd.R_below (Kd.R_elderB (by (with_reducible repeat (first | apply Kd.R_alloc | apply Kd.R_drewN | apply Kd.R_drew)); exact HO_8.out) gb200 (Nat.le_of_eq hg.symm)) hb); have n3_ := Aside0.mk (Kd.V_below (Kd.V_elderB (by (with_reducible repeat (first | apply Kd.V_alloc | apply Kd.V_drewN | apply Kd.V_drew)); exact HO_10.out) gb200 (Nat.le_of_eq hg.symm)) hb); have n4_ := Aside0.mk (below_step (by repeat (first | (with_reducible first | exact HB.out | apply below_alloc | apply pw_below_drewN | apply below_drew1) | exact HB.out)) hb); have n5_ := Aside0.mk (hbox); have n6_ := Aside0.mk ((by rw [hg]; exact (below_size (by repeat (first | (with_reducible first | exact HB.out | apply below_alloc | apply pw_below_drewN | apply below_drew1) | exact HB.out))) : w.heap.size ≤ gb200)); have n7_ := Aside0.mk ((by rw [hg]; exact (below_size (by repeat (first | (with_reducible first | exact HB.out | apply below_alloc | apply pw_below_drewN | apply below_drew1) | exact HB.out))) : w.heap.size ≤ gb200)); clear HO_0; clear HO_6; clear HO_8; clear HO_10; clear HB; have HO_0 := n0_; have HO_6 := n1_; have HO_8 := n2_; have HO_10 := n3_; have HB := n4_; have BK200 := n5_; have GW200 := n6_; have GE200 := n7_; clear n0_ n1_ n2_ n3_ n4_ n5_ n6_ n7_; clear hb hbox hg; have hcz28_0 : w27.cell? ⟨gb200, 0, none⟩ = some (.string (⟨#[]⟩ : ByteArray)) := (blk_cell BK200.out 0).trans rfl; have hcz28_1 : w27.cell? ⟨gb200, 1, none⟩ = some (.int .i64 0) := (blk_cell BK200.out 1).trans rfl; have hfz28_0 := blk_frozen BK200.out 0; have hfz28_1 := blk_frozen BK200.out 1)))
                                  (try simp only [Act.put, List.setIfInBounds_toArray, List.set_cons_zero, List.set_cons_succ])
                                  go_cut [127] (fun v127 wc => ∃ (kq : Nat) (x127_25 : Bool), v127 = .bool x127_25 ∧ Aside0 (pannierlaw07_VectorSpans.j4 kq l0 l1 t179 t180 t184 x10_4 (wrap64 ((wrap64 (x11_2 - (wrap64 (((rd_T52 t180 x12_2).f2) - ((rd_T52 t180 x12_2).f1))))) - 1)) x12_2 x13_4 x127_25 ((rd_T52 t180 x12_2).f0) x13_4 = some r) ∧ Aside0 (kq ≤ k4) ∧ Aside0 (Kd.V k35 35 wc w.heap.size (fun k_ => (P0_ k_ ∨ w.heap.size ≤ k_) ∧ some k_ ≠ ((.slice (some ad195) t180.length co14) : Value).ownBlock ∧ some k_ ≠ (v186 : Value).ownBlock ∧ k_ ≠ gb200) (.slice A0 l0.length c0) l0) ∧ Aside0 (Kd.R k52 52 wc w.heap.size (fun k_ => (w.heap.size ≤ k_)) (.slice (some ad195) t180.length co14) t180) ∧ Aside0 (Kd.R k35 35 wc w.heap.size (fun k_ => (w.heap.size ≤ k_) ∧ k_ ≠ gb200) v186 t184) ∧ Aside0 (Kd.V k35 35 wc w.heap.size (fun k_ => (P0_ k_ ∨ w.heap.size ≤ k_) ∧ some k_ ≠ ((.slice (some ad195) t180.length co14) : Value).ownBlock ∧ some k_ ≠ (v186 : Value).ownBlock ∧ k_ ≠ gb200) u10 x10_4) ∧ Aside0 (wc.heap[gb200]? = some (.cells #[.string ((rd_T52 t180 x12_2).f0), .int .i64 x13_4] 35 (0, 0))) ∧ Aside0 (Below w.heap.size w wc))
                                  case first =>
                                    have H := HC26.out
                                    clear HC26
                                    replace H := Option.bind_eq_some_iff.mp H
                                    obtain ⟨t201, A290, H⟩ := H
                                    replace H : (if t201 = true then (pannierlaw07_VectorSpans.j4 k4 l0 l1 t179 t180 t184 x10_4 (wrap64 ((wrap64 (x11_2 - (wrap64 (((rd_T52 t180 x12_2).f2) - ((rd_T52 t180 x12_2).f1))))) - 1)) x12_2 x13_4 true ((rd_T52 t180 x12_2).f0) x13_4) else ((vector_Has.f k4 l1 ((rd_T52 t180 x12_2).f0) x13_4).bind fun t202 => (pannierlaw07_VectorSpans.j4 k4 l0 l1 t179 t180 t184 x10_4 (wrap64 ((wrap64 (x11_2 - (wrap64 (((rd_T52 t180 x12_2).f2) - ((rd_T52 t180 x12_2).f1))))) - 1)) x12_2 x13_4 (!t202) ((rd_T52 t180 x12_2).f0) x13_4))) = some r := H
                                    have A29 := Aside0.mk A290
                                    clear A290
                                    by_cases c30 : t201 = true
                                    · subst c30
                                      have H1 : (pannierlaw07_VectorSpans.j4 k4 l0 l1 t179 t180 t184 x10_4 (wrap64 ((wrap64 (x11_2 - (wrap64 (((rd_T52 t180 x12_2).f2) - ((rd_T52 t180 x12_2).f1))))) - 1)) x12_2 x13_4 true ((rd_T52 t180 x12_2).f0) x13_4) = some r := by rw [if_pos rfl] at H; exact H
                                      clear H
                                      have H := H1
                                      clear H1
                                      have H' := Aside0.mk H
                                      clear H
                                      have hcz31_0 : w27.cell? ⟨gb200, 0, none⟩ = some (.string (⟨#[]⟩ : ByteArray)) := (blk_cell BK200.out 0).trans rfl
                                      have hcz31_1 : w27.cell? ⟨gb200, 1, none⟩ = some (.int .i64 0) := (blk_cell BK200.out 1).trans rfl
                                      have hfz31_0 := blk_frozen BK200.out 0
                                      have hfz31_1 := blk_frozen BK200.out 1
                                      go_wp2_with (first | (go_at_call 23; (with_reducible refine (vector_Has.calls k4 _ _ l0 ((rd_T52 t180 x12_2).f0) x13_4 true _ ?side1 ?side2 A29.out).mono ?_); (case side1 => refine (Kd.V_reads' (e := 35) (base := w.heap.size) (ok := fun k_ => (((P0_ k_ ∨ w.heap.size ≤ k_) ∧ (some k_ ≠ (.slice (some ad195) t180.length co14 : Value).ownBlock ∧ some k_ ≠ (v186 : Value).ownBlock)) ∧ k_ ≠ gb200)) (n := l0.length) (c := c0) ?_).2.2; exact (by (with_reducible repeat (first | apply Kd.V_alloc | apply Kd.V_drewN | apply Kd.V_drew)); exact (Kd.V_mono (Kd.V_far (p := ⟨gb200, 1, none⟩) (Kd.V_far (p := ⟨gb200, 0, none⟩) (Kd.V_mono HO_0.out (fun k_ hk => (⟨hk, hk.2⟩ : _ ∧ k_ ≠ gb200))) (fun _ hk => hk.2) (.string ((rd_T52 t180 x12_2).f0))) (fun _ hk => hk.2) (.int .i64 x13_4)) (fun _ h_ => h_.1)))); (case side2 => exact (Kd.V_reads' HO_0.out).2.1); rintro e w32 ⟨rfl, hb⟩; have n0_ := Aside0.mk (Kd.V_below (by (with_reducible repeat (first | apply Kd.V_alloc | apply Kd.V_drewN | apply Kd.V_drew)); exact (Kd.V_mono (Kd.V_far (p := ⟨gb200, 1, none⟩) (Kd.V_far (p := ⟨gb200, 0, none⟩) (Kd.V_mono HO_0.out (fun k_ hk => (⟨hk, hk.2⟩ : _ ∧ k_ ≠ gb200))) (fun _ hk => hk.2) (.string ((rd_T52 t180 x12_2).f0))) (fun _ hk => hk.2) (.int .i64 x13_4)) (fun _ h_ => h_.1))) hb); have n1_ := Aside0.mk (Kd.R_below (by (with_reducible repeat (first | apply Kd.R_alloc | apply Kd.R_drewN | apply Kd.R_drew)); exact (Kd.R_mono (Kd.R_far (p := ⟨gb200, 1, none⟩) (Kd.R_far (p := ⟨gb200, 0, none⟩) (Kd.R_types HO_6.out BK200.out (by decide)) (fun _ hk => hk.2) (.string ((rd_T52 t180 x12_2).f0))) (fun _ hk => hk.2) (.int .i64 x13_4)) (fun _ h_ => h_.1))) hb); have n2_ := Aside0.mk (Kd.R_below (by (with_reducible repeat (first | apply Kd.R_alloc | apply Kd.R_drewN | apply Kd.R_drew)); exact (Kd.R_mono (Kd.R_far (p := ⟨gb200, 1, none⟩) (Kd.R_far (p := ⟨gb200, 0, none⟩) (Kd.R_mono HO_8.out (fun k_ hk => (⟨hk, hk.2⟩ : _ ∧ k_ ≠ gb200))) (fun _ hk => hk.2) (.string ((rd_T52 t180 x12_2).f0))) (fun _ hk => hk.2) (.int .i64 x13_4)) (fun _ h_ => h_.1))) hb); have n3_ := Aside0.mk (Kd.V_below (by (with_reducible repeat (first | apply Kd.V_alloc | apply Kd.V_drewN | apply Kd.V_drew)); exact (Kd.V_mono (Kd.V_far (p := ⟨gb200, 1, none⟩) (Kd.V_far (p := ⟨gb200, 0, none⟩) (Kd.V_mono HO_10.out (fun k_ hk => (⟨hk, hk.2⟩ : _ ∧ k_ ≠ gb200))) (fun _ hk => hk.2) (.string ((rd_T52 t180 x12_2).f0))) (fun _ hk => hk.2) (.int .i64 x13_4)) (fun _ h_ => h_.1))) hb); have n4_ := Aside0.mk (blk_below (g := gb200) (o := .cells #[.string ((rd_T52 t180 x12_2).f0), .int .i64 x13_4] 35 (0, 0)) (by (with_reducible repeat (first | refine blk_drewN ?_ _ | refine blk_drew ?_ | refine blk_alloc ?_ _)); refine blk_put (cs := #[.string ((rd_T52 t180 x12_2).f0), .int .i64 0]) ?_ 1 _ rfl; (with_reducible repeat (first | refine blk_drewN ?_ _ | refine blk_drew ?_ | refine blk_alloc ?_ _)); refine blk_put (cs := #[.string (⟨#[]⟩ : ByteArray), .int .i64 0]) ?_ 0 _ rfl; (with_reducible repeat (first | refine blk_drewN ?_ _ | refine blk_drew ?_ | refine blk_alloc ?_ _)); exact BK200.out) hb); have n5_ := Aside0.mk (below_step (by repeat (first | (with_reducible first | exact HB.out | apply below_alloc | apply pw_below_drewN | apply below_drew1 | refine below_set ?_ GE200.out) | exact HB.out)) hb); clear HO_0; clear HO_6; clear HO_8; clear HO_10; clear BK200; clear HB; have HO_0 := n0_; have HO_6 := n1_; have HO_8 := n2_; have HO_10 := n3_; have BK200 := n4_; have HB := n5_; clear n0_ n1_ n2_ n3_ n4_ n5_; (try clear hb); (try clear hb2); (try clear hk); (try clear hi)))
                                      repeat (go_quiet (first | (go_at_call 23; (with_reducible refine (vector_Has.calls k4 _ _ l0 ((rd_T52 t180 x12_2).f0) x13_4 true _ ?side1 ?side2 A29.out).mono ?_); (case side1 => refine (Kd.V_reads' (e := 35) (base := w.heap.size) (ok := fun k_ => (((P0_ k_ ∨ w.heap.size ≤ k_) ∧ (some k_ ≠ (.slice (some ad195) t180.length co14 : Value).ownBlock ∧ some k_ ≠ (v186 : Value).ownBlock)) ∧ k_ ≠ gb200)) (n := l0.length) (c := c0) ?_).2.2; exact (by (with_reducible repeat (first | apply Kd.V_alloc | apply Kd.V_drewN | apply Kd.V_drew)); exact (Kd.V_mono (Kd.V_far (p := ⟨gb200, 1, none⟩) (Kd.V_far (p := ⟨gb200, 0, none⟩) (Kd.V_mono HO_0.out (fun k_ hk => (⟨hk, hk.2⟩ : _ ∧ k_ ≠ gb200))) (fun _ hk => hk.2) (.string ((rd_T52 t180 x12_2).f0))) (fun _ hk => hk.2) (.int .i64 x13_4)) (fun _ h_ => h_.1)))); (case side2 => exact (Kd.V_reads' HO_0.out).2.1); rintro e w32 ⟨rfl, hb⟩; have n0_ := Aside0.mk (Kd.V_below (by (with_reducible repeat (first | apply Kd.V_alloc | apply Kd.V_drewN | apply Kd.V_drew)); exact (Kd.V_mono (Kd.V_far (p := ⟨gb200, 1, none⟩) (Kd.V_far (p := ⟨gb200, 0, none⟩) (Kd.V_mono HO_0.out (fun k_ hk => (⟨hk, hk.2⟩ : _ ∧ k_ ≠ gb200))) (fun _ hk => hk.2) (.string ((rd_T52 t180 x12_2).f0))) (fun _ hk => hk.2) (.int .i64 x13_4)) (fun _ h_ => h_.1))) hb); have n1_ := Aside0.mk (Kd.R_below (by (with_reducible repeat (first | apply Kd.R_alloc | apply Kd.R_drewN | apply Kd.R_drew)); exact (Kd.R_mono (Kd.R_far (p := ⟨gb200, 1, none⟩) (Kd.R_far (p := ⟨gb200, 0, none⟩) (Kd.R_types HO_6.out BK200.out (by decide)) (fun _ hk => hk.2) (.string ((rd_T52 t180 x12_2).f0))) (fun _ hk => hk.2) (.int .i64 x13_4)) (fun _ h_ => h_.1))) hb); have n2_ := Aside0.mk (Kd.R_below (by (with_reducible repeat (first | apply Kd.R_alloc | apply Kd.R_drewN | apply Kd.R_drew)); exact (Kd.R_mono (Kd.R_far (p := ⟨gb200, 1, none⟩) (Kd.R_far (p := ⟨gb200, 0, none⟩) (Kd.R_mono HO_8.out (fun k_ hk => (⟨hk, hk.2⟩ : _ ∧ k_ ≠ gb200))) (fun _ hk => hk.2) (.string ((rd_T52 t180 x12_2).f0))) (fun _ hk => hk.2) (.int .i64 x13_4)) (fun _ h_ => h_.1))) hb); have n3_ := Aside0.mk (Kd.V_below (by (with_reducible repeat (first | apply Kd.V_alloc | apply Kd.V_drewN | apply Kd.V_drew)); exact (Kd.V_mono (Kd.V_far (p := ⟨gb200, 1, none⟩) (Kd.V_far (p := ⟨gb200, 0, none⟩) (Kd.V_mono HO_10.out (fun k_ hk => (⟨hk, hk.2⟩ : _ ∧ k_ ≠ gb200))) (fun _ hk => hk.2) (.string ((rd_T52 t180 x12_2).f0))) (fun _ hk => hk.2) (.int .i64 x13_4)) (fun _ h_ => h_.1))) hb); have n4_ := Aside0.mk (blk_below (g := gb200) (o := .cells #[.string ((rd_T52 t180 x12_2).f0), .int .i64 x13_4] 35 (0, 0)) (by (with_reducible repeat (first | refine blk_drewN ?_ _ | refine blk_drew ?_ | refine blk_alloc ?_ _)); refine blk_put (cs := #[.string ((rd_T52 t180 x12_2).f0), .int .i64 0]) ?_ 1 _ rfl; (with_reducible repeat (first | refine blk_drewN ?_ _ | refine blk_drew ?_ | refine blk_alloc ?_ _)); refine blk_put (cs := #[.string (⟨#[]⟩ : ByteArray), .int .i64 0]) ?_ 0 _ rfl; (with_reducible repeat (first | refine blk_drewN ?_ _ | refine blk_drew ?_ | refine blk_alloc ?_ _)); exact BK200.out) hb); have n5_ := Aside0.mk (below_step (by repeat (first | (with_reducible first | exact HB.out | apply below_alloc | apply pw_below_drewN | apply below_drew1 | refine below_set ?_ GE200.out) | exact HB.out)) hb); clear HO_0; clear HO_6; clear HO_8; clear HO_10; clear BK200; clear HB; have HO_0 := n0_; have HO_6 := n1_; have HO_8 := n2_; have HO_10 := n3_; have BK200 := n4_; have HB := n5_; clear n0_ n1_ n2_ n3_ n4_ n5_; (try clear hb); (try clear hb2); (try clear hk); (try clear hi))); try go_wp2_with (first | (go_at_call 23; (with_reducible refine (vector_Has.calls k4 _ _ l0 ((rd_T52 t180 x12_2).f0) x13_4 true _ ?side1 ?side2 A29.out).mono ?_); (case side1 => refine (Kd.V_reads' (e := 35) (base := w.heap.size) (ok := fun k_ => (((P0_ k_ ∨ w.heap.size ≤ k_) ∧ (some k_ ≠ (.slice (some ad195) t180.length co14 : Value).ownBlock ∧ some k_ ≠ (v186 : Value).ownBlock)) ∧ k_ ≠ gb200)) (n := l0.length) (c := c0) ?_).2.2; exact (by (with_reducible repeat (first | apply Kd.V_alloc | apply Kd.V_drewN | apply Kd.V_drew)); exact (Kd.V_mono (Kd.V_far (p := ⟨gb200, 1, none⟩) (Kd.V_far (p := ⟨gb200, 0, none⟩) (Kd.V_mono HO_0.out (fun k_ hk => (⟨hk, hk.2⟩ : _ ∧ k_ ≠ gb200))) (fun _ hk => hk.2) (.string ((rd_T52 t180 x12_2).f0))) (fun _ hk => hk.2) (.int .i64 x13_4)) (fun _ h_ => h_.1)))); (case side2 => exact (Kd.V_reads' HO_0.out).2.1); rintro e w32 ⟨rfl, hb⟩; have n0_ := Aside0.mk (Kd.V_below (by (with_reducible repeat (first | apply Kd.V_alloc | apply Kd.V_drewN | apply Kd.V_drew)); exact (Kd.V_mono (Kd.V_far (p := ⟨gb200, 1, none⟩) (Kd.V_far (p := ⟨gb200, 0, none⟩) (Kd.V_mono HO_0.out (fun k_ hk => (⟨hk, hk.2⟩ : _ ∧ k_ ≠ gb200))) (fun _ hk => hk.2) (.string ((rd_T52 t180 x12_2).f0))) (fun _ hk => hk.2) (.int .i64 x13_4)) (fun _ h_ => h_.1))) hb); have n1_ := Aside0.mk (Kd.R_below (by (with_reducible repeat (first | apply Kd.R_alloc | apply Kd.R_drewN | apply Kd.R_drew)); exact (Kd.R_mono (Kd.R_far (p := ⟨gb200, 1, none⟩) (Kd.R_far (p := ⟨gb200, 0, none⟩) (Kd.R_types HO_6.out BK200.out (by decide)) (fun _ hk => hk.2) (.string ((rd_T52 t180 x12_2).f0))) (fun _ hk => hk.2) (.int .i64 x13_4)) (fun _ h_ => h_.1))) hb); have n2_ := Aside0.mk (Kd.R_below (by (with_reducible repeat (first | apply Kd.R_alloc | apply Kd.R_drewN | apply Kd.R_drew)); exact (Kd.R_mono (Kd.R_far (p := ⟨gb200, 1, none⟩) (Kd.R_far (p := ⟨gb200, 0, none⟩) (Kd.R_mono HO_8.out (fun k_ hk => (⟨hk, hk.2⟩ : _ ∧ k_ ≠ gb200))) (fun _ hk => hk.2) (.string ((rd_T52 t180 x12_2).f0))) (fun _ hk => hk.2) (.int .i64 x13_4)) (fun _ h_ => h_.1))) hb); have n3_ := Aside0.mk (Kd.V_below (by (with_reducible repeat (first | apply Kd.V_alloc | apply Kd.V_drewN | apply Kd.V_drew)); exact (Kd.V_mono (Kd.V_far (p := ⟨gb200, 1, none⟩) (Kd.V_far (p := ⟨gb200, 0, none⟩) (Kd.V_mono HO_10.out (fun k_ hk => (⟨hk, hk.2⟩ : _ ∧ k_ ≠ gb200))) (fun _ hk => hk.2) (.string ((rd_T52 t180 x12_2).f0))) (fun _ hk => hk.2) (.int .i64 x13_4)) (fun _ h_ => h_.1))) hb); have n4_ := Aside0.mk (blk_below (g := gb200) (o := .cells #[.string ((rd_T52 t180 x12_2).f0), .int .i64 x13_4] 35 (0, 0)) (by (with_reducible repeat (first | refine blk_drewN ?_ _ | refine blk_drew ?_ | refine blk_alloc ?_ _)); refine blk_put (cs := #[.string ((rd_T52 t180 x12_2).f0), .int .i64 0]) ?_ 1 _ rfl; (with_reducible repeat (first | refine blk_drewN ?_ _ | refine blk_drew ?_ | refine blk_alloc ?_ _)); refine blk_put (cs := #[.string (⟨#[]⟩ : ByteArray), .int .i64 0]) ?_ 0 _ rfl; (with_reducible repeat (first | refine blk_drewN ?_ _ | refine blk_drew ?_ | refine blk_alloc ?_ _)); exact BK200.out) hb); have n5_ := Aside0.mk (below_step (by repeat (first | (with_reducible first | exact HB.out | apply below_alloc | apply pw_below_drewN | apply below_drew1 | refine below_set ?_ GE200.out) | exact HB.out)) hb); clear HO_0; clear HO_6; clear HO_8; clear HO_10; clear BK200; clear HB; have HO_0 := n0_; have HO_6 := n1_; have HO_8 := n2_; have HO_10 := n3_; have BK200 := n4_; have HB := n5_; clear n0_ n1_ n2_ n3_ n4_ n5_; (try clear hb); (try clear hb2); (try clear hk); (try clear hi))))
                                      go_meet
                                      case rel => exact ⟨_, (true), (by first | rfl | (simp; done) | (simp [*]; done)), H', ⟨by have := HJ5.out; have := HK2.out; have := HJ12.out; have := HK4.out; first | omega | exact Nat.le_refl _⟩, ⟨by (with_reducible repeat (first | apply Kd.V_alloc | apply Kd.V_drewN | apply Kd.V_drew)); exact Kd.V_mono HO_0.out (fun _ hk => ⟨hk.1.1, ⟨hk.1.2.1, ⟨hk.1.2.2, hk.2⟩⟩⟩)⟩, ⟨by (with_reducible repeat (first | apply Kd.R_alloc | apply Kd.R_drewN | apply Kd.R_drew)); exact HO_6.out⟩, ⟨by (with_reducible repeat (first | apply Kd.R_alloc | apply Kd.R_drewN | apply Kd.R_drew)); exact HO_8.out⟩, ⟨by (with_reducible repeat (first | apply Kd.V_alloc | apply Kd.V_drewN | apply Kd.V_drew)); exact Kd.V_mono HO_10.out (fun _ hk => ⟨hk.1.1, ⟨hk.1.2.1, ⟨hk.1.2.2, hk.2⟩⟩⟩)⟩, ⟨by (with_reducible repeat (first | refine blk_drewN ?_ _ | refine blk_drew ?_ | refine blk_alloc ?_ _)); exact BK200.out⟩, ⟨by repeat (first | (with_reducible first | exact HB.out | apply below_alloc | apply pw_below_drewN | apply below_drew1 | refine below_set ?_ GE200.out) | exact HB.out)⟩⟩
                                    · replace c30 := Bool.eq_false_iff.mpr c30
                                      subst c30
                                      have H1 : ((vector_Has.f k4 l1 ((rd_T52 t180 x12_2).f0) x13_4).bind fun t202 => (pannierlaw07_VectorSpans.j4 k4 l0 l1 t179 t180 t184 x10_4 (wrap64 ((wrap64 (x11_2 - (wrap64 (((rd_T52 t180 x12_2).f2) - ((rd_T52 t180 x12_2).f1))))) - 1)) x12_2 x13_4 (!t202) ((rd_T52 t180 x12_2).f0) x13_4)) = some r := by rw [if_neg (show ¬ (false = true) by decide)] at H; exact H
                                      clear H
                                      have H := H1
                                      clear H1
                                      replace H := Option.bind_eq_some_iff.mp H
                                      obtain ⟨t202, A330, H⟩ := H
                                      replace H : (pannierlaw07_VectorSpans.j4 k4 l0 l1 t179 t180 t184 x10_4 (wrap64 ((wrap64 (x11_2 - (wrap64 (((rd_T52 t180 x12_2).f2) - ((rd_T52 t180 x12_2).f1))))) - 1)) x12_2 x13_4 (!t202) ((rd_T52 t180 x12_2).f0) x13_4) = some r := H
                                      have A33 := Aside0.mk A330
                                      clear A330
                                      have H' := Aside0.mk H
                                      clear H
                                      have hcz34_0 : w27.cell? ⟨gb200, 0, none⟩ = some (.string (⟨#[]⟩ : ByteArray)) := (blk_cell BK200.out 0).trans rfl
                                      have hcz34_1 : w27.cell? ⟨gb200, 1, none⟩ = some (.int .i64 0) := (blk_cell BK200.out 1).trans rfl
                                      have hfz34_0 := blk_frozen BK200.out 0
                                      have hfz34_1 := blk_frozen BK200.out 1
                                      go_wp2_with (first | (go_at_call 23; (with_reducible refine (vector_Has.calls k4 _ _ l0 ((rd_T52 t180 x12_2).f0) x13_4 false _ ?side1 ?side2 A29.out).mono ?_); (case side1 => refine (Kd.V_reads' (e := 35) (base := w.heap.size) (ok := fun k_ => (((P0_ k_ ∨ w.heap.size ≤ k_) ∧ (some k_ ≠ (.slice (some ad195) t180.length co14 : Value).ownBlock ∧ some k_ ≠ (v186 : Value).ownBlock)) ∧ k_ ≠ gb200)) (n := l0.length) (c := c0) ?_).2.2; exact (by (with_reducible repeat (first | apply Kd.V_alloc | apply Kd.V_drewN | apply Kd.V_drew)); exact (Kd.V_mono (Kd.V_far (p := ⟨gb200, 1, none⟩) (Kd.V_far (p := ⟨gb200, 0, none⟩) (Kd.V_mono HO_0.out (fun k_ hk => (⟨hk, hk.2⟩ : _ ∧ k_ ≠ gb200))) (fun _ hk => hk.2) (.string ((rd_T52 t180 x12_2).f0))) (fun _ hk => hk.2) (.int .i64 x13_4)) (fun _ h_ => h_.1)))); (case side2 => exact (Kd.V_reads' HO_0.out).2.1); rintro e w35 ⟨rfl, hb⟩; have n0_ := Aside0.mk (Kd.V_below (by (with_reducible repeat (first | apply Kd.V_alloc | apply Kd.V_drewN | apply Kd.V_drew)); exact (Kd.V_mono (Kd.V_far (p := ⟨gb200, 1, none⟩) (Kd.V_far (p := ⟨gb200, 0, none⟩) (Kd.V_mono HO_0.out (fun k_ hk => (⟨hk, hk.2⟩ : _ ∧ k_ ≠ gb200))) (fun _ hk => hk.2) (.string ((rd_T52 t180 x12_2).f0))) (fun _ hk => hk.2) (.int .i64 x13_4)) (fun _ h_ => h_.1))) hb); have n1_ := Aside0.mk (Kd.R_below (by (with_reducible repeat (first | apply Kd.R_alloc | apply Kd.R_drewN | apply Kd.R_drew)); exact (Kd.R_mono (Kd.R_far (p := ⟨gb200, 1, none⟩) (Kd.R_far (p := ⟨gb200, 0, none⟩) (Kd.R_types HO_6.out BK200.out (by decide)) (fun _ hk => hk.2) (.string ((rd_T52 t180 x12_2).f0))) (fun _ hk => hk.2) (.int .i64 x13_4)) (fun _ h_ => h_.1))) hb); have n2_ := Aside0.mk (Kd.R_below (by (with_reducible repeat (first | apply Kd.R_alloc | apply Kd.R_drewN | apply Kd.R_drew)); exact (Kd.R_mono (Kd.R_far (p := ⟨gb200, 1, none⟩) (Kd.R_far (p := ⟨gb200, 0, none⟩) (Kd.R_mono HO_8.out (fun k_ hk => (⟨hk, hk.2⟩ : _ ∧ k_ ≠ gb200))) (fun _ hk => hk.2) (.string ((rd_T52 t180 x12_2).f0))) (fun _ hk => hk.2) (.int .i64 x13_4)) (fun _ h_ => h_.1))) hb); have n3_ := Aside0.mk (Kd.V_below (by (with_reducible repeat (first | apply Kd.V_alloc | apply Kd.V_drewN | apply Kd.V_drew)); exact (Kd.V_mono (Kd.V_far (p := ⟨gb200, 1, none⟩) (Kd.V_far (p := ⟨gb200, 0, none⟩) (Kd.V_mono HO_10.out (fun k_ hk => (⟨hk, hk.2⟩ : _ ∧ k_ ≠ gb200))) (fun _ hk => hk.2) (.string ((rd_T52 t180 x12_2).f0))) (fun _ hk => hk.2) (.int .i64 x13_4)) (fun _ h_ => h_.1))) hb); have n4_ := Aside0.mk (blk_below (g := gb200) (o := .cells #[.string ((rd_T52 t180 x12_2).f0), .int .i64 x13_4] 35 (0, 0)) (by (with_reducible repeat (first | refine blk_drewN ?_ _ | refine blk_drew ?_ | refine blk_alloc ?_ _)); refine blk_put (cs := #[.string ((rd_T52 t180 x12_2).f0), .int .i64 0]) ?_ 1 _ rfl; (with_reducible repeat (first | refine blk_drewN ?_ _ | refine blk_drew ?_ | refine blk_alloc ?_ _)); refine blk_put (cs := #[.string (⟨#[]⟩ : ByteArray), .int .i64 0]) ?_ 0 _ rfl; (with_reducible repeat (first | refine blk_drewN ?_ _ | refine blk_drew ?_ | refine blk_alloc ?_ _)); exact BK200.out) hb); have n5_ := Aside0.mk (below_step (by repeat (first | (with_reducible first | exact HB.out | apply below_alloc | apply pw_below_drewN | apply below_drew1 | refine below_set ?_ GE200.out) | exact HB.out)) hb); clear HO_0; clear HO_6; clear HO_8; clear HO_10; clear BK200; clear HB; have HO_0 := n0_; have HO_6 := n1_; have HO_8 := n2_; have HO_10 := n3_; have BK200 := n4_; have HB := n5_; clear n0_ n1_ n2_ n3_ n4_ n5_; (try clear hb); (try clear hb2); (try clear hk); (try clear hi); have hcz36_0 : w35.cell? ⟨gb200, 0, none⟩ = some (.string ((rd_T52 t180 x12_2).f0)) := (blk_cell BK200.out 0).trans rfl; have hcz36_1 : w35.cell? ⟨gb200, 1, none⟩ = some (.int .i64 x13_4) := (blk_cell BK200.out 1).trans rfl; have hfz36_0 := blk_frozen BK200.out 0; have hfz36_1 := blk_frozen BK200.out 1) | (go_at_call 23; (with_reducible refine (vector_Has.calls k4 _ _ l1 ((rd_T52 t180 x12_2).f0) x13_4 t202 _ ?side1 ?side2 A33.out).mono ?_); (case side1 => repeat (first | exact (Kd.C_below HR1.out HB.out) | (with_reducible refine Kd.C_alloc ?_ _) | (with_reducible refine Kd.C_drewN ?_ _) | (with_reducible refine Kd.C_drew ?_))); (case side2 => exact HC1.out); rintro e w37 ⟨rfl, hb⟩; have n0_ := Aside0.mk (Kd.V_below (by (with_reducible repeat (first | apply Kd.V_alloc | apply Kd.V_drewN | apply Kd.V_drew)); exact HO_0.out) hb); have n1_ := Aside0.mk (Kd.R_below (by (with_reducible repeat (first | apply Kd.R_alloc | apply Kd.R_drewN | apply Kd.R_drew)); exact HO_6.out) hb); have n2_ := Aside0.mk (Kd.R_below (by (with_reducible repeat (first | apply Kd.R_alloc | apply Kd.R_drewN | apply Kd.R_drew)); exact HO_8.out) hb); have n3_ := Aside0.mk (Kd.V_below (by (with_reducible repeat (first | apply Kd.V_alloc | apply Kd.V_drewN | apply Kd.V_drew)); exact HO_10.out) hb); have n4_ := Aside0.mk (blk_below (g := gb200) (o := .cells #[.string ((rd_T52 t180 x12_2).f0), .int .i64 x13_4] 35 (0, 0)) (by (with_reducible repeat (first | refine blk_drewN ?_ _ | refine blk_drew ?_ | refine blk_alloc ?_ _)); exact BK200.out) hb); have n5_ := Aside0.mk (below_step (by repeat (first | (with_reducible first | exact HB.out | apply below_alloc | apply pw_below_drewN | apply below_drew1 | refine below_set ?_ GE200.out) | exact HB.out)) hb); clear HO_0; clear HO_6; clear HO_8; clear HO_10; clear BK200; clear HB; have HO_0 := n0_; have HO_6 := n1_; have HO_8 := n2_; have HO_10 := n3_; have BK200 := n4_; have HB := n5_; clear n0_ n1_ n2_ n3_ n4_ n5_; (try clear hb); (try clear hb2); (try clear hk); (try clear hi)))
                                      repeat (go_quiet (first | (go_at_call 23; (with_reducible refine (vector_Has.calls k4 _ _ l0 ((rd_T52 t180 x12_2).f0) x13_4 false _ ?side1 ?side2 A29.out).mono ?_); (case side1 => refine (Kd.V_reads' (e := 35) (base := w.heap.size) (ok := fun k_ => (((P0_ k_ ∨ w.heap.size ≤ k_) ∧ (some k_ ≠ (.slice (some ad195) t180.length co14 : Value).ownBlock ∧ some k_ ≠ (v186 : Value).ownBlock)) ∧ k_ ≠ gb200)) (n := l0.length) (c := c0) ?_).2.2; exact (by (with_reducible repeat (first | apply Kd.V_alloc | apply Kd.V_drewN | apply Kd.V_drew)); exact (Kd.V_mono (Kd.V_far (p := ⟨gb200, 1, none⟩) (Kd.V_far (p := ⟨gb200, 0, none⟩) (Kd.V_mono HO_0.out (fun k_ hk => (⟨hk, hk.2⟩ : _ ∧ k_ ≠ gb200))) (fun _ hk => hk.2) (.string ((rd_T52 t180 x12_2).f0))) (fun _ hk => hk.2) (.int .i64 x13_4)) (fun _ h_ => h_.1)))); (case side2 => exact (Kd.V_reads' HO_0.out).2.1); rintro e w35 ⟨rfl, hb⟩; have n0_ := Aside0.mk (Kd.V_below (by (with_reducible repeat (first | apply Kd.V_alloc | apply Kd.V_drewN | apply Kd.V_drew)); exact (Kd.V_mono (Kd.V_far (p := ⟨gb200, 1, none⟩) (Kd.V_far (p := ⟨gb200, 0, none⟩) (Kd.V_mono HO_0.out (fun k_ hk => (⟨hk, hk.2⟩ : _ ∧ k_ ≠ gb200))) (fun _ hk => hk.2) (.string ((rd_T52 t180 x12_2).f0))) (fun _ hk => hk.2) (.int .i64 x13_4)) (fun _ h_ => h_.1))) hb); have n1_ := Aside0.mk (Kd.R_below (by (with_reducible repeat (first | apply Kd.R_alloc | apply Kd.R_drewN | apply Kd.R_drew)); exact (Kd.R_mono (Kd.R_far (p := ⟨gb200, 1, none⟩) (Kd.R_far (p := ⟨gb200, 0, none⟩) (Kd.R_types HO_6.out BK200.out (by decide)) (fun _ hk => hk.2) (.string ((rd_T52 t180 x12_2).f0))) (fun _ hk => hk.2) (.int .i64 x13_4)) (fun _ h_ => h_.1))) hb); have n2_ := Aside0.mk (Kd.R_below (by (with_reducible repeat (first | apply Kd.R_alloc | apply Kd.R_drewN | apply Kd.R_drew)); exact (Kd.R_mono (Kd.R_far (p := ⟨gb200, 1, none⟩) (Kd.R_far (p := ⟨gb200, 0, none⟩) (Kd.R_mono HO_8.out (fun k_ hk => (⟨hk, hk.2⟩ : _ ∧ k_ ≠ gb200))) (fun _ hk => hk.2) (.string ((rd_T52 t180 x12_2).f0))) (fun _ hk => hk.2) (.int .i64 x13_4)) (fun _ h_ => h_.1))) hb); have n3_ := Aside0.mk (Kd.V_below (by (with_reducible repeat (first | apply Kd.V_alloc | apply Kd.V_drewN | apply Kd.V_drew)); exact (Kd.V_mono (Kd.V_far (p := ⟨gb200, 1, none⟩) (Kd.V_far (p := ⟨gb200, 0, none⟩) (Kd.V_mono HO_10.out (fun k_ hk => (⟨hk, hk.2⟩ : _ ∧ k_ ≠ gb200))) (fun _ hk => hk.2) (.string ((rd_T52 t180 x12_2).f0))) (fun _ hk => hk.2) (.int .i64 x13_4)) (fun _ h_ => h_.1))) hb); have n4_ := Aside0.mk (blk_below (g := gb200) (o := .cells #[.string ((rd_T52 t180 x12_2).f0), .int .i64 x13_4] 35 (0, 0)) (by (with_reducible repeat (first | refine blk_drewN ?_ _ | refine blk_drew ?_ | refine blk_alloc ?_ _)); refine blk_put (cs := #[.string ((rd_T52 t180 x12_2).f0), .int .i64 0]) ?_ 1 _ rfl; (with_reducible repeat (first | refine blk_drewN ?_ _ | refine blk_drew ?_ | refine blk_alloc ?_ _)); refine blk_put (cs := #[.string (⟨#[]⟩ : ByteArray), .int .i64 0]) ?_ 0 _ rfl; (with_reducible repeat (first | refine blk_drewN ?_ _ | refine blk_drew ?_ | refine blk_alloc ?_ _)); exact BK200.out) hb); have n5_ := Aside0.mk (below_step (by repeat (first | (with_reducible first | exact HB.out | apply below_alloc | apply pw_below_drewN | apply below_drew1 | refine below_set ?_ GE200.out) | exact HB.out)) hb); clear HO_0; clear HO_6; clear HO_8; clear HO_10; clear BK200; clear HB; have HO_0 := n0_; have HO_6 := n1_; have HO_8 := n2_; have HO_10 := n3_; have BK200 := n4_; have HB := n5_; clear n0_ n1_ n2_ n3_ n4_ n5_; (try clear hb); (try clear hb2); (try clear hk); (try clear hi); have hcz36_0 : w35.cell? ⟨gb200, 0, none⟩ = some (.string ((rd_T52 t180 x12_2).f0)) := (blk_cell BK200.out 0).trans rfl; have hcz36_1 : w35.cell? ⟨gb200, 1, none⟩ = some (.int .i64 x13_4) := (blk_cell BK200.out 1).trans rfl; have hfz36_0 := blk_frozen BK200.out 0; have hfz36_1 := blk_frozen BK200.out 1) | (go_at_call 23; (with_reducible refine (vector_Has.calls k4 _ _ l1 ((rd_T52 t180 x12_2).f0) x13_4 t202 _ ?side1 ?side2 A33.out).mono ?_); (case side1 => repeat (first | exact (Kd.C_below HR1.out HB.out) | (with_reducible refine Kd.C_alloc ?_ _) | (with_reducible refine Kd.C_drewN ?_ _) | (with_reducible refine Kd.C_drew ?_))); (case side2 => exact HC1.out); rintro e w37 ⟨rfl, hb⟩; have n0_ := Aside0.mk (Kd.V_below (by (with_reducible repeat (first | apply Kd.V_alloc | apply Kd.V_drewN | apply Kd.V_drew)); exact HO_0.out) hb); have n1_ := Aside0.mk (Kd.R_below (by (with_reducible repeat (first | apply Kd.R_alloc | apply Kd.R_drewN | apply Kd.R_drew)); exact HO_6.out) hb); have n2_ := Aside0.mk (Kd.R_below (by (with_reducible repeat (first | apply Kd.R_alloc | apply Kd.R_drewN | apply Kd.R_drew)); exact HO_8.out) hb); have n3_ := Aside0.mk (Kd.V_below (by (with_reducible repeat (first | apply Kd.V_alloc | apply Kd.V_drewN | apply Kd.V_drew)); exact HO_10.out) hb); have n4_ := Aside0.mk (blk_below (g := gb200) (o := .cells #[.string ((rd_T52 t180 x12_2).f0), .int .i64 x13_4] 35 (0, 0)) (by (with_reducible repeat (first | refine blk_drewN ?_ _ | refine blk_drew ?_ | refine blk_alloc ?_ _)); exact BK200.out) hb); have n5_ := Aside0.mk (below_step (by repeat (first | (with_reducible first | exact HB.out | apply below_alloc | apply pw_below_drewN | apply below_drew1 | refine below_set ?_ GE200.out) | exact HB.out)) hb); clear HO_0; clear HO_6; clear HO_8; clear HO_10; clear BK200; clear HB; have HO_0 := n0_; have HO_6 := n1_; have HO_8 := n2_; have HO_10 := n3_; have BK200 := n4_; have HB := n5_; clear n0_ n1_ n2_ n3_ n4_ n5_; (try clear hb); (try clear hb2); (try clear hk); (try clear hi))); try go_wp2_with (first | (go_at_call 23; (with_reducible refine (vector_Has.calls k4 _ _ l0 ((rd_T52 t180 x12_2).f0) x13_4 false _ ?side1 ?side2 A29.out).mono ?_); (case side1 => refine (Kd.V_reads' (e := 35) (base := w.heap.size) (ok := fun k_ => (((P0_ k_ ∨ w.heap.size ≤ k_) ∧ (some k_ ≠ (.slice (some ad195) t180.length co14 : Value).ownBlock ∧ some k_ ≠ (v186 : Value).ownBlock)) ∧ k_ ≠ gb200)) (n := l0.length) (c := c0) ?_).2.2; exact (by (with_reducible repeat (first | apply Kd.V_alloc | apply Kd.V_drewN | apply Kd.V_drew)); exact (Kd.V_mono (Kd.V_far (p := ⟨gb200, 1, none⟩) (Kd.V_far (p := ⟨gb200, 0, none⟩) (Kd.V_mono HO_0.out (fun k_ hk => (⟨hk, hk.2⟩ : _ ∧ k_ ≠ gb200))) (fun _ hk => hk.2) (.string ((rd_T52 t180 x12_2).f0))) (fun _ hk => hk.2) (.int .i64 x13_4)) (fun _ h_ => h_.1)))); (case side2 => exact (Kd.V_reads' HO_0.out).2.1); rintro e w35 ⟨rfl, hb⟩; have n0_ := Aside0.mk (Kd.V_below (by (with_reducible repeat (first | apply Kd.V_alloc | apply Kd.V_drewN | apply Kd.V_drew)); exact (Kd.V_mono (Kd.V_far (p := ⟨gb200, 1, none⟩) (Kd.V_far (p := ⟨gb200, 0, none⟩) (Kd.V_mono HO_0.out (fun k_ hk => (⟨hk, hk.2⟩ : _ ∧ k_ ≠ gb200))) (fun _ hk => hk.2) (.string ((rd_T52 t180 x12_2).f0))) (fun _ hk => hk.2) (.int .i64 x13_4)) (fun _ h_ => h_.1))) hb); have n1_ := Aside0.mk (Kd.R_below (by (with_reducible repeat (first | apply Kd.R_alloc | apply Kd.R_drewN | apply Kd.R_drew)); exact (Kd.R_mono (Kd.R_far (p := ⟨gb200, 1, none⟩) (Kd.R_far (p := ⟨gb200, 0, none⟩) (Kd.R_types HO_6.out BK200.out (by decide)) (fun _ hk => hk.2) (.string ((rd_T52 t180 x12_2).f0))) (fun _ hk => hk.2) (.int .i64 x13_4)) (fun _ h_ => h_.1))) hb); have n2_ := Aside0.mk (Kd.R_below (by (with_reducible repeat (first | apply Kd.R_alloc | apply Kd.R_drewN | apply Kd.R_drew)); exact (Kd.R_mono (Kd.R_far (p := ⟨gb200, 1, none⟩) (Kd.R_far (p := ⟨gb200, 0, none⟩) (Kd.R_mono HO_8.out (fun k_ hk => (⟨hk, hk.2⟩ : _ ∧ k_ ≠ gb200))) (fun _ hk => hk.2) (.string ((rd_T52 t180 x12_2).f0))) (fun _ hk => hk.2) (.int .i64 x13_4)) (fun _ h_ => h_.1))) hb); have n3_ := Aside0.mk (Kd.V_below (by (with_reducible repeat (first | apply Kd.V_alloc | apply Kd.V_drewN | apply Kd.V_drew)); exact (Kd.V_mono (Kd.V_far (p := ⟨gb200, 1, none⟩) (Kd.V_far (p := ⟨gb200, 0, none⟩) (Kd.V_mono HO_10.out (fun k_ hk => (⟨hk, hk.2⟩ : _ ∧ k_ ≠ gb200))) (fun _ hk => hk.2) (.string ((rd_T52 t180 x12_2).f0))) (fun _ hk => hk.2) (.int .i64 x13_4)) (fun _ h_ => h_.1))) hb); have n4_ := Aside0.mk (blk_below (g := gb200) (o := .cells #[.string ((rd_T52 t180 x12_2).f0), .int .i64 x13_4] 35 (0, 0)) (by (with_reducible repeat (first | refine blk_drewN ?_ _ | refine blk_drew ?_ | refine blk_alloc ?_ _)); refine blk_put (cs := #[.string ((rd_T52 t180 x12_2).f0), .int .i64 0]) ?_ 1 _ rfl; (with_reducible repeat (first | refine blk_drewN ?_ _ | refine blk_drew ?_ | refine blk_alloc ?_ _)); refine blk_put (cs := #[.string (⟨#[]⟩ : ByteArray), .int .i64 0]) ?_ 0 _ rfl; (with_reducible repeat (first | refine blk_drewN ?_ _ | refine blk_drew ?_ | refine blk_alloc ?_ _)); exact BK200.out) hb); have n5_ := Aside0.mk (below_step (by repeat (first | (with_reducible first | exact HB.out | apply below_alloc | apply pw_below_drewN | apply below_drew1 | refine below_set ?_ GE200.out) | exact HB.out)) hb); clear HO_0; clear HO_6; clear HO_8; clear HO_10; clear BK200; clear HB; have HO_0 := n0_; have HO_6 := n1_; have HO_8 := n2_; have HO_10 := n3_; have BK200 := n4_; have HB := n5_; clear n0_ n1_ n2_ n3_ n4_ n5_; (try clear hb); (try clear hb2); (try clear hk); (try clear hi); have hcz36_0 : w35.cell? ⟨gb200, 0, none⟩ = some (.string ((rd_T52 t180 x12_2).f0)) := (blk_cell BK200.out 0).trans rfl; have hcz36_1 : w35.cell? ⟨gb200, 1, none⟩ = some (.int .i64 x13_4) := (blk_cell BK200.out 1).trans rfl; have hfz36_0 := blk_frozen BK200.out 0; have hfz36_1 := blk_frozen BK200.out 1) | (go_at_call 23; (with_reducible refine (vector_Has.calls k4 _ _ l1 ((rd_T52 t180 x12_2).f0) x13_4 t202 _ ?side1 ?side2 A33.out).mono ?_); (case side1 => repeat (first | exact (Kd.C_below HR1.out HB.out) | (with_reducible refine Kd.C_alloc ?_ _) | (with_reducible refine Kd.C_drewN ?_ _) | (with_reducible refine Kd.C_drew ?_))); (case side2 => exact HC1.out); rintro e w37 ⟨rfl, hb⟩; have n0_ := Aside0.mk (Kd.V_below (by (with_reducible repeat (first | apply Kd.V_alloc | apply Kd.V_drewN | apply Kd.V_drew)); exact HO_0.out) hb); have n1_ := Aside0.mk (Kd.R_below (by (with_reducible repeat (first | apply Kd.R_alloc | apply Kd.R_drewN | apply Kd.R_drew)); exact HO_6.out) hb); have n2_ := Aside0.mk (Kd.R_below (by (with_reducible repeat (first | apply Kd.R_alloc | apply Kd.R_drewN | apply Kd.R_drew)); exact HO_8.out) hb); have n3_ := Aside0.mk (Kd.V_below (by (with_reducible repeat (first | apply Kd.V_alloc | apply Kd.V_drewN | apply Kd.V_drew)); exact HO_10.out) hb); have n4_ := Aside0.mk (blk_below (g := gb200) (o := .cells #[.string ((rd_T52 t180 x12_2).f0), .int .i64 x13_4] 35 (0, 0)) (by (with_reducible repeat (first | refine blk_drewN ?_ _ | refine blk_drew ?_ | refine blk_alloc ?_ _)); exact BK200.out) hb); have n5_ := Aside0.mk (below_step (by repeat (first | (with_reducible first | exact HB.out | apply below_alloc | apply pw_below_drewN | apply below_drew1 | refine below_set ?_ GE200.out) | exact HB.out)) hb); clear HO_0; clear HO_6; clear HO_8; clear HO_10; clear BK200; clear HB; have HO_0 := n0_; have HO_6 := n1_; have HO_8 := n2_; have HO_10 := n3_; have BK200 := n4_; have HB := n5_; clear n0_ n1_ n2_ n3_ n4_ n5_; (try clear hb); (try clear hb2); (try clear hk); (try clear hi))))
                                      go_meet
                                      case rel => exact ⟨_, (!t202), (by first | rfl | (simp; done) | (simp [*]; done)), H', ⟨by have := HJ5.out; have := HK2.out; have := HJ12.out; have := HK4.out; first | omega | exact Nat.le_refl _⟩, ⟨by (with_reducible repeat (first | apply Kd.V_alloc | apply Kd.V_drewN | apply Kd.V_drew)); exact Kd.V_mono HO_0.out (fun _ hk => ⟨hk.1.1, ⟨hk.1.2.1, ⟨hk.1.2.2, hk.2⟩⟩⟩)⟩, ⟨by (with_reducible repeat (first | apply Kd.R_alloc | apply Kd.R_drewN | apply Kd.R_drew)); exact HO_6.out⟩, ⟨by (with_reducible repeat (first | apply Kd.R_alloc | apply Kd.R_drewN | apply Kd.R_drew)); exact HO_8.out⟩, ⟨by (with_reducible repeat (first | apply Kd.V_alloc | apply Kd.V_drewN | apply Kd.V_drew)); exact Kd.V_mono HO_10.out (fun _ hk => ⟨hk.1.1, ⟨hk.1.2.1, ⟨hk.1.2.2, hk.2⟩⟩⟩)⟩, ⟨by (with_reducible repeat (first | refine blk_drewN ?_ _ | refine blk_drew ?_ | refine blk_alloc ?_ _)); exact BK200.out⟩, ⟨by repeat (first | (with_reducible first | exact HB.out | apply below_alloc | apply pw_below_drewN | apply below_drew1 | refine below_set ?_ GE200.out) | exact HB.out)⟩⟩
                                  case rest =>
                                    clear HC26
                                    try clear c1
                                    try clear p1
                                    try clear q1
                                    try clear hx1
                                    try clear c2
                                    try clear p2
                                    try clear c3
                                    try clear p6
                                    try clear c10
                                    try clear c10b0
                                    try clear c10b1
                                    try clear c11
                                    try clear c12
                                    try clear c12b0
                                    try clear c15
                                    try clear c15b0
                                    try clear c16
                                    try clear c16b0
                                    try clear c17
                                    try clear c18
                                    try clear p18
                                    try clear q18
                                    try clear hx18
                                    try clear c19
                                    try clear c19b0
                                    try clear p19
                                    try clear q19
                                    try clear hx19
                                    try clear c20
                                    try clear c20b0
                                    try clear c21
                                    try clear c21b0
                                    try clear c22
                                    try clear c22b0
                                    try clear c23
                                    try clear c23b0
                                    try clear c24
                                    try clear c24b0
                                    try clear c25
                                    try clear c25b0
                                    try clear c30
                                    try clear hcz28_0
                                    try clear hcz28_1
                                    try clear hcz31_0
                                    try clear hcz31_1
                                    try clear hcz34_0
                                    try clear hcz34_1
                                    try clear hcz36_0
                                    try clear hcz36_1
                                    try clear hfz28_0
                                    try clear hfz28_1
                                    try clear hfz31_0
                                    try clear hfz31_1
                                    try clear hfz34_0
                                    try clear hfz34_1
                                    try clear hfz36_0
                                    try clear hfz36_1
                                    try clear hx189_0
                                    try clear hx189_1
                                    try clear hx189_2
                                    try clear hx190_0
                                    try clear hx190_1
                                    try clear hx190_2
                                    try clear hx191_0
                                    try clear hx191_1
                                    try clear hx191_2
                                    try clear hx192_0
                                    try clear hx192_1
                                    try clear hx192_2
                                    try clear hx193_0
                                    try clear hx193_1
                                    try clear hx193_2
                                    try clear hx194_0
                                    try clear hx194_1
                                    try clear hx194_2
                                    try clear hx195_0
                                    try clear hx195_1
                                    try clear hx195_2
                                    try clear hx196_0
                                    try clear hx196_1
                                    try clear hx196_2
                                    try clear hx197_0
                                    try clear hx197_1
                                    try clear hx197_2
                                    try clear hx198_0
                                    try clear hx198_1
                                    try clear hx198_2
                                    try clear hx199_0
                                    try clear hx199_1
                                    try clear hx199_2
                                    try clear p1
                                    try clear p18
                                    try clear p189
                                    try clear p19
                                    try clear p190
                                    try clear p191
                                    try clear p192
                                    try clear p193
                                    try clear p194
                                    try clear p195
                                    try clear p196
                                    try clear p197
                                    try clear p198
                                    try clear p199
                                    try clear p2
                                    try clear p6
                                    try clear q1
                                    try clear q18
                                    try clear q189
                                    try clear q19
                                    try clear q190
                                    try clear q191
                                    try clear q192
                                    try clear q193
                                    try clear q194
                                    try clear q195
                                    try clear q196
                                    try clear q197
                                    try clear q198
                                    try clear q199
                                    obtain ⟨kq, x127_25, rfl, HA, HJ25, HO_0, HO_6, HO_8, HO_10, BK200, HB⟩ := hcut
                                    cases kq with
                                    | zero => exact absurd HA.out (by simp [pannierlaw07_VectorSpans.j4])
                                    | succ kj25 =>
                                      have H := HA.out
                                      clear HA
                                      simp only [pannierlaw07_VectorSpans.j4] at H
                                      by_cases c38 : x127_25 = true
                                      · subst c38
                                        have H1 : (some false) = some r := by rw [if_pos rfl] at H; exact H
                                        clear H
                                        have H := H1
                                        clear H1
                                        obtain rfl := Option.some.inj H
                                        go_wp2
                                        repeat (go_quiet (fail); try go_wp2)
                                        go_ret
                                        exact ⟨by first | rfl | (simp [errW_none, errW_some] <;> rfl) | (simp [*, errW_none, errW_some] <;> rfl), by repeat (first | (with_reducible first | exact HB.out | apply below_alloc | apply pw_below_drewN | apply below_drew1 | refine below_set ?_ GE200.out) | exact HB.out)⟩
                                      · replace c38 := Bool.eq_false_iff.mpr c38
                                        subst c38
                                        have H1 : ((vector_With.f kj25 x10_4 ((rd_T52 t180 x12_2).f0) x13_4).bind fun bt203 => (if bt203.2 = 0 then (pannierlaw07_VectorSpans.l1 kj25 l0 l1 t179 t180 t184 bt203.1 (wrap64 ((wrap64 (x11_2 - (wrap64 (((rd_T52 t180 x12_2).f2) - ((rd_T52 t180 x12_2).f1))))) - 1)) x12_2 (wrap64 (x13_4 + 1))) else (some false))) = some r := by rw [if_neg (show ¬ (false = true) by decide)] at H; exact H
                                        clear H
                                        have H := H1
                                        clear H1
                                        replace H := Option.bind_eq_some_iff.mp H
                                        obtain ⟨⟨t203, t206⟩, A390, H⟩ := H
                                        replace H : (if t206 = 0 then (pannierlaw07_VectorSpans.l1 kj25 l0 l1 t179 t180 t184 t203 (wrap64 ((wrap64 (x11_2 - (wrap64 (((rd_T52 t180 x12_2).f2) - ((rd_T52 t180 x12_2).f1))))) - 1)) x12_2 (wrap64 (x13_4 + 1))) else (some false)) = some r := H
                                        have A39 := Aside0.mk A390
                                        clear A390
                                        by_cases c40 : t206 = 0
                                        · rw [if_pos c40] at H
                                          have c40b0 : (t206 == 0) = true := beq_iff_eq.mpr c40
                                          have c40b1 : (t206 != 0) = false := bne_eq_false_iff_eq.mpr c40
                                          clear c40
                                          have H' := Aside0.mk H
                                          clear H
                                          have hcz41_0 : wc.cell? ⟨gb200, 0, none⟩ = some (.string ((rd_T52 t180 x12_2).f0)) := (blk_cell BK200.out 0).trans rfl
                                          have hcz41_1 : wc.cell? ⟨gb200, 1, none⟩ = some (.int .i64 x13_4) := (blk_cell BK200.out 1).trans rfl
                                          have hfz41_0 := blk_frozen BK200.out 0
                                          have hfz41_1 := blk_frozen BK200.out 1
                                          obtain ⟨Ao42, co42, eo42⟩ := Kd.V_slice HO_10.out
                                          subst eo42
                                          go_wp2_with (first | (go_at_call 35; (with_reducible refine (vector_With.calls kj25 _ _ x10_4 ((rd_T52 t180 x12_2).f0) x13_4 t203 t206 _ ?side1 ?side2 A39.out).mono ?_); (case side1 => repeat (first | exact (Kd.V_reads' HO_10.out).2.2 | (with_reducible refine Kd.C_alloc ?_ _) | (with_reducible refine Kd.C_drewN ?_ _) | (with_reducible refine Kd.C_drew ?_))); (case side2 => exact (Kd.V_reads' HO_10.out).2.1); rintro e w43 ⟨v204, rfl, ho0, hb⟩; have n0_ := Aside0.mk (Kd.V_elder' (by (with_reducible repeat (first | apply Kd.V_alloc | apply Kd.V_drewN | apply Kd.V_drew)); exact HO_0.out) (Kd.R_base ho0) hb); have n1_ := Aside0.mk (Kd.R_below (by (with_reducible repeat (first | apply Kd.R_alloc | apply Kd.R_drewN | apply Kd.R_drew)); exact HO_6.out) hb); have n2_ := Aside0.mk (Kd.R_elder' (by (with_reducible repeat (first | apply Kd.R_alloc | apply Kd.R_drewN | apply Kd.R_drew)); exact HO_8.out) (Kd.R_base ho0) hb); have n3_ := Aside0.mk (Kd.V_elder' (by (with_reducible repeat (first | apply Kd.V_alloc | apply Kd.V_drewN | apply Kd.V_drew)); exact HO_10.out) (Kd.R_base ho0) hb); have n4_ := Aside0.mk (Kd.R_lower (Kd.R_newB (Kd.R_new' (Kd.R_newM (M := fun k_ => (w.heap.size ≤ k_)) ho0 (below_size (by repeat (first | (with_reducible first | exact HB.out | apply below_alloc | apply pw_below_drewN | apply below_drew1 | refine below_set ?_ GE200.out) | exact HB.out))) (fun k_ h_ => h_)) (Kd.R_lt (by (with_reducible repeat (first | apply Kd.R_alloc | apply Kd.R_drewN | apply Kd.R_drew)); exact HO_8.out))) (g := gb200) (o := .cells #[.string ((rd_T52 t180 x12_2).f0), .int .i64 x13_4] 35 (0, 0)) (by (with_reducible repeat (first | refine blk_drewN ?_ _ | refine blk_drew ?_ | refine blk_alloc ?_ _)); exact BK200.out)) (below_size (by repeat (first | (with_reducible first | exact HB.out | apply below_alloc | apply pw_below_drewN | apply below_drew1 | refine below_set ?_ GE200.out) | exact HB.out)))); have n5_ := Aside0.mk (blk_below (g := gb200) (o := .cells #[.string ((rd_T52 t180 x12_2).f0), .int .i64 x13_4] 35 (0, 0)) (by (with_reducible repeat (first | refine blk_drewN ?_ _ | refine blk_drew ?_ | refine blk_alloc ?_ _)); exact BK200.out) hb); have n6_ := Aside0.mk (below_step (by repeat (first | (with_reducible first | exact HB.out | apply below_alloc | apply pw_below_drewN | apply below_drew1 | refine below_set ?_ GE200.out) | exact HB.out)) hb); clear HO_0; clear HO_6; clear HO_8; clear HO_10; clear BK200; clear HB; have HO_0 := n0_; have HO_6 := n1_; have HO_8 := n2_; have HO_10 := n3_; have HO205 := n4_; have BK200 := n5_; have HB := n6_; clear n0_ n1_ n2_ n3_ n4_ n5_ n6_; (try clear hb); (try clear hb2); (try clear hk); (try clear hi); (try clear ho0)))
                                          repeat (go_quiet (first | (go_at_call 35; (with_reducible refine (vector_With.calls kj25 _ _ x10_4 ((rd_T52 t180 x12_2).f0) x13_4 t203 t206 _ ?side1 ?side2 A39.out).mono ?_); (case side1 => repeat (first | exact (Kd.V_reads' HO_10.out).2.2 | (with_reducible refine Kd.C_alloc ?_ _) | (with_reducible refine Kd.C_drewN ?_ _) | (with_reducible refine Kd.C_drew ?_))); (case side2 => exact (Kd.V_reads' HO_10.out).2.1); rintro e w43 ⟨v204, rfl, ho0, hb⟩; have n0_ := Aside0.mk (Kd.V_elder' (by (with_reducible repeat (first | apply Kd.V_alloc | apply Kd.V_drewN | apply Kd.V_drew)); exact HO_0.out) (Kd.R_base ho0) hb); have n1_ := Aside0.mk (Kd.R_below (by (with_reducible repeat (first | apply Kd.R_alloc | apply Kd.R_drewN | apply Kd.R_drew)); exact HO_6.out) hb); have n2_ := Aside0.mk (Kd.R_elder' (by (with_reducible repeat (first | apply Kd.R_alloc | apply Kd.R_drewN | apply Kd.R_drew)); exact HO_8.out) (Kd.R_base ho0) hb); have n3_ := Aside0.mk (Kd.V_elder' (by (with_reducible repeat (first | apply Kd.V_alloc | apply Kd.V_drewN | apply Kd.V_drew)); exact HO_10.out) (Kd.R_base ho0) hb); have n4_ := Aside0.mk (Kd.R_lower (Kd.R_newB (Kd.R_new' (Kd.R_newM (M := fun k_ => (w.heap.size ≤ k_)) ho0 (below_size (by repeat (first | (with_reducible first | exact HB.out | apply below_alloc | apply pw_below_drewN | apply below_drew1 | refine below_set ?_ GE200.out) | exact HB.out))) (fun k_ h_ => h_)) (Kd.R_lt (by (with_reducible repeat (first | apply Kd.R_alloc | apply Kd.R_drewN | apply Kd.R_drew)); exact HO_8.out))) (g := gb200) (o := .cells #[.string ((rd_T52 t180 x12_2).f0), .int .i64 x13_4] 35 (0, 0)) (by (with_reducible repeat (first | refine blk_drewN ?_ _ | refine blk_drew ?_ | refine blk_alloc ?_ _)); exact BK200.out)) (below_size (by repeat (first | (with_reducible first | exact HB.out | apply below_alloc | apply pw_below_drewN | apply below_drew1 | refine below_set ?_ GE200.out) | exact HB.out)))); have n5_ := Aside0.mk (blk_below (g := gb200) (o := .cells #[.string ((rd_T52 t180 x12_2).f0), .int .i64 x13_4] 35 (0, 0)) (by (with_reducible repeat (first | refine blk_drewN ?_ _ | refine blk_drew ?_ | refine blk_alloc ?_ _)); exact BK200.out) hb); have n6_ := Aside0.mk (below_step (by repeat (first | (with_reducible first | exact HB.out | apply below_alloc | apply pw_below_drewN | apply below_drew1 | refine below_set ?_ GE200.out) | exact HB.out)) hb); clear HO_0; clear HO_6; clear HO_8; clear HO_10; clear BK200; clear HB; have HO_0 := n0_; have HO_6 := n1_; have HO_8 := n2_; have HO_10 := n3_; have HO205 := n4_; have BK200 := n5_; have HB := n6_; clear n0_ n1_ n2_ n3_ n4_ n5_ n6_; (try clear hb); (try clear hb2); (try clear hk); (try clear hi); (try clear ho0))); try go_wp2_with (first | (go_at_call 35; (with_reducible refine (vector_With.calls kj25 _ _ x10_4 ((rd_T52 t180 x12_2).f0) x13_4 t203 t206 _ ?side1 ?side2 A39.out).mono ?_); (case side1 => repeat (first | exact (Kd.V_reads' HO_10.out).2.2 | (with_reducible refine Kd.C_alloc ?_ _) | (with_reducible refine Kd.C_drewN ?_ _) | (with_reducible refine Kd.C_drew ?_))); (case side2 => exact (Kd.V_reads' HO_10.out).2.1); rintro e w43 ⟨v204, rfl, ho0, hb⟩; have n0_ := Aside0.mk (Kd.V_elder' (by (with_reducible repeat (first | apply Kd.V_alloc | apply Kd.V_drewN | apply Kd.V_drew)); exact HO_0.out) (Kd.R_base ho0) hb); have n1_ := Aside0.mk (Kd.R_below (by (with_reducible repeat (first | apply Kd.R_alloc | apply Kd.R_drewN | apply Kd.R_drew)); exact HO_6.out) hb); have n2_ := Aside0.mk (Kd.R_elder' (by (with_reducible repeat (first | apply Kd.R_alloc | apply Kd.R_drewN | apply Kd.R_drew)); exact HO_8.out) (Kd.R_base ho0) hb); have n3_ := Aside0.mk (Kd.V_elder' (by (with_reducible repeat (first | apply Kd.V_alloc | apply Kd.V_drewN | apply Kd.V_drew)); exact HO_10.out) (Kd.R_base ho0) hb); have n4_ := Aside0.mk (Kd.R_lower (Kd.R_newB (Kd.R_new' (Kd.R_newM (M := fun k_ => (w.heap.size ≤ k_)) ho0 (below_size (by repeat (first | (with_reducible first | exact HB.out | apply below_alloc | apply pw_below_drewN | apply below_drew1 | refine below_set ?_ GE200.out) | exact HB.out))) (fun k_ h_ => h_)) (Kd.R_lt (by (with_reducible repeat (first | apply Kd.R_alloc | apply Kd.R_drewN | apply Kd.R_drew)); exact HO_8.out))) (g := gb200) (o := .cells #[.string ((rd_T52 t180 x12_2).f0), .int .i64 x13_4] 35 (0, 0)) (by (with_reducible repeat (first | refine blk_drewN ?_ _ | refine blk_drew ?_ | refine blk_alloc ?_ _)); exact BK200.out)) (below_size (by repeat (first | (with_reducible first | exact HB.out | apply below_alloc | apply pw_below_drewN | apply below_drew1 | refine below_set ?_ GE200.out) | exact HB.out)))); have n5_ := Aside0.mk (blk_below (g := gb200) (o := .cells #[.string ((rd_T52 t180 x12_2).f0), .int .i64 x13_4] 35 (0, 0)) (by (with_reducible repeat (first | refine blk_drewN ?_ _ | refine blk_drew ?_ | refine blk_alloc ?_ _)); exact BK200.out) hb); have n6_ := Aside0.mk (below_step (by repeat (first | (with_reducible first | exact HB.out | apply below_alloc | apply pw_below_drewN | apply below_drew1 | refine below_set ?_ GE200.out) | exact HB.out)) hb); clear HO_0; clear HO_6; clear HO_8; clear HO_10; clear BK200; clear HB; have HO_0 := n0_; have HO_6 := n1_; have HO_8 := n2_; have HO_10 := n3_; have HO205 := n4_; have BK200 := n5_; have HB := n6_; clear n0_ n1_ n2_ n3_ n4_ n5_ n6_; (try clear hb); (try clear hb2); (try clear hk); (try clear hi); (try clear ho0))))
                                          go_roundg kj25
                                          case measure => have := HJ5.out; have := HK2.out; have := HJ12.out; have := HK4.out; have := HJ25.out; omega
                                          case rel => exact ⟨(t203), (wrap64 (x13_4 + 1)), (by first | rfl | (simp; done) | (simp [*]; done)), H', ⟨by have := HJ5.out; have := HK2.out; have := HJ12.out; have := HK4.out; have := HJ25.out; omega⟩, ⟨by (with_reducible repeat (first | apply Kd.V_alloc | apply Kd.V_drewN | apply Kd.V_drew)); exact Kd.V_mono HO_0.out (fun _ hk => ⟨hk.1.1, ⟨hk.1.2.1, hk.1.2.2.1⟩⟩)⟩, ⟨by (with_reducible repeat (first | apply Kd.R_alloc | apply Kd.R_drewN | apply Kd.R_drew)); exact HO_6.out⟩, ⟨by (with_reducible repeat (first | apply Kd.R_alloc | apply Kd.R_drewN | apply Kd.R_drew)); exact Kd.R_mono HO_8.out (fun _ hk => hk.1.1)⟩, ⟨Kd.V_mono (Kd.R_V (by (with_reducible repeat (first | apply Kd.R_alloc | apply Kd.R_drewN | apply Kd.R_drew)); exact Kd.R_apart' HO205.out (Kd.R_typed HO_6.out) (by decide))) (fun k_ hk => by first | exact ⟨(.inr hk.1.1.1.1), hk.2, hk.1.1.2⟩ | exact ⟨(.inr hk.1.1.1.1), hk.2, hk.1.1.2, hk.1.2⟩)⟩, ⟨by repeat (first | (with_reducible first | exact HB.out | apply below_alloc | apply pw_below_drewN | apply below_drew1 | refine below_set ?_ GE200.out) | exact HB.out)⟩⟩
                                        · rw [if_neg c40] at H
                                          have c40b0 : (t206 == 0) = false := beq_eq_false_iff_ne.mpr c40
                                          have c40b1 : (t206 != 0) = true := bne_iff_ne.mpr c40
                                          obtain rfl := Option.some.inj H
                                          have hcz44_0 : wc.cell? ⟨gb200, 0, none⟩ = some (.string ((rd_T52 t180 x12_2).f0)) := (blk_cell BK200.out 0).trans rfl
                                          have hcz44_1 : wc.cell? ⟨gb200, 1, none⟩ = some (.int .i64 x13_4) := (blk_cell BK200.out 1).trans rfl
                                          have hfz44_0 := blk_frozen BK200.out 0
                                          have hfz44_1 := blk_frozen BK200.out 1
                                          obtain ⟨Ao45, co45, eo45⟩ := Kd.V_slice HO_10.out
                                          subst eo45
                                          go_wp2_with (first | (go_at_call 35; (with_reducible refine (vector_With.calls kj25 _ _ x10_4 ((rd_T52 t180 x12_2).f0) x13_4 t203 t206 _ ?side1 ?side2 A39.out).mono ?_); (case side1 => repeat (first | exact (Kd.V_reads' HO_10.out).2.2 | (with_reducible refine Kd.C_alloc ?_ _) | (with_reducible refine Kd.C_drewN ?_ _) | (with_reducible refine Kd.C_drew ?_))); (case side2 => exact (Kd.V_reads' HO_10.out).2.1); rintro e w46 ⟨v204, rfl, ho0, hb⟩; have n0_ := Aside0.mk (Kd.V_elder' (by (with_reducible repeat (first | apply Kd.V_alloc | apply Kd.V_drewN | apply Kd.V_drew)); exact HO_0.out) (Kd.R_base ho0) hb); have n1_ := Aside0.mk (Kd.R_below (by (with_reducible repeat (first | apply Kd.R_alloc | apply Kd.R_drewN | apply Kd.R_drew)); exact HO_6.out) hb); have n2_ := Aside0.mk (Kd.R_elder' (by (with_reducible repeat (first | apply Kd.R_alloc | apply Kd.R_drewN | apply Kd.R_drew)); exact HO_8.out) (Kd.R_base ho0) hb); have n3_ := Aside0.mk (Kd.V_elder' (by (with_reducible repeat (first | apply Kd.V_alloc | apply Kd.V_drewN | apply Kd.V_drew)); exact HO_10.out) (Kd.R_base ho0) hb); have n4_ := Aside0.mk (Kd.R_lower (Kd.R_newB (Kd.R_new' (Kd.R_newM (M := fun k_ => (w.heap.size ≤ k_)) ho0 (below_size (by repeat (first | (with_reducible first | exact HB.out | apply below_alloc | apply pw_below_drewN | apply below_drew1 | refine below_set ?_ GE200.out) | exact HB.out))) (fun k_ h_ => h_)) (Kd.R_lt (by (with_reducible repeat (first | apply Kd.R_alloc | apply Kd.R_drewN | apply Kd.R_drew)); exact HO_8.out))) (g := gb200) (o := .cells #[.string ((rd_T52 t180 x12_2).f0), .int .i64 x13_4] 35 (0, 0)) (by (with_reducible repeat (first | refine blk_drewN ?_ _ | refine blk_drew ?_ | refine blk_alloc ?_ _)); exact BK200.out)) (below_size (by repeat (first | (with_reducible first | exact HB.out | apply below_alloc | apply pw_below_drewN | apply below_drew1 | refine below_set ?_ GE200.out) | exact HB.out)))); have n5_ := Aside0.mk (blk_below (g := gb200) (o := .cells #[.string ((rd_T52 t180 x12_2).f0), .int .i64 x13_4] 35 (0, 0)) (by (with_reducible repeat (first | refine blk_drewN ?_ _ | refine blk_drew ?_ | refine blk_alloc ?_ _)); exact BK200.out) hb); have n6_ := Aside0.mk (below_step (by repeat (first | (with_reducible first | exact HB.out | apply below_alloc | apply pw_below_drewN | apply below_drew1 | refine below_set ?_ GE200.out) | exact HB.out)) hb); clear HO_0; clear HO_6; clear HO_8; clear HO_10; clear BK200; clear HB; have HO_0 := n0_; have HO_6 := n1_; have HO_8 := n2_; have HO_10 := n3_; have HO205 := n4_; have BK200 := n5_; have HB := n6_; clear n0_ n1_ n2_ n3_ n4_ n5_ n6_; (try clear hb); (try clear hb2); (try clear hk); (try clear hi); (try clear ho0)))
                                          repeat (go_quiet (first | (go_at_call 35; (with_reducible refine (vector_With.calls kj25 _ _ x10_4 ((rd_T52 t180 x12_2).f0) x13_4 t203 t206 _ ?side1 ?side2 A39.out).mono ?_); (case side1 => repeat (first | exact (Kd.V_reads' HO_10.out).2.2 | (with_reducible refine Kd.C_alloc ?_ _) | (with_reducible refine Kd.C_drewN ?_ _) | (with_reducible refine Kd.C_drew ?_))); (case side2 => exact (Kd.V_reads' HO_10.out).2.1); rintro e w46 ⟨v204, rfl, ho0, hb⟩; have n0_ := Aside0.mk (Kd.V_elder' (by (with_reducible repeat (first | apply Kd.V_alloc | apply Kd.V_drewN | apply Kd.V_drew)); exact HO_0.out) (Kd.R_base ho0) hb); have n1_ := Aside0.mk (Kd.R_below (by (with_reducible repeat (first | apply Kd.R_alloc | apply Kd.R_drewN | apply Kd.R_drew)); exact HO_6.out) hb); have n2_ := Aside0.mk (Kd.R_elder' (by (with_reducible repeat (first | apply Kd.R_alloc | apply Kd.R_drewN | apply Kd.R_drew)); exact HO_8.out) (Kd.R_base ho0) hb); have n3_ := Aside0.mk (Kd.V_elder' (by (with_reducible repeat (first | apply Kd.V_alloc | apply Kd.V_drewN | apply Kd.V_drew)); exact HO_10.out) (Kd.R_base ho0) hb); have n4_ := Aside0.mk (Kd.R_lower (Kd.R_newB (Kd.R_new' (Kd.R_newM (M := fun k_ => (w.heap.size ≤ k_)) ho0 (below_size (by repeat (first | (with_reducible first | exact HB.out | apply below_alloc | apply pw_below_drewN | apply below_drew1 | refine below_set ?_ GE200.out) | exact HB.out))) (fun k_ h_ => h_)) (Kd.R_lt (by (with_reducible repeat (first | apply Kd.R_alloc | apply Kd.R_drewN | apply Kd.R_drew)); exact HO_8.out))) (g := gb200) (o := .cells #[.string ((rd_T52 t180 x12_2).f0), .int .i64 x13_4] 35 (0, 0)) (by (with_reducible repeat (first | refine blk_drewN ?_ _ | refine blk_drew ?_ | refine blk_alloc ?_ _)); exact BK200.out)) (below_size (by repeat (first | (with_reducible first | exact HB.out | apply below_alloc | apply pw_below_drewN | apply below_drew1 | refine below_set ?_ GE200.out) | exact HB.out)))); have n5_ := Aside0.mk (blk_below (g := gb200) (o := .cells #[.string ((rd_T52 t180 x12_2).f0), .int .i64 x13_4] 35 (0, 0)) (by (with_reducible repeat (first | refine blk_drewN ?_ _ | refine blk_drew ?_ | refine blk_alloc ?_ _)); exact BK200.out) hb); have n6_ := Aside0.mk (below_step (by repeat (first | (with_reducible first | exact HB.out | apply below_alloc | apply pw_below_drewN | apply below_drew1 | refine below_set ?_ GE200.out) | exact HB.out)) hb); clear HO_0; clear HO_6; clear HO_8; clear HO_10; clear BK200; clear HB; have HO_0 := n0_; have HO_6 := n1_; have HO_8 := n2_; have HO_10 := n3_; have HO205 := n4_; have BK200 := n5_; have HB := n6_; clear n0_ n1_ n2_ n3_ n4_ n5_ n6_; (try clear hb); (try clear hb2); (try clear hk); (try clear hi); (try clear ho0))); try go_wp2_with (first | (go_at_call 35; (with_reducible refine (vector_With.calls kj25 _ _ x10_4 ((rd_T52 t180 x12_2).f0) x13_4 t203 t206 _ ?side1 ?side2 A39.out).mono ?_); (case side1 => repeat (first | exact (Kd.V_reads' HO_10.out).2.2 | (with_reducible refine Kd.C_alloc ?_ _) | (with_reducible refine Kd.C_drewN ?_ _) | (with_reducible refine Kd.C_drew ?_))); (case side2 => exact (Kd.V_reads' HO_10.out).2.1); rintro e w46 ⟨v204, rfl, ho0, hb⟩; have n0_ := Aside0.mk (Kd.V_elder' (by (with_reducible repeat (first | apply Kd.V_alloc | apply Kd.V_drewN | apply Kd.V_drew)); exact HO_0.out) (Kd.R_base ho0) hb); have n1_ := Aside0.mk (Kd.R_below (by (with_reducible repeat (first | apply Kd.R_alloc | apply Kd.R_drewN | apply Kd.R_drew)); exact HO_6.out) hb); have n2_ := Aside0.mk (Kd.R_elder' (by (with_reducible repeat (first | apply Kd.R_alloc | apply Kd.R_drewN | apply Kd.R_drew)); exact HO_8.out) (Kd.R_base ho0) hb); have n3_ := Aside0.mk (Kd.V_elder' (by (with_reducible repeat (first | apply Kd.V_alloc | apply Kd.V_drewN | apply Kd.V_drew)); exact HO_10.out) (Kd.R_base ho0) hb); have n4_ := Aside0.mk (Kd.R_lower (Kd.R_newB (Kd.R_new' (Kd.R_newM (M := fun k_ => (w.heap.size ≤ k_)) ho0 (below_size (by repeat (first | (with_reducible first | exact HB.out | apply below_alloc | apply pw_below_drewN | apply below_drew1 | refine below_set ?_ GE200.out) | exact HB.out))) (fun k_ h_ => h_)) (Kd.R_lt (by (with_reducible repeat (first | apply Kd.R_alloc | apply Kd.R_drewN | apply Kd.R_drew)); exact HO_8.out))) (g := gb200) (o := .cells #[.string ((rd_T52 t180 x12_2).f0), .int .i64 x13_4] 35 (0, 0)) (by (with_reducible repeat (first | refine blk_drewN ?_ _ | refine blk_drew ?_ | refine blk_alloc ?_ _)); exact BK200.out)) (below_size (by repeat (first | (with_reducible first | exact HB.out | apply below_alloc | apply pw_below_drewN | apply below_drew1 | refine below_set ?_ GE200.out) | exact HB.out)))); have n5_ := Aside0.mk (blk_below (g := gb200) (o := .cells #[.string ((rd_T52 t180 x12_2).f0), .int .i64 x13_4] 35 (0, 0)) (by (with_reducible repeat (first | refine blk_drewN ?_ _ | refine blk_drew ?_ | refine blk_alloc ?_ _)); exact BK200.out) hb); have n6_ := Aside0.mk (below_step (by repeat (first | (with_reducible first | exact HB.out | apply below_alloc | apply pw_below_drewN | apply below_drew1 | refine below_set ?_ GE200.out) | exact HB.out)) hb); clear HO_0; clear HO_6; clear HO_8; clear HO_10; clear BK200; clear HB; have HO_0 := n0_; have HO_6 := n1_; have HO_8 := n2_; have HO_10 := n3_; have HO205 := n4_; have BK200 := n5_; have HB := n6_; clear n0_ n1_ n2_ n3_ n4_ n5_ n6_; (try clear hb); (try clear hb2); (try clear hk); (try clear hi); (try clear ho0))))
                                          go_ret
                                          exact ⟨by first | rfl | (simp [errW_none, errW_some] <;> rfl) | (simp [*, errW_none, errW_some] <;> rfl), by repeat (first | (with_reducible first | exact HB.out | apply below_alloc | apply pw_below_drewN | apply below_drew1 | refine below_set ?_ GE200.out) | exact HB.out)⟩
                                · rw [if_neg c25] at H
                                  have c25b0 : decide (x13_4 ≤ ((rd_T52 t180 x12_2).f2)) = false := decide_eq_false c25
                                  clear c25
                                  have H' := Aside0.mk H
                                  clear H
                                  have p198 : 0 ≤ (x12_2 : Int) := of_decide_eq_true (by first | (with_reducible assumption) | assumption)
                                  have q198 : x12_2 < (t180.length : Int) := of_decide_eq_true (by first | (with_reducible assumption) | assumption)
                                  obtain ⟨ad198, e198, hx198_0, hx198_1, hx198_2⟩ := at_T52 (Kd.R_reads' HO_6.out).2.2 x12_2 p198 q198
                                  obtain rfl : ad195 = ad198 := (by injection e198)
                                  replace p198 := eq_true p198
                                  replace q198 := eq_true q198
                                  go_wp2
                                  repeat (go_quiet (fail); try go_wp2)
                                  go_roundg k4
                                  case measure => have := HJ5.out; have := HK2.out; have := HJ12.out; have := HK4.out; omega
                                  case rel => exact ⟨(x10_4), ((wrap64 ((wrap64 (x11_2 - (wrap64 (((rd_T52 t180 x12_2).f2) - ((rd_T52 t180 x12_2).f1))))) - 1))), (wrap64 (x12_2 + 1)), (by first | rfl | (simp; done) | (simp [*]; done)), (by first | rfl | (simp; done) | (simp [*]; done)), H', ⟨by have := HJ5.out; have := HK2.out; have := HJ12.out; have := HK4.out; omega⟩, ⟨by (with_reducible repeat (first | apply Kd.V_alloc | apply Kd.V_drewN | apply Kd.V_drew)); exact HO_0.out⟩, ⟨by (with_reducible repeat (first | apply Kd.R_alloc | apply Kd.R_drewN | apply Kd.R_drew)); exact HO_6.out⟩, ⟨by (with_reducible repeat (first | apply Kd.R_alloc | apply Kd.R_drewN | apply Kd.R_drew)); exact HO_8.out⟩, ⟨by (with_reducible repeat (first | apply Kd.V_alloc | apply Kd.V_drewN | apply Kd.V_drew)); exact HO_10.out⟩, ⟨by repeat (first | (with_reducible first | exact HB.out | apply below_alloc | apply pw_below_drewN | apply below_drew1) | exact HB.out)⟩⟩
                              · rw [if_neg c24] at H
                                exact absurd H (by simp)
                            · rw [if_neg c23] at H
                              exact absurd H (by simp)
                      · rw [if_neg c22] at H
                        exact absurd H (by simp)
                    · rw [if_neg c21] at H
                      exact absurd H (by simp)
            · rw [if_neg c12] at H
              have c12b0 : decide (x12_2 < (t180.length : Int)) = false := decide_eq_false c12
              clear c12
              by_cases c47 : t179 = true
              · subst c47
                have H1 : ((pannierref07_Same.f k2 x10_2 t184).bind fun t188 => (some t188)) = some r := by rw [if_pos rfl] at H; exact H
                clear H
                have H := H1
                clear H1
                replace H := Option.bind_eq_some_iff.mp H
                obtain ⟨t188, A480, H⟩ := H
                replace H : (some t188) = some r := H
                have A48 := Aside0.mk A480
                clear A480
                obtain rfl := Option.some.inj H
                obtain ⟨Ao49, co49, eo49⟩ := Kd.R_slice HO_6.out
                subst eo49
                obtain ⟨Ao50, co50, eo50⟩ := Kd.V_slice HO_10.out
                subst eo50
                obtain ⟨Ao51, co51, eo51⟩ := Kd.R_slice HO_8.out
                subst eo51
                go_wp2_with (first | (go_at_call 15; (with_reducible refine (pannierref07_Same.calls k2 _ _ x10_2 _ _ t184 t188 _ ?side1 ?side2 ?side3 ?side4 A48.out).mono ?_); (case side1 => repeat (first | exact (Kd.V_reads' HO_10.out).2.2 | (with_reducible refine Kd.C_alloc ?_ _) | (with_reducible refine Kd.C_drewN ?_ _) | (with_reducible refine Kd.C_drew ?_))); (case side2 => exact (Kd.V_reads' HO_10.out).2.1); (case side3 => repeat (first | exact (Kd.R_reads' HO_8.out).2.2 | (with_reducible refine Kd.C_alloc ?_ _) | (with_reducible refine Kd.C_drewN ?_ _) | (with_reducible refine Kd.C_drew ?_))); (case side4 => exact (Kd.R_reads' HO_8.out).2.1); rintro e w' ⟨rfl, ⟨nd, rfl⟩⟩; (try first | exact ⟨rfl, _, World.drewN_drewN _ _ _⟩ | exact ⟨rfl, _, Eq.trans (World.drewN_drewN _ _ _) (congrArg (World.drewN _) (Nat.add_assoc _ _ _))⟩)))
                repeat (go_quiet (first | (go_at_call 15; (with_reducible refine (pannierref07_Same.calls k2 _ _ x10_2 _ _ t184 t188 _ ?side1 ?side2 ?side3 ?side4 A48.out).mono ?_); (case side1 => repeat (first | exact (Kd.V_reads' HO_10.out).2.2 | (with_reducible refine Kd.C_alloc ?_ _) | (with_reducible refine Kd.C_drewN ?_ _) | (with_reducible refine Kd.C_drew ?_))); (case side2 => exact (Kd.V_reads' HO_10.out).2.1); (case side3 => repeat (first | exact (Kd.R_reads' HO_8.out).2.2 | (with_reducible refine Kd.C_alloc ?_ _) | (with_reducible refine Kd.C_drewN ?_ _) | (with_reducible refine Kd.C_drew ?_))); (case side4 => exact (Kd.R_reads' HO_8.out).2.1); rintro e w' ⟨rfl, ⟨nd, rfl⟩⟩; (try first | exact ⟨rfl, _, World.drewN_drewN _ _ _⟩ | exact ⟨rfl, _, Eq.trans (World.drewN_drewN _ _ _) (congrArg (World.drewN _) (Nat.add_assoc _ _ _))⟩))); try go_wp2_with (first | (go_at_call 15; (with_reducible refine (pannierref07_Same.calls k2 _ _ x10_2 _ _ t184 t188 _ ?side1 ?side2 ?side3 ?side4 A48.out).mono ?_); (case side1 => repeat (first | exact (Kd.V_reads' HO_10.out).2.2 | (with_reducible refine Kd.C_alloc ?_ _) | (with_reducible refine Kd.C_drewN ?_ _) | (with_reducible refine Kd.C_drew ?_))); (case side2 => exact (Kd.V_reads' HO_10.out).2.1); (case side3 => repeat (first | exact (Kd.R_reads' HO_8.out).2.2 | (with_reducible refine Kd.C_alloc ?_ _) | (with_reducible refine Kd.C_drewN ?_ _) | (with_reducible refine Kd.C_drew ?_))); (case side4 => exact (Kd.R_reads' HO_8.out).2.1); rintro e w' ⟨rfl, ⟨nd, rfl⟩⟩; (try first | exact ⟨rfl, _, World.drewN_drewN _ _ _⟩ | exact ⟨rfl, _, Eq.trans (World.drewN_drewN _ _ _) (congrArg (World.drewN _) (Nat.add_assoc _ _ _))⟩))))
                go_ret
                exact ⟨by first | rfl | (simp [errW_none, errW_some] <;> rfl) | (simp [*, errW_none, errW_some] <;> rfl), by repeat (first | (with_reducible first | exact HB.out | apply below_alloc | apply pw_below_drewN | apply below_drew1) | exact HB.out)⟩
              · replace c47 := Bool.eq_false_iff.mpr c47
                subst c47
                have H1 : (some false) = some r := by rw [if_neg (show ¬ (false = true) by decide)] at H; exact H
                clear H
                have H := H1
                clear H1
                obtain rfl := Option.some.inj H
                obtain ⟨Ao52, co52, eo52⟩ := Kd.R_slice HO_6.out
                subst eo52
                go_wp2
                repeat (go_quiet (fail); try go_wp2)
                go_ret
                exact ⟨by first | rfl | (simp [errW_none, errW_some] <;> rfl) | (simp [*, errW_none, errW_some] <;> rfl), by repeat (first | (with_reducible first | exact HB.out | apply below_alloc | apply pw_below_drewN | apply below_drew1) | exact HB.out)⟩

end Go.Proofs.Ytnnlpelogabokaa.PW
