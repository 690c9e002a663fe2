/- What the rows of this claim use, out of the texts of this work (PD17). No condition beyond those that each statement names. -/
import Derived.Test.YtenbkljgmgdegaaQjPOx0
import Derived.Test.YtenbkljgmgdegaaQjOH
import Derived.Test.YtenbkljgmgdegaaQjPOx2
import Derived.Test.YtenbkljgmgdegaaQjPD10
import Derived.Test.YtenbkljgmgdegaaQjPD15
namespace Go.Proofs.Ytenbkljgmgdegaa.PO
open Go.RowKit Go.Proofs.YtenbkljgmgdegaaW.PrintWords Go.Proofs.YtenbkljgmgdegaaW.PrintLast Go.Proofs.YtenbkljgmgdegaaW.PrintMore
attribute [local go_sem] max2_int min2_int max_two min_two max_three min_three max_four min_four   -- for this text's walks alone
set_option linter.unusedVariables false
set_option linter.unusedSimpArgs false
mutual
def wire_TakeNumber.j0 : Nat → List Int → Int → Bool → Option (Int × Int × Int)
 | 0, _, _, _ => none
 | k + 1, x0, x1, x17 => if x17 = true then (some (0, 0, 20)) else (if 0 ≤ x1 then (if x1 < (x0.length : Int) then ((bits_LeadingZeros8.f (Go.bits .xor .u8 255 (rd x0 x1))).bind fun t314 => (if t314 ≥ (wrap64 ((x0.length : Int) - x1)) then (some (0, 0, 20)) else (if 0 ≤ t314 then (wire_TakeNumber.l0 k x0 x1 t314 (IntKind.u64.wrap (Go.bits .and .u8 (rd x0 x1) (shr .u8 127 t314))) t314 0) else (none)))) else (none)) else (none))
def wire_TakeNumber.l0 : Nat → List Int → Int → Int → Int → Int → Int → Option (Int × Int × Int)
 | 0, _, _, _, _, _, _ => none
 | k + 1, x0, x1, x7, x8, x38, x39 => if x39 < x38 then (if 0 ≤ (wrap64 ((wrap64 (x1 + 1)) + x39)) then (if (wrap64 ((wrap64 (x1 + 1)) + x39)) < (x0.length : Int) then (wire_TakeNumber.l0 k x0 x1 x7 (Go.bits .or .u64 (IntKind.u64.wrap (x8 * 256)) (IntKind.u64.wrap (rd x0 (wrap64 ((wrap64 (x1 + 1)) + x39))))) x38 (wrap64 (x39 + 1))) else (none)) else (none)) else ((wire_extra.f k x8).bind fun t317 => (if t317 = x7 then (some (x8, wrap64 ((wrap64 (x1 + 1)) + x7), 0)) else (some (0, 0, 20))))
end
def wire_TakeNumber.f (k : Nat) (l0 : List Int) (a1 : Int) : Option (Int × Int × Int) := if a1 < 0 then (wire_TakeNumber.j0 k l0 a1 true) else (wire_TakeNumber.j0 k l0 a1 (decide (a1 ≥ (l0.length : Int))))
set_option maxHeartbeats 8000000 in
set_option maxRecDepth 100000 in
theorem wire_TakeNumber.calls (k : Nat) (A0 : Option Addr) (c0 : Nat) (l0 : List Int) (a1 : Int) (r1 : Int) (r2 : Int) (r3 : Int) (w : World) (hr0 : Kd.C (Kd.int .u8) w A0 l0.length l0) (hc0 : l0.length ≤ c0) (h : wire_TakeNumber.f k l0 a1 = some (r1, r2, r3)) :
 Calls Try.prog 71 #[.slice A0 l0.length c0, .int .i64 a1] w fun e w' => e = .returned (.tuple #[.int .u64 r1, .int .i64 r2, .int .i64 r3]) ∧ Below w.heap.size w w' := by
 have HR0 := Aside0.mk hr0
 have HC0 := Aside0.mk hc0
 clear hr0 hc0
 have HB := Aside0.mk (Below.refl w.heap.size w)
 have H : (if a1 < 0 then (wire_TakeNumber.j0 k l0 a1 true) else (wire_TakeNumber.j0 k l0 a1 (decide (a1 ≥ (l0.length : Int))))) = some (r1, r2, r3) := h
 clear h
 have HC3 := Aside0.mk H
 clear H
 go_enter Try.func71, Try.ntmps71
 go_upto_region 1 with (fail)
 repeat (go_quiet (fail); go_upto_region 1 with (fail))
 go_cut [17] (fun v17 wc => ∃ (kq : Nat) (x17_2 : Bool), v17 = .bool x17_2 ∧ Aside0 (wire_TakeNumber.j0 kq l0 a1 x17_2 = some (r1, r2, r3)) ∧ Aside0 (kq ≤ k) ∧ Aside0 (Below w.heap.size w wc))
 case first =>
  have H := HC3.out
  clear HC3
  by_cases c4 : a1 < 0
  · rw [if_pos c4] at H
    have c4b0 : decide (a1 < 0) = true := decide_eq_true c4
    clear c4
    (first | rw [c4b0] | (simp only [i64_w, i32_w]; rw [c4b0]) | skip)
    have H' := Aside0.mk H
    clear H
    go_wp2
    repeat (go_quiet (fail); try go_wp2)
    go_meet
    case rel => exact ⟨_, (true), (by first | rfl | (simp; done) | (simp [*]; done)), H', ⟨by first | omega | exact Nat.le_refl _⟩, ⟨by repeat (first | (with_reducible first | exact HB.out | apply below_alloc | apply pw_below_drewN | apply below_drew1) | exact HB.out)⟩⟩
  · rw [if_neg c4] at H
    have c4b0 : decide (a1 < 0) = false := decide_eq_false c4
    clear c4
    (first | rw [c4b0] | (simp only [i64_w, i32_w]; rw [c4b0]) | skip)
    have H' := Aside0.mk H
    clear H
    go_wp2
    repeat (go_quiet (fail); try go_wp2)
    go_meet
    case rel => exact ⟨_, (decide (a1 ≥ (l0.length : Int))), (by first | rfl | (simp; done) | (simp [*]; done)), H', ⟨by first | omega | exact Nat.le_refl _⟩, ⟨by repeat (first | (with_reducible first | exact HB.out | apply below_alloc | apply pw_below_drewN | apply below_drew1) | exact HB.out)⟩⟩
 case rest =>
  clear HC3
  try clear p2
  try clear c4
  try clear c4b0
  obtain ⟨kq, x17_2, rfl, HA, HJ2, HB⟩ := hcut
  cases kq with
  | zero => exact absurd HA.out (by simp [wire_TakeNumber.j0])
  | succ kj2 =>
   have H := HA.out
   clear HA
   simp only [wire_TakeNumber.j0] at H
   by_cases c5 : x17_2 = true
   · subst c5
     have H1 : (some (0, 0, 20)) = some (r1, r2, r3) := by rw [if_pos rfl] at H; exact H
     clear H
     have H := H1
     clear H1
     simp only [Option.some.injEq, Prod.mk.injEq] at H
     obtain ⟨rfl, rfl, rfl⟩ := H
     go_wp2
     repeat (go_quiet (fail); try go_wp2)
     go_ret3
     exact ⟨by first | rfl | (simp [errW_none, errW_some] <;> rfl) | (simp [*, errW_none, errW_some] <;> rfl), by repeat (first | (with_reducible first | exact HB.out | apply below_alloc | apply pw_below_drewN | apply below_drew1) | exact HB.out)⟩
   · replace c5 := Bool.eq_false_iff.mpr c5
     subst c5
     have H1 : (if 0 ≤ a1 then (if a1 < (l0.length : Int) then ((bits_LeadingZeros8.f (Go.bits .xor .u8 255 (rd l0 a1))).bind fun t314 => (if t314 ≥ (wrap64 ((l0.length : Int) - a1)) then (some (0, 0, 20)) else (if 0 ≤ t314 then (wire_TakeNumber.l0 kj2 l0 a1 t314 (IntKind.u64.wrap (Go.bits .and .u8 (rd l0 a1) (shr .u8 127 t314))) t314 0) else (none)))) else (none)) else (none)) = some (r1, r2, r3) := by rw [if_neg (show ¬ (false = true) by decide)] at H; exact H
     clear H
     have H := H1
     clear H1
     by_cases c6 : 0 ≤ a1
     · rw [if_pos c6] at H
       have c6b0 : decide (0 ≤ a1) = true := decide_eq_true c6
       clear c6
       by_cases c7 : a1 < (l0.length : Int)
       · rw [if_pos c7] at H
         have c7b0 : decide (a1 < (l0.length : Int)) = true := decide_eq_true c7
         clear c7
         replace H := Option.bind_eq_some_iff.mp H
         obtain ⟨t314, A80, H⟩ := H
         replace H : (if t314 ≥ (wrap64 ((l0.length : Int) - a1)) then (some (0, 0, 20)) else (if 0 ≤ t314 then (wire_TakeNumber.l0 kj2 l0 a1 t314 (IntKind.u64.wrap (Go.bits .and .u8 (rd l0 a1) (shr .u8 127 t314))) t314 0) else (none))) = some (r1, r2, r3) := H
         have A8 := Aside0.mk A80
         clear A80
         by_cases c9 : t314 ≥ (wrap64 ((l0.length : Int) - a1))
         · rw [if_pos c9] at H
           have c9b0 : decide ((wrap64 ((l0.length : Int) - a1)) ≤ t314) = true := decide_eq_true c9
           clear c9
           simp only [Option.some.injEq, Prod.mk.injEq] at H
           obtain ⟨rfl, rfl, rfl⟩ := H
           have p313 : 0 ≤ (a1 : Int) := of_decide_eq_true (by first | (with_reducible assumption) | assumption)
           have q313 : a1 < (l0.length : Int) := of_decide_eq_true (by first | (with_reducible assumption) | assumption)
           obtain ⟨ad313, e313, hx313_0⟩ := Kd.at_int HR0.out a1 p313 q313
           cases e313
           replace hx313_0 := (HB.out.cell (World.block_lt_of_cell? w _ hx313_0)).trans hx313_0
           replace p313 := eq_true p313
           replace q313 := eq_true q313
           go_wp2_with (first | (go_at_call 114; (with_reducible refine (bits_LeadingZeros8.calls (Go.bits .xor .u8 255 (rd l0 a1)) t314 _ A8.out).mono ?_); rintro e w' ⟨rfl, ⟨nd, rfl⟩⟩; (try first | exact ⟨rfl, _, World.drewN_drewN _ _ _⟩ | exact ⟨rfl, _, Eq.trans (World.drewN_drewN _ _ _) (congrArg (World.drewN _) (Nat.add_assoc _ _ _))⟩)))
           repeat (go_quiet (first | (go_at_call 114; (with_reducible refine (bits_LeadingZeros8.calls (Go.bits .xor .u8 255 (rd l0 a1)) t314 _ A8.out).mono ?_); rintro e w' ⟨rfl, ⟨nd, rfl⟩⟩; (try first | exact ⟨rfl, _, World.drewN_drewN _ _ _⟩ | exact ⟨rfl, _, Eq.trans (World.drewN_drewN _ _ _) (congrArg (World.drewN _) (Nat.add_assoc _ _ _))⟩))); try go_wp2_with (first | (go_at_call 114; (with_reducible refine (bits_LeadingZeros8.calls (Go.bits .xor .u8 255 (rd l0 a1)) t314 _ A8.out).mono ?_); rintro e w' ⟨rfl, ⟨nd, rfl⟩⟩; (try first | exact ⟨rfl, _, World.drewN_drewN _ _ _⟩ | exact ⟨rfl, _, Eq.trans (World.drewN_drewN _ _ _) (congrArg (World.drewN _) (Nat.add_assoc _ _ _))⟩))))
           go_ret3
           exact ⟨by first | rfl | (simp [errW_none, errW_some] <;> rfl) | (simp [*, errW_none, errW_some] <;> rfl), by repeat (first | (with_reducible first | exact HB.out | apply below_alloc | apply pw_below_drewN | apply below_drew1) | exact HB.out)⟩
         · rw [if_neg c9] at H
           have c9b0 : decide ((wrap64 ((l0.length : Int) - a1)) ≤ t314) = false := decide_eq_false c9
           clear c9
           by_cases c10 : 0 ≤ t314
           · rw [if_pos c10] at H
             have c10b0 := eq_true c10
             have c10b1 : decide (0 ≤ t314) = true := decide_eq_true c10
             clear c10
             obtain ⟨ji11, hji11⟩ : ∃ j_ : Int, (shr .u8 127 t314) = j_ := ⟨_, rfl⟩
             replace H : (wire_TakeNumber.l0 kj2 l0 a1 t314 (IntKind.u64.wrap (Go.bits .and .u8 (rd l0 a1) (ji11))) t314 0) = some (r1, r2, r3) := by first | (rw [hji11] at H; exact H) | (simp only [hji11] at H ⊢; exact H)
             (try rw [hji11] at A8)
             have hji11_ : (127 / 2 ^ min t314.toNat 8) = ji11 := hji11
             have hji11z : t314 ≤ 8 → (127 / 2 ^ t314.toNat) = ji11 := shr_small hji11
             have H' := Aside0.mk H
             clear H
             have p313 : 0 ≤ (a1 : Int) := of_decide_eq_true (by first | (with_reducible assumption) | assumption)
             have q313 : a1 < (l0.length : Int) := of_decide_eq_true (by first | (with_reducible assumption) | assumption)
             obtain ⟨ad313, e313, hx313_0⟩ := Kd.at_int HR0.out a1 p313 q313
             cases e313
             replace hx313_0 := (HB.out.cell (World.block_lt_of_cell? w _ hx313_0)).trans hx313_0
             replace p313 := eq_true p313
             replace q313 := eq_true q313
             go_wp2_with (first | (go_at_call 114; (with_reducible refine (bits_LeadingZeros8.calls (Go.bits .xor .u8 255 (rd l0 a1)) t314 _ A8.out).mono ?_); rintro e w' ⟨rfl, ⟨nd, rfl⟩⟩; (try first | exact ⟨rfl, _, World.drewN_drewN _ _ _⟩ | exact ⟨rfl, _, Eq.trans (World.drewN_drewN _ _ _) (congrArg (World.drewN _) (Nat.add_assoc _ _ _))⟩); have p315 : 0 ≤ (a1 : Int) := of_decide_eq_true (by first | (with_reducible assumption) | assumption); have q315 : a1 < (l0.length : Int) := of_decide_eq_true (by first | (with_reducible assumption) | assumption); obtain ⟨ad315, e315, hx315_0⟩ := Kd.at_int HR0.out a1 p315 q315; obtain rfl : ad313 = ad315 := (by injection e315); replace hx315_0 := (HB.out.cell (World.block_lt_of_cell? w _ hx315_0)).trans hx315_0; replace p315 := eq_true p315; replace q315 := eq_true q315))
             repeat (go_quiet (first | (go_at_call 114; (with_reducible refine (bits_LeadingZeros8.calls (Go.bits .xor .u8 255 (rd l0 a1)) t314 _ A8.out).mono ?_); rintro e w' ⟨rfl, ⟨nd, rfl⟩⟩; (try first | exact ⟨rfl, _, World.drewN_drewN _ _ _⟩ | exact ⟨rfl, _, Eq.trans (World.drewN_drewN _ _ _) (congrArg (World.drewN _) (Nat.add_assoc _ _ _))⟩); have p315 : 0 ≤ (a1 : Int) := of_decide_eq_true (by first | (with_reducible assumption) | assumption); have q315 : a1 < (l0.length : Int) := of_decide_eq_true (by first | (with_reducible assumption) | assumption); obtain ⟨ad315, e315, hx315_0⟩ := Kd.at_int HR0.out a1 p315 q315; obtain rfl : ad313 = ad315 := (by injection e315); replace hx315_0 := (HB.out.cell (World.block_lt_of_cell? w _ hx315_0)).trans hx315_0; replace p315 := eq_true p315; replace q315 := eq_true q315)); try go_wp2_with (first | (go_at_call 114; (with_reducible refine (bits_LeadingZeros8.calls (Go.bits .xor .u8 255 (rd l0 a1)) t314 _ A8.out).mono ?_); rintro e w' ⟨rfl, ⟨nd, rfl⟩⟩; (try first | exact ⟨rfl, _, World.drewN_drewN _ _ _⟩ | exact ⟨rfl, _, Eq.trans (World.drewN_drewN _ _ _) (congrArg (World.drewN _) (Nat.add_assoc _ _ _))⟩); have p315 : 0 ≤ (a1 : Int) := of_decide_eq_true (by first | (with_reducible assumption) | assumption); have q315 : a1 < (l0.length : Int) := of_decide_eq_true (by first | (with_reducible assumption) | assumption); obtain ⟨ad315, e315, hx315_0⟩ := Kd.at_int HR0.out a1 p315 q315; obtain rfl : ad313 = ad315 := (by injection e315); replace hx315_0 := (HB.out.cell (World.block_lt_of_cell? w _ hx315_0)).trans hx315_0; replace p315 := eq_true p315; replace q315 := eq_true q315)))
             go_loopg [8, 39] kj2 (fun kq v8 v39 w' => ∃ (x8_2 : Int) (x39_2 : Int), v8 = .int .u64 x8_2 ∧ v39 = .int .i64 x39_2 ∧ Aside0 (wire_TakeNumber.l0 kq l0 a1 t314 x8_2 t314 x39_2 = some (r1, r2, r3)) ∧ Aside0 (kq ≤ kj2) ∧ Aside0 (Below w.heap.size w w'))
             case atStart => exact ⟨(IntKind.u64.wrap (Go.bits .and .u8 (rd l0 a1) (ji11))), (0), (by first | rfl | (simp; done) | (simp only [← hji11] <;> (first | rfl | simp)) | (simp [*]; done)), (by first | rfl | (simp; done) | (simp [*]; done)), H', ⟨Nat.le_refl _⟩, ⟨by repeat (first | (with_reducible first | exact HB.out | apply below_alloc | apply pw_below_drewN | apply below_drew1) | exact HB.out)⟩⟩
             case round =>
              clear H'
              try clear c1
              try clear p2
              try clear p3
              try clear q3
              try clear hx3
              try clear c4
              try clear c4b0
              try clear c5
              try clear c6
              try clear c6b0
              try clear p6
              try clear c7
              try clear c7b0
              try clear c9
              try clear c9b0
              try clear c10
              try clear c10b0
              try clear c10b1
              try clear hx313_0
              try clear hx315_0
              try clear p2
              try clear p313
              try clear p315
              try clear q313
              try clear q315
              obtain ⟨x8_2, x39_2, rfl, rfl, HA, HK2, HB⟩ := hrel
              cases gk with
              | zero => exact absurd HA.out (by simp [wire_TakeNumber.l0])
              | succ k2 =>
               have H := HA.out
               clear HA
               simp only [wire_TakeNumber.l0] at H
               by_cases c12 : x39_2 < t314
               · rw [if_pos c12] at H
                 have c12b0 : decide (x39_2 < t314) = true := decide_eq_true c12
                 clear c12
                 obtain ⟨ji13, hji13⟩ : ∃ j_ : Int, (wrap64 ((wrap64 (a1 + 1)) + x39_2)) = j_ := ⟨_, rfl⟩
                 replace H : (if 0 ≤ (ji13) then (if (ji13) < (l0.length : Int) then (wire_TakeNumber.l0 k2 l0 a1 t314 (Go.bits .or .u64 (IntKind.u64.wrap (x8_2 * 256)) (IntKind.u64.wrap (rd l0 (ji13)))) t314 (wrap64 (x39_2 + 1))) else (none)) else (none)) = some (r1, r2, r3) := by first | (rw [hji13] at H; exact H) | (simp only [hji13] at H ⊢; exact H)
                 have hji13w : (IntKind.i64.wrap ((wrap64 (a1 + 1)) + x39_2)) = ji13 := (i64_w _).trans hji13
                 by_cases c14 : 0 ≤ (ji13)
                 · rw [if_pos c14] at H
                   have c14b0 : decide (0 ≤ (ji13)) = true := decide_eq_true c14
                   clear c14
                   by_cases c15 : (ji13) < (l0.length : Int)
                   · rw [if_pos c15] at H
                     have c15b0 : decide ((ji13) < (l0.length : Int)) = true := decide_eq_true c15
                     clear c15
                     have H' := Aside0.mk H
                     clear H
                     have p316 : 0 ≤ ((ji13) : Int) := of_decide_eq_true (by first | (with_reducible assumption) | assumption)
                     have q316 : (ji13) < (l0.length : Int) := of_decide_eq_true (by first | (with_reducible assumption) | assumption)
                     obtain ⟨ad316, e316, hx316_0⟩ := Kd.at_int HR0.out (ji13) p316 q316
                     obtain rfl : ad313 = ad316 := (by injection e316)
                     replace hx316_0 := (HB.out.cell (World.block_lt_of_cell? w _ hx316_0)).trans hx316_0
                     replace p316 := eq_true p316
                     replace q316 := eq_true q316
                     go_wp2
                     repeat (go_quiet (fail); try go_wp2)
                     go_roundg k2
                     case measure => have := HJ2.out; have := HK2.out; omega
                     case rel => exact ⟨(Go.bits .or .u64 (IntKind.u64.wrap (x8_2 * 256)) (IntKind.u64.wrap (rd l0 (ji13)))), (wrap64 (x39_2 + 1)), (by first | rfl | (simp; done) | (simp only [← hji13] <;> (first | rfl | simp)) | (simp [*]; done)), (by first | rfl | (simp; done) | (simp [*]; done)), H', ⟨by have := HJ2.out; have := HK2.out; omega⟩, ⟨by repeat (first | (with_reducible first | exact HB.out | apply below_alloc | apply pw_below_drewN | apply below_drew1) | exact HB.out)⟩⟩
                   · rw [if_neg c15] at H
                     exact absurd H (by simp)
                 · rw [if_neg c14] at H
                   exact absurd H (by simp)
               rw [if_neg c12] at H
               have c12b0 : decide (x39_2 < t314) = false := decide_eq_false c12
               clear c12
               replace H := Option.bind_eq_some_iff.mp H
               obtain ⟨t317, A160, H⟩ := H
               replace H : (if t317 = t314 then (some (x8_2, wrap64 ((wrap64 (a1 + 1)) + t314), 0)) else (some (0, 0, 20))) = some (r1, r2, r3) := H
               have A16 := Aside0.mk A160
               clear A160
               by_cases c17 : t317 = t314
               rw [if_pos c17] at H
               have c17b0 : (t317 == t314) = true := beq_iff_eq.mpr c17
               have c17b1 : (t317 != t314) = false := bne_eq_false_iff_eq.mpr c17
               clear c17
               simp only [Option.some.injEq, Prod.mk.injEq] at H
               obtain ⟨rfl, rfl, rfl⟩ := H
               rotate_left
               rw [if_neg c17] at H
               have c17b0 : (t317 == t314) = false := beq_eq_false_iff_ne.mpr c17
               have c17b1 : (t317 != t314) = true := bne_iff_ne.mpr c17
               simp only [Option.some.injEq, Prod.mk.injEq] at H
               obtain ⟨rfl, rfl, rfl⟩ := H
               rotate_left
               all_goals (
                go_wp2_with (first | (go_at_call 115; (with_reducible refine (wire_extra.calls k2 x8_2 t317 _ A16.out).mono ?_); rintro e w9001 ⟨rfl, hb⟩; have n9002_ := Aside0.mk (below_step (by repeat (first | (with_reducible first | exact HB.out | apply below_alloc | apply pw_below_drewN | apply below_drew1) | exact HB.out)) hb); clear HB; have HB := n9002_; clear n9002_; (try clear hb); (try clear hb2); (try clear hk); (try clear hi)))
                repeat (go_quiet (first | (go_at_call 115; (with_reducible refine (wire_extra.calls k2 x8_2 t317 _ A16.out).mono ?_); rintro e w9001 ⟨rfl, hb⟩; have n9002_ := Aside0.mk (below_step (by repeat (first | (with_reducible first | exact HB.out | apply below_alloc | apply pw_below_drewN | apply below_drew1) | exact HB.out)) hb); clear HB; have HB := n9002_; clear n9002_; (try clear hb); (try clear hb2); (try clear hk); (try clear hi))); try go_wp2_with (first | (go_at_call 115; (with_reducible refine (wire_extra.calls k2 x8_2 t317 _ A16.out).mono ?_); rintro e w9001 ⟨rfl, hb⟩; have n9002_ := Aside0.mk (below_step (by repeat (first | (with_reducible first | exact HB.out | apply below_alloc | apply pw_below_drewN | apply below_drew1) | exact HB.out)) hb); clear HB; have HB := n9002_; clear n9002_; (try clear hb); (try clear hb2); (try clear hk); (try clear hi))))
                go_ret3
                exact ⟨by first | rfl | (simp [errW_none, errW_some] <;> rfl) | (simp only [← hji11]; first | rfl | (simp [errW_none, errW_some] <;> rfl)) | (simp [*, errW_none, errW_some] <;> rfl), by repeat (first | (with_reducible first | exact HB.out | apply below_alloc | apply pw_below_drewN | apply below_drew1) | exact HB.out)⟩
                )
           · rw [if_neg c10] at H
             exact absurd H (by simp)
       · rw [if_neg c7] at H
         exact absurd H (by simp)
     · rw [if_neg c6] at H
       exact absurd H (by simp)
def wire_TakeText.f (k : Nat) (l0 : List Int) (a1 : Int) (a2 : Int) : Option (ByteArray × Int × Int) := (wire_TakeNumber.f k l0 a1).bind fun bt318 => (if bt318.2.2 = 0 then (if a2 < 0 then (some ((⟨#[]⟩ : ByteArray), 0, 20)) else (if bt318.1 > (IntKind.u64.wrap (a2)) then (some ((⟨#[]⟩ : ByteArray), 0, 20)) else (if bt318.1 > (IntKind.u64.wrap (wrap64 ((l0.length : Int) - bt318.2.1))) then (some ((⟨#[]⟩ : ByteArray), 0, 20)) else (if 0 ≤ bt318.2.1 then (if bt318.2.1 ≤ (wrap64 (bt318.2.1 + (wrap64 (bt318.1)))) then (if (wrap64 (bt318.2.1 + (wrap64 (bt318.1)))) ≤ (l0.length : Int) then (some (strOfNums ((l0.take ((wrap64 (bt318.2.1 + (wrap64 (bt318.1)))) : Int).toNat).drop (bt318.2.1 : Int).toNat), wrap64 (bt318.2.1 + (wrap64 (bt318.1))), 0)) else (none)) else (none)) else (none))))) else (some ((⟨#[]⟩ : ByteArray), 0, 20)))
set_option maxHeartbeats 8000000 in
set_option maxRecDepth 100000 in
theorem wire_TakeText.calls (k : Nat) (A0 : Option Addr) (c0 : Nat) (l0 : List Int) (a1 : Int) (a2 : Int) (r1 : ByteArray) (r2 : Int) (r3 : Int) (w : World) (hr0 : Kd.C (Kd.int .u8) w A0 l0.length l0) (hc0 : l0.length ≤ c0) (h : wire_TakeText.f k l0 a1 a2 = some (r1, r2, r3)) :
 Calls Try.prog 69 #[.slice A0 l0.length c0, .int .i64 a1, .int .i64 a2] w fun e w' => e = .returned (.tuple #[.string r1, .int .i64 r2, .int .i64 r3]) ∧ Below w.heap.size w w' := by
 have HR0 := Aside0.mk hr0
 have HC0 := Aside0.mk hc0
 clear hr0 hc0
 have HB := Aside0.mk (Below.refl w.heap.size w)
 have H : ((wire_TakeNumber.f k l0 a1).bind fun bt318 => (if bt318.2.2 = 0 then (if a2 < 0 then (some ((⟨#[]⟩ : ByteArray), 0, 20)) else (if bt318.1 > (IntKind.u64.wrap (a2)) then (some ((⟨#[]⟩ : ByteArray), 0, 20)) else (if bt318.1 > (IntKind.u64.wrap (wrap64 ((l0.length : Int) - bt318.2.1))) then (some ((⟨#[]⟩ : ByteArray), 0, 20)) else (if 0 ≤ bt318.2.1 then (if bt318.2.1 ≤ (wrap64 (bt318.2.1 + (wrap64 (bt318.1)))) then (if (wrap64 (bt318.2.1 + (wrap64 (bt318.1)))) ≤ (l0.length : Int) then (some (strOfNums ((l0.take ((wrap64 (bt318.2.1 + (wrap64 (bt318.1)))) : Int).toNat).drop (bt318.2.1 : Int).toNat), wrap64 (bt318.2.1 + (wrap64 (bt318.1))), 0)) else (none)) else (none)) else (none))))) else (some ((⟨#[]⟩ : ByteArray), 0, 20)))) = some (r1, r2, r3) := h
 clear h
 replace H := Option.bind_eq_some_iff.mp H
 obtain ⟨⟨t318, t319, t320⟩, A40, H⟩ := H
 replace H : (if t320 = 0 then (if a2 < 0 then (some ((⟨#[]⟩ : ByteArray), 0, 20)) else (if t318 > (IntKind.u64.wrap (a2)) then (some ((⟨#[]⟩ : ByteArray), 0, 20)) else (if t318 > (IntKind.u64.wrap (wrap64 ((l0.length : Int) - t319))) then (some ((⟨#[]⟩ : ByteArray), 0, 20)) else (if 0 ≤ t319 then (if t319 ≤ (wrap64 (t319 + (wrap64 (t318)))) then (if (wrap64 (t319 + (wrap64 (t318)))) ≤ (l0.length : Int) then (some (strOfNums ((l0.take ((wrap64 (t319 + (wrap64 (t318)))) : Int).toNat).drop (t319 : Int).toNat), wrap64 (t319 + (wrap64 (t318))), 0)) else (none)) else (none)) else (none))))) else (some ((⟨#[]⟩ : ByteArray), 0, 20))) = some (r1, r2, r3) := H
 have A4 := Aside0.mk A40
 clear A40
 by_cases c5 : t320 = 0
 rw [if_pos c5] at H
 have c5b0 : (t320 == 0) = true := beq_iff_eq.mpr c5
 have c5b1 : (t320 != 0) = false := bne_eq_false_iff_eq.mpr c5
 clear c5
 by_cases c6 : a2 < 0
 rw [if_pos c6] at H
 have c6b0 : decide (a2 < 0) = true := decide_eq_true c6
 clear c6
 simp only [Option.some.injEq, Prod.mk.injEq] at H
 obtain ⟨rfl, rfl, rfl⟩ := H
 rotate_left
 rw [if_neg c6] at H
 have c6b0 : decide (a2 < 0) = false := decide_eq_false c6
 clear c6
 by_cases c8 : t318 > (IntKind.u64.wrap (a2))
 rw [if_pos c8] at H
 have c8b0 : decide ((IntKind.u64.wrap (a2)) < t318) = true := decide_eq_true c8
 clear c8
 simp only [Option.some.injEq, Prod.mk.injEq] at H
 obtain ⟨rfl, rfl, rfl⟩ := H
 rotate_left
 rw [if_neg c8] at H
 have c8b0 : decide ((IntKind.u64.wrap (a2)) < t318) = false := decide_eq_false c8
 clear c8
 by_cases c10 : t318 > (IntKind.u64.wrap (wrap64 ((l0.length : Int) - t319)))
 rw [if_pos c10] at H
 have c10b0 : decide ((IntKind.u64.wrap (wrap64 ((l0.length : Int) - t319))) < t318) = true := decide_eq_true c10
 clear c10
 simp only [Option.some.injEq, Prod.mk.injEq] at H
 obtain ⟨rfl, rfl, rfl⟩ := H
 rotate_left
 · rw [if_neg c10] at H
   have c10b0 : decide ((IntKind.u64.wrap (wrap64 ((l0.length : Int) - t319))) < t318) = false := decide_eq_false c10
   clear c10
   by_cases c12 : 0 ≤ t319
   · rw [if_pos c12] at H
     have c12b0 := eq_true c12
     have c12b1 : decide (0 ≤ t319) = true := decide_eq_true c12
     clear c12
     by_cases c13 : t319 ≤ (wrap64 (t319 + (wrap64 (t318))))
     · rw [if_pos c13] at H
       have c13b0 := eq_true c13
       have c13b1 : decide (t319 ≤ (wrap64 (t319 + (wrap64 (t318))))) = true := decide_eq_true c13
       by_cases c14 : (wrap64 (t319 + (wrap64 (t318)))) ≤ (l0.length : Int)
       · rw [if_pos c14] at H
         have c14b0 := eq_true c14
         have c14b1 : decide ((wrap64 (t319 + (wrap64 (t318)))) ≤ (l0.length : Int)) = true := decide_eq_true c14
         simp only [Option.some.injEq, Prod.mk.injEq] at H
         obtain ⟨rfl, rfl, rfl⟩ := H
         go_enter Try.func69, Try.ntmps69
         go_wp2_with (first | ((with_reducible refine gate_callee (f := 71) rfl ?_); refine goesL_ (some 15) rfl rfl Try.func71 (by kernel_rfl) rfl #[.slice A0 l0.length c0, .int .i64 a1] rfl (by (try simp only [List.map_toArray, List.map_cons, List.map_nil]); first | done | rfl | (simp only [List.length_drop, List.length_take]; rfl)) ?_; (with_reducible refine (wire_TakeNumber.calls k _ _ l0 a1 t318 t319 t320 _ ?side1 ?side2 A4.out).mono ?_); (case side1 => repeat (first | exact HR0.out | (with_reducible refine Kd.C_alloc ?_ _) | (with_reducible refine Kd.C_drewN ?_ _) | (with_reducible refine Kd.C_drew ?_))); (case side2 => exact HC0.out); rintro e w15 ⟨rfl, hb⟩; refine ⟨_, rfl, ?_⟩; have n0_ := Aside0.mk (below_step (by repeat (first | (with_reducible first | exact HB.out | apply below_alloc | apply pw_below_drewN | apply below_drew1) | exact HB.out)) hb); clear HB; have HB := n0_; clear n0_; (try clear hb); (try clear hb2); (try clear hk); (try clear hi); obtain ⟨i016, hi016, _, hsz16, _⟩ := info_parts info5; obtain ⟨A16, hcut16, hA16, hC16⟩ := print_mid_of (P := Try.prog) (Value.int .u8) 0 63 5 .i64 .i64 Try.underlying63 hi016 hsz16 A0 c0 l0 t319 (wrap64 (t319 + (wrap64 (t318)))) (of_decide_eq_true (by first | (with_reducible assumption) | assumption)) (by first | omega | exact of_decide_eq_true (by first | (with_reducible assumption) | assumption)) (of_decide_eq_true (by first | (with_reducible assumption) | assumption)) HC0.out; have HR321 := Aside0.mk (Kd.C_of_reads (h1 := fun _ => rfl) (hA16 _ (Kd.reads_of_C HR0.out))); have HC321 := Aside0.mk hC16; clear hA16 hC16 hi016 hsz16; have hcv17 := Kd.C_string (P := Try.prog) (A := A16) (c := (c0 - t319.toNat)) Try.underlying63 Try.underlying5 Try.underlying9 (Kd.C_below HR321.out HB.out); (try simp [*] at hcv17)))
         go_ret3
         exact ⟨by first | rfl | (simp [errW_none, errW_some] <;> rfl) | (simp [*, errW_none, errW_some] <;> rfl), by repeat (first | (with_reducible first | exact HB.out | apply below_alloc | apply pw_below_drewN | apply below_drew1) | exact HB.out)⟩
       · rw [if_neg c14] at H
         exact absurd H (by simp)
     · rw [if_neg c13] at H
       exact absurd H (by simp)
   · rw [if_neg c12] at H
     exact absurd H (by simp)
 rw [if_neg c5] at H
 have c5b0 : (t320 == 0) = false := beq_eq_false_iff_ne.mpr c5
 have c5b1 : (t320 != 0) = true := bne_iff_ne.mpr c5
 simp only [Option.some.injEq, Prod.mk.injEq] at H
 obtain ⟨rfl, rfl, rfl⟩ := H
 rotate_left
 all_goals (
  go_enter Try.func69, Try.ntmps69
  go_wp2_with (first | ((with_reducible refine gate_callee (f := 71) rfl ?_); refine goesL_ (some 15) rfl rfl Try.func71 (by kernel_rfl) rfl #[.slice A0 l0.length c0, .int .i64 a1] rfl (by (try simp only [List.map_toArray, List.map_cons, List.map_nil]); first | done | rfl | (simp only [List.length_drop, List.length_take]; rfl)) ?_; (with_reducible refine (wire_TakeNumber.calls k _ _ l0 a1 t318 t319 t320 _ ?side1 ?side2 A4.out).mono ?_); (case side1 => repeat (first | exact HR0.out | (with_reducible refine Kd.C_alloc ?_ _) | (with_reducible refine Kd.C_drewN ?_ _) | (with_reducible refine Kd.C_drew ?_))); (case side2 => exact HC0.out); rintro e w9001 ⟨rfl, hb⟩; refine ⟨_, rfl, ?_⟩; have n9002_ := Aside0.mk (below_step (by repeat (first | (with_reducible first | exact HB.out | apply below_alloc | apply pw_below_drewN | apply below_drew1) | exact HB.out)) hb); clear HB; have HB := n9002_; clear n9002_; (try clear hb); (try clear hb2); (try clear hk); (try clear hi)))
  go_ret3
  exact ⟨by first | rfl | (simp [errW_none, errW_some] <;> rfl) | (simp [*, errW_none, errW_some] <;> rfl), by repeat (first | (with_reducible first | exact HB.out | apply below_alloc | apply pw_below_drewN | apply below_drew1) | exact HB.out)⟩
  )
mutual
def vector_Take.j0 : Nat → List Int → Int → Int → Bool → Option ((List (S34)) × Int × Int)
 | 0, _, _, _, _ => none
 | k + 1, x0, x1, x7, x26 => if x26 = true then (some (([] : List (S34)), 0, 70)) else (vector_Take.l0 k x0 x1 ([] : List (S34)) x7 0)
def vector_Take.l0 : Nat → List Int → Int → List (S34) → Int → Int → Option ((List (S34)) × Int × Int)
 | 0, _, _, _, _, _ => none
 | k + 1, x0, x1, x9, x27, x28 => if x28 < x27 then ((wire_TakeText.f k x0 x1 24).bind fun bt326 => (if bt326.2.2 = 0 then ((wire_TakeNumber.f k x0 bt326.2.1).bind fun bt329 => (if bt329.2.2 = 0 then (if bt329.1 > 4611686018427387904 then (some (([] : List (S34)), 0, 70)) else (if x9.length < 5864062014805 then (vector_Take.l0 k x0 bt329.2.1 (x9 ++ [(⟨bt326.1, wrap64 (bt329.1)⟩ : S34)]) x27 (IntKind.u64.wrap (x28 + 1))) else (none))) else (some (([] : List (S34)), 0, 70)))) else (some (([] : List (S34)), 0, 70)))) else ((vector_Right.f k x9).bind fun t325 => (if t325 = true then (some (x9, x1, 0)) else (some (([] : List (S34)), 0, 70))))
end
def vector_Take.f (k : Nat) (l0 : List Int) (a1 : Int) : Option ((List (S34)) × Int × Int) := (wire_TakeNumber.f k l0 a1).bind fun bt322 => (if bt322.2.2 = 0 then (vector_Take.j0 k l0 bt322.2.1 bt322.1 (decide (bt322.1 > 64))) else (vector_Take.j0 k l0 bt322.2.1 bt322.1 true))
set_option maxHeartbeats 8000000 in
set_option maxRecDepth 100000 in
theorem vector_Take.calls (k : Nat) (A0 : Option Addr) (c0 : Nat) (l0 : List Int) (a1 : Int) (r1 : List (S34)) (r2 : Int) (r3 : Int) (w : World) (hr0 : Kd.C (Kd.int .u8) w A0 l0.length l0) (hc0 : l0.length ≤ c0) (h : vector_Take.f k l0 a1 = some (r1, r2, r3)) :
 Calls Try.prog 72 #[.slice A0 l0.length c0, .int .i64 a1] w fun e w' => ∃ v0_ : Value, e = .returned (.tuple #[v0_, .int .i64 r2, .int .i64 r3]) ∧ Kd.R k34 34 w' w.heap.size (fun _ => True) v0_ r1 ∧ Below w.heap.size w w' := by
 have hu34 := Try.underlying34
 have HR0 := Aside0.mk hr0
 have HC0 := Aside0.mk hc0
 clear hr0 hc0
 have HB := Aside0.mk (Below.refl w.heap.size w)
 have H : ((wire_TakeNumber.f k l0 a1).bind fun bt322 => (if bt322.2.2 = 0 then (vector_Take.j0 k l0 bt322.2.1 bt322.1 (decide (bt322.1 > 64))) else (vector_Take.j0 k l0 bt322.2.1 bt322.1 true))) = some (r1, r2, r3) := h
 clear h
 replace H := Option.bind_eq_some_iff.mp H
 obtain ⟨⟨t322, t323, t324⟩, A30, H⟩ := H
 replace H : (if t324 = 0 then (vector_Take.j0 k l0 t323 t322 (decide (t322 > 64))) else (vector_Take.j0 k l0 t323 t322 true)) = some (r1, r2, r3) := H
 have A3 := Aside0.mk A30
 clear A30
 have HC4 := Aside0.mk H
 clear H
 go_enter Try.func72, Try.ntmps72
 go_upto_region 2 with (first | ((with_reducible refine gate_callee (f := 71) rfl ?_); refine goesL_ (some 17) rfl rfl Try.func71 (by kernel_rfl) rfl #[.slice A0 l0.length c0, .int .i64 a1] rfl (by (try simp only [List.map_toArray, List.map_cons, List.map_nil]); first | done | rfl | (simp only [List.length_drop, List.length_take]; rfl)) ?_; (with_reducible refine (wire_TakeNumber.calls k _ _ l0 a1 t322 t323 t324 _ ?side1 ?side2 A3.out).mono ?_); (case side1 => repeat (first | exact HR0.out | (with_reducible refine Kd.C_alloc ?_ _) | (with_reducible refine Kd.C_drewN ?_ _) | (with_reducible refine Kd.C_drew ?_))); (case side2 => exact HC0.out); rintro e w5 ⟨rfl, hb⟩; refine ⟨_, rfl, ?_⟩; have n0_ := Aside0.mk (below_step (by repeat (first | (with_reducible first | exact HB.out | apply below_alloc | apply pw_below_drewN | apply below_drew1) | exact HB.out)) hb); clear HB; have HB := n0_; clear n0_; (try clear hb); (try clear hb2); (try clear hk); (try clear hi)))
 (try simp only [Act.put, List.setIfInBounds_toArray, List.set_cons_zero, List.set_cons_succ])
 go_cut [26] (fun v26 wc => ∃ (kq : Nat) (x26_3 : Bool), v26 = .bool x26_3 ∧ Aside0 (vector_Take.j0 kq l0 t323 t322 x26_3 = some (r1, r2, r3)) ∧ Aside0 (kq ≤ k) ∧ Aside0 (Below w.heap.size w wc))
 case first =>
  have H := HC4.out
  clear HC4
  by_cases c6 : t324 = 0
  · rw [if_pos c6] at H
    have c6b0 : (t324 == 0) = true := beq_iff_eq.mpr c6
    have c6b1 : (t324 != 0) = false := bne_eq_false_iff_eq.mpr c6
    clear c6
    (first | rw [c6b0] | (simp only [i64_w, i32_w]; rw [c6b0]) | skip)
    have H' := Aside0.mk H
    clear H
    go_wp2
    go_meet
    case rel => exact ⟨_, (decide (t322 > 64)), (by first | rfl | (simp; done) | (simp [*]; done)), H', ⟨by first | omega | exact Nat.le_refl _⟩, ⟨by repeat (first | (with_reducible first | exact HB.out | apply below_alloc | apply pw_below_drewN | apply below_drew1) | exact HB.out)⟩⟩
  · rw [if_neg c6] at H
    have c6b0 : (t324 == 0) = false := beq_eq_false_iff_ne.mpr c6
    have c6b1 : (t324 != 0) = true := bne_iff_ne.mpr c6
    (first | rw [c6b0] | (simp only [i64_w, i32_w]; rw [c6b0]) | skip)
    have H' := Aside0.mk H
    clear H
    go_wp2
    go_meet
    case rel => exact ⟨_, (true), (by first | rfl | (simp; done) | (simp [*]; done)), H', ⟨by first | omega | exact Nat.le_refl _⟩, ⟨by repeat (first | (with_reducible first | exact HB.out | apply below_alloc | apply pw_below_drewN | apply below_drew1) | exact HB.out)⟩⟩
 case rest =>
  clear HC4
  try clear p2
  try clear c6
  try clear c6b0
  try clear c6b1
  obtain ⟨kq, x26_3, rfl, HA, HJ3, HB⟩ := hcut
  cases kq with
  | zero => exact absurd HA.out (by simp [vector_Take.j0])
  | succ kj3 =>
   have H := HA.out
   clear HA
   simp only [vector_Take.j0] at H
   by_cases c7 : x26_3 = true
   · subst c7
     have H1 : (some (([] : List (S34)), 0, 70)) = some (r1, r2, r3) := by rw [if_pos rfl] at H; exact H
     clear H
     have H := H1
     clear H1
     simp only [Option.some.injEq, Prod.mk.injEq] at H
     obtain ⟨rfl, rfl, rfl⟩ := H
     go_wp2
     go_ret3
     exact ⟨_, by first | rfl | (simp [errW_none, errW_some] <;> rfl) | (simp [*, errW_none, errW_some] <;> rfl), by first | exact Kd.R_nil _ _ _ _ _ | exact Kd.N_nil _ _ _ _ _ | exact Kd.V_nil _ _ _ _ _ | exact Kd.Q_nil _ _ _ _ _ | exact Kd.S_nil _ _ _ _ _, by repeat (first | (with_reducible first | exact HB.out | apply below_alloc | apply pw_below_drewN | apply below_drew1) | exact HB.out)⟩
   · replace c7 := Bool.eq_false_iff.mpr c7
     subst c7
     have H1 : (vector_Take.l0 kj3 l0 t323 ([] : List (S34)) t322 0) = some (r1, r2, r3) := by rw [if_neg (show ¬ (false = true) by decide)] at H; exact H
     clear H
     have H := H1
     clear H1
     have H' := Aside0.mk H
     clear H
     go_wp2
     go_loopg [1, 9, 28] kj3 (fun kq v1 v9 v28 w' => ∃ (x1_2 : Int) (x9_2 : List (S34)) (x28_2 : Int), v1 = .int .i64 x1_2 ∧ v28 = .int .u64 x28_2 ∧ Aside0 (vector_Take.l0 kq l0 x1_2 x9_2 t322 x28_2 = some (r1, r2, r3)) ∧ Aside0 (kq ≤ kj3) ∧ Aside0 (Kd.R k34 34 w' w.heap.size (fun _ => True) v9 x9_2) ∧ Aside0 (Below w.heap.size w w'))
     case atStart => exact ⟨(t323), (([] : List (S34))), (0), (by first | rfl | (simp; done) | (simp [*]; done)), (by first | rfl | (simp; done) | (simp [*]; done)), H', ⟨Nat.le_refl _⟩, ⟨by first | exact Kd.R_nil _ _ _ _ _ | exact Kd.N_nil _ _ _ _ _ | exact Kd.V_nil _ _ _ _ _ | exact Kd.Q_nil _ _ _ _ _ | exact Kd.S_nil _ _ _ _ _⟩, ⟨by repeat (first | (with_reducible first | exact HB.out | apply below_alloc | apply pw_below_drewN | apply below_drew1) | exact HB.out)⟩⟩
     case round =>
      clear H'
      try clear p2
      try clear c6
      try clear c6b0
      try clear c6b1
      try clear c7
      try clear p2
      obtain ⟨x1_2, x9_2, x28_2, rfl, rfl, HA, HK2, HO_9, HB⟩ := hrel
      cases gk with
      | zero => exact absurd HA.out (by simp [vector_Take.l0])
      | succ k2 =>
       have H := HA.out
       clear HA
       simp only [vector_Take.l0] at H
       by_cases c8 : x28_2 < t322
       rw [if_pos c8] at H
       have c8b0 : decide (x28_2 < t322) = true := decide_eq_true c8
       clear c8
       replace H := Option.bind_eq_some_iff.mp H
       obtain ⟨⟨t326, t327, t328⟩, A90, H⟩ := H
       replace H : (if t328 = 0 then ((wire_TakeNumber.f k2 l0 t327).bind fun bt329 => (if bt329.2.2 = 0 then (if bt329.1 > 4611686018427387904 then (some (([] : List (S34)), 0, 70)) else (if x9_2.length < 5864062014805 then (vector_Take.l0 k2 l0 bt329.2.1 (x9_2 ++ [(⟨t326, wrap64 (bt329.1)⟩ : S34)]) t322 (IntKind.u64.wrap (x28_2 + 1))) else (none))) else (some (([] : List (S34)), 0, 70)))) else (some (([] : List (S34)), 0, 70))) = some (r1, r2, r3) := H
       have A9 := Aside0.mk A90
       clear A90
       by_cases c10 : t328 = 0
       rw [if_pos c10] at H
       have c10b0 : (t328 == 0) = true := beq_iff_eq.mpr c10
       have c10b1 : (t328 != 0) = false := bne_eq_false_iff_eq.mpr c10
       clear c10
       replace H := Option.bind_eq_some_iff.mp H
       obtain ⟨⟨t329, t330, t331⟩, A110, H⟩ := H
       replace H : (if t331 = 0 then (if t329 > 4611686018427387904 then (some (([] : List (S34)), 0, 70)) else (if x9_2.length < 5864062014805 then (vector_Take.l0 k2 l0 t330 (x9_2 ++ [(⟨t326, wrap64 (t329)⟩ : S34)]) t322 (IntKind.u64.wrap (x28_2 + 1))) else (none))) else (some (([] : List (S34)), 0, 70))) = some (r1, r2, r3) := H
       have A11 := Aside0.mk A110
       clear A110
       by_cases c12 : t331 = 0
       rw [if_pos c12] at H
       have c12b0 : (t331 == 0) = true := beq_iff_eq.mpr c12
       have c12b1 : (t331 != 0) = false := bne_eq_false_iff_eq.mpr c12
       clear c12
       by_cases c13 : t329 > 4611686018427387904
       rw [if_pos c13] at H
       have c13b0 : decide (4611686018427387904 < t329) = true := decide_eq_true c13
       clear c13
       simp only [Option.some.injEq, Prod.mk.injEq] at H
       obtain ⟨rfl, rfl, rfl⟩ := H
       rotate_left
       · rw [if_neg c13] at H
         have c13b0 : decide (4611686018427387904 < t329) = false := decide_eq_false c13
         clear c13
         by_cases c16 : x9_2.length < 5864062014805
         · rw [if_pos c16] at H
           have LMc16 := Aside0.mk c16
           clear c16
           obtain ⟨y332, hy332⟩ : ∃ y_ : List (S34), y_ = (x9_2 ++ [(⟨t326, wrap64 (t329)⟩ : S34)]) := ⟨_, rfl⟩
           replace H : (vector_Take.l0 k2 l0 t330 y332 t322 (IntKind.u64.wrap (x28_2 + 1))) = some (r1, r2, r3) := by first | (rw [hy332]; with_reducible exact H) | (have H2_ := (Option.bind_some _ _).symm.trans H; rw [hy332]; with_reducible exact H2_) | (have H2_ := (Option.bind_some _ _).symm.trans H; with_reducible exact H2_) | with_reducible exact H | (rw [hy332]; exact H) | exact H
           have Ny332 := Aside0.mk hy332
           clear hy332
           have H' := Aside0.mk H
           clear H
           go_wp2_with (first | ((with_reducible refine gate_callee (f := 69) rfl ?_); refine goesL_ (some 33) rfl rfl Try.func69 (by kernel_rfl) rfl #[.slice A0 l0.length c0, .int .i64 x1_2, .int .i64 24] rfl (by (try simp only [List.map_toArray, List.map_cons, List.map_nil]); first | done | rfl | (simp only [List.length_drop, List.length_take]; rfl)) ?_; (with_reducible refine (wire_TakeText.calls k2 _ _ l0 x1_2 24 t326 t327 t328 _ ?side1 ?side2 A9.out).mono ?_); (case side1 => repeat (first | exact (Kd.C_below HR0.out HB.out) | (with_reducible refine Kd.C_alloc ?_ _) | (with_reducible refine Kd.C_drewN ?_ _) | (with_reducible refine Kd.C_drew ?_))); (case side2 => exact HC0.out); rintro e w17 ⟨rfl, hb⟩; refine ⟨_, rfl, ?_⟩; have n0_ := Aside0.mk (Kd.R_below (by (with_reducible repeat (first | apply Kd.R_alloc | apply Kd.R_drewN | apply Kd.R_drew)); exact HO_9.out) hb); have n1_ := Aside0.mk (below_step (by repeat (first | (with_reducible first | exact HB.out | apply below_alloc | apply pw_below_drewN | apply below_drew1) | exact HB.out)) hb); clear HO_9; clear HB; have HO_9 := n0_; have HB := n1_; clear n0_ n1_; (try clear hb); (try clear hb2); (try clear hk); (try clear hi)) | ((with_reducible refine gate_callee (f := 71) rfl ?_); refine goesL_ (some 42) rfl rfl Try.func71 (by kernel_rfl) rfl #[.slice A0 l0.length c0, .int .i64 t327] rfl (by (try simp only [List.map_toArray, List.map_cons, List.map_nil]); first | done | rfl | (simp only [List.length_drop, List.length_take]; rfl)) ?_; (with_reducible refine (wire_TakeNumber.calls k2 _ _ l0 t327 t329 t330 t331 _ ?side1 ?side2 A11.out).mono ?_); (case side1 => repeat (first | exact (Kd.C_below HR0.out HB.out) | (with_reducible refine Kd.C_alloc ?_ _) | (with_reducible refine Kd.C_drewN ?_ _) | (with_reducible refine Kd.C_drew ?_))); (case side2 => exact HC0.out); rintro e w18 ⟨rfl, hb⟩; refine ⟨_, rfl, ?_⟩; have n0_ := Aside0.mk (Kd.R_below (by (with_reducible repeat (first | apply Kd.R_alloc | apply Kd.R_drewN | apply Kd.R_drew)); exact HO_9.out) hb); have n1_ := Aside0.mk (below_step (by repeat (first | (with_reducible first | exact HB.out | apply below_alloc | apply pw_below_drewN | apply below_drew1) | exact HB.out)) hb); clear HO_9; clear HB; have HO_9 := n0_; have HB := n1_; clear n0_ n1_; (try clear hb); (try clear hb2); (try clear hk); (try clear hi)) | ((with_reducible refine gate_builtin (b := .append) (xs := #[.tmp 52, .tmp 57]) rfl ?_); at_builtin; refine Kd.R_append k34 (w0 := w) w.heap.size rfl (.tmp 52) (.tmp 57) 23 34 (.agg #[(.string ⟨#[]⟩), (.int .i64 0)]) 24 rfl Try.underlying23 info34 rfl (by decide) (by omega) u9 x9_2 (⟨t326, wrap64 (t329)⟩ : S34) [.string t326, .int .i64 (wrap64 (t329))] (fun _ => True) (fun _ => False) rfl rfl ?aP (fun _ hk => hk.elim) ?aF ?aO ?aB ?aS ?aL ?_; (case aP => exact k34_mkM _ _ _ (⟨t326, wrap64 (t329)⟩ : S34)); (case aB => exact (by repeat (first | (with_reducible first | exact HB.out | apply below_alloc | apply pw_below_drewN | apply below_drew1) | exact HB.out))); (case aF => exact (fun _ _ => trivial)); (case aO => exact (by (with_reducible repeat (first | apply Kd.R_alloc | apply Kd.R_drewN | apply Kd.R_drew)); exact HO_9.out)); (case aS => exact (below_size (by repeat (first | (with_reducible first | exact HB.out | apply below_alloc | apply pw_below_drewN | apply below_drew1) | exact HB.out)))); (case aL => have := LMc16.out; omega); intro v333 w19 ho hb hg hat; rw [← Ny332.out] at ho; have n0_ := Aside0.mk (hb); have n1_ := Aside0.mk (ho); clear HB; clear HO_9; have HB := n0_; have HO334 := n1_; clear n0_ n1_; clear ho hb hg hat))
           go_roundg k2
           case measure => have := HJ3.out; have := HK2.out; omega
           case rel => exact ⟨(t330), (y332), (IntKind.u64.wrap (x28_2 + 1)), (by first | rfl | (simp; done) | (simp [*]; done)), (by first | rfl | (simp; done) | (simp [*]; done)), H', ⟨by have := HJ3.out; have := HK2.out; omega⟩, ⟨by (with_reducible repeat (first | apply Kd.R_alloc | apply Kd.R_drewN | apply Kd.R_drew)); exact HO334.out⟩, ⟨by repeat (first | (with_reducible first | exact HB.out | apply below_alloc | apply pw_below_drewN | apply below_drew1) | exact HB.out)⟩⟩
         · rw [if_neg c16] at H
           exact absurd H (by simp)
       rw [if_neg c12] at H
       have c12b0 : (t331 == 0) = false := beq_eq_false_iff_ne.mpr c12
       have c12b1 : (t331 != 0) = true := bne_iff_ne.mpr c12
       simp only [Option.some.injEq, Prod.mk.injEq] at H
       obtain ⟨rfl, rfl, rfl⟩ := H
       rotate_left
       · rw [if_neg c10] at H
         have c10b0 : (t328 == 0) = false := beq_eq_false_iff_ne.mpr c10
         have c10b1 : (t328 != 0) = true := bne_iff_ne.mpr c10
         simp only [Option.some.injEq, Prod.mk.injEq] at H
         obtain ⟨rfl, rfl, rfl⟩ := H
         go_wp2_with (first | ((with_reducible refine gate_callee (f := 69) rfl ?_); refine goesL_ (some 33) rfl rfl Try.func69 (by kernel_rfl) rfl #[.slice A0 l0.length c0, .int .i64 x1_2, .int .i64 24] rfl (by (try simp only [List.map_toArray, List.map_cons, List.map_nil]); first | done | rfl | (simp only [List.length_drop, List.length_take]; rfl)) ?_; (with_reducible refine (wire_TakeText.calls k2 _ _ l0 x1_2 24 t326 t327 t328 _ ?side1 ?side2 A9.out).mono ?_); (case side1 => repeat (first | exact (Kd.C_below HR0.out HB.out) | (with_reducible refine Kd.C_alloc ?_ _) | (with_reducible refine Kd.C_drewN ?_ _) | (with_reducible refine Kd.C_drew ?_))); (case side2 => exact HC0.out); rintro e w22 ⟨rfl, hb⟩; refine ⟨_, rfl, ?_⟩; have n0_ := Aside0.mk (Kd.R_below (by (with_reducible repeat (first | apply Kd.R_alloc | apply Kd.R_drewN | apply Kd.R_drew)); exact HO_9.out) hb); have n1_ := Aside0.mk (below_step (by repeat (first | (with_reducible first | exact HB.out | apply below_alloc | apply pw_below_drewN | apply below_drew1) | exact HB.out)) hb); clear HO_9; clear HB; have HO_9 := n0_; have HB := n1_; clear n0_ n1_; (try clear hb); (try clear hb2); (try clear hk); (try clear hi)))
         go_ret3
         exact ⟨_, by first | rfl | (simp [errW_none, errW_some] <;> rfl) | (simp [*, errW_none, errW_some] <;> rfl), by first | exact Kd.R_nil _ _ _ _ _ | exact Kd.N_nil _ _ _ _ _ | exact Kd.V_nil _ _ _ _ _ | exact Kd.Q_nil _ _ _ _ _ | exact Kd.S_nil _ _ _ _ _, by repeat (first | (with_reducible first | exact HB.out | apply below_alloc | apply pw_below_drewN | apply below_drew1) | exact HB.out)⟩
       · rw [if_neg c8] at H
         have c8b0 : decide (x28_2 < t322) = false := decide_eq_false c8
         clear c8
         replace H := Option.bind_eq_some_iff.mp H
         obtain ⟨t325, A230, H⟩ := H
         replace H : (if t325 = true then (some (x9_2, x1_2, 0)) else (some (([] : List (S34)), 0, 70))) = some (r1, r2, r3) := H
         have A23 := Aside0.mk A230
         clear A230
         by_cases c24 : t325 = true
         · subst c24
           have H1 : (some (x9_2, x1_2, 0)) = some (r1, r2, r3) := by rw [if_pos rfl] at H; exact H
           clear H
           have H := H1
           clear H1
           simp only [Option.some.injEq, Prod.mk.injEq] at H
           obtain ⟨rfl, rfl, rfl⟩ := H
           obtain ⟨Ao25, co25, eo25⟩ := Kd.R_slice HO_9.out
           subst eo25
           go_wp2_with (first | ((with_reducible refine gate_callee (f := 61) rfl ?_); refine goesL_ (some 62) rfl rfl Try.func61 (by kernel_rfl) rfl #[.slice Ao25 x9_2.length co25] rfl (by (try simp only [List.map_toArray, List.map_cons, List.map_nil]); first | done | rfl | (simp only [List.length_drop, List.length_take]; rfl)) ?_; (with_reducible refine (vector_Right.calls k2 _ _ x9_2 true _ ?side1 ?side2 A23.out).mono ?_); (case side1 => repeat (first | exact (Kd.R_reads' HO_9.out).2.2 | (with_reducible refine Kd.C_alloc ?_ _) | (with_reducible refine Kd.C_drewN ?_ _) | (with_reducible refine Kd.C_drew ?_))); (case side2 => exact (Kd.R_reads' HO_9.out).2.1); rintro e w26 ⟨rfl, hb⟩; refine ⟨_, rfl, ?_⟩; have n0_ := Aside0.mk (Kd.R_below (by (with_reducible repeat (first | apply Kd.R_alloc | apply Kd.R_drewN | apply Kd.R_drew)); exact HO_9.out) hb); have n1_ := Aside0.mk (below_step (by repeat (first | (with_reducible first | exact HB.out | apply below_alloc | apply pw_below_drewN | apply below_drew1) | exact HB.out)) hb); clear HO_9; clear HB; have HO_9 := n0_; have HB := n1_; clear n0_ n1_; (try clear hb); (try clear hb2); (try clear hk); (try clear hi)))
           go_ret3
           exact ⟨_, by first | rfl | (simp [errW_none, errW_some] <;> rfl) | (simp [*, errW_none, errW_some] <;> rfl), by (with_reducible repeat (first | apply Kd.R_alloc | apply Kd.R_drewN | apply Kd.R_drew)); exact HO_9.out, by repeat (first | (with_reducible first | exact HB.out | apply below_alloc | apply pw_below_drewN | apply below_drew1) | exact HB.out)⟩
         · replace c24 := Bool.eq_false_iff.mpr c24
           subst c24
           have H1 : (some (([] : List (S34)), 0, 70)) = some (r1, r2, r3) := by rw [if_neg (show ¬ (false = true) by decide)] at H; exact H
           clear H
           have H := H1
           clear H1
           simp only [Option.some.injEq, Prod.mk.injEq] at H
           obtain ⟨rfl, rfl, rfl⟩ := H
           obtain ⟨Ao27, co27, eo27⟩ := Kd.R_slice HO_9.out
           subst eo27
           go_wp2_with (first | ((with_reducible refine gate_callee (f := 61) rfl ?_); refine goesL_ (some 62) rfl rfl Try.func61 (by kernel_rfl) rfl #[.slice Ao27 x9_2.length co27] rfl (by (try simp only [List.map_toArray, List.map_cons, List.map_nil]); first | done | rfl | (simp only [List.length_drop, List.length_take]; rfl)) ?_; (with_reducible refine (vector_Right.calls k2 _ _ x9_2 false _ ?side1 ?side2 A23.out).mono ?_); (case side1 => repeat (first | exact (Kd.R_reads' HO_9.out).2.2 | (with_reducible refine Kd.C_alloc ?_ _) | (with_reducible refine Kd.C_drewN ?_ _) | (with_reducible refine Kd.C_drew ?_))); (case side2 => exact (Kd.R_reads' HO_9.out).2.1); rintro e w28 ⟨rfl, hb⟩; refine ⟨_, rfl, ?_⟩; have n0_ := Aside0.mk (Kd.R_below (by (with_reducible repeat (first | apply Kd.R_alloc | apply Kd.R_drewN | apply Kd.R_drew)); exact HO_9.out) hb); have n1_ := Aside0.mk (below_step (by repeat (first | (with_reducible first | exact HB.out | apply below_alloc | apply pw_below_drewN | apply below_drew1) | exact HB.out)) hb); clear HO_9; clear HB; have HO_9 := n0_; have HB := n1_; clear n0_ n1_; (try clear hb); (try clear hb2); (try clear hk); (try clear hi)))
           go_ret3
           exact ⟨_, by first | rfl | (simp [errW_none, errW_some] <;> rfl) | (simp [*, errW_none, errW_some] <;> rfl), by first | exact Kd.R_nil _ _ _ _ _ | exact Kd.N_nil _ _ _ _ _ | exact Kd.V_nil _ _ _ _ _ | exact Kd.Q_nil _ _ _ _ _ | exact Kd.S_nil _ _ _ _ _, by repeat (first | (with_reducible first | exact HB.out | apply below_alloc | apply pw_below_drewN | apply below_drew1) | exact HB.out)⟩
       all_goals (
        go_wp2_with (first | ((with_reducible refine gate_callee (f := 69) rfl ?_); refine goesL_ (some 33) rfl rfl Try.func69 (by kernel_rfl) rfl #[.slice A0 l0.length c0, .int .i64 x1_2, .int .i64 24] rfl (by (try simp only [List.map_toArray, List.map_cons, List.map_nil]); first | done | rfl | (simp only [List.length_drop, List.length_take]; rfl)) ?_; (with_reducible refine (wire_TakeText.calls k2 _ _ l0 x1_2 24 t326 t327 t328 _ ?side1 ?side2 A9.out).mono ?_); (case side1 => repeat (first | exact (Kd.C_below HR0.out HB.out) | (with_reducible refine Kd.C_alloc ?_ _) | (with_reducible refine Kd.C_drewN ?_ _) | (with_reducible refine Kd.C_drew ?_))); (case side2 => exact HC0.out); rintro e w9001 ⟨rfl, hb⟩; refine ⟨_, rfl, ?_⟩; have n0_ := Aside0.mk (Kd.R_below (by (with_reducible repeat (first | apply Kd.R_alloc | apply Kd.R_drewN | apply Kd.R_drew)); exact HO_9.out) hb); have n9002_ := Aside0.mk (below_step (by repeat (first | (with_reducible first | exact HB.out | apply below_alloc | apply pw_below_drewN | apply below_drew1) | exact HB.out)) hb); clear HO_9; clear HB; have HO_9 := n0_; have HB := n9002_; clear n0_ n9002_; (try clear hb); (try clear hb2); (try clear hk); (try clear hi)) | ((with_reducible refine gate_callee (f := 71) rfl ?_); refine goesL_ (some 42) rfl rfl Try.func71 (by kernel_rfl) rfl #[.slice A0 l0.length c0, .int .i64 t327] rfl (by (try simp only [List.map_toArray, List.map_cons, List.map_nil]); first | done | rfl | (simp only [List.length_drop, List.length_take]; rfl)) ?_; (with_reducible refine (wire_TakeNumber.calls k2 _ _ l0 t327 t329 t330 t331 _ ?side1 ?side2 A11.out).mono ?_); (case side1 => repeat (first | exact (Kd.C_below HR0.out HB.out) | (with_reducible refine Kd.C_alloc ?_ _) | (with_reducible refine Kd.C_drewN ?_ _) | (with_reducible refine Kd.C_drew ?_))); (case side2 => exact HC0.out); rintro e w9003 ⟨rfl, hb⟩; refine ⟨_, rfl, ?_⟩; have n0_ := Aside0.mk (Kd.R_below (by (with_reducible repeat (first | apply Kd.R_alloc | apply Kd.R_drewN | apply Kd.R_drew)); exact HO_9.out) hb); have n9002_ := Aside0.mk (below_step (by repeat (first | (with_reducible first | exact HB.out | apply below_alloc | apply pw_below_drewN | apply below_drew1) | exact HB.out)) hb); clear HO_9; clear HB; have HO_9 := n0_; have HB := n9002_; clear n0_ n9002_; (try clear hb); (try clear hb2); (try clear hk); (try clear hi)))
        go_ret3
        exact ⟨_, by first | rfl | (simp [errW_none, errW_some] <;> rfl) | (simp [*, errW_none, errW_some] <;> rfl), by first | exact Kd.R_nil _ _ _ _ _ | exact Kd.N_nil _ _ _ _ _ | exact Kd.V_nil _ _ _ _ _ | exact Kd.Q_nil _ _ _ _ _ | exact Kd.S_nil _ _ _ _ _, by repeat (first | (with_reducible first | exact HB.out | apply below_alloc | apply pw_below_drewN | apply below_drew1) | exact HB.out)⟩
        )
end Go.Proofs.Ytenbkljgmgdegaa.PO
