/- What the rows of this claim use, out of the texts of this work (PD18, PD19). No condition beyond those that each statement names. -/
import Derived.Test.YtenbkljgmgdegaaQjPOx0
import Derived.Test.YtenbkljgmgdegaaQjOH
import Derived.Test.YtenbkljgmgdegaaQjPD14
import Derived.Test.YtenbkljgmgdegaaQjPOx10
import Derived.Test.YtenbkljgmgdegaaQjPOx7
import Derived.Test.YtenbkljgmgdegaaQjOV
import Derived.Test.YtenbkljgmgdegaaQjPOx2
import Derived.Test.YtenbkljgmgdegaaQjPD10
section
namespace Go.Proofs.Ytenbkljgmgdegaa.PO
open Go.RowKit Go.Proofs.YtenbkljgmgdegaaW.PrintWords Go.Proofs.YtenbkljgmgdegaaW.PrintLast Go.Proofs.YtenbkljgmgdegaaW.PrintMore
attribute [local go_sem] max2_int min2_int max_two min_two max_three min_three max_four min_four   -- for this text's walks alone
set_option linter.unusedVariables false
set_option linter.unusedSimpArgs false
mutual
def pannierref02_TakeNumber.j0 : Nat → List Int → Int → Bool → Option (Int × Int × Int)
 | 0, _, _, _ => none
 | k + 1, x0, x1, x17 => if x17 = true then (some (0, 0, 20)) else (pannierref02_TakeNumber.l0 k x0 x1 0)
def pannierref02_TakeNumber.j2 : Nat → List Int → Int → Int → Option (Int × Int × Int)
 | 0, _, _, _ => none
 | k + 1, x0, x1, x7 => if (wrap64 ((x0.length : Int) - x1)) < (wrap64 (x7 + 1)) then (some (0, 0, 20)) else (if x7 < 7 then (if 0 ≤ x1 then (if x1 < (x0.length : Int) then (if 0 ≤ (wrap64 (7 - x7)) then (pannierref02_TakeNumber.j3 k x0 x1 x7 (Go.bits .and .u64 (IntKind.u64.wrap (rd x0 x1)) (IntKind.u64.wrap ((shl .u64 1 (wrap64 (7 - x7))) - 1)))) else (none)) else (none)) else (none)) else (pannierref02_TakeNumber.j3 k x0 x1 x7 0))
def pannierref02_TakeNumber.j3 : Nat → List Int → Int → Int → Int → Option (Int × Int × Int)
 | 0, _, _, _, _ => none
 | k + 1, x0, x1, x7, x8 => pannierref02_TakeNumber.l1 k x0 x1 x7 x8 1
def pannierref02_TakeNumber.l1 : Nat → List Int → Int → Int → Int → Int → Option (Int × Int × Int)
 | 0, _, _, _, _, _ => none
 | k + 1, x0, x1, x7, x8, x9 => if x9 ≤ x7 then (if 0 ≤ (wrap64 (x1 + x9)) then (if (wrap64 (x1 + x9)) < (x0.length : Int) then (pannierref02_TakeNumber.l1 k x0 x1 x7 (Go.bits .or .u64 (IntKind.u64.wrap (x8 * 256)) (IntKind.u64.wrap (rd x0 (wrap64 (x1 + x9))))) (wrap64 (x9 + 1))) else (none)) else (none)) else ((pannierref02_follow.f k x8).bind fun t350 => (if t350 = x7 then (some (x8, wrap64 ((wrap64 (x1 + x7)) + 1), 0)) else (some (0, 0, 20))))
def pannierref02_TakeNumber.l0 : Nat → List Int → Int → Int → Option (Int × Int × Int)
 | 0, _, _, _ => none
 | k + 1, x0, x1, x7 => if x7 < 8 then (if 0 ≤ x1 then (if x1 < (x0.length : Int) then (if 0 ≤ (wrap64 (7 - x7)) then (if (Go.bits .and .u8 (shr .u8 (rd x0 x1) (wrap64 (7 - x7))) 1) = 1 then (pannierref02_TakeNumber.l0 k x0 x1 (wrap64 (x7 + 1))) else (pannierref02_TakeNumber.j2 k x0 x1 x7)) else (none)) else (none)) else (none)) else (pannierref02_TakeNumber.j2 k x0 x1 x7)
end
def pannierref02_TakeNumber.f (k : Nat) (l0 : List Int) (a1 : Int) : Option (Int × Int × Int) := if a1 < 0 then (pannierref02_TakeNumber.j0 k l0 a1 true) else (pannierref02_TakeNumber.j0 k l0 a1 (decide (a1 ≥ (l0.length : Int))))
set_option maxHeartbeats 8000000 in
set_option maxRecDepth 100000 in
theorem pannierref02_TakeNumber.calls (k : Nat) (A0 : Option Addr) (c0 : Nat) (l0 : List Int) (a1 : Int) (r1 : Int) (r2 : Int) (r3 : Int) (w : World) (hr0 : Kd.C (Kd.int .u8) w A0 l0.length l0) (hc0 : l0.length ≤ c0) (h : pannierref02_TakeNumber.f k l0 a1 = some (r1, r2, r3)) :
 Calls Try.prog 117 #[.slice A0 l0.length c0, .int .i64 a1] w fun e w' => e = .returned (.tuple #[.int .u64 r1, .int .i64 r2, .int .i64 r3]) ∧ Drawn0 w w' := by
 have HR0 := Aside0.mk hr0
 have HC0 := Aside0.mk hc0
 clear hr0 hc0
 have H : (if a1 < 0 then (pannierref02_TakeNumber.j0 k l0 a1 true) else (pannierref02_TakeNumber.j0 k l0 a1 (decide (a1 ≥ (l0.length : Int))))) = some (r1, r2, r3) := h
 clear h
 have HC3 := Aside0.mk H
 clear H
 go_enter Try.func117, Try.ntmps117
 go_upto_region 1 with (fail)
 repeat (go_quiet (fail); go_upto_region 1 with (fail))
 go_cut [17] (fun v17 wc => ∃ (kq : Nat) (x17_2 : Bool), v17 = .bool x17_2 ∧ Aside0 (pannierref02_TakeNumber.j0 kq l0 a1 x17_2 = some (r1, r2, r3)) ∧ Aside0 (kq ≤ k) ∧ Drawn0 w wc)
 case first =>
  have H := HC3.out
  clear HC3
  by_cases c4 : a1 < 0
  · rw [if_pos c4] at H
    have c4b0 : decide (a1 < 0) = true := decide_eq_true c4
    clear c4
    (first | rw [c4b0] | (simp only [i64_w, i32_w]; rw [c4b0]) | skip)
    have H' := Aside0.mk H
    clear H
    go_wp2
    repeat (go_quiet (fail); try go_wp2)
    go_meet
    case rel => exact ⟨_, (true), (by first | rfl | (simp; done) | (simp [*]; done)), H', ⟨by first | omega | exact Nat.le_refl _⟩, by repeat (first | exact Drawn0.refl _ | apply Drawn0.step)⟩
  · rw [if_neg c4] at H
    have c4b0 : decide (a1 < 0) = false := decide_eq_false c4
    clear c4
    (first | rw [c4b0] | (simp only [i64_w, i32_w]; rw [c4b0]) | skip)
    have H' := Aside0.mk H
    clear H
    go_wp2
    repeat (go_quiet (fail); try go_wp2)
    go_meet
    case rel => exact ⟨_, (decide (a1 ≥ (l0.length : Int))), (by first | rfl | (simp; done) | (simp [*]; done)), H', ⟨by first | omega | exact Nat.le_refl _⟩, by repeat (first | exact Drawn0.refl _ | apply Drawn0.step)⟩
 case rest =>
  clear HC3
  try clear c1
  try clear p2
  try clear c4
  try clear c4b0
  obtain ⟨kq, x17_2, rfl, HA, HJ2, ⟨mc2, rfl⟩⟩ := hcut
  cases kq with
  | zero => exact absurd HA.out (by simp [pannierref02_TakeNumber.j0])
  | succ kj2 =>
   have H := HA.out
   clear HA
   simp only [pannierref02_TakeNumber.j0] at H
   by_cases c5 : x17_2 = true
   · subst c5
     have H1 : (some (0, 0, 20)) = some (r1, r2, r3) := by rw [if_pos rfl] at H; exact H
     clear H
     have H := H1
     clear H1
     simp only [Option.some.injEq, Prod.mk.injEq] at H
     obtain ⟨rfl, rfl, rfl⟩ := H
     go_wp2
     repeat (go_quiet (fail); try go_wp2)
     go_ret3
     exact ⟨by first | rfl | (simp; done) | (simp [*]; done), by repeat (first | exact Drawn0.refl _ | apply Drawn0.step)⟩
   · replace c5 := Bool.eq_false_iff.mpr c5
     subst c5
     have H1 : (pannierref02_TakeNumber.l0 kj2 l0 a1 0) = some (r1, r2, r3) := by rw [if_neg (show ¬ (false = true) by decide)] at H; exact H
     clear H
     have H := H1
     clear H1
     have HC6 := Aside0.mk H
     clear H
     go_upto_block 0 with (fail)
     repeat (go_quiet (fail); go_upto_block 0 with (fail))
     go_cut [7] (fun v7 wc => ∃ (kq : Nat) (x7_5 : Int), v7 = .int .i64 x7_5 ∧ Aside0 (pannierref02_TakeNumber.j2 kq l0 a1 x7_5 = some (r1, r2, r3)) ∧ Aside0 (kq ≤ kj2) ∧ Drawn0 w wc)
     case first =>
      have H := HC6.out
      clear HC6
      have H' := Aside0.mk H
      clear H
      go_wp2
      repeat (go_quiet (fail); try go_wp2)
      go_loopg [7] kj2 (fun kq v7 w' => ∃ (x7_2 : Int), v7 = .int .i64 x7_2 ∧ Aside0 (pannierref02_TakeNumber.l0 kq l0 a1 x7_2 = some (r1, r2, r3)) ∧ Aside0 (kq ≤ kj2) ∧ Drawn0 w w')
      case atStart => exact ⟨(0), (by first | rfl | (simp; done) | (simp [*]; done)), H', ⟨Nat.le_refl _⟩, by repeat (first | exact Drawn0.refl _ | apply Drawn0.step)⟩
      case round =>
       clear H'
       try clear c1
       try clear c2
       try clear p2
       try clear c4
       try clear c4b0
       try clear c5
       try clear p2
       obtain ⟨x7_2, rfl, HA, HK2, ⟨m2, rfl⟩⟩ := hrel
       cases gk with
       | zero => exact absurd HA.out (by simp [pannierref02_TakeNumber.l0])
       | succ k2 =>
        have H := HA.out
        clear HA
        simp only [pannierref02_TakeNumber.l0] at H
        by_cases c7 : x7_2 < 8
        · rw [if_pos c7] at H
          have c7b0 : decide (x7_2 < 8) = true := decide_eq_true c7
          clear c7
          (first | rw [c7b0] | (simp only [i64_w, i32_w]; rw [c7b0]) | skip)
          by_cases c8 : 0 ≤ a1
          · rw [if_pos c8] at H
            have c8b0 : decide (0 ≤ a1) = true := decide_eq_true c8
            clear c8
            by_cases c9 : a1 < (l0.length : Int)
            · rw [if_pos c9] at H
              have c9b0 : decide (a1 < (l0.length : Int)) = true := decide_eq_true c9
              clear c9
              obtain ⟨ji10, hji10⟩ : ∃ j_ : Int, (wrap64 (7 - x7_2)) = j_ := ⟨_, rfl⟩
              replace H : (if 0 ≤ (ji10) then (if (Go.bits .and .u8 (shr .u8 (rd l0 a1) (ji10)) 1) = 1 then (pannierref02_TakeNumber.l0 k2 l0 a1 (wrap64 (x7_2 + 1))) else (pannierref02_TakeNumber.j2 k2 l0 a1 x7_2)) else (none)) = some (r1, r2, r3) := by first | (rw [hji10] at H; exact H) | (simp only [hji10] at H ⊢; exact H)
              have hji10w : (IntKind.i64.wrap (7 - x7_2)) = ji10 := (i64_w _).trans hji10
              by_cases c11 : 0 ≤ (ji10)
              · rw [if_pos c11] at H
                have c11b0 := eq_true c11
                have c11b1 : decide (0 ≤ (ji10)) = true := decide_eq_true c11
                clear c11
                obtain ⟨ji12, hji12⟩ : ∃ j_ : Int, (shr .u8 (rd l0 a1) (ji10)) = j_ := ⟨_, rfl⟩
                replace H : (if (Go.bits .and .u8 (ji12) 1) = 1 then (pannierref02_TakeNumber.l0 k2 l0 a1 (wrap64 (x7_2 + 1))) else (pannierref02_TakeNumber.j2 k2 l0 a1 x7_2)) = some (r1, r2, r3) := by first | (rw [hji12] at H; exact H) | (simp only [hji12] at H ⊢; exact H)
                have hji12_ : ((rd l0 a1) / 2 ^ min (ji10).toNat 8) = ji12 := hji12
                have hji12z : (ji10) ≤ 8 → ((rd l0 a1) / 2 ^ (ji10).toNat) = ji12 := shr_small hji12
                by_cases c13 : (Go.bits .and .u8 (ji12) 1) = 1
                · rw [if_pos c13] at H
                  have c13b0 : ((Go.bits .and .u8 (ji12) 1) == 1) = true := beq_iff_eq.mpr c13
                  have c13b1 : ((Go.bits .and .u8 (ji12) 1) != 1) = false := bne_eq_false_iff_eq.mpr c13
                  clear c13
                  have H' := Aside0.mk H
                  clear H
                  have p347 : 0 ≤ (a1 : Int) := of_decide_eq_true (by first | (with_reducible assumption) | assumption)
                  have q347 : a1 < (l0.length : Int) := of_decide_eq_true (by first | (with_reducible assumption) | assumption)
                  obtain ⟨ad347, e347, hx347_0⟩ := Kd.at_int HR0.out a1 p347 q347
                  cases e347
                  replace p347 := eq_true p347
                  replace q347 := eq_true q347
                  go_wp2
                  repeat (go_quiet (fail); try go_wp2)
                  go_roundg k2
                  case measure => have := HJ2.out; have := HK2.out; omega
                  case rel => exact ⟨(wrap64 (x7_2 + 1)), (by first | rfl | (simp; done) | (simp [*]; done)), H', ⟨by have := HJ2.out; have := HK2.out; omega⟩, by repeat (first | exact Drawn0.refl _ | apply Drawn0.step)⟩
                · rw [if_neg c13] at H
                  have c13b0 : ((Go.bits .and .u8 (ji12) 1) == 1) = false := beq_eq_false_iff_ne.mpr c13
                  have c13b1 : ((Go.bits .and .u8 (ji12) 1) != 1) = true := bne_iff_ne.mpr c13
                  have H' := Aside0.mk H
                  clear H
                  have p347 : 0 ≤ (a1 : Int) := of_decide_eq_true (by first | (with_reducible assumption) | assumption)
                  have q347 : a1 < (l0.length : Int) := of_decide_eq_true (by first | (with_reducible assumption) | assumption)
                  obtain ⟨ad347, e347, hx347_0⟩ := Kd.at_int HR0.out a1 p347 q347
                  cases e347
                  replace p347 := eq_true p347
                  replace q347 := eq_true q347
                  go_wp2
                  repeat (go_quiet (fail); try go_wp2)
                  go_meet
                  case rel => exact ⟨_, (x7_2), (by first | rfl | (simp; done) | (simp [*]; done)), H', ⟨by have := HJ2.out; have := HK2.out; first | omega | exact Nat.le_refl _⟩, by repeat (first | exact Drawn0.refl _ | apply Drawn0.step)⟩
              · rw [if_neg c11] at H
                exact absurd H (by simp)
            · rw [if_neg c9] at H
              exact absurd H (by simp)
          · rw [if_neg c8] at H
            exact absurd H (by simp)
        · rw [if_neg c7] at H
          have c7b0 : decide (x7_2 < 8) = false := decide_eq_false c7
          clear c7
          (first | rw [c7b0] | (simp only [i64_w, i32_w]; rw [c7b0]) | skip)
          have H' := Aside0.mk H
          clear H
          go_wp2
          repeat (go_quiet (fail); try go_wp2)
          go_meet
          case rel => exact ⟨_, (x7_2), (by first | rfl | (simp; done) | (simp [*]; done)), H', ⟨by have := HJ2.out; have := HK2.out; first | omega | exact Nat.le_refl _⟩, by repeat (first | exact Drawn0.refl _ | apply Drawn0.step)⟩
     case rest =>
      clear HC6
      try clear c1
      try clear c2
      try clear p2
      try clear p3
      try clear q3
      try clear hx3
      try clear c4
      try clear c4b0
      try clear c5
      try clear p6
      try clear c7
      try clear c7b0
      try clear c8
      try clear c8b0
      try clear c9
      try clear c9b0
      try clear c11
      try clear c11b0
      try clear c11b1
      try clear c13
      try clear c13b0
      try clear c13b1
      try clear hx347_0
      try clear p2
      try clear p347
      try clear q347
      obtain ⟨kq, x7_5, rfl, HA, HJ5, ⟨mc5, rfl⟩⟩ := hcut
      cases kq with
      | zero => exact absurd HA.out (by simp [pannierref02_TakeNumber.j2])
      | succ kj5 =>
       have H := HA.out
       clear HA
       simp only [pannierref02_TakeNumber.j2] at H
       by_cases c14 : (wrap64 ((l0.length : Int) - a1)) < (wrap64 (x7_5 + 1))
       · rw [if_pos c14] at H
         have c14b0 : decide ((wrap64 ((l0.length : Int) - a1)) < (wrap64 (x7_5 + 1))) = true := decide_eq_true c14
         clear c14
         simp only [Option.some.injEq, Prod.mk.injEq] at H
         obtain ⟨rfl, rfl, rfl⟩ := H
         go_wp2
         repeat (go_quiet (fail); try go_wp2)
         go_ret3
         exact ⟨by first | rfl | (simp; done) | (simp [*]; done), by repeat (first | exact Drawn0.refl _ | apply Drawn0.step)⟩
       · rw [if_neg c14] at H
         have c14b0 : decide ((wrap64 ((l0.length : Int) - a1)) < (wrap64 (x7_5 + 1))) = false := decide_eq_false c14
         clear c14
         have HC15 := Aside0.mk H
         clear H
         go_upto_if 41 with (fail)
         repeat (go_quiet (fail); go_upto_if 41 with (fail))
         go_cut [8] (fun v8 wc => ∃ (kq : Nat) (x8_14 : Int), v8 = .int .u64 x8_14 ∧ Aside0 (pannierref02_TakeNumber.j3 kq l0 a1 x7_5 x8_14 = some (r1, r2, r3)) ∧ Aside0 (kq ≤ kj5) ∧ Drawn0 w wc)
         case first =>
          have H := HC15.out
          clear HC15
          by_cases c16 : x7_5 < 7
          · rw [if_pos c16] at H
            have c16b0 : decide (x7_5 < 7) = true := decide_eq_true c16
            clear c16
            (first | rw [c16b0] | (simp only [i64_w, i32_w]; rw [c16b0]) | skip)
            by_cases c17 : 0 ≤ a1
            · rw [if_pos c17] at H
              have c17b0 : decide (0 ≤ a1) = true := decide_eq_true c17
              clear c17
              by_cases c18 : a1 < (l0.length : Int)
              · rw [if_pos c18] at H
                have c18b0 : decide (a1 < (l0.length : Int)) = true := decide_eq_true c18
                clear c18
                obtain ⟨ji19, hji19⟩ : ∃ j_ : Int, (wrap64 (7 - x7_5)) = j_ := ⟨_, rfl⟩
                replace H : (if 0 ≤ (ji19) then (pannierref02_TakeNumber.j3 kj5 l0 a1 x7_5 (Go.bits .and .u64 (IntKind.u64.wrap (rd l0 a1)) (IntKind.u64.wrap ((shl .u64 1 (ji19)) - 1)))) else (none)) = some (r1, r2, r3) := by first | (rw [hji19] at H; exact H) | (simp only [hji19] at H ⊢; exact H)
                have hji19w : (IntKind.i64.wrap (7 - x7_5)) = ji19 := (i64_w _).trans hji19
                by_cases c20 : 0 ≤ (ji19)
                · rw [if_pos c20] at H
                  have c20b0 := eq_true c20
                  have c20b1 : decide (0 ≤ (ji19)) = true := decide_eq_true c20
                  clear c20
                  obtain ⟨ji21, hji21⟩ : ∃ j_ : Int, (shl .u64 1 (ji19)) = j_ := ⟨_, rfl⟩
                  replace H : (pannierref02_TakeNumber.j3 kj5 l0 a1 x7_5 (Go.bits .and .u64 (IntKind.u64.wrap (rd l0 a1)) (IntKind.u64.wrap ((ji21) - 1)))) = some (r1, r2, r3) := by first | (rw [hji21] at H; exact H) | (simp only [hji21] at H ⊢; exact H)
                  have hji21_ : (IntKind.u64.wrap (1 * 2 ^ min (ji19).toNat 64)) = ji21 := hji21
                  have hji21z : (ji19) ≤ 64 → (IntKind.u64.wrap (1 * 2 ^ (ji19).toNat)) = ji21 := shl_small hji21
                  have hji21u : (IntKind.u64.wrap (2 ^ min (ji19).toNat 64)) = ji21 := by have h_ := hji21_; rw [Int.one_mul] at h_; exact h_
                  have hji21v : (ji19) ≤ 64 → (IntKind.u64.wrap (2 ^ (ji19).toNat)) = ji21 := fun hle_ => by have h_ := hji21z hle_; rw [Int.one_mul] at h_; exact h_
                  have H' := Aside0.mk H
                  clear H
                  have p348 : 0 ≤ (a1 : Int) := of_decide_eq_true (by first | (with_reducible assumption) | assumption)
                  have q348 : a1 < (l0.length : Int) := of_decide_eq_true (by first | (with_reducible assumption) | assumption)
                  obtain ⟨ad348, e348, hx348_0⟩ := Kd.at_int HR0.out a1 p348 q348
                  cases e348
                  replace p348 := eq_true p348
                  replace q348 := eq_true q348
                  go_wp2
                  repeat (go_quiet (fail); try go_wp2)
                  go_meet
                  case rel => exact ⟨_, (Go.bits .and .u64 (IntKind.u64.wrap (rd l0 a1)) (IntKind.u64.wrap ((ji21) - 1))), (by first | rfl | (simp; done) | (simp only [← hji21] <;> (first | rfl | simp)) | (simp [*]; done)), H', ⟨by have := HJ2.out; have := HJ5.out; first | omega | exact Nat.le_refl _⟩, by repeat (first | exact Drawn0.refl _ | apply Drawn0.step)⟩
                · rw [if_neg c20] at H
                  exact absurd H (by simp)
              · rw [if_neg c18] at H
                exact absurd H (by simp)
            · rw [if_neg c17] at H
              exact absurd H (by simp)
          · rw [if_neg c16] at H
            have c16b0 : decide (x7_5 < 7) = false := decide_eq_false c16
            clear c16
            (first | rw [c16b0] | (simp only [i64_w, i32_w]; rw [c16b0]) | skip)
            have H' := Aside0.mk H
            clear H
            go_wp2
            repeat (go_quiet (fail); try go_wp2)
            go_meet
            case rel => exact ⟨_, (0), (by first | rfl | (simp; done) | (simp [*]; done)), H', ⟨by have := HJ2.out; have := HJ5.out; first | omega | exact Nat.le_refl _⟩, by repeat (first | exact Drawn0.refl _ | apply Drawn0.step)⟩
         case rest =>
          clear HC15
          try clear c1
          try clear c2
          try clear p2
          try clear p3
          try clear q3
          try clear hx3
          try clear c4
          try clear c4b0
          try clear c5
          try clear p6
          try clear c7
          try clear c7b0
          try clear c8
          try clear c8b0
          try clear c9
          try clear c9b0
          try clear c11
          try clear c11b0
          try clear c11b1
          try clear c13
          try clear c13b0
          try clear c13b1
          try clear c14
          try clear c14b0
          try clear c16
          try clear c16b0
          try clear c17
          try clear c17b0
          try clear c18
          try clear c18b0
          try clear c20
          try clear c20b0
          try clear c20b1
          try clear hx347_0
          try clear hx348_0
          try clear p2
          try clear p3
          try clear p347
          try clear p348
          try clear p6
          try clear q3
          try clear q347
          try clear q348
          obtain ⟨kq, x8_14, rfl, HA, HJ14, ⟨mc14, rfl⟩⟩ := hcut
          cases kq with
          | zero => exact absurd HA.out (by simp [pannierref02_TakeNumber.j3])
          | succ kj14 =>
           have H := HA.out
           clear HA
           simp only [pannierref02_TakeNumber.j3] at H
           have H' := Aside0.mk H
           clear H
           go_wp2
           repeat (go_quiet (fail); try go_wp2)
           go_loopg [8, 9] kj14 (fun kq v8 v9 w' => ∃ (x8_4 : Int) (x9_4 : Int), v8 = .int .u64 x8_4 ∧ v9 = .int .i64 x9_4 ∧ Aside0 (pannierref02_TakeNumber.l1 kq l0 a1 x7_5 x8_4 x9_4 = some (r1, r2, r3)) ∧ Aside0 (kq ≤ kj14) ∧ Drawn0 w w')
           case atStart => exact ⟨(x8_14), (1), (by first | rfl | (simp; done) | (simp [*]; done)), (by first | rfl | (simp; done) | (simp [*]; done)), H', ⟨Nat.le_refl _⟩, by repeat (first | exact Drawn0.refl _ | apply Drawn0.step)⟩
           case round =>
            clear H'
            try clear c1
            try clear c2
            try clear p2
            try clear p3
            try clear q3
            try clear hx3
            try clear c4
            try clear c4b0
            try clear c5
            try clear p6
            try clear c7
            try clear c7b0
            try clear c8
            try clear c8b0
            try clear c9
            try clear c9b0
            try clear c11
            try clear c11b0
            try clear c11b1
            try clear c13
            try clear c13b0
            try clear c13b1
            try clear c14
            try clear c14b0
            try clear c16
            try clear c16b0
            try clear c17
            try clear c17b0
            try clear c18
            try clear c18b0
            try clear c20
            try clear c20b0
            try clear c20b1
            try clear hx347_0
            try clear hx348_0
            try clear p2
            try clear p3
            try clear p347
            try clear p348
            try clear p6
            try clear q3
            try clear q347
            try clear q348
            obtain ⟨x8_4, x9_4, rfl, rfl, HA, HK4, ⟨m4, rfl⟩⟩ := hrel
            cases gk with
            | zero => exact absurd HA.out (by simp [pannierref02_TakeNumber.l1])
            | succ k4 =>
             have H := HA.out
             clear HA
             simp only [pannierref02_TakeNumber.l1] at H
             by_cases c22 : x9_4 ≤ x7_5
             · rw [if_pos c22] at H
               have c22b0 : decide (x9_4 ≤ x7_5) = true := decide_eq_true c22
               clear c22
               obtain ⟨ji23, hji23⟩ : ∃ j_ : Int, (wrap64 (a1 + x9_4)) = j_ := ⟨_, rfl⟩
               replace H : (if 0 ≤ (ji23) then (if (ji23) < (l0.length : Int) then (pannierref02_TakeNumber.l1 k4 l0 a1 x7_5 (Go.bits .or .u64 (IntKind.u64.wrap (x8_4 * 256)) (IntKind.u64.wrap (rd l0 (ji23)))) (wrap64 (x9_4 + 1))) else (none)) else (none)) = some (r1, r2, r3) := by first | (rw [hji23] at H; exact H) | (simp only [hji23] at H ⊢; exact H)
               have hji23w : (IntKind.i64.wrap (a1 + x9_4)) = ji23 := (i64_w _).trans hji23
               by_cases c24 : 0 ≤ (ji23)
               · rw [if_pos c24] at H
                 have c24b0 : decide (0 ≤ (ji23)) = true := decide_eq_true c24
                 clear c24
                 by_cases c25 : (ji23) < (l0.length : Int)
                 · rw [if_pos c25] at H
                   have c25b0 : decide ((ji23) < (l0.length : Int)) = true := decide_eq_true c25
                   clear c25
                   have H' := Aside0.mk H
                   clear H
                   have p349 : 0 ≤ ((ji23) : Int) := of_decide_eq_true (by first | (with_reducible assumption) | assumption)
                   have q349 : (ji23) < (l0.length : Int) := of_decide_eq_true (by first | (with_reducible assumption) | assumption)
                   obtain ⟨ad349, e349, hx349_0⟩ := Kd.at_int HR0.out (ji23) p349 q349
                   cases e349
                   replace p349 := eq_true p349
                   replace q349 := eq_true q349
                   go_wp2
                   repeat (go_quiet (fail); try go_wp2)
                   go_roundg k4
                   case measure => have := HJ2.out; have := HJ5.out; have := HJ14.out; have := HK4.out; omega
                   case rel => exact ⟨(Go.bits .or .u64 (IntKind.u64.wrap (x8_4 * 256)) (IntKind.u64.wrap (rd l0 (ji23)))), (wrap64 (x9_4 + 1)), (by first | rfl | (simp; done) | (simp only [← hji23] <;> (first | rfl | simp)) | (simp [*]; done)), (by first | rfl | (simp; done) | (simp [*]; done)), H', ⟨by have := HJ2.out; have := HJ5.out; have := HJ14.out; have := HK4.out; omega⟩, by repeat (first | exact Drawn0.refl _ | apply Drawn0.step)⟩
                 · rw [if_neg c25] at H
                   exact absurd H (by simp)
               · rw [if_neg c24] at H
                 exact absurd H (by simp)
             rw [if_neg c22] at H
             have c22b0 : decide (x9_4 ≤ x7_5) = false := decide_eq_false c22
             clear c22
             replace H := Option.bind_eq_some_iff.mp H
             obtain ⟨t350, A260, H⟩ := H
             replace H : (if t350 = x7_5 then (some (x8_4, wrap64 ((wrap64 (a1 + x7_5)) + 1), 0)) else (some (0, 0, 20))) = some (r1, r2, r3) := H
             have A26 := Aside0.mk A260
             clear A260
             by_cases c27 : t350 = x7_5
             rw [if_pos c27] at H
             have c27b0 : (t350 == x7_5) = true := beq_iff_eq.mpr c27
             have c27b1 : (t350 != x7_5) = false := bne_eq_false_iff_eq.mpr c27
             clear c27
             simp only [Option.some.injEq, Prod.mk.injEq] at H
             obtain ⟨rfl, rfl, rfl⟩ := H
             rotate_left
             rw [if_neg c27] at H
             have c27b0 : (t350 == x7_5) = false := beq_eq_false_iff_ne.mpr c27
             have c27b1 : (t350 != x7_5) = true := bne_iff_ne.mpr c27
             simp only [Option.some.injEq, Prod.mk.injEq] at H
             obtain ⟨rfl, rfl, rfl⟩ := H
             rotate_left
             all_goals (
              go_wp2_with (first | (go_at_call 121; (with_reducible refine (pannierref02_follow.calls k4 x8_4 t350 _ A26.out).mono ?_); rintro e w' ⟨rfl, ⟨nd, rfl⟩⟩; (try first | exact ⟨rfl, _, World.drewN_drewN _ _ _⟩ | exact ⟨rfl, _, Eq.trans (World.drewN_drewN _ _ _) (congrArg (World.drewN _) (Nat.add_assoc _ _ _))⟩)))
              repeat (go_quiet (first | (go_at_call 121; (with_reducible refine (pannierref02_follow.calls k4 x8_4 t350 _ A26.out).mono ?_); rintro e w' ⟨rfl, ⟨nd, rfl⟩⟩; (try first | exact ⟨rfl, _, World.drewN_drewN _ _ _⟩ | exact ⟨rfl, _, Eq.trans (World.drewN_drewN _ _ _) (congrArg (World.drewN _) (Nat.add_assoc _ _ _))⟩))); try go_wp2_with (first | (go_at_call 121; (with_reducible refine (pannierref02_follow.calls k4 x8_4 t350 _ A26.out).mono ?_); rintro e w' ⟨rfl, ⟨nd, rfl⟩⟩; (try first | exact ⟨rfl, _, World.drewN_drewN _ _ _⟩ | exact ⟨rfl, _, Eq.trans (World.drewN_drewN _ _ _) (congrArg (World.drewN _) (Nat.add_assoc _ _ _))⟩))))
              go_ret3
              exact ⟨by first | rfl | (simp; done) | (simp [*]; done), by repeat (first | exact Drawn0.refl _ | apply Drawn0.step)⟩
              )
def pannierref02_TakeText.f (k : Nat) (l0 : List Int) (a1 : Int) (a2 : Int) : Option (ByteArray × Int × Int) := (pannierref02_TakeNumber.f k l0 a1).bind fun bt351 => (if bt351.2.2 = 0 then (if a2 < 0 then (some ((⟨#[]⟩ : ByteArray), 0, 20)) else (if bt351.1 > (IntKind.u64.wrap (a2)) then (some ((⟨#[]⟩ : ByteArray), 0, 20)) else (if bt351.1 > (IntKind.u64.wrap (wrap64 ((l0.length : Int) - bt351.2.1))) then (some ((⟨#[]⟩ : ByteArray), 0, 20)) else (if 0 ≤ bt351.2.1 then (if bt351.2.1 ≤ (wrap64 (bt351.2.1 + (wrap64 (bt351.1)))) then (if (wrap64 (bt351.2.1 + (wrap64 (bt351.1)))) ≤ (l0.length : Int) then (some (strOfNums ((l0.take ((wrap64 (bt351.2.1 + (wrap64 (bt351.1)))) : Int).toNat).drop (bt351.2.1 : Int).toNat), wrap64 (bt351.2.1 + (wrap64 (bt351.1))), 0)) else (none)) else (none)) else (none))))) else (some ((⟨#[]⟩ : ByteArray), 0, 20)))
set_option maxHeartbeats 8000000 in
set_option maxRecDepth 100000 in
theorem pannierref02_TakeText.calls (k : Nat) (A0 : Option Addr) (c0 : Nat) (l0 : List Int) (a1 : Int) (a2 : Int) (r1 : ByteArray) (r2 : Int) (r3 : Int) (w : World) (hr0 : Kd.C (Kd.int .u8) w A0 l0.length l0) (hc0 : l0.length ≤ c0) (h : pannierref02_TakeText.f k l0 a1 a2 = some (r1, r2, r3)) :
 Calls Try.prog 116 #[.slice A0 l0.length c0, .int .i64 a1, .int .i64 a2] w fun e w' => e = .returned (.tuple #[.string r1, .int .i64 r2, .int .i64 r3]) ∧ Drawn0 w w' := by
 have HR0 := Aside0.mk hr0
 have HC0 := Aside0.mk hc0
 clear hr0 hc0
 have H : ((pannierref02_TakeNumber.f k l0 a1).bind fun bt351 => (if bt351.2.2 = 0 then (if a2 < 0 then (some ((⟨#[]⟩ : ByteArray), 0, 20)) else (if bt351.1 > (IntKind.u64.wrap (a2)) then (some ((⟨#[]⟩ : ByteArray), 0, 20)) else (if bt351.1 > (IntKind.u64.wrap (wrap64 ((l0.length : Int) - bt351.2.1))) then (some ((⟨#[]⟩ : ByteArray), 0, 20)) else (if 0 ≤ bt351.2.1 then (if bt351.2.1 ≤ (wrap64 (bt351.2.1 + (wrap64 (bt351.1)))) then (if (wrap64 (bt351.2.1 + (wrap64 (bt351.1)))) ≤ (l0.length : Int) then (some (strOfNums ((l0.take ((wrap64 (bt351.2.1 + (wrap64 (bt351.1)))) : Int).toNat).drop (bt351.2.1 : Int).toNat), wrap64 (bt351.2.1 + (wrap64 (bt351.1))), 0)) else (none)) else (none)) else (none))))) else (some ((⟨#[]⟩ : ByteArray), 0, 20)))) = some (r1, r2, r3) := h
 clear h
 replace H := Option.bind_eq_some_iff.mp H
 obtain ⟨⟨t351, t352, t353⟩, A40, H⟩ := H
 replace H : (if t353 = 0 then (if a2 < 0 then (some ((⟨#[]⟩ : ByteArray), 0, 20)) else (if t351 > (IntKind.u64.wrap (a2)) then (some ((⟨#[]⟩ : ByteArray), 0, 20)) else (if t351 > (IntKind.u64.wrap (wrap64 ((l0.length : Int) - t352))) then (some ((⟨#[]⟩ : ByteArray), 0, 20)) else (if 0 ≤ t352 then (if t352 ≤ (wrap64 (t352 + (wrap64 (t351)))) then (if (wrap64 (t352 + (wrap64 (t351)))) ≤ (l0.length : Int) then (some (strOfNums ((l0.take ((wrap64 (t352 + (wrap64 (t351)))) : Int).toNat).drop (t352 : Int).toNat), wrap64 (t352 + (wrap64 (t351))), 0)) else (none)) else (none)) else (none))))) else (some ((⟨#[]⟩ : ByteArray), 0, 20))) = some (r1, r2, r3) := H
 have A4 := Aside0.mk A40
 clear A40
 by_cases c5 : t353 = 0
 rw [if_pos c5] at H
 have c5b0 : (t353 == 0) = true := beq_iff_eq.mpr c5
 have c5b1 : (t353 != 0) = false := bne_eq_false_iff_eq.mpr c5
 clear c5
 by_cases c6 : a2 < 0
 rw [if_pos c6] at H
 have c6b0 : decide (a2 < 0) = true := decide_eq_true c6
 clear c6
 simp only [Option.some.injEq, Prod.mk.injEq] at H
 obtain ⟨rfl, rfl, rfl⟩ := H
 rotate_left
 rw [if_neg c6] at H
 have c6b0 : decide (a2 < 0) = false := decide_eq_false c6
 clear c6
 by_cases c7 : t351 > (IntKind.u64.wrap (a2))
 rw [if_pos c7] at H
 have c7b0 : decide ((IntKind.u64.wrap (a2)) < t351) = true := decide_eq_true c7
 clear c7
 simp only [Option.some.injEq, Prod.mk.injEq] at H
 obtain ⟨rfl, rfl, rfl⟩ := H
 rotate_left
 rw [if_neg c7] at H
 have c7b0 : decide ((IntKind.u64.wrap (a2)) < t351) = false := decide_eq_false c7
 clear c7
 by_cases c8 : t351 > (IntKind.u64.wrap (wrap64 ((l0.length : Int) - t352)))
 rw [if_pos c8] at H
 have c8b0 : decide ((IntKind.u64.wrap (wrap64 ((l0.length : Int) - t352))) < t351) = true := decide_eq_true c8
 clear c8
 simp only [Option.some.injEq, Prod.mk.injEq] at H
 obtain ⟨rfl, rfl, rfl⟩ := H
 rotate_left
 · rw [if_neg c8] at H
   have c8b0 : decide ((IntKind.u64.wrap (wrap64 ((l0.length : Int) - t352))) < t351) = false := decide_eq_false c8
   clear c8
   by_cases c9 : 0 ≤ t352
   · rw [if_pos c9] at H
     have c9b0 := eq_true c9
     have c9b1 : decide (0 ≤ t352) = true := decide_eq_true c9
     clear c9
     by_cases c10 : t352 ≤ (wrap64 (t352 + (wrap64 (t351))))
     · rw [if_pos c10] at H
       have c10b0 := eq_true c10
       have c10b1 : decide (t352 ≤ (wrap64 (t352 + (wrap64 (t351))))) = true := decide_eq_true c10
       by_cases c11 : (wrap64 (t352 + (wrap64 (t351)))) ≤ (l0.length : Int)
       · rw [if_pos c11] at H
         have c11b0 := eq_true c11
         have c11b1 : decide ((wrap64 (t352 + (wrap64 (t351)))) ≤ (l0.length : Int)) = true := decide_eq_true c11
         simp only [Option.some.injEq, Prod.mk.injEq] at H
         obtain ⟨rfl, rfl, rfl⟩ := H
         go_enter Try.func116, Try.ntmps116
         go_wp2_with (first | ((with_reducible refine gate_callee (f := 117) rfl ?_); refine goesL_ (some 15) rfl rfl Try.func117 (by kernel_rfl) rfl #[.slice A0 l0.length c0, .int .i64 a1] rfl (by (try simp only [List.map_toArray, List.map_cons, List.map_nil]); first | done | rfl | (simp only [List.length_drop, List.length_take]; rfl)) ?_; (with_reducible refine (pannierref02_TakeNumber.calls k _ _ l0 a1 t351 t352 t353 _ ?side1 ?side2 A4.out).mono ?_); (case side1 => repeat (first | exact HR0.out | (with_reducible refine Kd.C_alloc ?_ _) | (with_reducible refine Kd.C_drewN ?_ _) | (with_reducible refine Kd.C_drew ?_))); (case side2 => exact HC0.out); rintro e w' ⟨rfl, ⟨nd, rfl⟩⟩; refine ⟨_, rfl, ?_⟩; obtain ⟨i012, hi012, _, hsz12, _⟩ := info_parts info5; obtain ⟨A12, hcut12, hA12, hC12⟩ := print_mid_of (P := Try.prog) (Value.int .u8) 0 63 5 .i64 .i64 Try.underlying63 hi012 hsz12 A0 c0 l0 t352 (wrap64 (t352 + (wrap64 (t351)))) (of_decide_eq_true (by first | (with_reducible assumption) | assumption)) (by first | omega | exact of_decide_eq_true (by first | (with_reducible assumption) | assumption)) (of_decide_eq_true (by first | (with_reducible assumption) | assumption)) HC0.out; have HR354 := Aside0.mk (Kd.C_of_reads (h1 := fun _ => rfl) (hA12 _ (Kd.reads_of_C HR0.out))); have HC354 := Aside0.mk hC12; clear hA12 hC12 hi012 hsz12; have hcv13 := Kd.C_string (P := Try.prog) (A := A12) (c := (c0 - t352.toNat)) Try.underlying63 Try.underlying5 Try.underlying9 (Kd.C_drewN HR354.out nd); (try simp [*] at hcv13)))
         go_ret3
         exact ⟨by first | rfl | (simp; done) | (simp [*]; done), by repeat (first | exact Drawn0.refl _ | apply Drawn0.step)⟩
       · rw [if_neg c11] at H
         exact absurd H (by simp)
     · rw [if_neg c10] at H
       exact absurd H (by simp)
   · rw [if_neg c9] at H
     exact absurd H (by simp)
 rw [if_neg c5] at H
 have c5b0 : (t353 == 0) = false := beq_eq_false_iff_ne.mpr c5
 have c5b1 : (t353 != 0) = true := bne_iff_ne.mpr c5
 simp only [Option.some.injEq, Prod.mk.injEq] at H
 obtain ⟨rfl, rfl, rfl⟩ := H
 rotate_left
 all_goals (
  go_enter Try.func116, Try.ntmps116
  go_wp2_with (first | ((with_reducible refine gate_callee (f := 117) rfl ?_); refine goesL_ (some 15) rfl rfl Try.func117 (by kernel_rfl) rfl #[.slice A0 l0.length c0, .int .i64 a1] rfl (by (try simp only [List.map_toArray, List.map_cons, List.map_nil]); first | done | rfl | (simp only [List.length_drop, List.length_take]; rfl)) ?_; (with_reducible refine (pannierref02_TakeNumber.calls k _ _ l0 a1 t351 t352 t353 _ ?side1 ?side2 A4.out).mono ?_); (case side1 => repeat (first | exact HR0.out | (with_reducible refine Kd.C_alloc ?_ _) | (with_reducible refine Kd.C_drewN ?_ _) | (with_reducible refine Kd.C_drew ?_))); (case side2 => exact HC0.out); rintro e w' ⟨rfl, ⟨nd, rfl⟩⟩; refine ⟨_, rfl, ?_⟩))
  go_ret3
  exact ⟨by first | rfl | (simp; done) | (simp [*]; done), by repeat (first | exact Drawn0.refl _ | apply Drawn0.step)⟩
  )
end Go.Proofs.Ytenbkljgmgdegaa.PO
end
section
namespace Go.Proofs.Ytenbkljgmgdegaa.PO
open Go.RowKit Go.Proofs.YtenbkljgmgdegaaW.PrintWords Go.Proofs.YtenbkljgmgdegaaW.PrintLast Go.Proofs.YtenbkljgmgdegaaW.PrintMore
attribute [local go_sem] max2_int min2_int max_two min_two max_three min_three max_four min_four   -- for this text's walks alone
set_option linter.unusedVariables false
set_option linter.unusedSimpArgs false
attribute [local go_sem high] eqA34
mutual
def pannierref07_Take.j0 : Nat → List Int → Int → Int → Bool → Option ((List (S34)) × Int × Int)
 | 0, _, _, _, _ => none
 | k + 1, x0, x7, x8, x31 => if x31 = true then (some (([] : List (S34)), 0, 70)) else (pannierref07_Take.l0 k x0 x7 x8 ([] : List (S34)) 0)
def pannierref07_Take.l0 : Nat → List Int → Int → Int → List (S34) → Int → Option ((List (S34)) × Int × Int)
 | 0, _, _, _, _, _ => none
 | k + 1, x0, x7, x8, x10, x11 => if x11 < (wrap64 (x7)) then ((pannierref02_TakeText.f k x0 x8 24).bind fun bt359 => ((pannierref02_TakeNumber.f k x0 bt359.2.1).bind fun bt362 => (if bt359.2.2 = 0 then (if bt362.2.2 = 0 then (if bt362.1 > 4611686018427387904 then (some (([] : List (S34)), 0, 70)) else (if x10.length < 5864062014805 then (pannierref07_Take.l0 k x0 x7 bt362.2.1 (x10 ++ [(⟨bt359.1, wrap64 (bt362.1)⟩ : S34)]) (wrap64 (x11 + 1))) else (none))) else (some (([] : List (S34)), 0, 70))) else (some (([] : List (S34)), 0, 70))))) else ((pannierref07_Right.f k x10).bind fun t358 => (if t358 = true then (some (x10, x8, 0)) else (some (([] : List (S34)), 0, 70))))
end
def pannierref07_Take.f (k : Nat) (l0 : List Int) (a1 : Int) : Option ((List (S34)) × Int × Int) := (pannierref02_TakeNumber.f k l0 a1).bind fun bt355 => (if bt355.2.2 = 0 then (pannierref07_Take.j0 k l0 bt355.1 bt355.2.1 (decide (bt355.1 > 64))) else (pannierref07_Take.j0 k l0 bt355.1 bt355.2.1 true))
set_option maxHeartbeats 8000000 in
set_option maxRecDepth 100000 in
theorem pannierref07_Take.calls (k : Nat) (A0 : Option Addr) (c0 : Nat) (l0 : List Int) (a1 : Int) (r1 : List (S34)) (r2 : Int) (r3 : Int) (w : World) (hr0 : Kd.C (Kd.int .u8) w A0 l0.length l0) (hc0 : l0.length ≤ c0) (h : pannierref07_Take.f k l0 a1 = some (r1, r2, r3)) :
 Calls Try.prog 76 #[.slice A0 l0.length c0, .int .i64 a1] w fun e w' => ∃ v0_ : Value, e = .returned (.tuple #[v0_, .int .i64 r2, .int .i64 r3]) ∧ Kd.R k34 34 w' w.heap.size (fun _ => True) v0_ r1 ∧ Below w.heap.size w w' := by
 have hu34 := Try.underlying34
 have HR0 := Aside0.mk hr0
 have HC0 := Aside0.mk hc0
 clear hr0 hc0
 have HB := Aside0.mk (Below.refl w.heap.size w)
 have H : ((pannierref02_TakeNumber.f k l0 a1).bind fun bt355 => (if bt355.2.2 = 0 then (pannierref07_Take.j0 k l0 bt355.1 bt355.2.1 (decide (bt355.1 > 64))) else (pannierref07_Take.j0 k l0 bt355.1 bt355.2.1 true))) = some (r1, r2, r3) := h
 clear h
 replace H := Option.bind_eq_some_iff.mp H
 obtain ⟨⟨t355, t356, t357⟩, A30, H⟩ := H
 replace H : (if t357 = 0 then (pannierref07_Take.j0 k l0 t355 t356 (decide (t355 > 64))) else (pannierref07_Take.j0 k l0 t355 t356 true)) = some (r1, r2, r3) := H
 have A3 := Aside0.mk A30
 clear A30
 have HC4 := Aside0.mk H
 clear H
 go_enter Try.func76, Try.ntmps76
 go_upto_region 2 with (first | ((with_reducible refine gate_callee (f := 117) rfl ?_); refine goesL_ (some 22) rfl rfl Try.func117 (by kernel_rfl) rfl #[.slice A0 l0.length c0, .int .i64 a1] rfl (by (try simp only [List.map_toArray, List.map_cons, List.map_nil]); first | done | rfl | (simp only [List.length_drop, List.length_take]; rfl)) ?_; (with_reducible refine (pannierref02_TakeNumber.calls k _ _ l0 a1 t355 t356 t357 _ ?side1 ?side2 A3.out).mono ?_); (case side1 => repeat (first | exact HR0.out | (with_reducible refine Kd.C_alloc ?_ _) | (with_reducible refine Kd.C_drewN ?_ _) | (with_reducible refine Kd.C_drew ?_))); (case side2 => exact HC0.out); rintro e w' ⟨rfl, ⟨nd, rfl⟩⟩; refine ⟨_, rfl, ?_⟩))
 (try simp only [Act.put, List.setIfInBounds_toArray, List.set_cons_zero, List.set_cons_succ])
 go_cut [31] (fun v31 wc => ∃ (kq : Nat) (x31_3 : Bool), v31 = .bool x31_3 ∧ Aside0 (pannierref07_Take.j0 kq l0 t355 t356 x31_3 = some (r1, r2, r3)) ∧ Aside0 (kq ≤ k) ∧ Aside0 (Below w.heap.size w wc))
 case first =>
  have H := HC4.out
  clear HC4
  by_cases c5 : t357 = 0
  · rw [if_pos c5] at H
    have c5b0 : (t357 == 0) = true := beq_iff_eq.mpr c5
    have c5b1 : (t357 != 0) = false := bne_eq_false_iff_eq.mpr c5
    clear c5
    (first | rw [c5b0] | (simp only [i64_w, i32_w]; rw [c5b0]) | skip)
    have H' := Aside0.mk H
    clear H
    go_wp2
    go_meet
    case rel => exact ⟨_, (decide (t355 > 64)), (by first | rfl | (simp; done) | (simp [*]; done)), H', ⟨by first | omega | exact Nat.le_refl _⟩, ⟨by repeat (first | (with_reducible first | exact HB.out | apply below_alloc | apply pw_below_drewN | apply below_drew1) | exact HB.out)⟩⟩
  · rw [if_neg c5] at H
    have c5b0 : (t357 == 0) = false := beq_eq_false_iff_ne.mpr c5
    have c5b1 : (t357 != 0) = true := bne_iff_ne.mpr c5
    (first | rw [c5b0] | (simp only [i64_w, i32_w]; rw [c5b0]) | skip)
    have H' := Aside0.mk H
    clear H
    go_wp2
    go_meet
    case rel => exact ⟨_, (true), (by first | rfl | (simp; done) | (simp [*]; done)), H', ⟨by first | omega | exact Nat.le_refl _⟩, ⟨by repeat (first | (with_reducible first | exact HB.out | apply below_alloc | apply pw_below_drewN | apply below_drew1) | exact HB.out)⟩⟩
 case rest =>
  clear HC4
  try clear c1
  try clear p2
  try clear c5
  try clear c5b0
  try clear c5b1
  obtain ⟨kq, x31_3, rfl, HA, HJ3, HB⟩ := hcut
  cases kq with
  | zero => exact absurd HA.out (by simp [pannierref07_Take.j0])
  | succ kj3 =>
   have H := HA.out
   clear HA
   simp only [pannierref07_Take.j0] at H
   by_cases c6 : x31_3 = true
   · subst c6
     have H1 : (some (([] : List (S34)), 0, 70)) = some (r1, r2, r3) := by rw [if_pos rfl] at H; exact H
     clear H
     have H := H1
     clear H1
     simp only [Option.some.injEq, Prod.mk.injEq] at H
     obtain ⟨rfl, rfl, rfl⟩ := H
     go_wp2
     go_ret3
     exact ⟨_, by first | rfl | (simp [errW_none, errW_some] <;> rfl) | (simp [*, errW_none, errW_some] <;> rfl), by first | exact Kd.R_nil _ _ _ _ _ | exact Kd.N_nil _ _ _ _ _ | exact Kd.V_nil _ _ _ _ _ | exact Kd.Q_nil _ _ _ _ _ | exact Kd.S_nil _ _ _ _ _, by repeat (first | (with_reducible first | exact HB.out | apply below_alloc | apply pw_below_drewN | apply below_drew1) | exact HB.out)⟩
   · replace c6 := Bool.eq_false_iff.mpr c6
     subst c6
     have H1 : (pannierref07_Take.l0 kj3 l0 t355 t356 ([] : List (S34)) 0) = some (r1, r2, r3) := by rw [if_neg (show ¬ (false = true) by decide)] at H; exact H
     clear H
     have H := H1
     clear H1
     have H' := Aside0.mk H
     clear H
     go_wp2
     go_loopg [8, 10, 11] kj3 (fun kq v8 v10 v11 w' => ∃ (x8_2 : Int) (x10_2 : List (S34)) (x11_2 : Int), v8 = .int .i64 x8_2 ∧ v11 = .int .i64 x11_2 ∧ Aside0 (pannierref07_Take.l0 kq l0 t355 x8_2 x10_2 x11_2 = some (r1, r2, r3)) ∧ Aside0 (kq ≤ kj3) ∧ Aside0 (Kd.R k34 34 w' w.heap.size (fun _ => True) v10 x10_2) ∧ Aside0 (Below w.heap.size w w'))
     case atStart => exact ⟨(t356), (([] : List (S34))), (0), (by first | rfl | (simp; done) | (simp [*]; done)), (by first | rfl | (simp; done) | (simp [*]; done)), H', ⟨Nat.le_refl _⟩, ⟨by first | exact Kd.R_nil _ _ _ _ _ | exact Kd.N_nil _ _ _ _ _ | exact Kd.V_nil _ _ _ _ _ | exact Kd.Q_nil _ _ _ _ _ | exact Kd.S_nil _ _ _ _ _⟩, ⟨by repeat (first | (with_reducible first | exact HB.out | apply below_alloc | apply pw_below_drewN | apply below_drew1) | exact HB.out)⟩⟩
     case round =>
      clear H'
      try clear c1
      try clear p2
      try clear c5
      try clear c5b0
      try clear c5b1
      try clear c6
      try clear p2
      obtain ⟨x8_2, x10_2, x11_2, rfl, rfl, HA, HK2, HO_10, HB⟩ := hrel
      cases gk with
      | zero => exact absurd HA.out (by simp [pannierref07_Take.l0])
      | succ k2 =>
       have H := HA.out
       clear HA
       simp only [pannierref07_Take.l0] at H
       by_cases c7 : x11_2 < (wrap64 (t355))
       rw [if_pos c7] at H
       have c7b0 : decide (x11_2 < (wrap64 (t355))) = true := decide_eq_true c7
       clear c7
       replace H := Option.bind_eq_some_iff.mp H
       obtain ⟨⟨t359, t360, t361⟩, A80, H⟩ := H
       replace H : ((pannierref02_TakeNumber.f k2 l0 t360).bind fun bt362 => (if t361 = 0 then (if bt362.2.2 = 0 then (if bt362.1 > 4611686018427387904 then (some (([] : List (S34)), 0, 70)) else (if x10_2.length < 5864062014805 then (pannierref07_Take.l0 k2 l0 t355 bt362.2.1 (x10_2 ++ [(⟨t359, wrap64 (bt362.1)⟩ : S34)]) (wrap64 (x11_2 + 1))) else (none))) else (some (([] : List (S34)), 0, 70))) else (some (([] : List (S34)), 0, 70)))) = some (r1, r2, r3) := H
       have A8 := Aside0.mk A80
       clear A80
       replace H := Option.bind_eq_some_iff.mp H
       obtain ⟨⟨t362, t363, t364⟩, A90, H⟩ := H
       replace H : (if t361 = 0 then (if t364 = 0 then (if t362 > 4611686018427387904 then (some (([] : List (S34)), 0, 70)) else (if x10_2.length < 5864062014805 then (pannierref07_Take.l0 k2 l0 t355 t363 (x10_2 ++ [(⟨t359, wrap64 (t362)⟩ : S34)]) (wrap64 (x11_2 + 1))) else (none))) else (some (([] : List (S34)), 0, 70))) else (some (([] : List (S34)), 0, 70))) = some (r1, r2, r3) := H
       have A9 := Aside0.mk A90
       clear A90
       by_cases c10 : t361 = 0
       rw [if_pos c10] at H
       have c10b0 : (t361 == 0) = true := beq_iff_eq.mpr c10
       have c10b1 : (t361 != 0) = false := bne_eq_false_iff_eq.mpr c10
       clear c10
       by_cases c11 : t364 = 0
       rw [if_pos c11] at H
       have c11b0 : (t364 == 0) = true := beq_iff_eq.mpr c11
       have c11b1 : (t364 != 0) = false := bne_eq_false_iff_eq.mpr c11
       clear c11
       by_cases c12 : t362 > 4611686018427387904
       rw [if_pos c12] at H
       have c12b0 : decide (4611686018427387904 < t362) = true := decide_eq_true c12
       clear c12
       simp only [Option.some.injEq, Prod.mk.injEq] at H
       obtain ⟨rfl, rfl, rfl⟩ := H
       rotate_left
       · rw [if_neg c12] at H
         have c12b0 : decide (4611686018427387904 < t362) = false := decide_eq_false c12
         clear c12
         by_cases c13 : x10_2.length < 5864062014805
         · rw [if_pos c13] at H
           have LMc13 := Aside0.mk c13
           clear c13
           obtain ⟨y365, hy365⟩ : ∃ y_ : List (S34), y_ = (x10_2 ++ [(⟨t359, wrap64 (t362)⟩ : S34)]) := ⟨_, rfl⟩
           replace H : (pannierref07_Take.l0 k2 l0 t355 t363 y365 (wrap64 (x11_2 + 1))) = some (r1, r2, r3) := by first | (rw [hy365]; with_reducible exact H) | (have H2_ := (Option.bind_some _ _).symm.trans H; rw [hy365]; with_reducible exact H2_) | (have H2_ := (Option.bind_some _ _).symm.trans H; with_reducible exact H2_) | with_reducible exact H | (rw [hy365]; exact H) | exact H
           have Ny365 := Aside0.mk hy365
           clear hy365
           have H' := Aside0.mk H
           clear H
           go_wp2_with (first | ((with_reducible refine gate_callee (f := 116) rfl ?_); refine goesL_ (some 41) rfl rfl Try.func116 (by kernel_rfl) rfl #[.slice A0 l0.length c0, .int .i64 x8_2, .int .i64 24] rfl (by (try simp only [List.map_toArray, List.map_cons, List.map_nil]); first | done | rfl | (simp only [List.length_drop, List.length_take]; rfl)) ?_; (with_reducible refine (pannierref02_TakeText.calls k2 _ _ l0 x8_2 24 t359 t360 t361 _ ?side1 ?side2 A8.out).mono ?_); (case side1 => repeat (first | exact (Kd.C_below HR0.out HB.out) | (with_reducible refine Kd.C_alloc ?_ _) | (with_reducible refine Kd.C_drewN ?_ _) | (with_reducible refine Kd.C_drew ?_))); (case side2 => exact HC0.out); rintro e w' ⟨rfl, ⟨nd, rfl⟩⟩; refine ⟨_, rfl, ?_⟩) | ((with_reducible refine gate_callee (f := 117) rfl ?_); refine goesL_ (some 48) rfl rfl Try.func117 (by kernel_rfl) rfl #[.slice A0 l0.length c0, .int .i64 t360] rfl (by (try simp only [List.map_toArray, List.map_cons, List.map_nil]); first | done | rfl | (simp only [List.length_drop, List.length_take]; rfl)) ?_; (with_reducible refine (pannierref02_TakeNumber.calls k2 _ _ l0 t360 t362 t363 t364 _ ?side1 ?side2 A9.out).mono ?_); (case side1 => repeat (first | exact (Kd.C_below HR0.out (by repeat (first | (with_reducible first | exact HB.out | apply below_alloc | apply pw_below_drewN | apply below_drew1) | exact HB.out))) | (with_reducible refine Kd.C_alloc ?_ _) | (with_reducible refine Kd.C_drewN ?_ _) | (with_reducible refine Kd.C_drew ?_))); (case side2 => exact HC0.out); rintro e w' ⟨rfl, ⟨nd, rfl⟩⟩; refine ⟨_, rfl, ?_⟩) | ((with_reducible refine gate_builtin (b := .append) (xs := #[.tmp 62, .tmp 67]) rfl ?_); at_builtin; refine Kd.R_append k34 (w0 := w) w.heap.size rfl (.tmp 62) (.tmp 67) 23 34 (.agg #[(.string ⟨#[]⟩), (.int .i64 0)]) 24 rfl Try.underlying23 info34 rfl (by decide) (by omega) u10 x10_2 (⟨t359, wrap64 (t362)⟩ : S34) [.string t359, .int .i64 (wrap64 (t362))] (fun _ => True) (fun _ => False) rfl rfl ?aP (fun _ hk => hk.elim) ?aF ?aO ?aB ?aS ?aL ?_; (case aP => exact k34_mkM _ _ _ (⟨t359, wrap64 (t362)⟩ : S34)); (case aB => exact (by repeat (first | (with_reducible first | exact HB.out | apply below_alloc | apply pw_below_drewN | apply below_drew1) | exact HB.out))); (case aF => exact (fun _ _ => trivial)); (case aO => exact (by (with_reducible repeat (first | apply Kd.R_alloc | apply Kd.R_drewN | apply Kd.R_drew)); exact HO_10.out)); (case aS => exact (below_size (by repeat (first | (with_reducible first | exact HB.out | apply below_alloc | apply pw_below_drewN | apply below_drew1) | exact HB.out)))); (case aL => have := LMc13.out; omega); intro v366 w14 ho hb hg hat; rw [← Ny365.out] at ho; have n0_ := Aside0.mk (hb); have n1_ := Aside0.mk (ho); clear HB; clear HO_10; have HB := n0_; have HO367 := n1_; clear n0_ n1_; clear ho hb hg hat))
           go_roundg k2
           case measure => have := HJ3.out; have := HK2.out; omega
           case rel => exact ⟨(t363), (y365), (wrap64 (x11_2 + 1)), (by first | rfl | (simp; done) | (simp [*]; done)), (by first | rfl | (simp; done) | (simp [*]; done)), H', ⟨by have := HJ3.out; have := HK2.out; omega⟩, ⟨by (with_reducible repeat (first | apply Kd.R_alloc | apply Kd.R_drewN | apply Kd.R_drew)); exact HO367.out⟩, ⟨by repeat (first | (with_reducible first | exact HB.out | apply below_alloc | apply pw_below_drewN | apply below_drew1) | exact HB.out)⟩⟩
         · rw [if_neg c13] at H
           exact absurd H (by simp)
       rw [if_neg c11] at H
       have c11b0 : (t364 == 0) = false := beq_eq_false_iff_ne.mpr c11
       have c11b1 : (t364 != 0) = true := bne_iff_ne.mpr c11
       simp only [Option.some.injEq, Prod.mk.injEq] at H
       obtain ⟨rfl, rfl, rfl⟩ := H
       rotate_left
       rw [if_neg c10] at H
       have c10b0 : (t361 == 0) = false := beq_eq_false_iff_ne.mpr c10
       have c10b1 : (t361 != 0) = true := bne_iff_ne.mpr c10
       simp only [Option.some.injEq, Prod.mk.injEq] at H
       obtain ⟨rfl, rfl, rfl⟩ := H
       rotate_left
       · rw [if_neg c7] at H
         have c7b0 : decide (x11_2 < (wrap64 (t355))) = false := decide_eq_false c7
         clear c7
         replace H := Option.bind_eq_some_iff.mp H
         obtain ⟨t358, A150, H⟩ := H
         replace H : (if t358 = true then (some (x10_2, x8_2, 0)) else (some (([] : List (S34)), 0, 70))) = some (r1, r2, r3) := H
         have A15 := Aside0.mk A150
         clear A150
         by_cases c16 : t358 = true
         · subst c16
           have H1 : (some (x10_2, x8_2, 0)) = some (r1, r2, r3) := by rw [if_pos rfl] at H; exact H
           clear H
           have H := H1
           clear H1
           simp only [Option.some.injEq, Prod.mk.injEq] at H
           obtain ⟨rfl, rfl, rfl⟩ := H
           obtain ⟨Ao17, co17, eo17⟩ := Kd.R_slice HO_10.out
           subst eo17
           go_wp2_with (first | ((with_reducible refine gate_callee (f := 62) rfl ?_); refine goesL_ (some 71) rfl rfl Try.func62 (by kernel_rfl) rfl #[.slice Ao17 x10_2.length co17] rfl (by (try simp only [List.map_toArray, List.map_cons, List.map_nil]); first | done | rfl | (simp only [List.length_drop, List.length_take]; rfl)) ?_; (with_reducible refine (pannierref07_Right.calls k2 _ _ x10_2 true _ ?side1 ?side2 A15.out).mono ?_); (case side1 => repeat (first | exact (Kd.R_reads' HO_10.out).2.2 | (with_reducible refine Kd.C_alloc ?_ _) | (with_reducible refine Kd.C_drewN ?_ _) | (with_reducible refine Kd.C_drew ?_))); (case side2 => exact (Kd.R_reads' HO_10.out).2.1); rintro e w18 ⟨rfl, hb⟩; refine ⟨_, rfl, ?_⟩; have n0_ := Aside0.mk (Kd.R_below (by (with_reducible repeat (first | apply Kd.R_alloc | apply Kd.R_drewN | apply Kd.R_drew)); exact HO_10.out) hb); have n1_ := Aside0.mk (below_step (by repeat (first | (with_reducible first | exact HB.out | apply below_alloc | apply pw_below_drewN | apply below_drew1) | exact HB.out)) hb); clear HO_10; clear HB; have HO_10 := n0_; have HB := n1_; clear n0_ n1_; (try clear hb); (try clear hb2); (try clear hk); (try clear hi)))
           go_ret3
           exact ⟨_, by first | rfl | (simp [errW_none, errW_some] <;> rfl) | (simp [*, errW_none, errW_some] <;> rfl), by (with_reducible repeat (first | apply Kd.R_alloc | apply Kd.R_drewN | apply Kd.R_drew)); exact HO_10.out, by repeat (first | (with_reducible first | exact HB.out | apply below_alloc | apply pw_below_drewN | apply below_drew1) | exact HB.out)⟩
         · replace c16 := Bool.eq_false_iff.mpr c16
           subst c16
           have H1 : (some (([] : List (S34)), 0, 70)) = some (r1, r2, r3) := by rw [if_neg (show ¬ (false = true) by decide)] at H; exact H
           clear H
           have H := H1
           clear H1
           simp only [Option.some.injEq, Prod.mk.injEq] at H
           obtain ⟨rfl, rfl, rfl⟩ := H
           obtain ⟨Ao19, co19, eo19⟩ := Kd.R_slice HO_10.out
           subst eo19
           go_wp2_with (first | ((with_reducible refine gate_callee (f := 62) rfl ?_); refine goesL_ (some 71) rfl rfl Try.func62 (by kernel_rfl) rfl #[.slice Ao19 x10_2.length co19] rfl (by (try simp only [List.map_toArray, List.map_cons, List.map_nil]); first | done | rfl | (simp only [List.length_drop, List.length_take]; rfl)) ?_; (with_reducible refine (pannierref07_Right.calls k2 _ _ x10_2 false _ ?side1 ?side2 A15.out).mono ?_); (case side1 => repeat (first | exact (Kd.R_reads' HO_10.out).2.2 | (with_reducible refine Kd.C_alloc ?_ _) | (with_reducible refine Kd.C_drewN ?_ _) | (with_reducible refine Kd.C_drew ?_))); (case side2 => exact (Kd.R_reads' HO_10.out).2.1); rintro e w20 ⟨rfl, hb⟩; refine ⟨_, rfl, ?_⟩; have n0_ := Aside0.mk (Kd.R_below (by (with_reducible repeat (first | apply Kd.R_alloc | apply Kd.R_drewN | apply Kd.R_drew)); exact HO_10.out) hb); have n1_ := Aside0.mk (below_step (by repeat (first | (with_reducible first | exact HB.out | apply below_alloc | apply pw_below_drewN | apply below_drew1) | exact HB.out)) hb); clear HO_10; clear HB; have HO_10 := n0_; have HB := n1_; clear n0_ n1_; (try clear hb); (try clear hb2); (try clear hk); (try clear hi)))
           go_ret3
           exact ⟨_, by first | rfl | (simp [errW_none, errW_some] <;> rfl) | (simp [*, errW_none, errW_some] <;> rfl), by first | exact Kd.R_nil _ _ _ _ _ | exact Kd.N_nil _ _ _ _ _ | exact Kd.V_nil _ _ _ _ _ | exact Kd.Q_nil _ _ _ _ _ | exact Kd.S_nil _ _ _ _ _, by repeat (first | (with_reducible first | exact HB.out | apply below_alloc | apply pw_below_drewN | apply below_drew1) | exact HB.out)⟩
       all_goals (
        go_wp2_with (first | ((with_reducible refine gate_callee (f := 116) rfl ?_); refine goesL_ (some 41) rfl rfl Try.func116 (by kernel_rfl) rfl #[.slice A0 l0.length c0, .int .i64 x8_2, .int .i64 24] rfl (by (try simp only [List.map_toArray, List.map_cons, List.map_nil]); first | done | rfl | (simp only [List.length_drop, List.length_take]; rfl)) ?_; (with_reducible refine (pannierref02_TakeText.calls k2 _ _ l0 x8_2 24 t359 t360 t361 _ ?side1 ?side2 A8.out).mono ?_); (case side1 => repeat (first | exact (Kd.C_below HR0.out HB.out) | (with_reducible refine Kd.C_alloc ?_ _) | (with_reducible refine Kd.C_drewN ?_ _) | (with_reducible refine Kd.C_drew ?_))); (case side2 => exact HC0.out); rintro e w' ⟨rfl, ⟨nd, rfl⟩⟩; refine ⟨_, rfl, ?_⟩) | ((with_reducible refine gate_callee (f := 117) rfl ?_); refine goesL_ (some 48) rfl rfl Try.func117 (by kernel_rfl) rfl #[.slice A0 l0.length c0, .int .i64 t360] rfl (by (try simp only [List.map_toArray, List.map_cons, List.map_nil]); first | done | rfl | (simp only [List.length_drop, List.length_take]; rfl)) ?_; (with_reducible refine (pannierref02_TakeNumber.calls k2 _ _ l0 t360 t362 t363 t364 _ ?side1 ?side2 A9.out).mono ?_); (case side1 => repeat (first | exact (Kd.C_below HR0.out (by repeat (first | (with_reducible first | exact HB.out | apply below_alloc | apply pw_below_drewN | apply below_drew1) | exact HB.out))) | (with_reducible refine Kd.C_alloc ?_ _) | (with_reducible refine Kd.C_drewN ?_ _) | (with_reducible refine Kd.C_drew ?_))); (case side2 => exact HC0.out); rintro e w' ⟨rfl, ⟨nd, rfl⟩⟩; refine ⟨_, rfl, ?_⟩))
        go_ret3
        exact ⟨_, by first | rfl | (simp [errW_none, errW_some] <;> rfl) | (simp [*, errW_none, errW_some] <;> rfl), by first | exact Kd.R_nil _ _ _ _ _ | exact Kd.N_nil _ _ _ _ _ | exact Kd.V_nil _ _ _ _ _ | exact Kd.Q_nil _ _ _ _ _ | exact Kd.S_nil _ _ _ _ _, by repeat (first | (with_reducible first | exact HB.out | apply below_alloc | apply pw_below_drewN | apply below_drew1) | exact HB.out)⟩
        )
end Go.Proofs.Ytenbkljgmgdegaa.PO
end
