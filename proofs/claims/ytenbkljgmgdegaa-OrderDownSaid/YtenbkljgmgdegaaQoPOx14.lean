/- What the rows of this claim use, out of the texts of this work (POx14). No condition beyond those that each statement names. -/
import Derived.Test.YtenbkljgmgdegaaQoPOx0
import Derived.Test.YtenbkljgmgdegaaQoPOx6
import Derived.Test.YtenbkljgmgdegaaQoPOx12
namespace Go.Proofs.Ytenbkljgmgdegaa.PO
open Go.RowKit Go.Proofs.YtenbkljgmgdegaaW.PrintWords Go.Proofs.YtenbkljgmgdegaaW.PrintLast Go.Proofs.YtenbkljgmgdegaaW.PrintMore
attribute [local go_sem] max2_int min2_int max_two min_two max_three min_three max_four min_four   -- for this text's walks alone
set_option linter.unusedVariables false
set_option linter.unusedSimpArgs false
mutual
def pannierlaw08_makers.l0 : Nat → List (S36) → Int → Int → Option (Int)
  | 0, _, _, _ => none
  | k + 1, x0, x3, x4 => if x4 < (x0.length : Int) then (pannierlaw08_makers.l1 k x0 x3 x4 false 0) else (some x3)
def pannierlaw08_makers.l1 : Nat → List (S36) → Int → Int → Bool → Int → Option (Int)
  | 0, _, _, _, _, _ => none
  | k + 1, x0, x3, x4, x5, x6 => if x6 < x4 then (if x5 = true then (pannierlaw08_makers.l0 k x0 x3 (wrap64 (x4 + 1))) else (if 0 ≤ x6 then (if x6 < (x0.length : Int) then (if 0 ≤ x4 then (if x4 < (x0.length : Int) then (pannierlaw08_makers.l1 k x0 x3 x4 (((rd_T36 x0 x6).f0.f0).toList == ((rd_T36 x0 x4).f0.f0).toList) (wrap64 (x6 + 1))) else (none)) else (none)) else (none)) else (none))) else (if x5 = true then (pannierlaw08_makers.l0 k x0 x3 (wrap64 (x4 + 1))) else (pannierlaw08_makers.l0 k x0 (wrap64 (x3 + 1)) (wrap64 (x4 + 1))))
end
def pannierlaw08_makers.f (k : Nat) (l0 : List (S36)) : Option (Int) := pannierlaw08_makers.l0 k l0 0 0
set_option maxHeartbeats 8000000 in
set_option maxRecDepth 100000 in
theorem pannierlaw08_makers.calls (k : Nat) (A0 : Option Addr) (c0 : Nat) (l0 : List (S36)) (r : Int) (w : World) (hr0 : Kd.C k36 w A0 l0.length l0) (hc0 : l0.length ≤ c0) (h : pannierlaw08_makers.f k l0 = some r) :
    Calls Try.prog 29 #[.slice A0 l0.length c0] w fun e w' => e = .returned (.int .i64 r) ∧ Drawn0 w w' := by
 have HR0 := Aside0.mk hr0
 have HC0 := Aside0.mk hc0
 clear hr0 hc0
 have H : (pannierlaw08_makers.l0 k l0 0 0) = some r := h
 clear h
 have H' := Aside0.mk H
 clear H
 go_enter Try.func29, Try.ntmps29
 go_wp2
 repeat (go_quiet (fail); try go_wp2)
 go_loopg [3, 4] k (fun kq v3 v4 w' => ∃ (x3_1 : Int) (x4_1 : Int), v3 = .int .i64 x3_1 ∧ v4 = .int .i64 x4_1 ∧ Aside0 (pannierlaw08_makers.l0 kq l0 x3_1 x4_1 = some r) ∧ Aside0 (kq ≤ k) ∧ Drawn0 w w')
 case atStart => exact ⟨(0), (0), (by first | rfl | (simp; done) | (simp [*]; done)), (by first | rfl | (simp; done) | (simp [*]; done)), H', ⟨Nat.le_refl _⟩, by repeat (first | exact Drawn0.refl _ | apply Drawn0.step)⟩
 case round =>
  clear H'
  obtain ⟨x3_1, x4_1, rfl, rfl, HA, HK1, ⟨m1, rfl⟩⟩ := hrel
  cases gk with
  | zero => exact absurd HA.out (by simp [pannierlaw08_makers.l0])
  | succ k1 =>
   have H := HA.out
   clear HA
   simp only [pannierlaw08_makers.l0] at H
   by_cases c2 : x4_1 < (l0.length : Int)
   · rw [if_pos c2] at H
     have c2b0 : decide (x4_1 < (l0.length : Int)) = true := decide_eq_true c2
     clear c2
     have H' := Aside0.mk H
     clear H
     go_wp2
     repeat (go_quiet (fail); try go_wp2)
     go_loopg [5, 6] k1 (fun kq v5 v6 w' => ∃ (x5_2 : Bool) (x6_2 : Int), v5 = .bool x5_2 ∧ v6 = .int .i64 x6_2 ∧ Aside0 (pannierlaw08_makers.l1 kq l0 x3_1 x4_1 x5_2 x6_2 = some r) ∧ Aside0 (kq ≤ k1) ∧ Drawn0 w w')
     case atStart => exact ⟨(false), (0), (by first | rfl | (simp; done) | (simp [*]; done)), (by first | rfl | (simp; done) | (simp [*]; done)), H', ⟨Nat.le_refl _⟩, by repeat (first | exact Drawn0.refl _ | apply Drawn0.step)⟩
     case round =>
      clear H'
      try clear c2
      try clear c2b0
      try clear p2
      obtain ⟨x5_2, x6_2, rfl, rfl, HA, HK2, ⟨m2, rfl⟩⟩ := hrel
      cases gk with
      | zero => exact absurd HA.out (by simp [pannierlaw08_makers.l1])
      | succ k2 =>
       have H := HA.out
       clear HA
       simp only [pannierlaw08_makers.l1] at H
       by_cases c3 : x6_2 < x4_1
       rw [if_pos c3] at H
       have c3b0 : decide (x6_2 < x4_1) = true := decide_eq_true c3
       clear c3
       by_cases c4 : x5_2 = true
       subst c4
       have H1 : (pannierlaw08_makers.l0 k2 l0 x3_1 (wrap64 (x4_1 + 1))) = some r := by rw [if_pos rfl] at H; exact H
       clear H
       have H := H1
       clear H1
       rotate_left
       · replace c4 := Bool.eq_false_iff.mpr c4
         subst c4
         have H1 : (if 0 ≤ x6_2 then (if x6_2 < (l0.length : Int) then (if 0 ≤ x4_1 then (if x4_1 < (l0.length : Int) then (pannierlaw08_makers.l1 k2 l0 x3_1 x4_1 (((rd_T36 l0 x6_2).f0.f0).toList == ((rd_T36 l0 x4_1).f0.f0).toList) (wrap64 (x6_2 + 1))) else (none)) else (none)) else (none)) else (none)) = some r := by rw [if_neg (show ¬ (false = true) by decide)] at H; exact H
         clear H
         have H := H1
         clear H1
         by_cases c5 : 0 ≤ x6_2
         · rw [if_pos c5] at H
           have c5b0 : decide (0 ≤ x6_2) = true := decide_eq_true c5
           clear c5
           by_cases c6 : x6_2 < (l0.length : Int)
           · rw [if_pos c6] at H
             have c6b0 : decide (x6_2 < (l0.length : Int)) = true := decide_eq_true c6
             clear c6
             by_cases c7 : 0 ≤ x4_1
             · rw [if_pos c7] at H
               have c7b0 : decide (0 ≤ x4_1) = true := decide_eq_true c7
               clear c7
               by_cases c8 : x4_1 < (l0.length : Int)
               · rw [if_pos c8] at H
                 have c8b0 : decide (x4_1 < (l0.length : Int)) = true := decide_eq_true c8
                 clear c8
                 have H' := Aside0.mk H
                 clear H
                 have p247 : 0 ≤ (x6_2 : Int) := of_decide_eq_true (by first | (with_reducible assumption) | assumption)
                 have q247 : x6_2 < (l0.length : Int) := of_decide_eq_true (by first | (with_reducible assumption) | assumption)
                 obtain ⟨ad247, A247_2, c247_2, A247_7, c247_7, e247, hx247_0, hx247_1, hx247_2, hx247_3, hx247_4, hx247_5, hx247_6, hx247_7, hl247_2, hi247_2, hl247_7, hi247_7⟩ := at_T36 HR0.out x6_2 p247 q247
                 cases e247
                 have HR247_2 := Aside0.mk hi247_2
                 have HC247_2 := Aside0.mk hl247_2
                 clear hi247_2 hl247_2
                 have HR247_7 := Aside0.mk hi247_7
                 have HC247_7 := Aside0.mk hl247_7
                 clear hi247_7 hl247_7
                 replace p247 := eq_true p247
                 replace q247 := eq_true q247
                 have p248 : 0 ≤ (x4_1 : Int) := of_decide_eq_true (by first | (with_reducible assumption) | assumption)
                 have q248 : x4_1 < (l0.length : Int) := of_decide_eq_true (by first | (with_reducible assumption) | assumption)
                 obtain ⟨ad248, A248_2, c248_2, A248_7, c248_7, e248, hx248_0, hx248_1, hx248_2, hx248_3, hx248_4, hx248_5, hx248_6, hx248_7, hl248_2, hi248_2, hl248_7, hi248_7⟩ := at_T36 HR0.out x4_1 p248 q248
                 obtain rfl : ad247 = ad248 := (by injection e248)
                 have HR248_2 := Aside0.mk hi248_2
                 have HC248_2 := Aside0.mk hl248_2
                 clear hi248_2 hl248_2
                 have HR248_7 := Aside0.mk hi248_7
                 have HC248_7 := Aside0.mk hl248_7
                 clear hi248_7 hl248_7
                 replace p248 := eq_true p248
                 replace q248 := eq_true q248
                 go_wp2
                 repeat (go_quiet (fail); try go_wp2)
                 go_roundg k2
                 case measure => have := HK1.out; have := HK2.out; omega
                 case rel => exact ⟨((((rd_T36 l0 x6_2).f0.f0).toList == ((rd_T36 l0 x4_1).f0.f0).toList)), (wrap64 (x6_2 + 1)), (by first | rfl | (simp; done) | (simp [*]; done)), (by first | rfl | (simp; done) | (simp [*]; done)), H', ⟨by have := HK1.out; have := HK2.out; omega⟩, by repeat (first | exact Drawn0.refl _ | apply Drawn0.step)⟩
               · rw [if_neg c8] at H
                 exact absurd H (by simp)
             · rw [if_neg c7] at H
               exact absurd H (by simp)
           · rw [if_neg c6] at H
             exact absurd H (by simp)
         · rw [if_neg c5] at H
           exact absurd H (by simp)
       rw [if_neg c3] at H
       have c3b0 : decide (x6_2 < x4_1) = false := decide_eq_false c3
       clear c3
       by_cases c9 : x5_2 = true
       subst c9
       have H1 : (pannierlaw08_makers.l0 k2 l0 x3_1 (wrap64 (x4_1 + 1))) = some r := by rw [if_pos rfl] at H; exact H
       clear H
       have H := H1
       clear H1
       rotate_left
       replace c9 := Bool.eq_false_iff.mpr c9
       subst c9
       have H1 : (pannierlaw08_makers.l0 k2 l0 (wrap64 (x3_1 + 1)) (wrap64 (x4_1 + 1))) = some r := by rw [if_neg (show ¬ (false = true) by decide)] at H; exact H
       clear H
       have H := H1
       clear H1
       rotate_left
       all_goals (
        have H' := Aside0.mk H
        clear H
        go_wp2
        repeat (go_quiet (fail); try go_wp2)
        go_roundg k2
        case measure => have := HK1.out; have := HK2.out; omega
        case rel => exact ⟨_, _, (by first | rfl | (simp; done) | (simp [*]; done)), (by first | rfl | (simp; done) | (simp [*]; done)), H', ⟨by have := HK1.out; have := HK2.out; omega⟩, by repeat (first | exact Drawn0.refl _ | apply Drawn0.step)⟩
        )
   · rw [if_neg c2] at H
     have c2b0 : decide (x4_1 < (l0.length : Int)) = false := decide_eq_false c2
     clear c2
     obtain rfl := Option.some.inj H
     go_wp2
     repeat (go_quiet (fail); try go_wp2)
     go_ret
     exact ⟨by first | rfl | (simp; done) | (simp [*]; done), by repeat (first | exact Drawn0.refl _ | apply Drawn0.step)⟩
end Go.Proofs.Ytenbkljgmgdegaa.PO
