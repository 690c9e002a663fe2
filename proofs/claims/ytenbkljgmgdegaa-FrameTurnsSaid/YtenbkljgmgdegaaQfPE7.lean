/- What the rows of this claim use, out of the texts of this work (PE7). No condition beyond those that each statement names. -/
import Derived.Test.YtenbkljgmgdegaaQfPD16
import Derived.Test.YtenbkljgmgdegaaQfOV
import Derived.Test.YtenbkljgmgdegaaQfPOx0
import Derived.Test.YtenbkljgmgdegaaQfPOx2
import Derived.Test.YtenbkljgmgdegaaQfPD10
import Derived.Test.YtenbkljgmgdegaaQfPD9
namespace Go.Proofs.Ytenbkljgmgdegaa.PO
open Go.RowKit Go.Proofs.YtenbkljgmgdegaaW.PrintWords Go.Proofs.YtenbkljgmgdegaaW.PrintLast Go.Proofs.YtenbkljgmgdegaaW.PrintMore
attribute [local go_sem] max2_int min2_int max_two min_two max_three min_three max_four min_four   -- for this text's walks alone
set_option linter.unusedVariables false
set_option linter.unusedSimpArgs false
def slices_Equal_byte_byte.l0 : Nat → List Int → List Int → Int → Int → Option (Bool)
 | 0, _, _, _, _ => none
 | k + 1, x0, x1, x12, x13 => if x13 < x12 then (if 0 ≤ x13 then (if x13 < (x0.length : Int) then (if x13 < (x1.length : Int) then (if (rd x0 x13) = (rd x1 x13) then (slices_Equal_byte_byte.l0 k x0 x1 x12 (wrap64 (x13 + 1))) else (some false)) else (none)) else (none)) else (none)) else (some true)
def slices_Equal_byte_byte.f (k : Nat) (l0 : List Int) (l1 : List Int) : Option (Bool) := if (l0.length : Int) = (l1.length : Int) then (slices_Equal_byte_byte.l0 k l0 l1 (l0.length : Int) 0) else (some false)
theorem slices_Equal_byte_byte.mono_l : ∀ k, (∀ y0 y1 y2 y3, LeO (slices_Equal_byte_byte.l0 k y0 y1 y2 y3) (slices_Equal_byte_byte.l0 (k + 1) y0 y1 y2 y3))
 | 0 => fun _ _ _ _ r h => by simp [slices_Equal_byte_byte.l0] at h
 | k + 1 => by
   have ih0 := slices_Equal_byte_byte.mono_l k
   · intro y0 y1 y2 y3
     unfold slices_Equal_byte_byte.l0
     repeat' first
     | (with_reducible exact ih0 _ _ _ _)
     | (with_reducible exact LeO.refl _)
     | (with_reducible exact LeO.none _)
     | (with_reducible refine LeO.ite ?_ ?_)
     | (with_reducible refine LeO.bind ?_ (fun _ => ?_))
     | exact ih0 _ _ _ _
     | exact LeO.none _
     | refine LeO.ite ?_ ?_
     | refine LeO.bind ?_ (fun _ => ?_)
theorem slices_Equal_byte_byte.mono : ∀ a0 a1 k, LeO (slices_Equal_byte_byte.f k a0 a1) (slices_Equal_byte_byte.f (k + 1) a0 a1) := by
 intro a0 a1 k
 have ih0 := slices_Equal_byte_byte.mono_l k
 unfold slices_Equal_byte_byte.f
 repeat' first
  | (with_reducible exact ih0 _ _ _ _)
  | (with_reducible exact LeO.refl _)
  | (with_reducible exact LeO.none _)
  | (with_reducible refine LeO.ite ?_ ?_)
  | (with_reducible refine LeO.bind ?_ (fun _ => ?_))
  | exact ih0 _ _ _ _
  | exact LeO.none _
  | refine LeO.ite ?_ ?_
  | refine LeO.bind ?_ (fun _ => ?_)
set_option maxHeartbeats 8000000 in
set_option maxRecDepth 100000 in
theorem slices_Equal_byte_byte.calls (k : Nat) (A0 : Option Addr) (c0 : Nat) (l0 : List Int) (A1 : Option Addr) (c1 : Nat) (l1 : List Int) (r : Bool) (w : World) (hr0 : Kd.C (Kd.int .u8) w A0 l0.length l0) (hc0 : l0.length ≤ c0) (hr1 : Kd.C (Kd.int .u8) w A1 l1.length l1) (hc1 : l1.length ≤ c1) (h : slices_Equal_byte_byte.f k l0 l1 = some r) :
 Calls Try.prog 112 #[.slice A0 l0.length c0, .slice A1 l1.length c1] w fun e w' => e = .returned (.bool r) ∧ Drawn0 w w' := by
 have HR0 := Aside0.mk hr0
 have HC0 := Aside0.mk hc0
 clear hr0 hc0
 have HR1 := Aside0.mk hr1
 have HC1 := Aside0.mk hc1
 clear hr1 hc1
 have H : (if (l0.length : Int) = (l1.length : Int) then (slices_Equal_byte_byte.l0 k l0 l1 (l0.length : Int) 0) else (some false)) = some r := h
 clear h
 by_cases c3 : (l0.length : Int) = (l1.length : Int)
 · rw [if_pos c3] at H
   have c3b0 : ((l0.length : Int) == (l1.length : Int)) = true := beq_iff_eq.mpr c3
   have c3b1 : ((l0.length : Int) != (l1.length : Int)) = false := bne_eq_false_iff_eq.mpr c3
   have c3b2 : (l0.length == l1.length) = true := by first | simpa using c3 | (simp at c3 ⊢; omega)
   clear c3
   have H' := Aside0.mk H
   clear H
   go_enter Try.func112, Try.ntmps112
   go_wp2
   repeat (go_quiet (fail); try go_wp2)
   go_loopg [13] k (fun kq v13 w' => ∃ (x13_1 : Int), v13 = .int .i64 x13_1 ∧ Aside0 (slices_Equal_byte_byte.l0 kq l0 l1 (l0.length : Int) x13_1 = some r) ∧ Aside0 (kq ≤ k) ∧ Drawn0 w w')
   case atStart => exact ⟨(0), (by first | rfl | (simp; done) | (simp [*]; done)), H', ⟨Nat.le_refl _⟩, by repeat (first | exact Drawn0.refl _ | apply Drawn0.step)⟩
   case round =>
    clear H'
    try clear c1
    try clear p2
    try clear c3
    try clear c3b0
    try clear c3b1
    try clear c3b2
    obtain ⟨x13_1, rfl, HA, HK1, ⟨m1, rfl⟩⟩ := hrel
    cases gk with
    | zero => exact absurd HA.out (by simp [slices_Equal_byte_byte.l0])
    | succ k1 =>
     have H := HA.out
     clear HA
     simp only [slices_Equal_byte_byte.l0] at H
     by_cases c4 : x13_1 < (l0.length : Int)
     · rw [if_pos c4] at H
       have c4b0 : decide (x13_1 < (l0.length : Int)) = true := decide_eq_true c4
       clear c4
       by_cases c5 : 0 ≤ x13_1
       · rw [if_pos c5] at H
         have c5b0 : decide (0 ≤ x13_1) = true := decide_eq_true c5
         clear c5
         by_cases c6 : x13_1 < (l0.length : Int)
         · rw [if_pos c6] at H
           have c6b0 : decide (x13_1 < (l0.length : Int)) = true := decide_eq_true c6
           clear c6
           by_cases c7 : x13_1 < (l1.length : Int)
           · rw [if_pos c7] at H
             have c7b0 : decide (x13_1 < (l1.length : Int)) = true := decide_eq_true c7
             clear c7
             by_cases c8 : (rd l0 x13_1) = (rd l1 x13_1)
             · rw [if_pos c8] at H
               have c8b0 : ((rd l0 x13_1) == (rd l1 x13_1)) = true := beq_iff_eq.mpr c8
               have c8b1 : ((rd l0 x13_1) != (rd l1 x13_1)) = false := bne_eq_false_iff_eq.mpr c8
               clear c8
               have H' := Aside0.mk H
               clear H
               have p182 : 0 ≤ (x13_1 : Int) := of_decide_eq_true (by first | (with_reducible assumption) | assumption)
               have q182 : x13_1 < (l0.length : Int) := of_decide_eq_true (by first | (with_reducible assumption) | assumption)
               obtain ⟨ad182, e182, hx182_0⟩ := Kd.at_int HR0.out x13_1 p182 q182
               cases e182
               replace p182 := eq_true p182
               replace q182 := eq_true q182
               have p183 : 0 ≤ (x13_1 : Int) := of_decide_eq_true (by first | (with_reducible assumption) | assumption)
               have q183 : x13_1 < (l1.length : Int) := of_decide_eq_true (by first | (with_reducible assumption) | assumption)
               obtain ⟨ad183, e183, hx183_0⟩ := Kd.at_int HR1.out x13_1 p183 q183
               cases e183
               replace p183 := eq_true p183
               replace q183 := eq_true q183
               go_wp2
               repeat (go_quiet (fail); try go_wp2)
               go_roundg k1
               case measure => have := HK1.out; omega
               case rel => exact ⟨(wrap64 (x13_1 + 1)), (by first | rfl | (simp; done) | (simp [*]; done)), H', ⟨by have := HK1.out; omega⟩, by repeat (first | exact Drawn0.refl _ | apply Drawn0.step)⟩
             · rw [if_neg c8] at H
               have c8b0 : ((rd l0 x13_1) == (rd l1 x13_1)) = false := beq_eq_false_iff_ne.mpr c8
               have c8b1 : ((rd l0 x13_1) != (rd l1 x13_1)) = true := bne_iff_ne.mpr c8
               obtain rfl := Option.some.inj H
               have p182 : 0 ≤ (x13_1 : Int) := of_decide_eq_true (by first | (with_reducible assumption) | assumption)
               have q182 : x13_1 < (l0.length : Int) := of_decide_eq_true (by first | (with_reducible assumption) | assumption)
               obtain ⟨ad182, e182, hx182_0⟩ := Kd.at_int HR0.out x13_1 p182 q182
               cases e182
               replace p182 := eq_true p182
               replace q182 := eq_true q182
               have p183 : 0 ≤ (x13_1 : Int) := of_decide_eq_true (by first | (with_reducible assumption) | assumption)
               have q183 : x13_1 < (l1.length : Int) := of_decide_eq_true (by first | (with_reducible assumption) | assumption)
               obtain ⟨ad183, e183, hx183_0⟩ := Kd.at_int HR1.out x13_1 p183 q183
               cases e183
               replace p183 := eq_true p183
               replace q183 := eq_true q183
               go_wp2
               repeat (go_quiet (fail); try go_wp2)
               go_ret
               exact ⟨by first | rfl | (simp; done) | (simp [*]; done), by repeat (first | exact Drawn0.refl _ | apply Drawn0.step)⟩
           · rw [if_neg c7] at H
             exact absurd H (by simp)
         · rw [if_neg c6] at H
           exact absurd H (by simp)
       · rw [if_neg c5] at H
         exact absurd H (by simp)
     · rw [if_neg c4] at H
       have c4b0 : decide (x13_1 < (l0.length : Int)) = false := decide_eq_false c4
       clear c4
       obtain rfl := Option.some.inj H
       go_wp2
       repeat (go_quiet (fail); try go_wp2)
       go_ret
       exact ⟨by first | rfl | (simp; done) | (simp [*]; done), by repeat (first | exact Drawn0.refl _ | apply Drawn0.step)⟩
 · rw [if_neg c3] at H
   have c3b0 : ((l0.length : Int) == (l1.length : Int)) = false := beq_eq_false_iff_ne.mpr c3
   have c3b1 : ((l0.length : Int) != (l1.length : Int)) = true := bne_iff_ne.mpr c3
   have c3b2 : (l0.length == l1.length) = false := by first | simpa using c3 | (simp at c3 ⊢; omega)
   obtain rfl := Option.some.inj H
   go_enter Try.func112, Try.ntmps112
   go_wp2
   repeat (go_quiet (fail); try go_wp2)
   go_ret
   exact ⟨by first | rfl | (simp; done) | (simp [*]; done), by repeat (first | exact Drawn0.refl _ | apply Drawn0.step)⟩
mutual
def wire_add.l0 : Nat → Int → List (List Int) → Int → Int → Option (Int)
 | 0, _, _, _, _ => none
 | k + 1, x0, x10, x11, x12 => if x12 < x11 then (if 0 ≤ x12 then (if x12 < (x10.length : Int) then (wire_add.l1 k x0 x10 x11 x12 (rd_L7 x10 x12) ((rd_L7 x10 x12).length : Int) 0) else (none)) else (none)) else (some x0)
def wire_add.l1 : Nat → Int → List (List Int) → Int → Int → List Int → Int → Int → Option (Int)
 | 0, _, _, _, _, _, _, _ => none
 | k + 1, x0, x10, x11, x12, x16, x17, x18 => if x18 < x17 then (if 0 ≤ x18 then (if x18 < (x16.length : Int) then (wire_add.l2 k (Go.bits .xor .u32 x0 ((rd x16 x18) % 4294967296)) 8 x10 x11 x12 x16 x17 x18) else (none)) else (none)) else (wire_add.l0 k x0 x10 x11 (wrap64 (x12 + 1)))
def wire_add.l2 : Nat → Int → Int → List (List Int) → Int → Int → List Int → Int → Int → Option (Int)
 | 0, _, _, _, _, _, _, _, _ => none
 | k + 1, x0, x9, x10, x11, x12, x16, x17, x18 => if x9 > 0 then (if (Go.bits .and .u32 x0 1) = 0 then (wire_add.l2 k (x0 / 2) (wrap64 (x9 - 1)) x10 x11 x12 x16 x17 x18) else (wire_add.l2 k (Go.bits .xor .u32 (x0 / 2) 3988292384) (wrap64 (x9 - 1)) x10 x11 x12 x16 x17 x18)) else (wire_add.l1 k x0 x10 x11 x12 x16 x17 (wrap64 (x18 + 1)))
end
def wire_add.f (k : Nat) (a0 : Int) (l1 : List (List Int)) : Option (Int) := wire_add.l0 k a0 l1 (l1.length : Int) 0
theorem wire_add.mono_l : ∀ k, (∀ y0 y1 y2 y3, LeO (wire_add.l0 k y0 y1 y2 y3) (wire_add.l0 (k + 1) y0 y1 y2 y3)) ∧ (∀ y0 y1 y2 y3 y4 y5 y6, LeO (wire_add.l1 k y0 y1 y2 y3 y4 y5 y6) (wire_add.l1 (k + 1) y0 y1 y2 y3 y4 y5 y6)) ∧ (∀ y0 y1 y2 y3 y4 y5 y6 y7, LeO (wire_add.l2 k y0 y1 y2 y3 y4 y5 y6 y7) (wire_add.l2 (k + 1) y0 y1 y2 y3 y4 y5 y6 y7))
 | 0 => ⟨fun _ _ _ _ r h => by simp [wire_add.l0] at h, fun _ _ _ _ _ _ _ r h => by simp [wire_add.l1] at h, fun _ _ _ _ _ _ _ _ r h => by simp [wire_add.l2] at h⟩
 | k + 1 => by
   obtain ⟨ih0, ih1, ih2⟩ := wire_add.mono_l k
   refine ⟨?_, ?_, ?_⟩
   · intro y0 y1 y2 y3
     unfold wire_add.l0
     repeat' first
     | (with_reducible exact ih0 _ _ _ _)
     | (with_reducible exact ih1 _ _ _ _ _ _ _)
     | (with_reducible exact ih2 _ _ _ _ _ _ _ _)
     | (with_reducible exact LeO.refl _)
     | (with_reducible exact LeO.none _)
     | (with_reducible refine LeO.ite ?_ ?_)
     | (with_reducible refine LeO.bind ?_ (fun _ => ?_))
     | exact ih0 _ _ _ _
     | exact ih1 _ _ _ _ _ _ _
     | exact ih2 _ _ _ _ _ _ _ _
     | exact LeO.none _
     | refine LeO.ite ?_ ?_
     | refine LeO.bind ?_ (fun _ => ?_)
   · intro y0 y1 y2 y3 y4 y5 y6
     unfold wire_add.l1
     repeat' first
     | (with_reducible exact ih0 _ _ _ _)
     | (with_reducible exact ih1 _ _ _ _ _ _ _)
     | (with_reducible exact ih2 _ _ _ _ _ _ _ _)
     | (with_reducible exact LeO.refl _)
     | (with_reducible exact LeO.none _)
     | (with_reducible refine LeO.ite ?_ ?_)
     | (with_reducible refine LeO.bind ?_ (fun _ => ?_))
     | exact ih0 _ _ _ _
     | exact ih1 _ _ _ _ _ _ _
     | exact ih2 _ _ _ _ _ _ _ _
     | exact LeO.none _
     | refine LeO.ite ?_ ?_
     | refine LeO.bind ?_ (fun _ => ?_)
   · intro y0 y1 y2 y3 y4 y5 y6 y7
     unfold wire_add.l2
     repeat' first
     | (with_reducible exact ih0 _ _ _ _)
     | (with_reducible exact ih1 _ _ _ _ _ _ _)
     | (with_reducible exact ih2 _ _ _ _ _ _ _ _)
     | (with_reducible exact LeO.refl _)
     | (with_reducible exact LeO.none _)
     | (with_reducible refine LeO.ite ?_ ?_)
     | (with_reducible refine LeO.bind ?_ (fun _ => ?_))
     | exact ih0 _ _ _ _
     | exact ih1 _ _ _ _ _ _ _
     | exact ih2 _ _ _ _ _ _ _ _
     | exact LeO.none _
     | refine LeO.ite ?_ ?_
     | refine LeO.bind ?_ (fun _ => ?_)
theorem wire_add.mono : ∀ a0 a1 k, LeO (wire_add.f k a0 a1) (wire_add.f (k + 1) a0 a1) := by
 intro a0 a1 k
 obtain ⟨ih0, ih1, ih2⟩ := wire_add.mono_l k
 unfold wire_add.f
 repeat' first
  | (with_reducible exact ih0 _ _ _ _)
  | (with_reducible exact ih1 _ _ _ _ _ _ _)
  | (with_reducible exact ih2 _ _ _ _ _ _ _ _)
  | (with_reducible exact LeO.refl _)
  | (with_reducible exact LeO.none _)
  | (with_reducible refine LeO.ite ?_ ?_)
  | (with_reducible refine LeO.bind ?_ (fun _ => ?_))
  | exact ih0 _ _ _ _
  | exact ih1 _ _ _ _ _ _ _
  | exact ih2 _ _ _ _ _ _ _ _
  | exact LeO.none _
  | refine LeO.ite ?_ ?_
  | refine LeO.bind ?_ (fun _ => ?_)
set_option maxHeartbeats 8000000 in
set_option maxRecDepth 100000 in
theorem wire_add.calls (k : Nat) (a0 : Int) (A1 : Option Addr) (c1 : Nat) (l1 : List (List Int)) (r : Int) (w : World) (hr1 : Kd.C (Kd.slice 5 (Kd.int .u8)) w A1 l1.length l1) (hc1 : l1.length ≤ c1) (h : wire_add.f k a0 l1 = some r) :
 Calls Try.prog 132 #[.int .u32 a0, .slice A1 l1.length c1] w fun e w' => e = .returned (.int .u32 r) ∧ Drawn0 w w' := by
 have HR1 := Aside0.mk hr1
 have HC1 := Aside0.mk hc1
 clear hr1 hc1
 have H : (wire_add.l0 k a0 l1 (l1.length : Int) 0) = some r := h
 clear h
 have H' := Aside0.mk H
 clear H
 go_enter Try.func132, Try.ntmps132
 go_wp2
 repeat (go_step3; go_wp2)
 repeat (rw [Exit.noGoto_normal]; go_wp2)
 go_loopg [0, 12] k (fun kq v0 v12 w' => ∃ (x0_1 : Int) (x12_1 : Int), v0 = .int .u32 x0_1 ∧ v12 = .int .i64 x12_1 ∧ Aside0 (wire_add.l0 kq x0_1 l1 (l1.length : Int) x12_1 = some r) ∧ Aside0 (kq ≤ k) ∧ Drawn0 w w')
 case atStart => exact ⟨(a0), (0), (by first | rfl | (simp; done) | (simp [*]; done)), (by first | rfl | (simp; done) | (simp [*]; done)), H', ⟨Nat.le_refl _⟩, by repeat (first | exact Drawn0.refl _ | apply Drawn0.step)⟩
 case round =>
  clear H'
  try clear c1
  try clear p2
  obtain ⟨x0_1, x12_1, rfl, rfl, HA, HK1, ⟨m1, rfl⟩⟩ := hrel
  cases gk with
  | zero => exact absurd HA.out (by simp [wire_add.l0])
  | succ k1 =>
   have H := HA.out
   clear HA
   simp only [wire_add.l0] at H
   by_cases c3 : x12_1 < (l1.length : Int)
   · rw [if_pos c3] at H
     have c3b0 : decide (x12_1 < (l1.length : Int)) = true := decide_eq_true c3
     clear c3
     by_cases c4 : 0 ≤ x12_1
     · rw [if_pos c4] at H
       have c4b0 : decide (0 ≤ x12_1) = true := decide_eq_true c4
       clear c4
       by_cases c5 : x12_1 < (l1.length : Int)
       · rw [if_pos c5] at H
         have c5b0 : decide (x12_1 < (l1.length : Int)) = true := decide_eq_true c5
         clear c5
         have H' := Aside0.mk H
         clear H
         have p184 : 0 ≤ (x12_1 : Int) := of_decide_eq_true (by first | (with_reducible assumption) | assumption)
         have q184 : x12_1 < (l1.length : Int) := of_decide_eq_true (by first | (with_reducible assumption) | assumption)
         obtain ⟨ad184, A184_0, c184_0, e184, hx184_0, hl184_0, hi184_0⟩ := at_L7 HR1.out x12_1 p184 q184
         cases e184
         have HR184_0 := Aside0.mk hi184_0
         have HC184_0 := Aside0.mk hl184_0
         clear hi184_0 hl184_0
         replace p184 := eq_true p184
         replace q184 := eq_true q184
         go_wp2
         repeat (go_step3; go_wp2)
         repeat (rw [Exit.noGoto_normal]; go_wp2)
         go_loopg [0, 18] k1 (fun kq v0 v18 w' => ∃ (x0_2 : Int) (x18_2 : Int), v0 = .int .u32 x0_2 ∧ v18 = .int .i64 x18_2 ∧ Aside0 (wire_add.l1 kq x0_2 l1 (l1.length : Int) x12_1 (rd_L7 l1 x12_1) ((rd_L7 l1 x12_1).length : Int) x18_2 = some r) ∧ Aside0 (kq ≤ k1) ∧ Drawn0 w w')
         case atStart => exact ⟨(x0_1), (0), (by first | rfl | (simp; done) | (simp [*]; done)), (by first | rfl | (simp; done) | (simp [*]; done)), H', ⟨Nat.le_refl _⟩, by repeat (first | exact Drawn0.refl _ | apply Drawn0.step)⟩
         case round =>
          clear H'
          try clear c1
          try clear p1
          try clear q1
          try clear hx1
          try clear p2
          try clear c3
          try clear c3b0
          try clear c4
          try clear c4b0
          try clear c5
          try clear c5b0
          try clear hx184_0
          try clear p184
          try clear p2
          try clear q184
          obtain ⟨x0_2, x18_2, rfl, rfl, HA, HK2, ⟨m2, rfl⟩⟩ := hrel
          cases gk with
          | zero => exact absurd HA.out (by simp [wire_add.l1])
          | succ k2 =>
           have H := HA.out
           clear HA
           simp only [wire_add.l1] at H
           by_cases c6 : x18_2 < ((rd_L7 l1 x12_1).length : Int)
           · rw [if_pos c6] at H
             have c6b0 : decide (x18_2 < ((rd_L7 l1 x12_1).length : Int)) = true := decide_eq_true c6
             clear c6
             by_cases c7 : 0 ≤ x18_2
             · rw [if_pos c7] at H
               have c7b0 : decide (0 ≤ x18_2) = true := decide_eq_true c7
               clear c7
               by_cases c8 : x18_2 < ((rd_L7 l1 x12_1).length : Int)
               · rw [if_pos c8] at H
                 have c8b0 : decide (x18_2 < ((rd_L7 l1 x12_1).length : Int)) = true := decide_eq_true c8
                 clear c8
                 have H' := Aside0.mk H
                 clear H
                 have p185 : 0 ≤ (x18_2 : Int) := of_decide_eq_true (by first | (with_reducible assumption) | assumption)
                 have q185 : x18_2 < ((rd_L7 l1 x12_1).length : Int) := of_decide_eq_true (by first | (with_reducible assumption) | assumption)
                 obtain ⟨ad185, e185, hx185_0⟩ := Kd.at_int HR184_0.out x18_2 p185 q185
                 cases e185
                 replace p185 := eq_true p185
                 replace q185 := eq_true q185
                 go_wp2
                 repeat (go_step3; go_wp2)
                 repeat (rw [Exit.noGoto_normal]; go_wp2)
                 go_loopg [0, 9] k2 (fun kq v0 v9 w' => ∃ (x0_3 : Int) (x9_3 : Int), v0 = .int .u32 x0_3 ∧ v9 = .int .i64 x9_3 ∧ Aside0 (wire_add.l2 kq x0_3 x9_3 l1 (l1.length : Int) x12_1 (rd_L7 l1 x12_1) ((rd_L7 l1 x12_1).length : Int) x18_2 = some r) ∧ Aside0 (kq ≤ k2) ∧ Drawn0 w w')
                 case atStart => exact ⟨(Go.bits .xor .u32 x0_2 ((rd (rd_L7 l1 x12_1) x18_2) % 4294967296)), (8), (by first | rfl | (simp; done) | (simp [*]; done)), (by first | rfl | (simp; done) | (simp [*]; done)), H', ⟨Nat.le_refl _⟩, by repeat (first | exact Drawn0.refl _ | apply Drawn0.step)⟩
                 case round =>
                  clear H'
                  try clear c1
                  try clear p1
                  try clear q1
                  try clear hx1
                  try clear p2
                  try clear c3
                  try clear c3b0
                  try clear c4
                  try clear c4b0
                  try clear c5
                  try clear c5b0
                  try clear c6
                  try clear c6b0
                  try clear c7
                  try clear c7b0
                  try clear c8
                  try clear c8b0
                  try clear hx184_0
                  try clear hx185_0
                  try clear p1
                  try clear p184
                  try clear p185
                  try clear p2
                  try clear q1
                  try clear q184
                  try clear q185
                  obtain ⟨x0_3, x9_3, rfl, rfl, HA, HK3, ⟨m3, rfl⟩⟩ := hrel
                  cases gk with
                  | zero => exact absurd HA.out (by simp [wire_add.l2])
                  | succ k3 =>
                   have H := HA.out
                   clear HA
                   simp only [wire_add.l2] at H
                   by_cases c9 : x9_3 > 0
                   rw [if_pos c9] at H
                   have c9b0 : decide (0 < x9_3) = true := decide_eq_true c9
                   clear c9
                   by_cases c10 : (Go.bits .and .u32 x0_3 1) = 0
                   rw [if_pos c10] at H
                   have c10b0 : ((Go.bits .and .u32 x0_3 1) == 0) = true := beq_iff_eq.mpr c10
                   have c10b1 : ((Go.bits .and .u32 x0_3 1) != 0) = false := bne_eq_false_iff_eq.mpr c10
                   clear c10
                   rotate_left
                   rw [if_neg c10] at H
                   have c10b0 : ((Go.bits .and .u32 x0_3 1) == 0) = false := beq_eq_false_iff_ne.mpr c10
                   have c10b1 : ((Go.bits .and .u32 x0_3 1) != 0) = true := bne_iff_ne.mpr c10
                   rotate_left
                   rw [if_neg c9] at H
                   have c9b0 : decide (0 < x9_3) = false := decide_eq_false c9
                   clear c9
                   rotate_left
                   all_goals (
                    have H' := Aside0.mk H
                    clear H
                    go_wp2
                    repeat (go_step3; go_wp2)
                    repeat (rw [Exit.noGoto_normal]; go_wp2)
                    go_roundg k3
                    case measure => have := HK1.out; have := HK2.out; have := HK3.out; omega
                    case rel => exact ⟨_, _, (by first | rfl | (simp; done) | (simp [*]; done)), (by first | rfl | (simp; done) | (simp [*]; done)), H', ⟨by have := HK1.out; have := HK2.out; have := HK3.out; omega⟩, by repeat (first | exact Drawn0.refl _ | apply Drawn0.step)⟩
                    )
               · rw [if_neg c8] at H
                 exact absurd H (by simp)
             · rw [if_neg c7] at H
               exact absurd H (by simp)
           · rw [if_neg c6] at H
             have c6b0 : decide (x18_2 < ((rd_L7 l1 x12_1).length : Int)) = false := decide_eq_false c6
             clear c6
             have H' := Aside0.mk H
             clear H
             go_wp2
             repeat (go_step3; go_wp2)
             repeat (rw [Exit.noGoto_normal]; go_wp2)
             go_roundg k2
             case measure => have := HK1.out; have := HK2.out; omega
             case rel => exact ⟨(x0_2), (wrap64 (x12_1 + 1)), (by first | rfl | (simp; done) | (simp [*]; done)), (by first | rfl | (simp; done) | (simp [*]; done)), H', ⟨by have := HK1.out; have := HK2.out; omega⟩, by repeat (first | exact Drawn0.refl _ | apply Drawn0.step)⟩
       · rw [if_neg c5] at H
         exact absurd H (by simp)
     · rw [if_neg c4] at H
       exact absurd H (by simp)
   · rw [if_neg c3] at H
     have c3b0 : decide (x12_1 < (l1.length : Int)) = false := decide_eq_false c3
     clear c3
     obtain rfl := Option.some.inj H
     go_wp2
     repeat (go_step3; go_wp2)
     repeat (rw [Exit.noGoto_normal]; go_wp2)
     (try rw [Exit.noGoto_ret])
     go_ret
     exact ⟨by first | rfl | (simp; done) | (simp [*]; done), by repeat (first | exact Drawn0.refl _ | apply Drawn0.step)⟩
def wire_seal.f (k : Nat) (l0 : List (List Int)) : Option (List Int) := (wire_add.f k 4294967295 l0).bind fun t186 => (some (([(Go.bits .xor .u32 4294967295 t186) % 256, ((Go.bits .xor .u32 4294967295 t186) / 256) % 256, ((Go.bits .xor .u32 4294967295 t186) / 65536) % 256, ((Go.bits .xor .u32 4294967295 t186) / 16777216) % 256] : List Int)))
theorem wire_seal.mono : ∀ a0 k, LeO (wire_seal.f k a0) (wire_seal.f (k + 1) a0) := by
 intro a0 k
 unfold wire_seal.f
 repeat' first
  | (with_reducible exact wire_add.mono _ _ _)
  | (with_reducible exact LeO.refl _)
  | (with_reducible exact LeO.none _)
  | (with_reducible refine LeO.ite ?_ ?_)
  | (with_reducible refine LeO.bind ?_ (fun _ => ?_))
  | exact wire_add.mono _ _ _
  | exact LeO.none _
  | refine LeO.ite ?_ ?_
  | refine LeO.bind ?_ (fun _ => ?_)
set_option maxHeartbeats 8000000 in
set_option maxRecDepth 100000 in
theorem wire_seal.calls (k : Nat) (A0 : Option Addr) (c0 : Nat) (l0 : List (List Int)) (r : List Int) (w : World) (hr0 : Kd.C (Kd.slice 5 (Kd.int .u8)) w A0 l0.length l0) (hc0 : l0.length ≤ c0) (h : wire_seal.f k l0 = some r) :
 Calls Try.prog 113 #[.slice A0 l0.length c0] w fun e w' => ∃ v0_ : Value, e = .returned (v0_) ∧ Kd.R (Kd.int .u8) 5 w' w.heap.size (fun _ => True) v0_ r ∧ Below w.heap.size w w' := by
 have HR0 := Aside0.mk hr0
 have HC0 := Aside0.mk hc0
 clear hr0 hc0
 have HB := Aside0.mk (Below.refl w.heap.size w)
 have H : ((wire_add.f k 4294967295 l0).bind fun t186 => (some (([(Go.bits .xor .u32 4294967295 t186) % 256, ((Go.bits .xor .u32 4294967295 t186) / 256) % 256, ((Go.bits .xor .u32 4294967295 t186) / 65536) % 256, ((Go.bits .xor .u32 4294967295 t186) / 16777216) % 256] : List Int)))) = some r := h
 clear h
 replace H := Option.bind_eq_some_iff.mp H
 obtain ⟨t186, A20, H⟩ := H
 replace H : (some (([(Go.bits .xor .u32 4294967295 t186) % 256, ((Go.bits .xor .u32 4294967295 t186) / 256) % 256, ((Go.bits .xor .u32 4294967295 t186) / 65536) % 256, ((Go.bits .xor .u32 4294967295 t186) / 16777216) % 256] : List Int))) = some r := H
 have A2 := Aside0.mk A20
 clear A20
 obtain ⟨y187, hy187⟩ : ∃ y_ : List Int, y_ = (([(Go.bits .xor .u32 4294967295 t186) % 256, ((Go.bits .xor .u32 4294967295 t186) / 256) % 256, ((Go.bits .xor .u32 4294967295 t186) / 65536) % 256, ((Go.bits .xor .u32 4294967295 t186) / 16777216) % 256] : List Int)) := ⟨_, rfl⟩
 replace H : (some y187) = some r := by first | (rw [hy187]; with_reducible exact H) | (have H2_ := (Option.bind_some _ _).symm.trans H; rw [hy187]; with_reducible exact H2_) | (have H2_ := (Option.bind_some _ _).symm.trans H; with_reducible exact H2_) | with_reducible exact H | (rw [hy187]; exact H) | exact H
 have Ny187 := Aside0.mk hy187
 clear hy187
 obtain rfl := Option.some.inj H
 go_enter Try.func113, Try.ntmps113
 go_wp2_with (first | ((with_reducible refine gate_callee (f := 132) rfl ?_); refine goesL_ (some 5) rfl rfl Try.func132 (by kernel_rfl) rfl #[.int .u32 4294967295, .slice A0 l0.length c0] rfl (by (try simp only [List.map_toArray, List.map_cons, List.map_nil]); first | done | rfl | (simp only [List.length_drop, List.length_take]; rfl)) ?_; (with_reducible refine (wire_add.calls k 4294967295 _ _ l0 t186 _ ?side1 ?side2 A2.out).mono ?_); (case side1 => repeat (first | exact HR0.out | (with_reducible refine Kd.C_alloc ?_ _) | (with_reducible refine Kd.C_drewN ?_ _) | (with_reducible refine Kd.C_drew ?_))); (case side2 => exact HC0.out); rintro e w' ⟨rfl, ⟨nd, rfl⟩⟩; refine ⟨_, rfl, ?_⟩) | ((with_reducible refine gate_dst (N := 18) rfl ?_); refine Kd.R_lit (Kd.int .u8) _ 5 ?hg (N := 18) ?hd (xs := ([(Go.bits .xor .u32 4294967295 t186) % 256, ((Go.bits .xor .u32 4294967295 t186) / 256) % 256, ((Go.bits .xor .u32 4294967295 t186) / 65536) % 256, ((Go.bits .xor .u32 4294967295 t186) / 16777216) % 256] : List Int)) (inner := [.int .u8 ((Go.bits .xor .u32 4294967295 t186) % 256), .int .u8 (((Go.bits .xor .u32 4294967295 t186) / 256) % 256), .int .u8 (((Go.bits .xor .u32 4294967295 t186) / 65536) % 256), .int .u8 (((Go.bits .xor .u32 4294967295 t186) / 16777216) % 256)]) (ok := fun _ => True) (okp := fun _ => True) ?hr ?hp (fun _ hk => hk) trivial (Below.refl _ _) (Nat.le_refl _) (by simp) ?_; (case hd => rfl); (case hg => rfl); (case hr => first | (go_simp; done) | (go_simp; rfl)); (case hp => exact (Reps.one (show Kd.M (Kd.int .u8) _ _ _ ((Go.bits .xor .u32 4294967295 t186) % 256) [.int .u8 ((Go.bits .xor .u32 4294967295 t186) % 256)] from rfl) (Reps.one (show Kd.M (Kd.int .u8) _ _ _ (((Go.bits .xor .u32 4294967295 t186) / 256) % 256) [.int .u8 (((Go.bits .xor .u32 4294967295 t186) / 256) % 256)] from rfl) (Reps.one (show Kd.M (Kd.int .u8) _ _ _ (((Go.bits .xor .u32 4294967295 t186) / 65536) % 256) [.int .u8 (((Go.bits .xor .u32 4294967295 t186) / 65536) % 256)] from rfl) (Reps.one (show Kd.M (Kd.int .u8) _ _ _ (((Go.bits .xor .u32 4294967295 t186) / 16777216) % 256) [.int .u8 (((Go.bits .xor .u32 4294967295 t186) / 16777216) % 256)] from rfl) (Reps.none _ _)))))); intro v188 w3 ho4 hb hg_ hnew_; clear hg_ hnew_; (first | rw [← Ny187.out] at ho4 | (simp only [Int.reduceToNat] at ho4; rw [← Ny187.out] at ho4)); have n0_ := Aside0.mk (Kd.R_lower ho4 (below_size (by repeat (first | (with_reducible first | exact HB.out | apply below_alloc | apply pw_below_drewN | apply below_drew1) | exact HB.out)))); have n1_ := Aside0.mk (below_step (by repeat (first | (with_reducible first | exact HB.out | apply below_alloc | apply pw_below_drewN | apply below_drew1) | exact HB.out)) hb); clear HB; have HO189 := n0_; have HB := n1_; clear n0_ n1_; clear hb ho4))
 go_ret
 exact ⟨_, by first | rfl | (simp [errW_none, errW_some] <;> rfl) | (simp [*, errW_none, errW_some] <;> rfl), by (with_reducible repeat (first | apply Kd.R_alloc | apply Kd.R_drewN | apply Kd.R_drew)); exact HO189.out, by repeat (first | (with_reducible first | exact HB.out | apply below_alloc | apply pw_below_drewN | apply below_drew1) | exact HB.out)⟩
end Go.Proofs.Ytenbkljgmgdegaa.PO
