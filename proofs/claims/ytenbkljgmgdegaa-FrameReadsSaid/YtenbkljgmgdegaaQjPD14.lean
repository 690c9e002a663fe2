/- What the rows of this claim use, out of the texts of this work (PD14). No condition beyond those that each statement names. -/
import Derived.Test.YtenbkljgmgdegaaQjX
import Derived.Test.YtenbkljgmgdegaaQjPOx0
import Derived.Test.YtenbkljgmgdegaaQjOH
import Derived.Test.YtenbkljgmgdegaaQjPOx10
import Derived.Test.YtenbkljgmgdegaaQjPOx7
import Derived.Test.YtenbkljgmgdegaaQjOV
import Derived.Test.YtenbkljgmgdegaaQjPOx2
import Derived.Test.YtenbkljgmgdegaaQjPD10
namespace Go.Proofs.Ytenbkljgmgdegaa.PO
open Go.Proofs.Ytenbkljgmgdegaa
open Go.RowKit Go.Proofs.YtenbkljgmgdegaaW.PrintWords Go.Proofs.YtenbkljgmgdegaaW.PrintLast Go.Proofs.YtenbkljgmgdegaaW.PrintMore
attribute [local go_sem] max2_int min2_int max_two min_two max_three min_three max_four min_four   -- for this text's walks alone
set_option linter.unusedVariables false
set_option linter.unusedSimpArgs false
def pannierref02_follow.l0 : Nat → Int → Int → Option (Int)
 | 0, _, _ => none
 | k + 1, x0, x3 => if x3 < 8 then (if 0 ≤ (wrap64 (7 + (wrap64 (7 * x3)))) then (if (shr .u64 x0 (wrap64 (7 + (wrap64 (7 * x3))))) > 0 then (pannierref02_follow.l0 k x0 (wrap64 (x3 + 1))) else (some x3)) else (none)) else (some x3)
def pannierref02_follow.f (k : Nat) (a0 : Int) : Option (Int) := pannierref02_follow.l0 k a0 0
set_option maxHeartbeats 8000000 in
set_option maxRecDepth 100000 in
theorem pannierref02_follow.calls (k : Nat) (a0 : Int) (r : Int) (w : World) (h : pannierref02_follow.f k a0 = some r) :
 Calls Try.prog 121 #[.int .u64 a0] w fun e w' => e = .returned (.int .i64 r) ∧ Drawn0 w w' := by
 have H : (pannierref02_follow.l0 k a0 0) = some r := h
 clear h
 have H' := Aside0.mk H
 clear H
 go_enter Try.func121, Try.ntmps121
 go_wp2
 go_loopg [3] k (fun kq v3 w' => ∃ (x3_1 : Int), v3 = .int .i64 x3_1 ∧ Aside0 (pannierref02_follow.l0 kq a0 x3_1 = some r) ∧ Aside0 (kq ≤ k) ∧ Drawn0 w w')
 case atStart => exact ⟨(0), (by first | rfl | (simp; done) | (simp [*]; done)), H', ⟨Nat.le_refl _⟩, by repeat (first | exact Drawn0.refl _ | apply Drawn0.step)⟩
 case round =>
  clear H'
  try clear c1
  obtain ⟨x3_1, rfl, HA, HK1, ⟨m1, rfl⟩⟩ := hrel
  cases gk with
  | zero => exact absurd HA.out (by simp [pannierref02_follow.l0])
  | succ k1 =>
   have H := HA.out
   clear HA
   simp only [pannierref02_follow.l0] at H
   by_cases c2 : x3_1 < 8
   · rw [if_pos c2] at H
     have c2b0 : decide (x3_1 < 8) = true := decide_eq_true c2
     clear c2
     obtain ⟨ji3, hji3⟩ : ∃ j_ : Int, (wrap64 (7 + (wrap64 (7 * x3_1)))) = j_ := ⟨_, rfl⟩
     replace H : (if 0 ≤ (ji3) then (if (shr .u64 a0 (ji3)) > 0 then (pannierref02_follow.l0 k1 a0 (wrap64 (x3_1 + 1))) else (some x3_1)) else (none)) = some r := by first | (rw [hji3] at H; exact H) | (simp only [hji3] at H ⊢; exact H)
     have hji3w : (IntKind.i64.wrap (7 + (wrap64 (7 * x3_1)))) = ji3 := (i64_w _).trans hji3
     by_cases c4 : 0 ≤ (ji3)
     · rw [if_pos c4] at H
       have c4b0 := eq_true c4
       have c4b1 : decide (0 ≤ (ji3)) = true := decide_eq_true c4
       clear c4
       obtain ⟨ji5, hji5⟩ : ∃ j_ : Int, (shr .u64 a0 (ji3)) = j_ := ⟨_, rfl⟩
       replace H : (if (ji5) > 0 then (pannierref02_follow.l0 k1 a0 (wrap64 (x3_1 + 1))) else (some x3_1)) = some r := by first | (rw [hji5] at H; exact H) | (simp only [hji5] at H ⊢; exact H)
       have hji5_ : (a0 / 2 ^ min (ji3).toNat 64) = ji5 := hji5
       have hji5z : (ji3) ≤ 64 → (a0 / 2 ^ (ji3).toNat) = ji5 := shr_small hji5
       by_cases c6 : (ji5) > 0
       · rw [if_pos c6] at H
         have c6b0 : decide (0 < (ji5)) = true := decide_eq_true c6
         clear c6
         have H' := Aside0.mk H
         clear H
         go_wp2
         go_roundg k1
         case measure => have := HK1.out; omega
         case rel => exact ⟨(wrap64 (x3_1 + 1)), (by first | rfl | (simp; done) | (simp [*]; done)), H', ⟨by have := HK1.out; omega⟩, by repeat (first | exact Drawn0.refl _ | apply Drawn0.step)⟩
       · rw [if_neg c6] at H
         have c6b0 : decide (0 < (ji5)) = false := decide_eq_false c6
         clear c6
         obtain rfl := Option.some.inj H
         go_wp2
         go_ret
         exact ⟨by first | rfl | (simp; done) | (simp only [← hji3, ← hji5] <;> (first | rfl | simp)) | (simp [*]; done), by repeat (first | exact Drawn0.refl _ | apply Drawn0.step)⟩
     · rw [if_neg c4] at H
       exact absurd H (by simp)
   · rw [if_neg c2] at H
     have c2b0 : decide (x3_1 < 8) = false := decide_eq_false c2
     clear c2
     obtain rfl := Option.some.inj H
     go_wp2
     go_ret
     exact ⟨by first | rfl | (simp; done) | (simp [*]; done), by repeat (first | exact Drawn0.refl _ | apply Drawn0.step)⟩
mutual
def pannierref02_Number.l0 : Nat → Int → List Int → Int → Int → Int → Option (List Int)
 | 0, _, _, _, _, _ => none
 | k + 1, x1, x5, x6, x7, x8 => if x8 < x6 then (if 0 ≤ x8 then (pannierref02_Number.l0 k x1 x5 x6 (Go.bits .or .u8 x7 (shr .u8 128 x8)) (wrap64 (x8 + 1))) else (none)) else (if x6 < 8 then (if 0 ≤ (wrap64 (8 * x6)) then (pannierref02_Number.j1 k x1 x5 x6 (Go.bits .or .u8 x7 ((shr .u64 x1 (wrap64 (8 * x6))) % 256))) else (none)) else (pannierref02_Number.j1 k x1 x5 x6 x7))
def pannierref02_Number.j1 : Nat → Int → List Int → Int → Int → Option (List Int)
 | 0, _, _, _, _ => none
 | k + 1, x1, x5, x6, x7 => if x5.length < 140737488355328 then (pannierref02_Number.l1 k x1 (x5 ++ [x7]) (wrap64 (x6 - 1))) else (none)
def pannierref02_Number.l1 : Nat → Int → List Int → Int → Option (List Int)
 | 0, _, _, _ => none
 | k + 1, x1, x5, x9 => if x9 ≥ 0 then (if 0 ≤ (wrap64 (8 * x9)) then (if x5.length < 140737488355328 then (pannierref02_Number.l1 k x1 (x5 ++ [(shr .u64 x1 (wrap64 (8 * x9))) % 256]) (wrap64 (x9 - 1))) else (none)) else (none)) else (some x5)
end
def pannierref02_Number.f (k : Nat) (l0 : List Int) (a1 : Int) : Option (List Int) := if 0 ≤ (wrap64 ((l0.length : Int) + 9)) then (if (wrap64 ((l0.length : Int) + 9) : Int).toNat ≤ 281474976710656 then ((some (([] : List Int) : List Int)).bind fun y246 => (if y246.length + l0.length < 140737488355328 then ((pannierref02_follow.f k a1).bind fun t252 => (pannierref02_Number.l0 k a1 (y246 ++ l0) t252 0 0)) else (none))) else (none)) else (none)
set_option maxHeartbeats 8000000 in
set_option maxRecDepth 100000 in
theorem pannierref02_Number.calls (k : Nat) (A0 : Option Addr) (c0 : Nat) (l0 : List Int) (a1 : Int) (r : List Int) (w : World) (hr0 : Kd.C (Kd.int .u8) w A0 l0.length l0) (hc0 : l0.length ≤ c0) (h : pannierref02_Number.f k l0 a1 = some r) :
 Calls Try.prog 84 #[.slice A0 l0.length c0, .int .u64 a1] w fun e w' => ∃ v0_ : Value, e = .returned (v0_) ∧ Kd.R (Kd.int .u8) 5 w' w.heap.size (fun _ => True) v0_ r ∧ Below w.heap.size w w' := by
 have HR0 := Aside0.mk hr0
 have HC0 := Aside0.mk hc0
 clear hr0 hc0
 have HB := Aside0.mk (Below.refl w.heap.size w)
 have H : (if 0 ≤ (wrap64 ((l0.length : Int) + 9)) then (if (wrap64 ((l0.length : Int) + 9) : Int).toNat ≤ 281474976710656 then ((some (([] : List Int) : List Int)).bind fun y246 => (if y246.length + l0.length < 140737488355328 then ((pannierref02_follow.f k a1).bind fun t252 => (pannierref02_Number.l0 k a1 (y246 ++ l0) t252 0 0)) else (none))) else (none)) else (none)) = some r := h
 clear h
 obtain ⟨ji3, hji3⟩ : ∃ j_ : Int, (wrap64 ((l0.length : Int) + 9)) = j_ := ⟨_, rfl⟩
 replace H : (if 0 ≤ (ji3) then (if (ji3 : Int).toNat ≤ 281474976710656 then ((some (([] : List Int) : List Int)).bind fun y246 => (if y246.length + l0.length < 140737488355328 then ((pannierref02_follow.f k a1).bind fun t252 => (pannierref02_Number.l0 k a1 (y246 ++ l0) t252 0 0)) else (none))) else (none)) else (none)) = some r := by first | (rw [hji3] at H; exact H) | (simp only [hji3] at H ⊢; exact H)
 have hji3w : (IntKind.i64.wrap ((l0.length : Int) + 9)) = ji3 := (i64_w _).trans hji3
 by_cases c4 : 0 ≤ (ji3)
 · rw [if_pos c4] at H
   have c4b0 := eq_true c4
   have c4b1 : decide (0 ≤ (ji3)) = true := decide_eq_true c4
   clear c4
   by_cases c5 : (ji3 : Int).toNat ≤ 281474976710656
   · rw [if_pos c5] at H
     have c5b0 := eq_true c5
     have c5b1 : decide ((ji3 : Int).toNat ≤ 281474976710656) = true := decide_eq_true c5
     clear c5
     obtain ⟨y246, hy246⟩ : ∃ y_ : List Int, y_ = (([] : List Int)) := ⟨_, rfl⟩
     replace H : (if y246.length + l0.length < 140737488355328 then ((pannierref02_follow.f k a1).bind fun t252 => (pannierref02_Number.l0 k a1 (y246 ++ l0) t252 0 0)) else (none)) = some r := by first | (rw [hy246]; with_reducible exact H) | (have H2_ := (Option.bind_some _ _).symm.trans H; rw [hy246]; with_reducible exact H2_) | (have H2_ := (Option.bind_some _ _).symm.trans H; with_reducible exact H2_) | with_reducible exact H | (rw [hy246]; exact H) | exact H
     have Ny246 := Aside0.mk hy246
     clear hy246
     by_cases c6 : y246.length + l0.length < 140737488355328
     · rw [if_pos c6] at H
       have LMc6 := Aside0.mk c6
       clear c6
       obtain ⟨y249, hy249⟩ : ∃ y_ : List Int, y_ = (y246 ++ l0) := ⟨_, rfl⟩
       replace H : ((pannierref02_follow.f k a1).bind fun t252 => (pannierref02_Number.l0 k a1 y249 t252 0 0)) = some r := by first | (rw [hy249]; with_reducible exact H) | (have H2_ := (Option.bind_some _ _).symm.trans H; rw [hy249]; with_reducible exact H2_) | (have H2_ := (Option.bind_some _ _).symm.trans H; with_reducible exact H2_) | with_reducible exact H | (rw [hy249]; exact H) | exact H
       have Ny249 := Aside0.mk hy249
       clear hy249
       replace H := Option.bind_eq_some_iff.mp H
       obtain ⟨t252, A70, H⟩ := H
       replace H : (pannierref02_Number.l0 k a1 y249 t252 0 0) = some r := H
       have A7 := Aside0.mk A70
       clear A70
       have H' := Aside0.mk H
       clear H
       go_enter Try.func84, Try.ntmps84
       go_wp2_with (first | ((with_reducible refine gate_dst (N := 13) rfl ?_); refine Kd.R_make0 (Kd.int .u8) _ 5 rfl (N := 13) rfl 63 _ _ rfl ji3 rfl rfl Try.underlying63 (.int .u8 0) 1 info5 rfl (by decide) (by omega) 0 (ok := fun _ => True) (okp := fun _ => True) rfl (fun _ hk => hk) trivial (of_decide_eq_true (by first | (with_reducible assumption) | assumption)) (Nat.le_trans (Nat.mul_le_mul_right _ (of_decide_eq_true (by first | (with_reducible assumption) | assumption) : ji3.toNat ≤ 281474976710656)) (by omega)) (Below.refl _ _) (Nat.le_refl _) ?_; intro v247 w8 ho9 hb hg_ hnew_; clear hg_ hnew_; (first | rw [← Ny246.out] at ho9 | (simp only [Int.reduceToNat] at ho9; rw [← Ny246.out] at ho9)); have n0_ := Aside0.mk (Kd.R_lower ho9 (below_size (by repeat (first | (with_reducible first | exact HB.out | apply below_alloc | apply pw_below_drewN | apply below_drew1) | exact HB.out)))); have n1_ := Aside0.mk (below_step (by repeat (first | (with_reducible first | exact HB.out | apply below_alloc | apply pw_below_drewN | apply below_drew1) | exact HB.out)) hb); clear HB; have HO248 := n0_; have HB := n1_; clear n0_ n1_; clear hb ho9) | ((with_reducible refine gate_builtin (b := .append) (xs := #[.tmp 13, .tmp 14]) rfl ?_); at_builtin; refine Kd.R_append_rows (Kd.int .u8) (w0 := w) w.heap.size rfl (.tmp 13) (.tmp 14) 63 5 (.int .u8 0) 1 rfl Try.underlying63 info5 rfl (by decide) (by omega) v247 y246 l0 _ _ _ (fun _ => True) (fun _ => False) rfl rfl ?aO ?aR (fun _ _ h => h) (fun _ h => h.elim) ?aF ?aB ?aS ?aL ?_; (case aR => repeat (first | exact (Kd.C_below HR0.out HB.out) | (with_reducible refine Kd.C_alloc ?_ _) | (with_reducible refine Kd.C_drewN ?_ _) | (with_reducible refine Kd.C_drew ?_))); (case aB => exact (by repeat (first | (with_reducible first | exact HB.out | apply below_alloc | apply pw_below_drewN | apply below_drew1) | exact HB.out))); (case aF => exact (fun _ _ => trivial)); (case aO => exact (by (with_reducible repeat (first | apply Kd.R_alloc | apply Kd.R_drewN | apply Kd.R_drew)); exact HO248.out)); (case aS => exact (below_size (by repeat (first | (with_reducible first | exact HB.out | apply below_alloc | apply pw_below_drewN | apply below_drew1) | exact HB.out)))); (case aL => have := LMc6.out; omega); intro v250 w10 ho hb hg hat; rw [← Ny249.out] at ho; have n0_ := Aside0.mk (hb); have n1_ := Aside0.mk (ho); clear HB; clear HO248; have HB := n0_; have HO251 := n1_; clear n0_ n1_; clear ho hb hg hat) | ((with_reducible refine gate_callee (f := 121) rfl ?_); refine goesL_ (some 17) rfl rfl Try.func121 (by kernel_rfl) rfl #[.int .u64 a1] rfl (by (try simp only [List.map_toArray, List.map_cons, List.map_nil]); first | done | rfl | (simp only [List.length_drop, List.length_take]; rfl)) ?_; (with_reducible refine (pannierref02_follow.calls k a1 t252 _ A7.out).mono ?_); rintro e w' ⟨rfl, ⟨nd, rfl⟩⟩; refine ⟨_, rfl, ?_⟩))
       go_loopg [7, 8] k (fun kq v7 v8 w' => ∃ (x7_1 : Int) (x8_1 : Int), v7 = .int .u8 x7_1 ∧ v8 = .int .i64 x8_1 ∧ Aside0 (pannierref02_Number.l0 kq a1 y249 t252 x7_1 x8_1 = some r) ∧ Aside0 (kq ≤ k) ∧ Aside0 (Kd.R (Kd.int .u8) 5 w' w.heap.size (fun _ => True) v250 y249) ∧ Aside0 (Below w.heap.size w w'))
       case atStart => exact ⟨(0), (0), (by first | rfl | (simp; done) | (simp [*]; done)), (by first | rfl | (simp; done) | (simp [*]; done)), H', ⟨Nat.le_refl _⟩, ⟨by (with_reducible repeat (first | apply Kd.R_alloc | apply Kd.R_drewN | apply Kd.R_drew)); exact HO251.out⟩, ⟨by repeat (first | (with_reducible first | exact HB.out | apply below_alloc | apply pw_below_drewN | apply below_drew1) | exact HB.out)⟩⟩
       case round =>
        clear H'
        try clear c1
        try clear p2
        try clear c4
        try clear c4b0
        try clear c4b1
        try clear c5
        try clear c5b0
        try clear c5b1
        try clear c6
        try clear p6
        try clear c8
        obtain ⟨x7_1, x8_1, rfl, rfl, HA, HK1, HO_5, HB⟩ := hrel
        cases gk with
        | zero => exact absurd HA.out (by simp [pannierref02_Number.l0])
        | succ k1 =>
         have H := HA.out
         clear HA
         simp only [pannierref02_Number.l0] at H
         by_cases c11 : x8_1 < t252
         · rw [if_pos c11] at H
           have c11b0 : decide (x8_1 < t252) = true := decide_eq_true c11
           clear c11
           by_cases c12 : 0 ≤ x8_1
           · rw [if_pos c12] at H
             have c12b0 := eq_true c12
             have c12b1 : decide (0 ≤ x8_1) = true := decide_eq_true c12
             clear c12
             obtain ⟨ji13, hji13⟩ : ∃ j_ : Int, (shr .u8 128 x8_1) = j_ := ⟨_, rfl⟩
             replace H : (pannierref02_Number.l0 k1 a1 y249 t252 (Go.bits .or .u8 x7_1 (ji13)) (wrap64 (x8_1 + 1))) = some r := by first | (rw [hji13] at H; exact H) | (simp only [hji13] at H ⊢; exact H)
             have hji13_ : (128 / 2 ^ min x8_1.toNat 8) = ji13 := hji13
             have hji13z : x8_1 ≤ 8 → (128 / 2 ^ x8_1.toNat) = ji13 := shr_small hji13
             have H' := Aside0.mk H
             clear H
             go_wp2
             go_roundg k1
             case measure => have := HK1.out; omega
             case rel => exact ⟨(Go.bits .or .u8 x7_1 (ji13)), (wrap64 (x8_1 + 1)), (by first | rfl | (simp; done) | (simp only [← hji13] <;> (first | rfl | simp)) | (simp [*]; done)), (by first | rfl | (simp; done) | (simp [*]; done)), H', ⟨by have := HK1.out; omega⟩, ⟨by (with_reducible repeat (first | apply Kd.R_alloc | apply Kd.R_drewN | apply Kd.R_drew)); exact HO_5.out⟩, ⟨by repeat (first | (with_reducible first | exact HB.out | apply below_alloc | apply pw_below_drewN | apply below_drew1) | exact HB.out)⟩⟩
           · rw [if_neg c12] at H
             exact absurd H (by simp)
         · rw [if_neg c11] at H
           have c11b0 : decide (x8_1 < t252) = false := decide_eq_false c11
           clear c11
           have HC14 := Aside0.mk H
           clear H
           go_upto_if 28 with (fail)
           go_cut [7] (fun v7 wc => ∃ (kq : Nat) (x7_13 : Int), v7 = .int .u8 x7_13 ∧ Aside0 (pannierref02_Number.j1 kq a1 y249 t252 x7_13 = some r) ∧ Aside0 (kq ≤ k1) ∧ Aside0 (Kd.R (Kd.int .u8) 5 wc w.heap.size (fun _ => True) v250 y249) ∧ Aside0 (Below w.heap.size w wc))
           case first =>
            have H := HC14.out
            clear HC14
            by_cases c15 : t252 < 8
            · rw [if_pos c15] at H
              have c15b0 : decide (t252 < 8) = true := decide_eq_true c15
              clear c15
              (first | rw [c15b0] | (simp only [i64_w, i32_w]; rw [c15b0]) | skip)
              obtain ⟨ji16, hji16⟩ : ∃ j_ : Int, (wrap64 (8 * t252)) = j_ := ⟨_, rfl⟩
              replace H : (if 0 ≤ (ji16) then (pannierref02_Number.j1 k1 a1 y249 t252 (Go.bits .or .u8 x7_1 ((shr .u64 a1 (ji16)) % 256))) else (none)) = some r := by first | (rw [hji16] at H; exact H) | (simp only [hji16] at H ⊢; exact H)
              have hji16w : (IntKind.i64.wrap (8 * t252)) = ji16 := (i64_w _).trans hji16
              by_cases c17 : 0 ≤ (ji16)
              · rw [if_pos c17] at H
                have c17b0 := eq_true c17
                have c17b1 : decide (0 ≤ (ji16)) = true := decide_eq_true c17
                clear c17
                obtain ⟨ji18, hji18⟩ : ∃ j_ : Int, (shr .u64 a1 (ji16)) = j_ := ⟨_, rfl⟩
                replace H : (pannierref02_Number.j1 k1 a1 y249 t252 (Go.bits .or .u8 x7_1 ((ji18) % 256))) = some r := by first | (rw [hji18] at H; exact H) | (simp only [hji18] at H ⊢; exact H)
                have hji18_ : (a1 / 2 ^ min (ji16).toNat 64) = ji18 := hji18
                have hji18z : (ji16) ≤ 64 → (a1 / 2 ^ (ji16).toNat) = ji18 := shr_small hji18
                have H' := Aside0.mk H
                clear H
                go_wp2
                go_meet
                case rel => exact ⟨_, (Go.bits .or .u8 x7_1 ((ji18) % 256)), (by first | rfl | (simp; done) | (simp only [← hji18] <;> (first | rfl | simp)) | (simp [*]; done)), H', ⟨by have := HK1.out; first | omega | exact Nat.le_refl _⟩, ⟨by (with_reducible repeat (first | apply Kd.R_alloc | apply Kd.R_drewN | apply Kd.R_drew)); exact HO_5.out⟩, ⟨by repeat (first | (with_reducible first | exact HB.out | apply below_alloc | apply pw_below_drewN | apply below_drew1) | exact HB.out)⟩⟩
              · rw [if_neg c17] at H
                exact absurd H (by simp)
            · rw [if_neg c15] at H
              have c15b0 : decide (t252 < 8) = false := decide_eq_false c15
              clear c15
              (first | rw [c15b0] | (simp only [i64_w, i32_w]; rw [c15b0]) | skip)
              have H' := Aside0.mk H
              clear H
              go_wp2
              go_meet
              case rel => exact ⟨_, (x7_1), (by first | rfl | (simp; done) | (simp [*]; done)), H', ⟨by have := HK1.out; first | omega | exact Nat.le_refl _⟩, ⟨by (with_reducible repeat (first | apply Kd.R_alloc | apply Kd.R_drewN | apply Kd.R_drew)); exact HO_5.out⟩, ⟨by repeat (first | (with_reducible first | exact HB.out | apply below_alloc | apply pw_below_drewN | apply below_drew1) | exact HB.out)⟩⟩
           case rest =>
            clear HC14
            try clear c1
            try clear p2
            try clear c4
            try clear c4b0
            try clear c4b1
            try clear c5
            try clear c5b0
            try clear c5b1
            try clear c6
            try clear p6
            try clear c8
            try clear c11
            try clear c11b0
            try clear c12
            try clear c12b0
            try clear c12b1
            try clear c15
            try clear c15b0
            try clear c17
            try clear c17b0
            try clear c17b1
            try clear p2
            try clear p6
            obtain ⟨kq, x7_13, rfl, HA, HJ13, HO_5, HB⟩ := hcut
            cases kq with
            | zero => exact absurd HA.out (by simp [pannierref02_Number.j1])
            | succ kj13 =>
             have H := HA.out
             clear HA
             simp only [pannierref02_Number.j1] at H
             by_cases c19 : y249.length < 140737488355328
             · rw [if_pos c19] at H
               have LMc19 := Aside0.mk c19
               clear c19
               obtain ⟨y253, hy253⟩ : ∃ y_ : List Int, y_ = (y249 ++ [x7_13]) := ⟨_, rfl⟩
               replace H : (pannierref02_Number.l1 kj13 a1 y253 (wrap64 (t252 - 1))) = some r := by first | (rw [hy253]; with_reducible exact H) | (have H2_ := (Option.bind_some _ _).symm.trans H; rw [hy253]; with_reducible exact H2_) | (have H2_ := (Option.bind_some _ _).symm.trans H; with_reducible exact H2_) | with_reducible exact H | (rw [hy253]; exact H) | exact H
               have Ny253 := Aside0.mk hy253
               clear hy253
               have H' := Aside0.mk H
               clear H
               go_wp2_with (first | ((with_reducible refine gate_builtin (b := .append) (xs := #[.tmp 36, .tmp 38]) rfl ?_); at_builtin; refine Kd.R_append (Kd.int .u8) (w0 := w) w.heap.size rfl (.tmp 36) (.tmp 38) 63 5 (.int .u8 0) 1 rfl Try.underlying63 info5 rfl (by decide) (by omega) v250 y249 x7_13 [.int .u8 x7_13] (fun _ => True) (fun _ => False) rfl rfl ?aP (fun _ hk => hk.elim) ?aF ?aO ?aB ?aS ?aL ?_; (case aP => exact rfl); (case aB => exact (by repeat (first | (with_reducible first | exact HB.out | apply below_alloc | apply pw_below_drewN | apply below_drew1) | exact HB.out))); (case aF => exact (fun _ _ => trivial)); (case aO => exact (by (with_reducible repeat (first | apply Kd.R_alloc | apply Kd.R_drewN | apply Kd.R_drew)); exact HO_5.out)); (case aS => exact (below_size (by repeat (first | (with_reducible first | exact HB.out | apply below_alloc | apply pw_below_drewN | apply below_drew1) | exact HB.out)))); (case aL => have := LMc19.out; omega); intro v254 w20 ho hb hg hat; rw [← Ny253.out] at ho; have n0_ := Aside0.mk (hb); have n1_ := Aside0.mk (ho); clear HB; clear HO_5; have HB := n0_; have HO255 := n1_; clear n0_ n1_; clear ho hb hg hat))
               go_loopg [5, 9] kj13 (fun kq v5 v9 w' => ∃ (x5_3 : List Int) (x9_3 : Int), v9 = .int .i64 x9_3 ∧ Aside0 (pannierref02_Number.l1 kq a1 x5_3 x9_3 = some r) ∧ Aside0 (kq ≤ kj13) ∧ Aside0 (Kd.R (Kd.int .u8) 5 w' w.heap.size (fun _ => True) v5 x5_3) ∧ Aside0 (Below w.heap.size w w'))
               case atStart => exact ⟨(y253), (wrap64 (t252 - 1)), (by first | rfl | (simp; done) | (simp [*]; done)), H', ⟨Nat.le_refl _⟩, ⟨by (with_reducible repeat (first | apply Kd.R_alloc | apply Kd.R_drewN | apply Kd.R_drew)); exact HO255.out⟩, ⟨by repeat (first | (with_reducible first | exact HB.out | apply below_alloc | apply pw_below_drewN | apply below_drew1) | exact HB.out)⟩⟩
               case round =>
                clear H'
                try clear c1
                try clear p2
                try clear c4
                try clear c4b0
                try clear c4b1
                try clear c5
                try clear c5b0
                try clear c5b1
                try clear c6
                try clear p6
                try clear c8
                try clear c11
                try clear c11b0
                try clear c12
                try clear c12b0
                try clear c12b1
                try clear c15
                try clear c15b0
                try clear c17
                try clear c17b0
                try clear c17b1
                try clear c19
                try clear p2
                try clear p6
                obtain ⟨x5_3, x9_3, rfl, HA, HK3, HO_5, HB⟩ := hrel
                cases gk with
                | zero => exact absurd HA.out (by simp [pannierref02_Number.l1])
                | succ k3 =>
                 have H := HA.out
                 clear HA
                 simp only [pannierref02_Number.l1] at H
                 by_cases c21 : x9_3 ≥ 0
                 · rw [if_pos c21] at H
                   have c21b0 : decide (0 ≤ x9_3) = true := decide_eq_true c21
                   clear c21
                   obtain ⟨ji22, hji22⟩ : ∃ j_ : Int, (wrap64 (8 * x9_3)) = j_ := ⟨_, rfl⟩
                   replace H : (if 0 ≤ (ji22) then (if x5_3.length < 140737488355328 then (pannierref02_Number.l1 k3 a1 (x5_3 ++ [(shr .u64 a1 (ji22)) % 256]) (wrap64 (x9_3 - 1))) else (none)) else (none)) = some r := by first | (rw [hji22] at H; exact H) | (simp only [hji22] at H ⊢; exact H)
                   have hji22w : (IntKind.i64.wrap (8 * x9_3)) = ji22 := (i64_w _).trans hji22
                   by_cases c23 : 0 ≤ (ji22)
                   · rw [if_pos c23] at H
                     have c23b0 := eq_true c23
                     have c23b1 : decide (0 ≤ (ji22)) = true := decide_eq_true c23
                     clear c23
                     obtain ⟨ji24, hji24⟩ : ∃ j_ : Int, (shr .u64 a1 (ji22)) = j_ := ⟨_, rfl⟩
                     replace H : (if x5_3.length < 140737488355328 then (pannierref02_Number.l1 k3 a1 (x5_3 ++ [(ji24) % 256]) (wrap64 (x9_3 - 1))) else (none)) = some r := by first | (rw [hji24] at H; exact H) | (simp only [hji24] at H ⊢; exact H)
                     have hji24_ : (a1 / 2 ^ min (ji22).toNat 64) = ji24 := hji24
                     have hji24z : (ji22) ≤ 64 → (a1 / 2 ^ (ji22).toNat) = ji24 := shr_small hji24
                     by_cases c25 : x5_3.length < 140737488355328
                     · rw [if_pos c25] at H
                       have LMc25 := Aside0.mk c25
                       clear c25
                       obtain ⟨y256, hy256⟩ : ∃ y_ : List Int, y_ = (x5_3 ++ [(ji24) % 256]) := ⟨_, rfl⟩
                       replace H : (pannierref02_Number.l1 k3 a1 y256 (wrap64 (x9_3 - 1))) = some r := by first | (rw [hy256]; with_reducible exact H) | (have H2_ := (Option.bind_some _ _).symm.trans H; rw [hy256]; with_reducible exact H2_) | (have H2_ := (Option.bind_some _ _).symm.trans H; with_reducible exact H2_) | with_reducible exact H | (rw [hy256]; exact H) | exact H
                       have Ny256 := Aside0.mk hy256
                       clear hy256
                       have H' := Aside0.mk H
                       clear H
                       go_wp2_with (first | ((with_reducible refine gate_builtin (b := .append) (xs := #[.tmp 46, .tmp 52]) rfl ?_); at_builtin; refine Kd.R_append (Kd.int .u8) (w0 := w) w.heap.size rfl (.tmp 46) (.tmp 52) 63 5 (.int .u8 0) 1 rfl Try.underlying63 info5 rfl (by decide) (by omega) u5 x5_3 ((ji24) % 256) [.int .u8 ((ji24) % 256)] (fun _ => True) (fun _ => False) rfl rfl ?aP (fun _ hk => hk.elim) ?aF ?aO ?aB ?aS ?aL ?_; (case aP => exact rfl); (case aB => exact (by repeat (first | (with_reducible first | exact HB.out | apply below_alloc | apply pw_below_drewN | apply below_drew1) | exact HB.out))); (case aF => exact (fun _ _ => trivial)); (case aO => exact (by (with_reducible repeat (first | apply Kd.R_alloc | apply Kd.R_drewN | apply Kd.R_drew)); exact HO_5.out)); (case aS => exact (below_size (by repeat (first | (with_reducible first | exact HB.out | apply below_alloc | apply pw_below_drewN | apply below_drew1) | exact HB.out)))); (case aL => have := LMc25.out; omega); intro v257 w26 ho hb hg hat; rw [← Ny256.out] at ho; have n0_ := Aside0.mk (hb); have n1_ := Aside0.mk (ho); clear HB; clear HO_5; have HB := n0_; have HO258 := n1_; clear n0_ n1_; clear ho hb hg hat))
                       go_roundg k3
                       case measure => have := HK1.out; have := HJ13.out; have := HK3.out; omega
                       case rel => exact ⟨(y256), (wrap64 (x9_3 - 1)), (by first | rfl | (simp; done) | (simp [*]; done)), H', ⟨by have := HK1.out; have := HJ13.out; have := HK3.out; omega⟩, ⟨by (with_reducible repeat (first | apply Kd.R_alloc | apply Kd.R_drewN | apply Kd.R_drew)); exact HO258.out⟩, ⟨by repeat (first | (with_reducible first | exact HB.out | apply below_alloc | apply pw_below_drewN | apply below_drew1) | exact HB.out)⟩⟩
                     · rw [if_neg c25] at H
                       exact absurd H (by simp)
                   · rw [if_neg c23] at H
                     exact absurd H (by simp)
                 · rw [if_neg c21] at H
                   have c21b0 : decide (0 ≤ x9_3) = false := decide_eq_false c21
                   clear c21
                   obtain rfl := Option.some.inj H
                   go_wp2
                   go_ret
                   exact ⟨_, by first | rfl | (simp [errW_none, errW_some] <;> rfl) | (simp only [← hji3]; first | rfl | (simp [errW_none, errW_some] <;> rfl)) | (simp [*, errW_none, errW_some] <;> rfl), by (with_reducible repeat (first | apply Kd.R_alloc | apply Kd.R_drewN | apply Kd.R_drew)); exact HO_5.out, by repeat (first | (with_reducible first | exact HB.out | apply below_alloc | apply pw_below_drewN | apply below_drew1) | exact HB.out)⟩
             · rw [if_neg c19] at H
               exact absurd H (by simp)
     · rw [if_neg c6] at H
       exact absurd H (by simp)
   · rw [if_neg c5] at H
     exact absurd H (by simp)
 · rw [if_neg c4] at H
   exact absurd H (by simp)
def pannierref02_Text.f (k : Nat) (l0 : List Int) (a1 : ByteArray) : Option (List Int) := (pannierref02_Number.f k l0 (IntKind.u64.wrap ((a1.size : Int)))).bind fun t259 => (if t259.length + a1.size < 140737488355328 then (some (t259 ++ bytesOf a1)) else (none))
set_option maxHeartbeats 8000000 in
set_option maxRecDepth 100000 in
theorem pannierref02_Text.calls (k : Nat) (A0 : Option Addr) (c0 : Nat) (l0 : List Int) (a1 : ByteArray) (r : List Int) (w : World) (hr0 : Kd.C (Kd.int .u8) w A0 l0.length l0) (hc0 : l0.length ≤ c0) (h : pannierref02_Text.f k l0 a1 = some r) :
 Calls Try.prog 83 #[.slice A0 l0.length c0, .string a1] w fun e w' => ∃ v0_ : Value, e = .returned (v0_) ∧ Kd.R (Kd.int .u8) 5 w' w.heap.size (fun _ => True) v0_ r ∧ Below w.heap.size w w' := by
 have HR0 := Aside0.mk hr0
 have HC0 := Aside0.mk hc0
 clear hr0 hc0
 have HB := Aside0.mk (Below.refl w.heap.size w)
 have H : ((pannierref02_Number.f k l0 (IntKind.u64.wrap ((a1.size : Int)))).bind fun t259 => (if t259.length + a1.size < 140737488355328 then (some (t259 ++ bytesOf a1)) else (none))) = some r := h
 clear h
 replace H := Option.bind_eq_some_iff.mp H
 obtain ⟨t259, A30, H⟩ := H
 replace H : (if t259.length + a1.size < 140737488355328 then (some (t259 ++ bytesOf a1)) else (none)) = some r := H
 have A3 := Aside0.mk A30
 clear A30
 by_cases c4 : t259.length + a1.size < 140737488355328
 · rw [if_pos c4] at H
   have LMc4 := Aside0.mk c4
   clear c4
   obtain ⟨y262, hy262⟩ : ∃ y_ : List Int, y_ = (t259 ++ bytesOf a1) := ⟨_, rfl⟩
   replace H : (some y262) = some r := by first | (rw [hy262]; with_reducible exact H) | (have H2_ := (Option.bind_some _ _).symm.trans H; rw [hy262]; with_reducible exact H2_) | (have H2_ := (Option.bind_some _ _).symm.trans H; with_reducible exact H2_) | with_reducible exact H | (rw [hy262]; exact H) | exact H
   have Ny262 := Aside0.mk hy262
   clear hy262
   obtain rfl := Option.some.inj H
   go_enter Try.func83, Try.ntmps83
   go_wp2_with (first | ((with_reducible refine gate_callee (f := 84) rfl ?_); refine goesL_ (some 9) rfl rfl Try.func84 (by kernel_rfl) rfl #[.slice A0 l0.length c0, .int .u64 (IntKind.u64.wrap ((a1.size : Int)))] rfl (by (try simp only [List.map_toArray, List.map_cons, List.map_nil]); first | done | rfl | (simp only [List.length_drop, List.length_take]; rfl)) ?_; (with_reducible refine (pannierref02_Number.calls k _ _ l0 (IntKind.u64.wrap ((a1.size : Int))) t259 _ ?side1 ?side2 A3.out).mono ?_); (case side1 => repeat (first | exact HR0.out | (with_reducible refine Kd.C_alloc ?_ _) | (with_reducible refine Kd.C_drewN ?_ _) | (with_reducible refine Kd.C_drew ?_))); (case side2 => exact HC0.out); rintro e w5 ⟨v260, rfl, ho0, hb⟩; refine ⟨_, rfl, ?_⟩; have n0_ := Aside0.mk (Kd.R_lower ho0 (below_size (by repeat (first | (with_reducible first | exact HB.out | apply below_alloc | apply pw_below_drewN | apply below_drew1) | exact HB.out)))); have n1_ := Aside0.mk (below_step (by repeat (first | (with_reducible first | exact HB.out | apply below_alloc | apply pw_below_drewN | apply below_drew1) | exact HB.out)) hb); clear HB; have HO261 := n0_; have HB := n1_; clear n0_ n1_; (try clear hb); (try clear hb2); (try clear hk); (try clear hi); (try clear ho0)) | (at_builtin; refine print_append_str (w0 := w) w.heap.size rfl (.tmp 9) _ 63 9 5 rfl Try.underlying63 Try.underlying9 info5 v260 t259 a1 rfl rfl ?aO ?aB ?aS ?aL ?_; (case aB => exact (by repeat (first | (with_reducible first | exact HB.out | apply below_alloc | apply pw_below_drewN | apply below_drew1) | exact HB.out))); (case aO => exact (Kd.own_of_R (by (with_reducible repeat (first | apply Kd.R_alloc | apply Kd.R_drewN | apply Kd.R_drew)); exact HO261.out))); (case aS => exact (below_size (by repeat (first | (with_reducible first | exact HB.out | apply below_alloc | apply pw_below_drewN | apply below_drew1) | exact HB.out)))); (case aL => have := LMc4.out; omega); intro v263 w6 ho0 hb hg; have ho := Kd.R_of_own (h1 := fun _ => rfl) (ok := fun _ => True) ho0 (fun _ _ => trivial); clear ho0; have hat := True.intro; rw [← Ny262.out] at ho; change Kd.R (Kd.int .u8) 5 w6 w.heap.size (fun _ => True) v263 y262 at ho; have n0_ := Aside0.mk (hb); have n1_ := Aside0.mk (ho); clear HB; clear HO261; have HB := n0_; have HO264 := n1_; clear n0_ n1_; clear ho hb hg hat))
   go_ret
   exact ⟨_, by first | rfl | (simp [errW_none, errW_some] <;> rfl) | (simp [*, errW_none, errW_some] <;> rfl), by (with_reducible repeat (first | apply Kd.R_alloc | apply Kd.R_drewN | apply Kd.R_drew)); exact HO264.out, by repeat (first | (with_reducible first | exact HB.out | apply below_alloc | apply pw_below_drewN | apply below_drew1) | exact HB.out)⟩
 · rw [if_neg c4] at H
   exact absurd H (by simp)
def pannierref07_Lay.l0 : Nat → List (S34) → List Int → Int → Option (List Int × Int)
 | 0, _, _, _ => none
 | k + 1, x1, x7, x8 => if x8 < (x1.length : Int) then (if 0 ≤ x8 then ((pannierref02_Text.f k x7 ((rd_T34 x1 x8).f0)).bind fun t270 => ((pannierref02_Number.f k t270 (IntKind.u64.wrap ((rd_T34 x1 x8).f1))).bind fun t274 => (pannierref07_Lay.l0 k x1 t274 (wrap64 (x8 + 1))))) else (none)) else (some (x7, 0))
def pannierref07_Lay.f (k : Nat) (l0 : List Int) (l1 : List (S34)) : Option (List Int × Int) := (pannierref07_Right.f k l1).bind fun t265 => (if t265 = true then ((pannierref02_Number.f k l0 (IntKind.u64.wrap ((l1.length : Int)))).bind fun t266 => (pannierref07_Lay.l0 k l1 t266 0)) else (some (([] : List Int), 2)))
def pannierref07_Lay.T8 : Bool × List (List Nat × List Nat) := (true, [([], []), ([], []), ([], []), ([1, 2], [1, 2]), ([3], [3]), ([4], [4]), ([0, 5], [0, 5]), ([], []), ([], []), ([7, 8], [7, 8]), ([9], [9]), ([10], [10]), ([11], [11]), ([6, 12, 6], [6, 12]), ([13, 13, 0, 1, 2, 3, 4, 5, 6, 7, 8, 9, 10, 11, 12, 13], [0, 13])])
def pannierref07_Lay.B8 : List Nat := [0, 0, 0, 6, 14, 30, 63, 0, 0, 384, 896, 1920, 3968, 8191, 16383]
theorem pannierref07_Lay.tab8 : rtab .any (opsOf Try.f85 8) = pannierref07_Lay.T8 := by kernel_rfl
theorem pannierref07_Lay.bits8 : waitsOk pannierref07_Lay.T8.2 pannierref07_Lay.B8 = true := by kernel_rfl
set_option maxHeartbeats 8000000 in
set_option maxRecDepth 100000 in
theorem pannierref07_Lay.calls (k : Nat) (A0 : Option Addr) (c0 : Nat) (l0 : List Int) (A1 : Option Addr) (c1 : Nat) (l1 : List (S34)) (r1 : List Int) (r2 : Int) (w : World) (hr0 : Kd.C (Kd.int .u8) w A0 l0.length l0) (hc0 : l0.length ≤ c0) (hr1 : Kd.C k34 w A1 l1.length l1) (hc1 : l1.length ≤ c1) (h : pannierref07_Lay.f k l0 l1 = some (r1, r2)) :
 Calls Try.prog 85 #[.slice A0 l0.length c0, .slice A1 l1.length c1] w fun e w' => ∃ v0_ : Value, e = .returned (.tuple #[v0_, .int .i64 r2]) ∧ Kd.R (Kd.int .u8) 5 w' w.heap.size (fun _ => True) v0_ r1 ∧ Below w.heap.size w w' := by
 have HR0 := Aside0.mk hr0
 have HC0 := Aside0.mk hc0
 clear hr0 hc0
 have HR1 := Aside0.mk hr1
 have HC1 := Aside0.mk hc1
 clear hr1 hc1
 have HB := Aside0.mk (Below.refl w.heap.size w)
 have H : ((pannierref07_Right.f k l1).bind fun t265 => (if t265 = true then ((pannierref02_Number.f k l0 (IntKind.u64.wrap ((l1.length : Int)))).bind fun t266 => (pannierref07_Lay.l0 k l1 t266 0)) else (some (([] : List Int), 2)))) = some (r1, r2) := h
 clear h
 replace H := Option.bind_eq_some_iff.mp H
 obtain ⟨t265, A30, H⟩ := H
 replace H : (if t265 = true then ((pannierref02_Number.f k l0 (IntKind.u64.wrap ((l1.length : Int)))).bind fun t266 => (pannierref07_Lay.l0 k l1 t266 0)) else (some (([] : List Int), 2))) = some (r1, r2) := H
 have A3 := Aside0.mk A30
 clear A30
 by_cases c4 : t265 = true
 · subst c4
   have H1 : ((pannierref02_Number.f k l0 (IntKind.u64.wrap ((l1.length : Int)))).bind fun t266 => (pannierref07_Lay.l0 k l1 t266 0)) = some (r1, r2) := by rw [if_pos rfl] at H; exact H
   clear H
   have H := H1
   clear H1
   replace H := Option.bind_eq_some_iff.mp H
   obtain ⟨t266, A50, H⟩ := H
   replace H : (pannierref07_Lay.l0 k l1 t266 0) = some (r1, r2) := H
   have A5 := Aside0.mk A50
   clear A50
   have H' := Aside0.mk H
   clear H
   go_enter Try.func85, Try.ntmps85
   go_wp2_with (first | ((with_reducible refine gate_callee (f := 62) rfl ?_); refine goesL_ (some 10) rfl rfl Try.func62 (by kernel_rfl) rfl #[.slice A1 l1.length c1] rfl (by (try simp only [List.map_toArray, List.map_cons, List.map_nil]); first | done | rfl | (simp only [List.length_drop, List.length_take]; rfl)) ?_; (with_reducible refine (pannierref07_Right.calls k _ _ l1 true _ ?side1 ?side2 A3.out).mono ?_); (case side1 => repeat (first | exact HR1.out | (with_reducible refine Kd.C_alloc ?_ _) | (with_reducible refine Kd.C_drewN ?_ _) | (with_reducible refine Kd.C_drew ?_))); (case side2 => exact HC1.out); rintro e w6 ⟨rfl, hb⟩; refine ⟨_, rfl, ?_⟩; have n0_ := Aside0.mk (below_step (by repeat (first | (with_reducible first | exact HB.out | apply below_alloc | apply pw_below_drewN | apply below_drew1) | exact HB.out)) hb); clear HB; have HB := n0_; clear n0_; (try clear hb); (try clear hb2); (try clear hk); (try clear hi)) | ((with_reducible refine gate_callee (f := 84) rfl ?_); refine goesL_ (some 17) rfl rfl Try.func84 (by kernel_rfl) rfl #[.slice A0 l0.length c0, .int .u64 (IntKind.u64.wrap ((l1.length : Int)))] rfl (by (try simp only [List.map_toArray, List.map_cons, List.map_nil]); first | done | rfl | (simp only [List.length_drop, List.length_take]; rfl)) ?_; (with_reducible refine (pannierref02_Number.calls k _ _ l0 (IntKind.u64.wrap ((l1.length : Int))) t266 _ ?side1 ?side2 A5.out).mono ?_); (case side1 => repeat (first | exact (Kd.C_below HR0.out HB.out) | (with_reducible refine Kd.C_alloc ?_ _) | (with_reducible refine Kd.C_drewN ?_ _) | (with_reducible refine Kd.C_drew ?_))); (case side2 => exact HC0.out); rintro e w7 ⟨v267, rfl, ho0, hb⟩; refine ⟨_, rfl, ?_⟩; have n0_ := Aside0.mk (Kd.R_lower ho0 (below_size (by repeat (first | (with_reducible first | exact HB.out | apply below_alloc | apply pw_below_drewN | apply below_drew1) | exact HB.out)))); have n1_ := Aside0.mk (below_step (by repeat (first | (with_reducible first | exact HB.out | apply below_alloc | apply pw_below_drewN | apply below_drew1) | exact HB.out)) hb); clear HB; have HO268 := n0_; have HB := n1_; clear n0_ n1_; (try clear hb); (try clear hb2); (try clear hk); (try clear hi); (try clear ho0)))
   go_loopg [7, 8] k (fun kq v7 v8 w' => ∃ (x7_1 : List Int) (x8_1 : Int), v8 = .int .i64 x8_1 ∧ Aside0 (pannierref07_Lay.l0 kq l1 x7_1 x8_1 = some (r1, r2)) ∧ Aside0 (kq ≤ k) ∧ Aside0 (Kd.R (Kd.int .u8) 5 w' w.heap.size (fun _ => True) v7 x7_1) ∧ Aside0 (Below w.heap.size w w'))
   case atStart => exact ⟨(t266), (0), (by first | rfl | (simp; done) | (simp [*]; done)), H', ⟨Nat.le_refl _⟩, ⟨by (with_reducible repeat (first | apply Kd.R_alloc | apply Kd.R_drewN | apply Kd.R_drew)); exact HO268.out⟩, ⟨by repeat (first | (with_reducible first | exact HB.out | apply below_alloc | apply pw_below_drewN | apply below_drew1) | exact HB.out)⟩⟩
   case round =>
    clear H'
    try clear c1
    try clear p2
    try clear c4
    try clear c6
    obtain ⟨x7_1, x8_1, rfl, HA, HK1, HO_7, HB⟩ := hrel
    cases gk with
    | zero => exact absurd HA.out (by simp [pannierref07_Lay.l0])
    | succ k1 =>
     have H := HA.out
     clear HA
     simp only [pannierref07_Lay.l0] at H
     by_cases c8 : x8_1 < (l1.length : Int)
     · rw [if_pos c8] at H
       have c8b0 : decide (x8_1 < (l1.length : Int)) = true := decide_eq_true c8
       clear c8
       by_cases c9 : 0 ≤ x8_1
       · rw [if_pos c9] at H
         have c9b0 : decide (0 ≤ x8_1) = true := decide_eq_true c9
         clear c9
         replace H := Option.bind_eq_some_iff.mp H
         obtain ⟨t270, A100, H⟩ := H
         replace H : ((pannierref02_Number.f k1 t270 (IntKind.u64.wrap ((rd_T34 l1 x8_1).f1))).bind fun t274 => (pannierref07_Lay.l0 k1 l1 t274 (wrap64 (x8_1 + 1)))) = some (r1, r2) := H
         have A10 := Aside0.mk A100
         clear A100
         replace H := Option.bind_eq_some_iff.mp H
         obtain ⟨t274, A110, H⟩ := H
         replace H : (pannierref07_Lay.l0 k1 l1 t274 (wrap64 (x8_1 + 1))) = some (r1, r2) := H
         have A11 := Aside0.mk A110
         clear A110
         have H' := Aside0.mk H
         clear H
         try go_wp2
         have n0_ := Aside0.mk (Kd.R_drew HO_7.out)
         have n1_ := Aside0.mk (below_drew1 HB.out)
         clear HO_7
         clear HB
         have HO_7 := n0_
         have HB := n1_
         clear n0_ n1_
         have p269 : 0 ≤ (x8_1 : Int) := of_decide_eq_true (by first | (with_reducible assumption) | assumption)
         have q269 : x8_1 < (l1.length : Int) := of_decide_eq_true (by first | (with_reducible assumption) | assumption)
         obtain ⟨ad269, e269, hx269_0, hx269_1⟩ := at_T34 HR1.out x8_1 p269 q269
         have hw269_1 := hx269_1
         have hw269_0 := hx269_0
         cases e269
         replace hx269_0 := (HB.out.cell (World.block_lt_of_cell? w _ hx269_0)).trans hx269_0
         replace hx269_1 := (HB.out.cell (World.block_lt_of_cell? w _ hx269_1)).trans hx269_1
         replace p269 := eq_true p269
         replace q269 := eq_true q269
         have p273 : 0 ≤ (x8_1 : Int) := of_decide_eq_true (by first | (with_reducible assumption) | assumption)
         have q273 : x8_1 < (l1.length : Int) := of_decide_eq_true (by first | (with_reducible assumption) | assumption)
         obtain ⟨ad273, e273, hx273_0, hx273_1⟩ := at_T34 HR1.out x8_1 p273 q273
         have hw273_1 := hx273_1
         have hw273_0 := hx273_0
         obtain rfl : ad269 = ad273 := (by injection e273)
         replace hx273_0 := (HB.out.cell (World.block_lt_of_cell? w _ hx273_0)).trans hx273_0
         replace hx273_1 := (HB.out.cell (World.block_lt_of_cell? w _ hx273_1)).trans hx273_1
         replace p273 := eq_true p273
         replace q273 := eq_true q273
         obtain ⟨Ao13, co13, eo13⟩ := Kd.R_slice HO_7.out
         (first | subst eo13 | (injection eo13 with f1_ f2_ f3_; have f4_ := f1_.symm; have f5_ := f3_.symm; clear f1_ f2_ f3_; subst f4_; subst f5_))
         refine start_ (n := 15) (S := fun w' => w'.cell? (ad269.add ((x8_1).toNat * 2)) = some (.string ((rd_T34 l1 x8_1).f0)) ∧ w'.cell? ⟨(ad269.add ((x8_1).toNat * 2)).block, (ad269.add ((x8_1).toNat * 2)).off + 1, none⟩ = some (.int .i64 ((rd_T34 l1 x8_1).f1)) ∧ w'.cell? (ad269.add ((x8_1).toNat * 2)) = some (.string ((rd_T34 l1 x8_1).f0)) ∧ w'.cell? ⟨(ad269.add ((x8_1).toNat * 2)).block, (ad269.add ((x8_1).toNat * 2)).off + 1, none⟩ = some (.int .i64 ((rd_T34 l1 x8_1).f1))) (ds := []) #[false, false, false, false, false, false, false, false, false, false, false, false, false, false, false] (by kernel_rfl) rfl rfl ⟨((HB.out.cell (World.block_lt_of_cell? w _ hw269_0)).trans hw269_0), ((HB.out.cell (World.block_lt_of_cell? w _ hw269_1)).trans hw269_1), ((HB.out.cell (World.block_lt_of_cell? w _ hw273_0)).trans hw273_0), ((HB.out.cell (World.block_lt_of_cell? w _ hw273_1)).trans hw273_1)⟩ (fun hHeld => ?_); refine with_tabW pannierref07_Lay.tab8 pannierref07_Lay.bits8 (fun HT_ HW_ => ?_)
         generalize wr.drew = w12 at HO_7 HB hx269_0 hx269_1 hx273_0 hx273_1 hHeld ⊢
         refine XReg.pu 0 24 (h := ?_)
         refine XReg.pu 1 25 (h := ?_)
         refine XReg.pu 2 26 (h := ?_)
         refine XReg.pu 3 27 (h := ?_)
         refine XReg.pu 4 28 (h := ?_)
         refine XReg.pu 7 31 (h := ?_)
         refine XReg.pu 8 32 (h := ?_)
         refine XReg.pu 9 33 (h := ?_)
         refine XReg.pu 10 34 (h := ?_)
         refine XReg.tk 5 29 (hS := hHeld) (h := ?_)
         refine XReg.tk 11 35 (hS := hHeld) (h := ?_)
         refine XReg.pu 12 36 (h := ?_)
         refine one_ (i := 6) (N := some 30) #[true, true, true, true, true, true, true, true, true, true, true, true, true, false, false] rfl rfl (_root_.Go.Proofs.YtenbkljgmgdegaaW.PrintLast.one_of HT_.out (by kernel_rfl)) (by decide) (fun K hK => ?_)
         refine goes_ Try.func83 (by kernel_rfl) rfl #[.slice Ao13 x7_1.length co13, .string ((rd_T34 l1 x8_1).f0)] (by rfl) rfl rfl (by (try simp only [List.map_toArray, List.map_cons, List.map_nil]); first | done | rfl | (simp only [List.length_drop, List.length_take]; rfl)) ?_
         with_reducible refine (pannierref02_Text.calls k1 _ _ x7_1 ((rd_T34 l1 x8_1).f0) t270 _ ?side1 ?side2 A10.out).mono ?_
         (case side1 => repeat (first | exact (Kd.R_reads' HO_7.out).2.2 | (with_reducible refine Kd.C_alloc ?_ _) | (with_reducible refine Kd.C_drewN ?_ _) | (with_reducible refine Kd.C_drew ?_)))
         (case side2 => exact (Kd.R_reads' HO_7.out).2.1)
         rintro e w14 ⟨v271, rfl, ho0, hb⟩
         refine ⟨_, rfl, ?_⟩
         have n0_ := Aside0.mk (Kd.R_elder' (by (with_reducible repeat (first | apply Kd.R_alloc | apply Kd.R_drewN | apply Kd.R_drew)); exact HO_7.out) (Kd.R_base ho0) hb)
         have n1_ := Aside0.mk (Kd.R_lower (Kd.R_new' ho0 (Kd.R_lt (by (with_reducible repeat (first | apply Kd.R_alloc | apply Kd.R_drewN | apply Kd.R_drew)); exact HO_7.out))) (below_size (by repeat (first | (with_reducible first | exact HB.out | apply below_alloc | apply pw_below_drewN | apply below_drew1) | exact HB.out))))
         have n2_ := Aside0.mk (below_step (by repeat (first | (with_reducible first | exact HB.out | apply below_alloc | apply pw_below_drewN | apply below_drew1) | exact HB.out)) hb)
         clear HO_7
         clear HB
         have HO_7 := n0_
         have HO272 := n1_
         have HB := n2_
         clear n0_ n1_ n2_
         (try clear hb)
         (try clear hb2)
         (try clear hk)
         (try clear hi)
         (try clear ho0)
         obtain ⟨Ao15, co15, eo15⟩ := Kd.R_slice HO272.out
         (first | subst eo15 | (injection eo15 with f1_ f2_ f3_; have f4_ := f1_.symm; have f5_ := f3_.symm; clear f1_ f2_ f3_; subst f4_; subst f5_))
         refine hK.out _ _ ⟨((HB.out.cell (World.block_lt_of_cell? w _ hw269_0)).trans hw269_0), ((HB.out.cell (World.block_lt_of_cell? w _ hw269_1)).trans hw269_1), ((HB.out.cell (World.block_lt_of_cell? w _ hw273_0)).trans hw273_0), ((HB.out.cell (World.block_lt_of_cell? w _ hw273_1)).trans hw273_1)⟩ (fun hHeld => ?_)
         clear hK K
         refine norm_ (a' := ?_) ?_ ?_
         rotate_left
         · show Act.put _ (some 30) _ = _
           simp only [Act.put, List.setIfInBounds_toArray, List.set_cons_zero, List.set_cons_succ, i64_w, i32_w]
           rfl
         refine one_ (i := 13) (N := some 37) #[true, true, true, true, true, true, true, true, true, true, true, true, true, true, false] rfl rfl (_root_.Go.Proofs.YtenbkljgmgdegaaW.PrintLast.one_of HT_.out (by kernel_rfl)) (by decide) (fun K hK => ?_)
         refine goes_ Try.func84 (by kernel_rfl) rfl #[.slice Ao15 t270.length co15, .int .u64 (IntKind.u64.wrap ((rd_T34 l1 x8_1).f1))] (by rfl) rfl rfl (by (try simp only [List.map_toArray, List.map_cons, List.map_nil]); first | done | rfl | (simp only [List.length_drop, List.length_take]; rfl)) ?_
         with_reducible refine (pannierref02_Number.calls k1 _ _ t270 (IntKind.u64.wrap ((rd_T34 l1 x8_1).f1)) t274 _ ?side1 ?side2 A11.out).mono ?_
         (case side1 => repeat (first | exact (Kd.R_reads' HO272.out).2.2 | (with_reducible refine Kd.C_alloc ?_ _) | (with_reducible refine Kd.C_drewN ?_ _) | (with_reducible refine Kd.C_drew ?_)))
         (case side2 => exact (Kd.R_reads' HO272.out).2.1)
         rintro e w16 ⟨v275, rfl, ho0, hb⟩
         refine ⟨_, rfl, ?_⟩
         have n0_ := Aside0.mk (Kd.R_elder' (by (with_reducible repeat (first | apply Kd.R_alloc | apply Kd.R_drewN | apply Kd.R_drew)); exact HO_7.out) (Kd.R_base ho0) hb)
         have n1_ := Aside0.mk (Kd.R_elder' (by (with_reducible repeat (first | apply Kd.R_alloc | apply Kd.R_drewN | apply Kd.R_drew)); exact HO272.out) (Kd.R_base ho0) hb)
         have n2_ := Aside0.mk (Kd.R_lower (Kd.R_new' (Kd.R_new' ho0 (Kd.R_lt (by (with_reducible repeat (first | apply Kd.R_alloc | apply Kd.R_drewN | apply Kd.R_drew)); exact HO_7.out))) (Kd.R_lt (by (with_reducible repeat (first | apply Kd.R_alloc | apply Kd.R_drewN | apply Kd.R_drew)); exact HO272.out))) (below_size (by repeat (first | (with_reducible first | exact HB.out | apply below_alloc | apply pw_below_drewN | apply below_drew1) | exact HB.out))))
         have n3_ := Aside0.mk (below_step (by repeat (first | (with_reducible first | exact HB.out | apply below_alloc | apply pw_below_drewN | apply below_drew1) | exact HB.out)) hb)
         clear HO_7
         clear HO272
         clear HB
         have HO_7 := n0_
         have HO272 := n1_
         have HO276 := n2_
         have HB := n3_
         clear n0_ n1_ n2_ n3_
         (try clear hb)
         (try clear hb2)
         (try clear hk)
         (try clear hi)
         (try clear ho0)
         refine hK.out _ _ ⟨((HB.out.cell (World.block_lt_of_cell? w _ hw269_0)).trans hw269_0), ((HB.out.cell (World.block_lt_of_cell? w _ hw269_1)).trans hw269_1), ((HB.out.cell (World.block_lt_of_cell? w _ hw273_0)).trans hw273_0), ((HB.out.cell (World.block_lt_of_cell? w _ hw273_1)).trans hw273_1)⟩ (fun hHeld => ?_)
         clear hK K
         refine norm_ (a' := ?_) ?_ ?_
         rotate_left
         · show Act.put _ (some 37) _ = _
           simp only [Act.put, List.setIfInBounds_toArray, List.set_cons_zero, List.set_cons_succ, i64_w, i32_w]
           rfl
         refine XReg.pu 14 7 (h := ?_)
         refine done_ (done_of HT_.out (by kernel_rfl)) ?_
         try go_wp2
         go_roundg k1
         case measure => have := HK1.out; omega
         case rel => exact ⟨(t274), (wrap64 (x8_1 + 1)), (by first | rfl | (simp; done) | (simp [*]; done)), H', ⟨by have := HK1.out; omega⟩, ⟨by (with_reducible repeat (first | apply Kd.R_alloc | apply Kd.R_drewN | apply Kd.R_drew)); exact Kd.R_mono HO276.out (fun _ hk => trivial)⟩, ⟨by repeat (first | (with_reducible first | exact HB.out | apply below_alloc | apply pw_below_drewN | apply below_drew1) | exact HB.out)⟩⟩
       · rw [if_neg c9] at H
         exact absurd H (by simp)
     · rw [if_neg c8] at H
       have c8b0 : decide (x8_1 < (l1.length : Int)) = false := decide_eq_false c8
       clear c8
       simp only [Option.some.injEq, Prod.mk.injEq] at H
       obtain ⟨rfl, rfl⟩ := H
       go_wp2
       go_ret2
       exact ⟨_, by first | rfl | (simp [errW_none, errW_some] <;> rfl) | (simp [*, errW_none, errW_some] <;> rfl), by (with_reducible repeat (first | apply Kd.R_alloc | apply Kd.R_drewN | apply Kd.R_drew)); exact HO_7.out, by repeat (first | (with_reducible first | exact HB.out | apply below_alloc | apply pw_below_drewN | apply below_drew1) | exact HB.out)⟩
 · replace c4 := Bool.eq_false_iff.mpr c4
   subst c4
   have H1 : (some (([] : List Int), 2)) = some (r1, r2) := by rw [if_neg (show ¬ (false = true) by decide)] at H; exact H
   clear H
   have H := H1
   clear H1
   simp only [Option.some.injEq, Prod.mk.injEq] at H
   obtain ⟨rfl, rfl⟩ := H
   go_enter Try.func85, Try.ntmps85
   go_wp2_with (first | ((with_reducible refine gate_callee (f := 62) rfl ?_); refine goesL_ (some 10) rfl rfl Try.func62 (by kernel_rfl) rfl #[.slice A1 l1.length c1] rfl (by (try simp only [List.map_toArray, List.map_cons, List.map_nil]); first | done | rfl | (simp only [List.length_drop, List.length_take]; rfl)) ?_; (with_reducible refine (pannierref07_Right.calls k _ _ l1 false _ ?side1 ?side2 A3.out).mono ?_); (case side1 => repeat (first | exact HR1.out | (with_reducible refine Kd.C_alloc ?_ _) | (with_reducible refine Kd.C_drewN ?_ _) | (with_reducible refine Kd.C_drew ?_))); (case side2 => exact HC1.out); rintro e w17 ⟨rfl, hb⟩; refine ⟨_, rfl, ?_⟩; have n0_ := Aside0.mk (below_step (by repeat (first | (with_reducible first | exact HB.out | apply below_alloc | apply pw_below_drewN | apply below_drew1) | exact HB.out)) hb); clear HB; have HB := n0_; clear n0_; (try clear hb); (try clear hb2); (try clear hk); (try clear hi)))
   go_ret2
   exact ⟨_, by first | rfl | (simp [errW_none, errW_some] <;> rfl) | (simp [*, errW_none, errW_some] <;> rfl), by first | exact Kd.R_nil _ _ _ _ _ | exact Kd.N_nil _ _ _ _ _ | exact Kd.V_nil _ _ _ _ _ | exact Kd.Q_nil _ _ _ _ _ | exact Kd.S_nil _ _ _ _ _, by repeat (first | (with_reducible first | exact HB.out | apply below_alloc | apply pw_below_drewN | apply below_drew1) | exact HB.out)⟩
end Go.Proofs.Ytenbkljgmgdegaa.PO
