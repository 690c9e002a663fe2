/- What the rows of this claim use, out of the texts of this work (PE8). No condition beyond those that each statement names. -/
import Derived.Test.YtenbkljgmgdegaaQgOV
import Derived.Test.YtenbkljgmgdegaaQgPOx0
import Derived.Test.YtenbkljgmgdegaaQgPD10
import Derived.Test.YtenbkljgmgdegaaQgPD15
import Derived.Test.YtenbkljgmgdegaaQgPD17
import Derived.Test.YtenbkljgmgdegaaQgOH
import Derived.Test.YtenbkljgmgdegaaQgFX
namespace Go.Proofs.Ytenbkljgmgdegaa.PO
open Go.RowKit Go.Proofs.YtenbkljgmgdegaaW.PrintWords Go.Proofs.YtenbkljgmgdegaaW.PrintLast Go.Proofs.YtenbkljgmgdegaaW.PrintMore
attribute [local go_sem] max2_int min2_int max_two min_two max_three min_three max_four min_four   -- for this text's walks alone
set_option linter.unusedVariables false
set_option linter.unusedSimpArgs false
abbrev bqgaaPE8_0 : Array Bool := #[false, false, false, false, false, false, false, false, false, false, false, false, false]
abbrev bqgaaPE8_1 : Array Bool := #[true, false, false, false, false, false, false, false, false, false, false, false, false]
abbrev bqgaaPE8_2 : Array Bool := #[true, true, false, false, false, false, false, false, false, false, false, false, false]
abbrev bqgaaPE8_3 : Array Bool := #[true, true, true, false, false, false, false, false, false, false, false, false, false]
abbrev bqgaaPE8_4 : Array Bool := #[true, true, true, false, false, true, false, false, false, false, false, false, false]
abbrev bqgaaPE8_5 : Array Bool := #[true, true, true, false, false, true, true, false, false, false, false, false, false]
abbrev bqgaaPE8_6 : Array Bool := #[true, true, true, false, false, true, true, true, false, false, false, false, false]
abbrev bqgaaPE8_7 : Array Bool := #[true, true, true, false, false, true, true, true, true, false, false, false, false]
abbrev bqgaaPE8_8 : Array Bool := #[true, true, true, false, false, true, true, true, true, true, false, false, false]
abbrev bqgaaPE8_9 : Array Bool := #[true, true, true, true, false, true, true, true, true, true, false, false, false]
abbrev bqgaaPE8_10 : Array Bool := #[true, true, true, true, true, true, true, true, true, true, false, false, false]
abbrev bqgaaPE8_11 : Array Bool := #[true, true, true, true, true, true, true, true, true, true, true, false, false]
abbrev bqgaaPE8_12 : Array Bool := #[true, true, true, true, true, true, true, true, true, true, true, true, false]
abbrev bqgaaPE8_13 : Array Bool := #[true, true, true, true, true, true, true, true, true, true, true, true, true]
mutual
def wire_Open.j0 : Nat → ByteArray → Int → Int → Bool → Option (Int × ByteArray × Int × Int)
 | 0, _, _, _, _ => none
 | k + 1, x0, x1, x2, x21 => if x21 = true then (some (0, (⟨#[]⟩ : ByteArray), 0, 20)) else (if 0 ≤ x1 then (if x1 ≤ (x0.size : Int) then (if (x0.extract (x1 : Int).toNat x0.size).size ≤ 140737488355328 then ((some (bytesOf (x0.extract (x1 : Int).toNat x0.size) : List Int)).bind fun y190 => ((wire_TakeText.f k y190 1 x2).bind fun bt193 => (if bt193.2.2 = 0 then (wire_Open.j1 k x1 y190 bt193.1 bt193.2.1 (decide ((wrap64 ((y190.length : Int) - bt193.2.1)) < 4))) else (wire_Open.j1 k x1 y190 bt193.1 bt193.2.1 true)))) else (none)) else (none)) else (none))
def wire_Open.j1 : Nat → Int → List Int → ByteArray → Int → Bool → Option (Int × ByteArray × Int × Int)
 | 0, _, _, _, _, _ => none
 | k + 1, x1, x10, x11, x12, x33 => if x33 = true then (some (0, (⟨#[]⟩ : ByteArray), 0, 20)) else (if 0 ≤ x12 then (if x12 ≤ (x10.length : Int) then ((wire_seal.f k (([(x10.take (x12 : Int).toNat)] : List (List Int)))).bind fun t204 => (if x12 ≤ (wrap64 (x12 + 4)) then (if (wrap64 (x12 + 4)) ≤ (x10.length : Int) then ((slices_Equal_byte_byte.f k t204 ((x10.take ((wrap64 (x12 + 4)) : Int).toNat).drop (x12 : Int).toNat)).bind fun t212 => (if t212 = true then (if 0 < (x10.length : Int) then (some (rd x10 0, x11, wrap64 ((wrap64 (x1 + x12)) + 4), 0)) else (none)) else (some (0, (⟨#[]⟩ : ByteArray), 0, 21)))) else (none)) else (none))) else (none)) else (none))
end
def wire_Open.f (k : Nat) (a0 : ByteArray) (a1 : Int) (a2 : Int) : Option (Int × ByteArray × Int × Int) := if a1 < 0 then (wire_Open.j0 k a0 a1 a2 true) else (wire_Open.j0 k a0 a1 a2 (decide (a1 ≥ (a0.size : Int))))
def wire_Open.T7 : Bool × List (List Nat × List Nat) := (true, [([], []), ([], []), ([0, 1], [0, 1]), ([2], [2]), ([3], [3]), ([], []), ([], []), ([], []), ([7], [7]), ([5, 6, 8], [5, 6, 8]), ([4, 9, 4], [4, 9]), ([10], [10]), ([11, 10], [11])])
def wire_Open.B7 : List Nat := [0, 0, 3, 7, 15, 0, 0, 0, 128, 480, 1023, 2047, 4095]
theorem wire_Open.tab7 : rtab .any (opsOf Try.f67 7) = wire_Open.T7 := by kernel_rfl
theorem wire_Open.bits7 : waitsOk wire_Open.T7.2 wire_Open.B7 = true := by kernel_rfl
set_option maxHeartbeats 8000000 in
set_option maxRecDepth 100000 in
theorem wire_Open.calls (k : Nat) (a0 : ByteArray) (a1 : Int) (a2 : Int) (r1 : Int) (r2 : ByteArray) (r3 : Int) (r4 : Int) (w : World) (h : wire_Open.f k a0 a1 a2 = some (r1, r2, r3, r4)) :
 Calls Try.prog 67 #[.string a0, .int .i64 a1, .int .i64 a2] w fun e w' => e = .returned (.tuple #[.int .u8 r1, .string r2, .int .i64 r3, .int .i64 r4]) ∧ Below w.heap.size w w' := by
 have HB := Aside0.mk (Below.refl w.heap.size w)
 have H : (if a1 < 0 then (wire_Open.j0 k a0 a1 a2 true) else (wire_Open.j0 k a0 a1 a2 (decide (a1 ≥ (a0.size : Int))))) = some (r1, r2, r3, r4) := h
 clear h
 have HC4 := Aside0.mk H
 clear H
 go_enter Try.func67, Try.ntmps67
 go_upto_region 1 with (fail)
 go_cut [21] (fun v21 wc => ∃ (kq : Nat) (x21_3 : Bool), v21 = .bool x21_3 ∧ Aside0 (wire_Open.j0 kq a0 a1 a2 x21_3 = some (r1, r2, r3, r4)) ∧ Aside0 (kq ≤ k) ∧ Aside0 (Below w.heap.size w wc))
 case first =>
  have H := HC4.out
  clear HC4
  by_cases c5 : a1 < 0
  · rw [if_pos c5] at H
    have c5b0 : decide (a1 < 0) = true := decide_eq_true c5
    clear c5
    (first | rw [c5b0] | (simp only [i64_w, i32_w]; rw [c5b0]) | skip)
    have H' := Aside0.mk H
    clear H
    go_wp2
    go_meet
    case rel => exact ⟨_, (true), (by first | rfl | (simp; done) | (simp [*]; done)), H', ⟨by first | omega | exact Nat.le_refl _⟩, ⟨by repeat (first | (with_reducible first | exact HB.out | apply below_alloc | apply pw_below_drewN | apply below_drew1) | exact HB.out)⟩⟩
  · rw [if_neg c5] at H
    have c5b0 : decide (a1 < 0) = false := decide_eq_false c5
    clear c5
    (first | rw [c5b0] | (simp only [i64_w, i32_w]; rw [c5b0]) | skip)
    have H' := Aside0.mk H
    clear H
    go_wp2
    go_meet
    case rel => exact ⟨_, (decide (a1 ≥ (a0.size : Int))), (by first | rfl | (simp; done) | (simp [*]; done)), H', ⟨by first | omega | exact Nat.le_refl _⟩, ⟨by repeat (first | (with_reducible first | exact HB.out | apply below_alloc | apply pw_below_drewN | apply below_drew1) | exact HB.out)⟩⟩
 case rest =>
  clear HC4
  try clear p2
  try clear c5
  try clear c5b0
  obtain ⟨kq, x21_3, rfl, HA, HJ3, HB⟩ := hcut
  cases kq with
  | zero => exact absurd HA.out (by simp [wire_Open.j0])
  | succ kj3 =>
   have H := HA.out
   clear HA
   simp only [wire_Open.j0] at H
   by_cases c6 : x21_3 = true
   · subst c6
     have H1 : (some (0, (⟨#[]⟩ : ByteArray), 0, 20)) = some (r1, r2, r3, r4) := by rw [if_pos rfl] at H; exact H
     clear H
     have H := H1
     clear H1
     simp only [Option.some.injEq, Prod.mk.injEq] at H
     obtain ⟨rfl, rfl, rfl, rfl⟩ := H
     go_wp2
     refine bodyPost_ret (results_list (rs := [.tmp 6, .tmp 7, .tmp 8, .tmp 9]) rfl (by simp) (.tmp (.tmp (.tmp (.tmp .nil))))) rfl ?_
     exact ⟨by first | rfl | (simp [errW_none, errW_some] <;> rfl) | (simp [*, errW_none, errW_some] <;> rfl), by repeat (first | (with_reducible first | exact HB.out | apply below_alloc | apply pw_below_drewN | apply below_drew1) | exact HB.out)⟩
   · replace c6 := Bool.eq_false_iff.mpr c6
     subst c6
     have H1 : (if 0 ≤ a1 then (if a1 ≤ (a0.size : Int) then (if (a0.extract (a1 : Int).toNat a0.size).size ≤ 140737488355328 then ((some (bytesOf (a0.extract (a1 : Int).toNat a0.size) : List Int)).bind fun y190 => ((wire_TakeText.f kj3 y190 1 a2).bind fun bt193 => (if bt193.2.2 = 0 then (wire_Open.j1 kj3 a1 y190 bt193.1 bt193.2.1 (decide ((wrap64 ((y190.length : Int) - bt193.2.1)) < 4))) else (wire_Open.j1 kj3 a1 y190 bt193.1 bt193.2.1 true)))) else (none)) else (none)) else (none)) = some (r1, r2, r3, r4) := by rw [if_neg (show ¬ (false = true) by decide)] at H; exact H
     clear H
     have H := H1
     clear H1
     by_cases c7 : 0 ≤ a1
     · rw [if_pos c7] at H
       have c7b0 := eq_true c7
       have c7b1 : decide (0 ≤ a1) = true := decide_eq_true c7
       clear c7
       by_cases c8 : a1 ≤ (a0.size : Int)
       · rw [if_pos c8] at H
         have c8b0 := eq_true c8
         have c8b1 : decide (a1 ≤ (a0.size : Int)) = true := decide_eq_true c8
         clear c8
         by_cases c9 : (a0.extract (a1 : Int).toNat a0.size).size ≤ 140737488355328
         · rw [if_pos c9] at H
           have LMc9 := Aside0.mk c9
           clear c9
           obtain ⟨y190, hy190⟩ : ∃ y_ : List Int, y_ = (bytesOf (a0.extract (a1 : Int).toNat a0.size)) := ⟨_, rfl⟩
           replace H : ((wire_TakeText.f kj3 y190 1 a2).bind fun bt193 => (if bt193.2.2 = 0 then (wire_Open.j1 kj3 a1 y190 bt193.1 bt193.2.1 (decide ((wrap64 ((y190.length : Int) - bt193.2.1)) < 4))) else (wire_Open.j1 kj3 a1 y190 bt193.1 bt193.2.1 true))) = some (r1, r2, r3, r4) := by first | (rw [hy190]; with_reducible exact H) | (have H2_ := (Option.bind_some _ _).symm.trans H; rw [hy190]; with_reducible exact H2_) | (have H2_ := (Option.bind_some _ _).symm.trans H; with_reducible exact H2_) | with_reducible exact H | (rw [hy190]; exact H) | exact H
           have Ny190 := Aside0.mk hy190
           clear hy190
           replace H := Option.bind_eq_some_iff.mp H
           obtain ⟨⟨t193, t194, t195⟩, A100, H⟩ := H
           replace H : (if t195 = 0 then (wire_Open.j1 kj3 a1 y190 t193 t194 (decide ((wrap64 ((y190.length : Int) - t194)) < 4))) else (wire_Open.j1 kj3 a1 y190 t193 t194 true)) = some (r1, r2, r3, r4) := H
           have A10 := Aside0.mk A100
           clear A100
           have HC11 := Aside0.mk H
           clear H
           go_upto_region 5 with (first | (skip; refine Kd.V_conv (w0 := w) w.heap.size rfl (.tmp 24) 9 63 5 rfl Try.underlying9 Try.underlying63 Try.underlying5 (a0.extract (a1 : Int).toNat a0.size) (ok := (fun _ => True)) rfl ?aF ?aB ?aS ?aL ?_; (case aB => exact (by repeat (first | (with_reducible first | exact HB.out | apply below_alloc | apply pw_below_drewN | apply below_drew1) | exact HB.out))); (case aF => exact (fun _ _ => trivial)); (case aS => exact (below_size (by repeat (first | (with_reducible first | exact HB.out | apply below_alloc | apply pw_below_drewN | apply below_drew1) | exact HB.out)))); (case aL => have := LMc9.out; omega); intro v191 w12 ho hb hg hat; rw [← Ny190.out] at ho; have n0_ := Aside0.mk (hb); have n1_ := Aside0.mk (ho); clear HB; have HB := n0_; have HO192 := n1_; clear n0_ n1_; clear ho hb hg hat; obtain ⟨Ao13, co13, eo13⟩ := Kd.V_slice HO192.out; subst eo13) | ((with_reducible refine gate_callee (f := 69) rfl ?_); refine goesL_ (some 29) rfl rfl Try.func69 (by kernel_rfl) rfl #[.slice Ao13 y190.length co13, .int .i64 1, .int .i64 a2] rfl (by (try simp only [List.map_toArray, List.map_cons, List.map_nil]); first | done | rfl | (simp only [List.length_drop, List.length_take]; rfl)) ?_; (with_reducible refine (wire_TakeText.calls kj3 _ _ y190 1 a2 t193 t194 t195 _ ?side1 ?side2 A10.out).mono ?_); (case side1 => repeat (first | exact (Kd.V_reads' HO192.out).2.2 | (with_reducible refine Kd.C_alloc ?_ _) | (with_reducible refine Kd.C_drewN ?_ _) | (with_reducible refine Kd.C_drew ?_))); (case side2 => exact (Kd.V_reads' HO192.out).2.1); rintro e w14 ⟨rfl, hb⟩; refine ⟨_, rfl, ?_⟩; have n0_ := Aside0.mk (Kd.V_below (by (with_reducible repeat (first | apply Kd.V_alloc | apply Kd.V_drewN | apply Kd.V_drew)); exact HO192.out) hb); have n1_ := Aside0.mk (below_step (by repeat (first | (with_reducible first | exact HB.out | apply below_alloc | apply pw_below_drewN | apply below_drew1) | exact HB.out)) hb); clear HO192; clear HB; have HO192 := n0_; have HB := n1_; clear n0_ n1_; (try clear hb); (try clear hb2); (try clear hk); (try clear hi)))
           (try simp only [Act.put, List.setIfInBounds_toArray, List.set_cons_zero, List.set_cons_succ])
           go_cut [33] (fun v33 wc => ∃ (kq : Nat) (x33_10 : Bool), v33 = .bool x33_10 ∧ Aside0 (wire_Open.j1 kq a1 y190 t193 t194 x33_10 = some (r1, r2, r3, r4)) ∧ Aside0 (kq ≤ kj3) ∧ Aside0 (Kd.V (Kd.int .u8) 5 wc w.heap.size (fun _ => True) (.slice Ao13 y190.length co13) y190) ∧ Aside0 (Below w.heap.size w wc))
           case first =>
            have H := HC11.out
            clear HC11
            by_cases c15 : t195 = 0
            rw [if_pos c15] at H
            have c15b0 : (t195 == 0) = true := beq_iff_eq.mpr c15
            have c15b1 : (t195 != 0) = false := bne_eq_false_iff_eq.mpr c15
            clear c15
            (first | rw [c15b0] | (simp only [i64_w, i32_w]; rw [c15b0]) | skip)
            rotate_left
            rw [if_neg c15] at H
            have c15b0 : (t195 == 0) = false := beq_eq_false_iff_ne.mpr c15
            have c15b1 : (t195 != 0) = true := bne_iff_ne.mpr c15
            (first | rw [c15b0] | (simp only [i64_w, i32_w]; rw [c15b0]) | skip)
            rotate_left
            all_goals (
             have H' := Aside0.mk H
             clear H
             go_wp2
             go_meet
             case rel => exact ⟨_, _, (by first | rfl | (simp; done) | (simp [*]; done)), H', ⟨by have := HJ3.out; first | omega | exact Nat.le_refl _⟩, ⟨by (with_reducible repeat (first | apply Kd.V_alloc | apply Kd.V_drewN | apply Kd.V_drew)); exact HO192.out⟩, ⟨by repeat (first | (with_reducible first | exact HB.out | apply below_alloc | apply pw_below_drewN | apply below_drew1) | exact HB.out)⟩⟩
             )
           case rest =>
            clear HC11
            try clear c1
            try clear p2
            try clear c5
            try clear c5b0
            try clear c6
            try clear p6
            try clear c7
            try clear c7b0
            try clear c7b1
            try clear c8
            try clear c8b0
            try clear c8b1
            try clear c9
            try clear c15
            try clear c15b0
            try clear c15b1
            try clear p2
            obtain ⟨kq, x33_10, rfl, HA, HJ10, HO_10, HB⟩ := hcut
            cases kq with
            | zero => exact absurd HA.out (by simp [wire_Open.j1])
            | succ kj10 =>
             have H := HA.out
             clear HA
             simp only [wire_Open.j1] at H
             by_cases c16 : x33_10 = true
             · subst c16
               have H1 : (some (0, (⟨#[]⟩ : ByteArray), 0, 20)) = some (r1, r2, r3, r4) := by rw [if_pos rfl] at H; exact H
               clear H
               have H := H1
               clear H1
               simp only [Option.some.injEq, Prod.mk.injEq] at H
               obtain ⟨rfl, rfl, rfl, rfl⟩ := H
               go_wp2
               refine bodyPost_ret (results_list (rs := [.tmp 6, .tmp 7, .tmp 8, .tmp 9]) rfl (by simp) (.tmp (.tmp (.tmp (.tmp .nil))))) rfl ?_
               exact ⟨by first | rfl | (simp [errW_none, errW_some] <;> rfl) | (simp [*, errW_none, errW_some] <;> rfl), by repeat (first | (with_reducible first | exact HB.out | apply below_alloc | apply pw_below_drewN | apply below_drew1) | exact HB.out)⟩
             · replace c16 := Bool.eq_false_iff.mpr c16
               subst c16
               have H1 : (if 0 ≤ t194 then (if t194 ≤ (y190.length : Int) then ((wire_seal.f kj10 (([(y190.take (t194 : Int).toNat)] : List (List Int)))).bind fun t204 => (if t194 ≤ (wrap64 (t194 + 4)) then (if (wrap64 (t194 + 4)) ≤ (y190.length : Int) then ((slices_Equal_byte_byte.f kj10 t204 ((y190.take ((wrap64 (t194 + 4)) : Int).toNat).drop (t194 : Int).toNat)).bind fun t212 => (if t212 = true then (if 0 < (y190.length : Int) then (some (rd y190 0, t193, wrap64 ((wrap64 (a1 + t194)) + 4), 0)) else (none)) else (some (0, (⟨#[]⟩ : ByteArray), 0, 21)))) else (none)) else (none))) else (none)) else (none)) = some (r1, r2, r3, r4) := by rw [if_neg (show ¬ (false = true) by decide)] at H; exact H
               clear H
               have H := H1
               clear H1
               by_cases c17 : 0 ≤ t194
               · rw [if_pos c17] at H
                 have c17b0 := eq_true c17
                 have c17b1 : decide (0 ≤ t194) = true := decide_eq_true c17
                 clear c17
                 by_cases c18 : t194 ≤ (y190.length : Int)
                 · rw [if_pos c18] at H
                   have c18b0 := eq_true c18
                   have c18b1 : decide (t194 ≤ (y190.length : Int)) = true := decide_eq_true c18
                   clear c18
                   obtain ⟨y196, hy196⟩ : ∃ y_ : List Int, y_ = (y190.take (t194 : Int).toNat) := ⟨_, rfl⟩
                   replace H : ((wire_seal.f kj10 (([y196] : List (List Int)))).bind fun t204 => (if t194 ≤ (wrap64 (t194 + 4)) then (if (wrap64 (t194 + 4)) ≤ (y190.length : Int) then ((slices_Equal_byte_byte.f kj10 t204 ((y190.take ((wrap64 (t194 + 4)) : Int).toNat).drop (t194 : Int).toNat)).bind fun t212 => (if t212 = true then (if 0 < (y190.length : Int) then (some (rd y190 0, t193, wrap64 ((wrap64 (a1 + t194)) + 4), 0)) else (none)) else (some (0, (⟨#[]⟩ : ByteArray), 0, 21)))) else (none)) else (none))) = some (r1, r2, r3, r4) := by first | (rw [hy196]; with_reducible exact H) | (have H2_ := (Option.bind_some _ _).symm.trans H; rw [hy196]; with_reducible exact H2_) | (have H2_ := (Option.bind_some _ _).symm.trans H; with_reducible exact H2_) | with_reducible exact H | (rw [hy196]; exact H) | exact H
                   have Ny196 := Aside0.mk hy196
                   clear hy196
                   obtain ⟨y201, hy201⟩ : ∃ y_ : List (List Int), y_ = (([y196] : List (List Int))) := ⟨_, rfl⟩
                   replace H : ((wire_seal.f kj10 y201).bind fun t204 => (if t194 ≤ (wrap64 (t194 + 4)) then (if (wrap64 (t194 + 4)) ≤ (y190.length : Int) then ((slices_Equal_byte_byte.f kj10 t204 ((y190.take ((wrap64 (t194 + 4)) : Int).toNat).drop (t194 : Int).toNat)).bind fun t212 => (if t212 = true then (if 0 < (y190.length : Int) then (some (rd y190 0, t193, wrap64 ((wrap64 (a1 + t194)) + 4), 0)) else (none)) else (some (0, (⟨#[]⟩ : ByteArray), 0, 21)))) else (none)) else (none))) = some (r1, r2, r3, r4) := by first | (rw [hy201]; with_reducible exact H) | (have H2_ := (Option.bind_some _ _).symm.trans H; rw [hy201]; with_reducible exact H2_) | (have H2_ := (Option.bind_some _ _).symm.trans H; with_reducible exact H2_) | with_reducible exact H | (rw [hy201]; exact H) | exact H
                   have Ny201 := Aside0.mk hy201
                   clear hy201
                   replace H := Option.bind_eq_some_iff.mp H
                   obtain ⟨t204, A190, H⟩ := H
                   replace H : (if t194 ≤ (wrap64 (t194 + 4)) then (if (wrap64 (t194 + 4)) ≤ (y190.length : Int) then ((slices_Equal_byte_byte.f kj10 t204 ((y190.take ((wrap64 (t194 + 4)) : Int).toNat).drop (t194 : Int).toNat)).bind fun t212 => (if t212 = true then (if 0 < (y190.length : Int) then (some (rd y190 0, t193, wrap64 ((wrap64 (a1 + t194)) + 4), 0)) else (none)) else (some (0, (⟨#[]⟩ : ByteArray), 0, 21)))) else (none)) else (none)) = some (r1, r2, r3, r4) := H
                   have A19 := Aside0.mk A190
                   clear A190
                   have c20b0 := eq_true (of_decide_eq_true (by first | (with_reducible assumption) | assumption) : 0 ≤ t194)
                   by_cases c21 : t194 ≤ (wrap64 (t194 + 4))
                   · rw [if_pos c21] at H
                     have c21b0 := eq_true c21
                     have c21b1 : decide (t194 ≤ (wrap64 (t194 + 4))) = true := decide_eq_true c21
                     by_cases c22 : (wrap64 (t194 + 4)) ≤ (y190.length : Int)
                     · rw [if_pos c22] at H
                       have c22b0 := eq_true c22
                       have c22b1 : decide ((wrap64 (t194 + 4)) ≤ (y190.length : Int)) = true := decide_eq_true c22
                       obtain ⟨y207, hy207⟩ : ∃ y_ : List Int, y_ = ((y190.take ((wrap64 (t194 + 4)) : Int).toNat).drop (t194 : Int).toNat) := ⟨_, rfl⟩
                       replace H : ((slices_Equal_byte_byte.f kj10 t204 y207).bind fun t212 => (if t212 = true then (if 0 < (y190.length : Int) then (some (rd y190 0, t193, wrap64 ((wrap64 (a1 + t194)) + 4), 0)) else (none)) else (some (0, (⟨#[]⟩ : ByteArray), 0, 21)))) = some (r1, r2, r3, r4) := by first | (rw [hy207]; with_reducible exact H) | (have H2_ := (Option.bind_some _ _).symm.trans H; rw [hy207]; with_reducible exact H2_) | (have H2_ := (Option.bind_some _ _).symm.trans H; with_reducible exact H2_) | with_reducible exact H | (rw [hy207]; exact H) | exact H
                       have Ny207 := Aside0.mk hy207
                       clear hy207
                       replace H := Option.bind_eq_some_iff.mp H
                       obtain ⟨t212, A230, H⟩ := H
                       replace H : (if t212 = true then (if 0 < (y190.length : Int) then (some (rd y190 0, t193, wrap64 ((wrap64 (a1 + t194)) + 4), 0)) else (none)) else (some (0, (⟨#[]⟩ : ByteArray), 0, 21))) = some (r1, r2, r3, r4) := H
                       have A23 := Aside0.mk A230
                       clear A230
                       by_cases c24 : t212 = true
                       · subst c24
                         have H1 : (if 0 < (y190.length : Int) then (some (rd y190 0, t193, wrap64 ((wrap64 (a1 + t194)) + 4), 0)) else (none)) = some (r1, r2, r3, r4) := by rw [if_pos rfl] at H; exact H
                         clear H
                         have H := H1
                         clear H1
                         by_cases c25 : 0 < (y190.length : Int)
                         · rw [if_pos c25] at H
                           have c25b0 : decide (0 < (y190.length : Int)) = true := decide_eq_true c25
                           have c25b1 : decide (0 < y190.length) = true := decide_eq_true (by omega)
                           clear c25
                           simp only [Option.some.injEq, Prod.mk.injEq] at H
                           obtain ⟨rfl, rfl, rfl, rfl⟩ := H
                           try go_wp2
                           have n0_ := Aside0.mk (Kd.V_drew HO_10.out)
                           have n1_ := Aside0.mk (below_drew1 HB.out)
                           clear HO_10
                           clear HB
                           have HO_10 := n0_
                           have HB := n1_
                           clear n0_ n1_
                           have q27 : (t194 : Int) ≤ ((y190.length : Int) : Int) := of_decide_eq_true (by first | (with_reducible assumption) | assumption)
                           obtain ⟨i027, hi027, _, hsz27, _⟩ := info_parts info5
                           have hroom27 : y190.length ≤ co13 := (Kd.V_reads' HO_10.out).2.1
                           have hC27 : Kd.F (Kd.int .u8) _ _ Ao13 y190.length y190 := (Kd.V_at (base := w.heap.size) HO_10.out).2.2
                           have hcut27 := cut_to (P := Try.prog) 63 5 .i64 Try.underlying63 hi027 Ao13 y190.length co13 t194 (of_decide_eq_true (by first | (with_reducible assumption) | assumption)) q27 hroom27
                           have hr27 := Kd.F_take (m := (t194 : Int).toNat) hC27 (by omega)
                           have hy27 : y196.length = (t194 : Int).toNat := (by rw [Ny196.out, List.length_take]; omega)
                           rw [← Ny196.out] at hr27
                           rw [← hy27] at hcut27
                           have HO200 := Aside0.mk (show Kd.V (Kd.int .u8) 5 _ w.heap.size _ (.slice Ao13 y196.length co13) y196 from Kd.V_mk (by omega) hr27)
                           have HC200 := Aside0.mk (show y196.length ≤ co13 from by omega)
                           clear hr27 hC27 hroom27 hi027 hsz27
                           have KY27 := Aside0.mk hy27
                           clear hy27
                           replace q27 := eq_true q27
                           have q28 : ((wrap64 (t194 + 4)) : Int) ≤ ((y190.length : Int) : Int) := of_decide_eq_true (by first | (with_reducible assumption) | assumption)
                           obtain ⟨i028, hi028, _, hsz28, _⟩ := info_parts info5
                           have hroom28 : y190.length ≤ co13 := (Kd.V_reads' HO_10.out).2.1
                           have hC28 : Kd.F (Kd.int .u8) _ _ Ao13 y190.length y190 := (Kd.V_at (base := w.heap.size) HO_10.out).2.2
                           have ql28 : (t194 : Int) ≤ ((wrap64 (t194 + 4)) : Int) := of_decide_eq_true (by first | (with_reducible assumption) | assumption)
                           have q028 : (0 : Int) ≤ (t194 : Int) := of_decide_eq_true (by first | (with_reducible assumption) | assumption)
                           have hcut28 := cut_mid (P := Try.prog) 63 5 .i64 .i64 Try.underlying63 hi028 1 hsz28 Ao13 y190.length co13 t194 (wrap64 (t194 + 4)) q028 ql28 q28 hroom28
                           have hr28 := Kd.F_mid (lo := (t194 : Int).toNat) (hi := ((wrap64 (t194 + 4)) : Int).toNat) (c := co13) hC28 (by omega) (by omega) hroom28
                           obtain ⟨A28, hA28⟩ : ∃ A1, A1 = (if co13 = (t194 : Int).toNat then Ao13 else (Ao13 : Option Addr).map (·.add ((t194 : Int).toNat * 1))) := ⟨_, rfl⟩
                           obtain ⟨c28, hc28⟩ : ∃ c1, c1 = co13 - (t194 : Int).toNat := ⟨_, rfl⟩
                           have hy28 : y207.length = ((wrap64 (t194 + 4)) : Int).toNat - (t194 : Int).toNat := (by rw [Ny207.out, List.length_drop, List.length_take] <;> omega)
                           rw [show ((y190).take ((wrap64 (t194 + 4)) : Int).toNat).drop (t194 : Int).toNat = y207 from Ny207.out.symm] at hr28
                           replace hr28 : Kd.F (Kd.int .u8) _ _ A28 y207.length y207 := (by rw [hA28]; exact hr28)
                           rw [← hy28, ← hA28, ← hc28] at hcut28
                           have HO211 := Aside0.mk (show Kd.V (Kd.int .u8) 5 _ w.heap.size _ (.slice A28 y207.length c28) y207 from Kd.V_mk (by rw [hy28, hc28]; exact Nat.sub_le_sub_right (Nat.le_trans (by omega) hroom28) _) hr28)
                           have HC211 := Aside0.mk (show y207.length ≤ c28 from by rw [hy28, hc28]; exact Nat.sub_le_sub_right (Nat.le_trans (by omega) hroom28) _)
                           clear hr28 hC28 hroom28 hi028 hsz28 hc28
                           have KY28 := Aside0.mk hy28
                           have KA28 := Aside0.mk hA28
                           clear hy28 hA28
                           replace q28 := eq_true q28
                           refine start_ (n := 13) (S := fun w' => True) (ds := []) bqgaaPE8_0 (by kernel_rfl) rfl rfl trivial (fun hHeld => ?_); refine with_tabW wire_Open.tab7 wire_Open.bits7 (fun HT_ HW_ => ?_)
                           generalize wc.drew = w26 at HO_10 HB HO200 HO211 hHeld ⊢
                           refine pure_ (i := 0) (N := some 44) (v := ?_) (a' := ?_) bqgaaPE8_1 rfl rfl (any_of HT_.out (by kernel_rfl)) (fun _ _ _ h => h) (Or.inl ⟨by rfl, ?_⟩) ?_ ?_
                           rotate_left
                           · intro w'
                             go_simp
                             with_reducible rfl
                           rotate_left
                           · simp only [Act.put, List.setIfInBounds_toArray, List.set_cons_zero, List.set_cons_succ, i64_w, i32_w]
                             rfl
                           refine pure_ (i := 1) (N := some 45) (v := ?_) (a' := ?_) bqgaaPE8_2 rfl rfl (any_of HT_.out (by kernel_rfl)) (fun _ _ _ h => h) (Or.inl ⟨by rfl, ?_⟩) ?_ ?_
                           rotate_left
                           · intro w'
                             go_simp
                             with_reducible rfl
                           rotate_left
                           · simp only [Act.put, List.setIfInBounds_toArray, List.set_cons_zero, List.set_cons_succ, i64_w, i32_w]
                             rfl
                           refine pure_ (i := 2) (N := some 46) (v := ?_) (a' := ?_) bqgaaPE8_3 rfl rfl (any_of HT_.out (by kernel_rfl)) (fun _ _ _ h => h) (Or.inl ⟨by rfl, ?_⟩) ?_ ?_
                           rotate_left
                           · intro w'
                             go_simp
                             with_reducible rfl
                           rotate_left
                           · simp only [Act.put, List.setIfInBounds_toArray, List.set_cons_zero, List.set_cons_succ, i64_w, i32_w]
                             rfl
                           refine pure_ (i := 5) (N := some 49) (v := ?_) (a' := ?_) bqgaaPE8_4 rfl rfl (any_of HT_.out (by kernel_rfl)) (fun _ _ _ h => h) (Or.inl ⟨by rfl, ?_⟩) ?_ ?_
                           rotate_left
                           · intro w'
                             go_simp
                             with_reducible rfl
                           rotate_left
                           · simp only [Act.put, List.setIfInBounds_toArray, List.set_cons_zero, List.set_cons_succ, i64_w, i32_w]
                             rfl
                           refine pure_ (i := 6) (N := some 50) (v := ?_) (a' := ?_) bqgaaPE8_5 rfl rfl (any_of HT_.out (by kernel_rfl)) (fun _ _ _ h => h) (Or.inl ⟨by rfl, ?_⟩) ?_ ?_
                           rotate_left
                           · intro w'
                             go_simp
                             with_reducible rfl
                           rotate_left
                           · simp only [Act.put, List.setIfInBounds_toArray, List.set_cons_zero, List.set_cons_succ, i64_w, i32_w]
                             rfl
                           refine pure_ (i := 7) (N := some 51) (v := ?_) (a' := ?_) bqgaaPE8_6 rfl rfl (any_of HT_.out (by kernel_rfl)) (fun _ _ _ h => h) (Or.inl ⟨by rfl, ?_⟩) ?_ ?_
                           rotate_left
                           · intro w'
                             go_simp
                             with_reducible rfl
                           rotate_left
                           · simp only [Act.put, List.setIfInBounds_toArray, List.set_cons_zero, List.set_cons_succ, i64_w, i32_w]
                             rfl
                           refine pure_ (i := 8) (N := some 52) (v := ?_) (a' := ?_) bqgaaPE8_7 rfl rfl (any_of HT_.out (by kernel_rfl)) (fun _ _ _ h => h) (Or.inl ⟨by rfl, ?_⟩) ?_ ?_
                           rotate_left
                           · intro w'
                             go_simp
                             with_reducible rfl
                           rotate_left
                           · simp only [Act.put, List.setIfInBounds_toArray, List.set_cons_zero, List.set_cons_succ, i64_w, i32_w]
                             rfl
                           refine pure_ (i := 9) (N := some 53) (v := ?_) (a' := ?_) bqgaaPE8_8 rfl rfl (any_of HT_.out (by kernel_rfl)) (fun _ _ _ h => h) (Or.inl ⟨by rfl, ?_⟩) ?_ ?_
                           rotate_left
                           · intro w'
                             go_simp
                             with_reducible rfl
                           rotate_left
                           · simp only [Act.put, List.setIfInBounds_toArray, List.set_cons_zero, List.set_cons_succ, i64_w, i32_w]
                             rfl
                           refine one_ (i := 3) (N := some 47) bqgaaPE8_9 rfl rfl (_root_.Go.Proofs.YtenbkljgmgdegaaW.PrintLast.one_of HT_.out (by kernel_rfl)) (by decide) (fun K hK => ?_)
                           refine Kd.N_lit_step (Kd.slice 5 (Kd.int .u8)) _ 63 ?hg (N' := 47) ?hd (xs := ([y196] : List (List Int))) (inner := [.slice Ao13 y196.length co13]) (ok := (fun _ => True)) (okp := (fun _ => True)) ?hr ?hp (fun _ hk => hk) ((show ∀ k_, w26.heap.size ≤ k_ → (fun _ => True) k_ from fun k_ hk => trivial) _ (Nat.le_refl _)) (Below.refl _ _) (Nat.le_refl _) (by simp) ?_; (case hd => rfl); (case hg => rfl); (case hr => first | (go_simp; done) | (go_simp; rfl)); (case hp => exact (Reps.one (show Kd.FK (Kd.slice 5 (Kd.int .u8)) _ _ y196 [.slice Ao13 y196.length co13] from (Kd.FK_slice_mk (Kd.V_reads' (Kd.V_mono (ok' := (fun _ => True)) (HO200.out) (fun k_ hk => trivial))).2.1 (Kd.V_F (Kd.V_mono (ok' := (fun _ => True)) (HO200.out) (fun k_ hk => trivial))))) (Reps.none _ _)))
                           intro v202 w29 ho30 hb hg_ hnew_
                           clear hg_ hnew_
                           (first | rw [← Ny201.out] at ho30 | (simp only [Int.reduceToNat] at ho30; rw [← Ny201.out] at ho30))
                           have n0_ := Aside0.mk (Kd.V_elder' (by (with_reducible repeat (first | apply Kd.V_alloc | apply Kd.V_drewN | apply Kd.V_drew)); exact HO_10.out) (Kd.N_base ho30) hb)
                           have n1_ := Aside0.mk (Kd.V_elder' (by (with_reducible repeat (first | apply Kd.V_alloc | apply Kd.V_drewN | apply Kd.V_drew)); exact HO200.out) (Kd.N_base ho30) hb)
                           have n2_ := Aside0.mk (Kd.V_elder' (by (with_reducible repeat (first | apply Kd.V_alloc | apply Kd.V_drewN | apply Kd.V_drew)); exact HO211.out) (Kd.N_base ho30) hb)
                           have n3_ := Aside0.mk (Kd.N_lower ho30 (below_size (by repeat (first | (with_reducible first | exact HB.out | apply below_alloc | apply pw_below_drewN | apply below_drew1) | exact HB.out))))
                           have n4_ := Aside0.mk (below_step (by repeat (first | (with_reducible first | exact HB.out | apply below_alloc | apply pw_below_drewN | apply below_drew1) | exact HB.out)) hb)
                           clear HO_10
                           clear HO200
                           clear HO211
                           clear HB
                           have HO_10 := n0_
                           have HO200 := n1_
                           have HO211 := n2_
                           have HO203 := n3_
                           have HB := n4_
                           clear n0_ n1_ n2_ n3_ n4_
                           clear hb ho30
                           obtain ⟨Ao31, co31, eo31⟩ := Kd.N_slice HO203.out
                           (first | subst eo31 | (injection eo31 with f1_ f2_ f3_; have f4_ := f1_.symm; have f5_ := f3_.symm; clear f1_ f2_ f3_; subst f4_; subst f5_))
                           refine hK.out _ _ trivial (fun hHeld => ?_)
                           clear hK K
                           refine norm_ (a' := ?_) ?_ ?_
                           rotate_left
                           · show Act.put _ (some 47) _ = _
                             simp only [Act.put, List.setIfInBounds_toArray, List.set_cons_zero, List.set_cons_succ, i64_w, i32_w]
                             rfl
                           refine one_ (i := 4) (N := some 48) bqgaaPE8_10 rfl rfl (_root_.Go.Proofs.YtenbkljgmgdegaaW.PrintLast.one_of HT_.out (by kernel_rfl)) (by decide) (fun K hK => ?_)
                           refine goes_ Try.func113 (by kernel_rfl) rfl #[.slice Ao31 y201.length co31] (by rfl) rfl rfl (by (try simp only [List.map_toArray, List.map_cons, List.map_nil]); first | done | rfl | (simp only [List.length_drop, List.length_take]; rfl)) ?_
                           with_reducible refine (wire_seal.calls kj10 _ _ y201 t204 _ ?side1 ?side2 A19.out).mono ?_
                           (case side1 => repeat (first | exact (Kd.N_reads' HO203.out).2.2 | (with_reducible refine Kd.C_alloc ?_ _) | (with_reducible refine Kd.C_drewN ?_ _) | (with_reducible refine Kd.C_drew ?_)))
                           (case side2 => exact (Kd.N_reads' HO203.out).2.1)
                           rintro e w32 ⟨v205, rfl, ho0, hb⟩
                           refine ⟨_, rfl, ?_⟩
                           have n0_ := Aside0.mk (Kd.V_elder' (by (with_reducible repeat (first | apply Kd.V_alloc | apply Kd.V_drewN | apply Kd.V_drew)); exact HO_10.out) (Kd.R_base ho0) hb)
                           have n1_ := Aside0.mk (Kd.V_elder' (by (with_reducible repeat (first | apply Kd.V_alloc | apply Kd.V_drewN | apply Kd.V_drew)); exact HO200.out) (Kd.R_base ho0) hb)
                           have n2_ := Aside0.mk (Kd.V_elder' (by (with_reducible repeat (first | apply Kd.V_alloc | apply Kd.V_drewN | apply Kd.V_drew)); exact HO211.out) (Kd.R_base ho0) hb)
                           have n3_ := Aside0.mk (Kd.N_elder' (by (with_reducible repeat (first | apply Kd.N_alloc | apply Kd.N_drewN | apply Kd.N_drew)); exact HO203.out) (Kd.R_base ho0) hb)
                           have n4_ := Aside0.mk (Kd.R_lower ho0 (below_size (by repeat (first | (with_reducible first | exact HB.out | apply below_alloc | apply pw_below_drewN | apply below_drew1) | exact HB.out))))
                           have n5_ := Aside0.mk (below_step (by repeat (first | (with_reducible first | exact HB.out | apply below_alloc | apply pw_below_drewN | apply below_drew1) | exact HB.out)) hb)
                           clear HO_10
                           clear HO200
                           clear HO211
                           clear HO203
                           clear HB
                           have HO_10 := n0_
                           have HO200 := n1_
                           have HO211 := n2_
                           have HO203 := n3_
                           have HO206 := n4_
                           have HB := n5_
                           clear n0_ n1_ n2_ n3_ n4_ n5_
                           (try clear hb)
                           (try clear hb2)
                           (try clear hk)
                           (try clear hi)
                           (try clear ho0)
                           obtain ⟨Ao33, co33, eo33⟩ := Kd.R_slice HO206.out
                           (first | subst eo33 | (injection eo33 with f1_ f2_ f3_; have f4_ := f1_.symm; have f5_ := f3_.symm; clear f1_ f2_ f3_; subst f4_; subst f5_))
                           refine hK.out _ _ trivial (fun hHeld => ?_)
                           clear hK K
                           refine norm_ (a' := ?_) ?_ ?_
                           rotate_left
                           · show Act.put _ (some 48) _ = _
                             simp only [Act.put, List.setIfInBounds_toArray, List.set_cons_zero, List.set_cons_succ, i64_w, i32_w]
                             rfl
                           refine one_ (i := 10) (N := some 54) bqgaaPE8_11 rfl rfl (_root_.Go.Proofs.YtenbkljgmgdegaaW.PrintLast.one_of HT_.out (by kernel_rfl)) (by decide) (fun K hK => ?_)
                           refine goes_ Try.func112 (by kernel_rfl) rfl #[.slice Ao33 t204.length co33, .slice A28 y207.length c28] (by rfl) rfl rfl (by (try simp only [List.map_toArray, List.map_cons, List.map_nil]); first | done | rfl | (simp only [List.length_drop, List.length_take]; rfl)) ?_
                           with_reducible refine (slices_Equal_byte_byte.calls kj10 _ _ t204 _ _ y207 true _ ?side1 ?side2 ?side3 ?side4 A23.out).mono ?_
                           (case side1 => repeat (first | exact (Kd.R_reads' HO206.out).2.2 | (with_reducible refine Kd.C_alloc ?_ _) | (with_reducible refine Kd.C_drewN ?_ _) | (with_reducible refine Kd.C_drew ?_)))
                           (case side2 => exact (Kd.R_reads' HO206.out).2.1)
                           (case side3 => repeat (first | exact (Kd.V_reads' HO211.out).2.2 | (with_reducible refine Kd.C_alloc ?_ _) | (with_reducible refine Kd.C_drewN ?_ _) | (with_reducible refine Kd.C_drew ?_)))
                           (case side4 => exact (Kd.V_reads' HO211.out).2.1)
                           rintro e w' ⟨rfl, ⟨nd, rfl⟩⟩
                           refine ⟨_, rfl, ?_⟩
                           refine hK.out _ _ trivial (fun hHeld => ?_)
                           clear hK K
                           refine norm_ (a' := ?_) ?_ ?_
                           rotate_left
                           · show Act.put _ (some 54) _ = _
                             simp only [Act.put, List.setIfInBounds_toArray, List.set_cons_zero, List.set_cons_succ, i64_w, i32_w]
                             rfl
                           refine pure_ (i := 11) (N := some 55) (v := ?_) (a' := ?_) bqgaaPE8_12 rfl rfl (any_of HT_.out (by kernel_rfl)) (fun _ _ _ h => h) (Or.inl ⟨by rfl, ?_⟩) ?_ ?_
                           rotate_left
                           · intro w'
                             go_simp
                             with_reducible rfl
                           rotate_left
                           · simp only [Act.put, List.setIfInBounds_toArray, List.set_cons_zero, List.set_cons_succ, i64_w, i32_w]
                             rfl
                           refine pure_ (i := 12) (N := some 43) (v := ?_) (a' := ?_) bqgaaPE8_13 rfl rfl (any_of HT_.out (by kernel_rfl)) (fun _ _ _ h => h) (Or.inl ⟨by rfl, ?_⟩) ?_ ?_
                           rotate_left
                           · intro w'
                             go_simp
                             with_reducible rfl
                           rotate_left
                           · simp only [Act.put, List.setIfInBounds_toArray, List.set_cons_zero, List.set_cons_succ, i64_w, i32_w]
                             rfl
                           refine done_ (done_of HT_.out (by kernel_rfl)) ?_
                           have p213 : 0 ≤ (0 : Int) := (by omega)
                           have q213 : 0 < (y190.length : Int) := of_decide_eq_true (by first | (with_reducible assumption) | assumption)
                           obtain ⟨ad213, e213, hx213_0⟩ := Kd.at_int (Kd.V_reads' HO_10.out).2.2 0 p213 q213
                           cases e213
                           have qi213 : (0 < y190.length) = True := eq_true (by omega)
                           (try rw [show ((0 : Int)).toNat = 0 from rfl] at hx213_0)
                           (try rw [Addr.add_zero'] at hx213_0)
                           replace p213 := eq_true p213
                           replace q213 := eq_true q213
                           try go_wp2
                           refine bodyPost_ret (results_list (rs := [.tmp 6, .tmp 7, .tmp 8, .tmp 9]) rfl (by simp) (.tmp (.tmp (.tmp (.tmp .nil))))) rfl ?_
                           exact ⟨by first | rfl | (simp [errW_none, errW_some] <;> rfl) | (simp [*, errW_none, errW_some] <;> rfl), by repeat (first | (with_reducible first | exact HB.out | apply below_alloc | apply pw_below_drewN | apply below_drew1) | exact HB.out)⟩
                         · rw [if_neg c25] at H
                           exact absurd H (by simp)
                       · replace c24 := Bool.eq_false_iff.mpr c24
                         subst c24
                         have H1 : (some (0, (⟨#[]⟩ : ByteArray), 0, 21)) = some (r1, r2, r3, r4) := by rw [if_neg (show ¬ (false = true) by decide)] at H; exact H
                         clear H
                         have H := H1
                         clear H1
                         simp only [Option.some.injEq, Prod.mk.injEq] at H
                         obtain ⟨rfl, rfl, rfl, rfl⟩ := H
                         try go_wp2
                         have n0_ := Aside0.mk (Kd.V_drew HO_10.out)
                         have n1_ := Aside0.mk (below_drew1 HB.out)
                         clear HO_10
                         clear HB
                         have HO_10 := n0_
                         have HB := n1_
                         clear n0_ n1_
                         have q35 : (t194 : Int) ≤ ((y190.length : Int) : Int) := of_decide_eq_true (by first | (with_reducible assumption) | assumption)
                         obtain ⟨i035, hi035, _, hsz35, _⟩ := info_parts info5
                         have hroom35 : y190.length ≤ co13 := (Kd.V_reads' HO_10.out).2.1
                         have hC35 : Kd.F (Kd.int .u8) _ _ Ao13 y190.length y190 := (Kd.V_at (base := w.heap.size) HO_10.out).2.2
                         have hcut35 := cut_to (P := Try.prog) 63 5 .i64 Try.underlying63 hi035 Ao13 y190.length co13 t194 (of_decide_eq_true (by first | (with_reducible assumption) | assumption)) q35 hroom35
                         have hr35 := Kd.F_take (m := (t194 : Int).toNat) hC35 (by omega)
                         have hy35 : y196.length = (t194 : Int).toNat := (by rw [Ny196.out, List.length_take]; omega)
                         rw [← Ny196.out] at hr35
                         rw [← hy35] at hcut35
                         have HO200 := Aside0.mk (show Kd.V (Kd.int .u8) 5 _ w.heap.size _ (.slice Ao13 y196.length co13) y196 from Kd.V_mk (by omega) hr35)
                         have HC200 := Aside0.mk (show y196.length ≤ co13 from by omega)
                         clear hr35 hC35 hroom35 hi035 hsz35
                         have KY35 := Aside0.mk hy35
                         clear hy35
                         replace q35 := eq_true q35
                         have q36 : ((wrap64 (t194 + 4)) : Int) ≤ ((y190.length : Int) : Int) := of_decide_eq_true (by first | (with_reducible assumption) | assumption)
                         obtain ⟨i036, hi036, _, hsz36, _⟩ := info_parts info5
                         have hroom36 : y190.length ≤ co13 := (Kd.V_reads' HO_10.out).2.1
                         have hC36 : Kd.F (Kd.int .u8) _ _ Ao13 y190.length y190 := (Kd.V_at (base := w.heap.size) HO_10.out).2.2
                         have ql36 : (t194 : Int) ≤ ((wrap64 (t194 + 4)) : Int) := of_decide_eq_true (by first | (with_reducible assumption) | assumption)
                         have q036 : (0 : Int) ≤ (t194 : Int) := of_decide_eq_true (by first | (with_reducible assumption) | assumption)
                         have hcut36 := cut_mid (P := Try.prog) 63 5 .i64 .i64 Try.underlying63 hi036 1 hsz36 Ao13 y190.length co13 t194 (wrap64 (t194 + 4)) q036 ql36 q36 hroom36
                         have hr36 := Kd.F_mid (lo := (t194 : Int).toNat) (hi := ((wrap64 (t194 + 4)) : Int).toNat) (c := co13) hC36 (by omega) (by omega) hroom36
                         obtain ⟨A36, hA36⟩ : ∃ A1, A1 = (if co13 = (t194 : Int).toNat then Ao13 else (Ao13 : Option Addr).map (·.add ((t194 : Int).toNat * 1))) := ⟨_, rfl⟩
                         obtain ⟨c36, hc36⟩ : ∃ c1, c1 = co13 - (t194 : Int).toNat := ⟨_, rfl⟩
                         have hy36 : y207.length = ((wrap64 (t194 + 4)) : Int).toNat - (t194 : Int).toNat := (by rw [Ny207.out, List.length_drop, List.length_take] <;> omega)
                         rw [show ((y190).take ((wrap64 (t194 + 4)) : Int).toNat).drop (t194 : Int).toNat = y207 from Ny207.out.symm] at hr36
                         replace hr36 : Kd.F (Kd.int .u8) _ _ A36 y207.length y207 := (by rw [hA36]; exact hr36)
                         rw [← hy36, ← hA36, ← hc36] at hcut36
                         have HO211 := Aside0.mk (show Kd.V (Kd.int .u8) 5 _ w.heap.size _ (.slice A36 y207.length c36) y207 from Kd.V_mk (by rw [hy36, hc36]; exact Nat.sub_le_sub_right (Nat.le_trans (by omega) hroom36) _) hr36)
                         have HC211 := Aside0.mk (show y207.length ≤ c36 from by rw [hy36, hc36]; exact Nat.sub_le_sub_right (Nat.le_trans (by omega) hroom36) _)
                         clear hr36 hC36 hroom36 hi036 hsz36 hc36
                         have KY36 := Aside0.mk hy36
                         have KA36 := Aside0.mk hA36
                         clear hy36 hA36
                         replace q36 := eq_true q36
                         refine start_ (n := 13) (S := fun w' => True) (ds := []) bqgaaPE8_0 (by kernel_rfl) rfl rfl trivial (fun hHeld => ?_); refine with_tabW wire_Open.tab7 wire_Open.bits7 (fun HT_ HW_ => ?_)
                         generalize wc.drew = w34 at HO_10 HB HO200 HO211 hHeld ⊢
                         refine pure_ (i := 0) (N := some 44) (v := ?_) (a' := ?_) bqgaaPE8_1 rfl rfl (any_of HT_.out (by kernel_rfl)) (fun _ _ _ h => h) (Or.inl ⟨by rfl, ?_⟩) ?_ ?_
                         rotate_left
                         · intro w'
                           go_simp
                           with_reducible rfl
                         rotate_left
                         · simp only [Act.put, List.setIfInBounds_toArray, List.set_cons_zero, List.set_cons_succ, i64_w, i32_w]
                           rfl
                         refine pure_ (i := 1) (N := some 45) (v := ?_) (a' := ?_) bqgaaPE8_2 rfl rfl (any_of HT_.out (by kernel_rfl)) (fun _ _ _ h => h) (Or.inl ⟨by rfl, ?_⟩) ?_ ?_
                         rotate_left
                         · intro w'
                           go_simp
                           with_reducible rfl
                         rotate_left
                         · simp only [Act.put, List.setIfInBounds_toArray, List.set_cons_zero, List.set_cons_succ, i64_w, i32_w]
                           rfl
                         refine pure_ (i := 2) (N := some 46) (v := ?_) (a' := ?_) bqgaaPE8_3 rfl rfl (any_of HT_.out (by kernel_rfl)) (fun _ _ _ h => h) (Or.inl ⟨by rfl, ?_⟩) ?_ ?_
                         rotate_left
                         · intro w'
                           go_simp
                           with_reducible rfl
                         rotate_left
                         · simp only [Act.put, List.setIfInBounds_toArray, List.set_cons_zero, List.set_cons_succ, i64_w, i32_w]
                           rfl
                         refine pure_ (i := 5) (N := some 49) (v := ?_) (a' := ?_) bqgaaPE8_4 rfl rfl (any_of HT_.out (by kernel_rfl)) (fun _ _ _ h => h) (Or.inl ⟨by rfl, ?_⟩) ?_ ?_
                         rotate_left
                         · intro w'
                           go_simp
                           with_reducible rfl
                         rotate_left
                         · simp only [Act.put, List.setIfInBounds_toArray, List.set_cons_zero, List.set_cons_succ, i64_w, i32_w]
                           rfl
                         refine pure_ (i := 6) (N := some 50) (v := ?_) (a' := ?_) bqgaaPE8_5 rfl rfl (any_of HT_.out (by kernel_rfl)) (fun _ _ _ h => h) (Or.inl ⟨by rfl, ?_⟩) ?_ ?_
                         rotate_left
                         · intro w'
                           go_simp
                           with_reducible rfl
                         rotate_left
                         · simp only [Act.put, List.setIfInBounds_toArray, List.set_cons_zero, List.set_cons_succ, i64_w, i32_w]
                           rfl
                         refine pure_ (i := 7) (N := some 51) (v := ?_) (a' := ?_) bqgaaPE8_6 rfl rfl (any_of HT_.out (by kernel_rfl)) (fun _ _ _ h => h) (Or.inl ⟨by rfl, ?_⟩) ?_ ?_
                         rotate_left
                         · intro w'
                           go_simp
                           with_reducible rfl
                         rotate_left
                         · simp only [Act.put, List.setIfInBounds_toArray, List.set_cons_zero, List.set_cons_succ, i64_w, i32_w]
                           rfl
                         refine pure_ (i := 8) (N := some 52) (v := ?_) (a' := ?_) bqgaaPE8_7 rfl rfl (any_of HT_.out (by kernel_rfl)) (fun _ _ _ h => h) (Or.inl ⟨by rfl, ?_⟩) ?_ ?_
                         rotate_left
                         · intro w'
                           go_simp
                           with_reducible rfl
                         rotate_left
                         · simp only [Act.put, List.setIfInBounds_toArray, List.set_cons_zero, List.set_cons_succ, i64_w, i32_w]
                           rfl
                         refine pure_ (i := 9) (N := some 53) (v := ?_) (a' := ?_) bqgaaPE8_8 rfl rfl (any_of HT_.out (by kernel_rfl)) (fun _ _ _ h => h) (Or.inl ⟨by rfl, ?_⟩) ?_ ?_
                         rotate_left
                         · intro w'
                           go_simp
                           with_reducible rfl
                         rotate_left
                         · simp only [Act.put, List.setIfInBounds_toArray, List.set_cons_zero, List.set_cons_succ, i64_w, i32_w]
                           rfl
                         refine one_ (i := 3) (N := some 47) bqgaaPE8_9 rfl rfl (_root_.Go.Proofs.YtenbkljgmgdegaaW.PrintLast.one_of HT_.out (by kernel_rfl)) (by decide) (fun K hK => ?_)
                         refine Kd.N_lit_step (Kd.slice 5 (Kd.int .u8)) _ 63 ?hg (N' := 47) ?hd (xs := ([y196] : List (List Int))) (inner := [.slice Ao13 y196.length co13]) (ok := (fun _ => True)) (okp := (fun _ => True)) ?hr ?hp (fun _ hk => hk) ((show ∀ k_, w34.heap.size ≤ k_ → (fun _ => True) k_ from fun k_ hk => trivial) _ (Nat.le_refl _)) (Below.refl _ _) (Nat.le_refl _) (by simp) ?_; (case hd => rfl); (case hg => rfl); (case hr => first | (go_simp; done) | (go_simp; rfl)); (case hp => exact (Reps.one (show Kd.FK (Kd.slice 5 (Kd.int .u8)) _ _ y196 [.slice Ao13 y196.length co13] from (Kd.FK_slice_mk (Kd.V_reads' (Kd.V_mono (ok' := (fun _ => True)) (HO200.out) (fun k_ hk => trivial))).2.1 (Kd.V_F (Kd.V_mono (ok' := (fun _ => True)) (HO200.out) (fun k_ hk => trivial))))) (Reps.none _ _)))
                         intro v202 w37 ho38 hb hg_ hnew_
                         clear hg_ hnew_
                         (first | rw [← Ny201.out] at ho38 | (simp only [Int.reduceToNat] at ho38; rw [← Ny201.out] at ho38))
                         have n0_ := Aside0.mk (Kd.V_elder' (by (with_reducible repeat (first | apply Kd.V_alloc | apply Kd.V_drewN | apply Kd.V_drew)); exact HO_10.out) (Kd.N_base ho38) hb)
                         have n1_ := Aside0.mk (Kd.V_elder' (by (with_reducible repeat (first | apply Kd.V_alloc | apply Kd.V_drewN | apply Kd.V_drew)); exact HO200.out) (Kd.N_base ho38) hb)
                         have n2_ := Aside0.mk (Kd.V_elder' (by (with_reducible repeat (first | apply Kd.V_alloc | apply Kd.V_drewN | apply Kd.V_drew)); exact HO211.out) (Kd.N_base ho38) hb)
                         have n3_ := Aside0.mk (Kd.N_lower ho38 (below_size (by repeat (first | (with_reducible first | exact HB.out | apply below_alloc | apply pw_below_drewN | apply below_drew1) | exact HB.out))))
                         have n4_ := Aside0.mk (below_step (by repeat (first | (with_reducible first | exact HB.out | apply below_alloc | apply pw_below_drewN | apply below_drew1) | exact HB.out)) hb)
                         clear HO_10
                         clear HO200
                         clear HO211
                         clear HB
                         have HO_10 := n0_
                         have HO200 := n1_
                         have HO211 := n2_
                         have HO203 := n3_
                         have HB := n4_
                         clear n0_ n1_ n2_ n3_ n4_
                         clear hb ho38
                         obtain ⟨Ao39, co39, eo39⟩ := Kd.N_slice HO203.out
                         (first | subst eo39 | (injection eo39 with f1_ f2_ f3_; have f4_ := f1_.symm; have f5_ := f3_.symm; clear f1_ f2_ f3_; subst f4_; subst f5_))
                         refine hK.out _ _ trivial (fun hHeld => ?_)
                         clear hK K
                         refine norm_ (a' := ?_) ?_ ?_
                         rotate_left
                         · show Act.put _ (some 47) _ = _
                           simp only [Act.put, List.setIfInBounds_toArray, List.set_cons_zero, List.set_cons_succ, i64_w, i32_w]
                           rfl
                         refine one_ (i := 4) (N := some 48) bqgaaPE8_10 rfl rfl (_root_.Go.Proofs.YtenbkljgmgdegaaW.PrintLast.one_of HT_.out (by kernel_rfl)) (by decide) (fun K hK => ?_)
                         refine goes_ Try.func113 (by kernel_rfl) rfl #[.slice Ao39 y201.length co39] (by rfl) rfl rfl (by (try simp only [List.map_toArray, List.map_cons, List.map_nil]); first | done | rfl | (simp only [List.length_drop, List.length_take]; rfl)) ?_
                         with_reducible refine (wire_seal.calls kj10 _ _ y201 t204 _ ?side1 ?side2 A19.out).mono ?_
                         (case side1 => repeat (first | exact (Kd.N_reads' HO203.out).2.2 | (with_reducible refine Kd.C_alloc ?_ _) | (with_reducible refine Kd.C_drewN ?_ _) | (with_reducible refine Kd.C_drew ?_)))
                         (case side2 => exact (Kd.N_reads' HO203.out).2.1)
                         rintro e w40 ⟨v205, rfl, ho0, hb⟩
                         refine ⟨_, rfl, ?_⟩
                         have n0_ := Aside0.mk (Kd.V_elder' (by (with_reducible repeat (first | apply Kd.V_alloc | apply Kd.V_drewN | apply Kd.V_drew)); exact HO_10.out) (Kd.R_base ho0) hb)
                         have n1_ := Aside0.mk (Kd.V_elder' (by (with_reducible repeat (first | apply Kd.V_alloc | apply Kd.V_drewN | apply Kd.V_drew)); exact HO200.out) (Kd.R_base ho0) hb)
                         have n2_ := Aside0.mk (Kd.V_elder' (by (with_reducible repeat (first | apply Kd.V_alloc | apply Kd.V_drewN | apply Kd.V_drew)); exact HO211.out) (Kd.R_base ho0) hb)
                         have n3_ := Aside0.mk (Kd.N_elder' (by (with_reducible repeat (first | apply Kd.N_alloc | apply Kd.N_drewN | apply Kd.N_drew)); exact HO203.out) (Kd.R_base ho0) hb)
                         have n4_ := Aside0.mk (Kd.R_lower ho0 (below_size (by repeat (first | (with_reducible first | exact HB.out | apply below_alloc | apply pw_below_drewN | apply below_drew1) | exact HB.out))))
                         have n5_ := Aside0.mk (below_step (by repeat (first | (with_reducible first | exact HB.out | apply below_alloc | apply pw_below_drewN | apply below_drew1) | exact HB.out)) hb)
                         clear HO_10
                         clear HO200
                         clear HO211
                         clear HO203
                         clear HB
                         have HO_10 := n0_
                         have HO200 := n1_
                         have HO211 := n2_
                         have HO203 := n3_
                         have HO206 := n4_
                         have HB := n5_
                         clear n0_ n1_ n2_ n3_ n4_ n5_
                         (try clear hb)
                         (try clear hb2)
                         (try clear hk)
                         (try clear hi)
                         (try clear ho0)
                         obtain ⟨Ao41, co41, eo41⟩ := Kd.R_slice HO206.out
                         (first | subst eo41 | (injection eo41 with f1_ f2_ f3_; have f4_ := f1_.symm; have f5_ := f3_.symm; clear f1_ f2_ f3_; subst f4_; subst f5_))
                         refine hK.out _ _ trivial (fun hHeld => ?_)
                         clear hK K
                         refine norm_ (a' := ?_) ?_ ?_
                         rotate_left
                         · show Act.put _ (some 48) _ = _
                           simp only [Act.put, List.setIfInBounds_toArray, List.set_cons_zero, List.set_cons_succ, i64_w, i32_w]
                           rfl
                         refine one_ (i := 10) (N := some 54) bqgaaPE8_11 rfl rfl (_root_.Go.Proofs.YtenbkljgmgdegaaW.PrintLast.one_of HT_.out (by kernel_rfl)) (by decide) (fun K hK => ?_)
                         refine goes_ Try.func112 (by kernel_rfl) rfl #[.slice Ao41 t204.length co41, .slice A36 y207.length c36] (by rfl) rfl rfl (by (try simp only [List.map_toArray, List.map_cons, List.map_nil]); first | done | rfl | (simp only [List.length_drop, List.length_take]; rfl)) ?_
                         with_reducible refine (slices_Equal_byte_byte.calls kj10 _ _ t204 _ _ y207 false _ ?side1 ?side2 ?side3 ?side4 A23.out).mono ?_
                         (case side1 => repeat (first | exact (Kd.R_reads' HO206.out).2.2 | (with_reducible refine Kd.C_alloc ?_ _) | (with_reducible refine Kd.C_drewN ?_ _) | (with_reducible refine Kd.C_drew ?_)))
                         (case side2 => exact (Kd.R_reads' HO206.out).2.1)
                         (case side3 => repeat (first | exact (Kd.V_reads' HO211.out).2.2 | (with_reducible refine Kd.C_alloc ?_ _) | (with_reducible refine Kd.C_drewN ?_ _) | (with_reducible refine Kd.C_drew ?_)))
                         (case side4 => exact (Kd.V_reads' HO211.out).2.1)
                         rintro e w' ⟨rfl, ⟨nd, rfl⟩⟩
                         refine ⟨_, rfl, ?_⟩
                         refine hK.out _ _ trivial (fun hHeld => ?_)
                         clear hK K
                         refine norm_ (a' := ?_) ?_ ?_
                         rotate_left
                         · show Act.put _ (some 54) _ = _
                           simp only [Act.put, List.setIfInBounds_toArray, List.set_cons_zero, List.set_cons_succ, i64_w, i32_w]
                           rfl
                         refine pure_ (i := 11) (N := some 55) (v := ?_) (a' := ?_) bqgaaPE8_12 rfl rfl (any_of HT_.out (by kernel_rfl)) (fun _ _ _ h => h) (Or.inl ⟨by rfl, ?_⟩) ?_ ?_
                         rotate_left
                         · intro w'
                           go_simp
                           with_reducible rfl
                         rotate_left
                         · simp only [Act.put, List.setIfInBounds_toArray, List.set_cons_zero, List.set_cons_succ, i64_w, i32_w]
                           rfl
                         refine pure_ (i := 12) (N := some 43) (v := ?_) (a' := ?_) bqgaaPE8_13 rfl rfl (any_of HT_.out (by kernel_rfl)) (fun _ _ _ h => h) (Or.inl ⟨by rfl, ?_⟩) ?_ ?_
                         rotate_left
                         · intro w'
                           go_simp
                           with_reducible rfl
                         rotate_left
                         · simp only [Act.put, List.setIfInBounds_toArray, List.set_cons_zero, List.set_cons_succ, i64_w, i32_w]
                           rfl
                         refine done_ (done_of HT_.out (by kernel_rfl)) ?_
                         try go_wp2
                         refine bodyPost_ret (results_list (rs := [.tmp 6, .tmp 7, .tmp 8, .tmp 9]) rfl (by simp) (.tmp (.tmp (.tmp (.tmp .nil))))) rfl ?_
                         exact ⟨by first | rfl | (simp [errW_none, errW_some] <;> rfl) | (simp [*, errW_none, errW_some] <;> rfl), by repeat (first | (with_reducible first | exact HB.out | apply below_alloc | apply pw_below_drewN | apply below_drew1) | exact HB.out)⟩
                     · rw [if_neg c22] at H
                       exact absurd H (by simp)
                   · rw [if_neg c21] at H
                     exact absurd H (by simp)
                 · rw [if_neg c18] at H
                   exact absurd H (by simp)
               · rw [if_neg c17] at H
                 exact absurd H (by simp)
         · rw [if_neg c9] at H
           exact absurd H (by simp)
       · rw [if_neg c8] at H
         exact absurd H (by simp)
     · rw [if_neg c7] at H
       exact absurd H (by simp)
end Go.Proofs.Ytenbkljgmgdegaa.PO
