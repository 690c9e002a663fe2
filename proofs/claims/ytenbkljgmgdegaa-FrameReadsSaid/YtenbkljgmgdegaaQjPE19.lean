/- What the rows of this claim use, out of the texts of this work (PE19, FZ, RZ, GA). No condition beyond those that each statement names. -/
import Derived.Laws.BitsAllLaws
import Derived.Test.YtenbkljgmgdegaaQjOH
import Derived.Test.YtenbkljgmgdegaaQjPOx0
import Derived.Test.YtenbkljgmgdegaaQjRG
import Derived.Test.YtenbkljgmgdegaaQjPD14
import Derived.Test.YtenbkljgmgdegaaQjPOx10
import Derived.Test.YtenbkljgmgdegaaQjPOx7
import Derived.Test.YtenbkljgmgdegaaQjFU
import Derived.Test.YtenbkljgmgdegaaQjFF
section
namespace Go.Proofs.Ytenbkljgmgdegaa.PO
open Go.RowKit Go.Proofs.YtenbkljgmgdegaaW.PrintWords Go.Proofs.YtenbkljgmgdegaaW.PrintLast Go.Proofs.YtenbkljgmgdegaaW.PrintMore
attribute [local go_sem] max2_int min2_int max_two min_two max_three min_three max_four min_four   -- for this text's walks alone
set_option linter.unusedVariables false
set_option linter.unusedSimpArgs false
mutual
def pannierref02_Sum.l0 : Nat → List Int → Int → Int → Option (Int)
 | 0, _, _, _ => none
 | k + 1, x0, x3, x4 => if x4 < (x0.length : Int) then (if 0 ≤ x4 then (pannierref02_Sum.l1 k x0 (Go.bits .xor .u32 x3 ((rd x0 x4) % 4294967296)) x4 0) else (none)) else (some (Go.bits .xor .u32 x3 4294967295))
def pannierref02_Sum.l1 : Nat → List Int → Int → Int → Int → Option (Int)
 | 0, _, _, _, _ => none
 | k + 1, x0, x3, x4, x5 => if x5 < 8 then (if (Go.bits .and .u32 x3 1) = 1 then (pannierref02_Sum.l1 k x0 (Go.bits .xor .u32 (x3 / 2) 3988292384) x4 (wrap64 (x5 + 1))) else (pannierref02_Sum.l1 k x0 (x3 / 2) x4 (wrap64 (x5 + 1)))) else (pannierref02_Sum.l0 k x0 x3 (wrap64 (x4 + 1)))
end
def pannierref02_Sum.f (k : Nat) (l0 : List Int) : Option (Int) := pannierref02_Sum.l0 k l0 4294967295 0
theorem pannierref02_Sum.mono_l : ∀ k, (∀ y0 y1 y2, LeO (pannierref02_Sum.l0 k y0 y1 y2) (pannierref02_Sum.l0 (k + 1) y0 y1 y2)) ∧ (∀ y0 y1 y2 y3, LeO (pannierref02_Sum.l1 k y0 y1 y2 y3) (pannierref02_Sum.l1 (k + 1) y0 y1 y2 y3))
 | 0 => ⟨fun _ _ _ r h => by simp [pannierref02_Sum.l0] at h, fun _ _ _ _ r h => by simp [pannierref02_Sum.l1] at h⟩
 | k + 1 => by
   obtain ⟨ih0, ih1⟩ := pannierref02_Sum.mono_l k
   refine ⟨?_, ?_⟩
   · intro y0 y1 y2
     unfold pannierref02_Sum.l0
     repeat' first
     | (with_reducible exact ih0 _ _ _)
     | (with_reducible exact ih1 _ _ _ _)
     | (with_reducible exact LeO.refl _)
     | (with_reducible exact LeO.none _)
     | (with_reducible refine LeO.ite ?_ ?_)
     | (with_reducible refine LeO.bind ?_ (fun _ => ?_))
     | exact ih0 _ _ _
     | exact ih1 _ _ _ _
     | exact LeO.none _
     | refine LeO.ite ?_ ?_
     | refine LeO.bind ?_ (fun _ => ?_)
   · intro y0 y1 y2 y3
     unfold pannierref02_Sum.l1
     repeat' first
     | (with_reducible exact ih0 _ _ _)
     | (with_reducible exact ih1 _ _ _ _)
     | (with_reducible exact LeO.refl _)
     | (with_reducible exact LeO.none _)
     | (with_reducible refine LeO.ite ?_ ?_)
     | (with_reducible refine LeO.bind ?_ (fun _ => ?_))
     | exact ih0 _ _ _
     | exact ih1 _ _ _ _
     | exact LeO.none _
     | refine LeO.ite ?_ ?_
     | refine LeO.bind ?_ (fun _ => ?_)
theorem pannierref02_Sum.mono : ∀ a0 k, LeO (pannierref02_Sum.f k a0) (pannierref02_Sum.f (k + 1) a0) := by
 intro a0 k
 obtain ⟨ih0, ih1⟩ := pannierref02_Sum.mono_l k
 unfold pannierref02_Sum.f
 repeat' first
  | (with_reducible exact ih0 _ _ _)
  | (with_reducible exact ih1 _ _ _ _)
  | (with_reducible exact LeO.refl _)
  | (with_reducible exact LeO.none _)
  | (with_reducible refine LeO.ite ?_ ?_)
  | (with_reducible refine LeO.bind ?_ (fun _ => ?_))
  | exact ih0 _ _ _
  | exact ih1 _ _ _ _
  | exact LeO.none _
  | refine LeO.ite ?_ ?_
  | refine LeO.bind ?_ (fun _ => ?_)
set_option maxHeartbeats 8000000 in
set_option maxRecDepth 100000 in
theorem pannierref02_Sum.calls (k : Nat) (A0 : Option Addr) (c0 : Nat) (l0 : List Int) (r : Int) (w : World) (hr0 : Kd.C (Kd.int .u8) w A0 l0.length l0) (hc0 : l0.length ≤ c0) (h : pannierref02_Sum.f k l0 = some r) :
 Calls Try.prog 122 #[.slice A0 l0.length c0] w fun e w' => e = .returned (.int .u32 r) ∧ Drawn0 w w' := by
 have HR0 := Aside0.mk hr0
 have HC0 := Aside0.mk hc0
 clear hr0 hc0
 have H : (pannierref02_Sum.l0 k l0 4294967295 0) = some r := h
 clear h
 have H' := Aside0.mk H
 clear H
 go_enter Try.func122, Try.ntmps122
 go_wp2
 go_loopg [3, 4] k (fun kq v3 v4 w' => ∃ (x3_1 : Int) (x4_1 : Int), v3 = .int .u32 x3_1 ∧ v4 = .int .i64 x4_1 ∧ Aside0 (pannierref02_Sum.l0 kq l0 x3_1 x4_1 = some r) ∧ Aside0 (kq ≤ k) ∧ Drawn0 w w')
 case atStart => exact ⟨(4294967295), (0), (by first | rfl | (simp; done) | (simp [*]; done)), (by first | rfl | (simp; done) | (simp [*]; done)), H', ⟨Nat.le_refl _⟩, by repeat (first | exact Drawn0.refl _ | apply Drawn0.step)⟩
 case round =>
  clear H'
  try clear c1
  obtain ⟨x3_1, x4_1, rfl, rfl, HA, HK1, ⟨m1, rfl⟩⟩ := hrel
  cases gk with
  | zero => exact absurd HA.out (by simp [pannierref02_Sum.l0])
  | succ k1 =>
   have H := HA.out
   clear HA
   simp only [pannierref02_Sum.l0] at H
   by_cases c2 : x4_1 < (l0.length : Int)
   · rw [if_pos c2] at H
     have c2b0 : decide (x4_1 < (l0.length : Int)) = true := decide_eq_true c2
     clear c2
     by_cases c3 : 0 ≤ x4_1
     · rw [if_pos c3] at H
       have c3b0 : decide (0 ≤ x4_1) = true := decide_eq_true c3
       clear c3
       have H' := Aside0.mk H
       clear H
       have p384 : 0 ≤ (x4_1 : Int) := of_decide_eq_true (by first | (with_reducible assumption) | assumption)
       have q384 : x4_1 < (l0.length : Int) := of_decide_eq_true (by first | (with_reducible assumption) | assumption)
       obtain ⟨ad384, e384, hx384_0⟩ := Kd.at_int HR0.out x4_1 p384 q384
       cases e384
       replace p384 := eq_true p384
       replace q384 := eq_true q384
       go_wp2
       go_loopg [3, 5] k1 (fun kq v3 v5 w' => ∃ (x3_2 : Int) (x5_2 : Int), v3 = .int .u32 x3_2 ∧ v5 = .int .i64 x5_2 ∧ Aside0 (pannierref02_Sum.l1 kq l0 x3_2 x4_1 x5_2 = some r) ∧ Aside0 (kq ≤ k1) ∧ Drawn0 w w')
       case atStart => exact ⟨(Go.bits .xor .u32 x3_1 ((rd l0 x4_1) % 4294967296)), (0), (by first | rfl | (simp; done) | (simp [*]; done)), (by first | rfl | (simp; done) | (simp [*]; done)), H', ⟨Nat.le_refl _⟩, by repeat (first | exact Drawn0.refl _ | apply Drawn0.step)⟩
       case round =>
        clear H'
        try clear c1
        try clear c2
        try clear c2b0
        try clear p2
        try clear c3
        try clear c3b0
        try clear p3
        try clear q3
        try clear hx3
        try clear hx384_0
        try clear p384
        try clear q384
        obtain ⟨x3_2, x5_2, rfl, rfl, HA, HK2, ⟨m2, rfl⟩⟩ := hrel
        cases gk with
        | zero => exact absurd HA.out (by simp [pannierref02_Sum.l1])
        | succ k2 =>
         have H := HA.out
         clear HA
         simp only [pannierref02_Sum.l1] at H
         by_cases c4 : x5_2 < 8
         rw [if_pos c4] at H
         have c4b0 : decide (x5_2 < 8) = true := decide_eq_true c4
         clear c4
         by_cases c5 : (Go.bits .and .u32 x3_2 1) = 1
         rw [if_pos c5] at H
         have c5b0 : ((Go.bits .and .u32 x3_2 1) == 1) = true := beq_iff_eq.mpr c5
         have c5b1 : ((Go.bits .and .u32 x3_2 1) != 1) = false := bne_eq_false_iff_eq.mpr c5
         clear c5
         rotate_left
         rw [if_neg c5] at H
         have c5b0 : ((Go.bits .and .u32 x3_2 1) == 1) = false := beq_eq_false_iff_ne.mpr c5
         have c5b1 : ((Go.bits .and .u32 x3_2 1) != 1) = true := bne_iff_ne.mpr c5
         rotate_left
         rw [if_neg c4] at H
         have c4b0 : decide (x5_2 < 8) = false := decide_eq_false c4
         clear c4
         rotate_left
         all_goals (
          have H' := Aside0.mk H
          clear H
          go_wp2
          go_roundg k2
          case measure => have := HK1.out; have := HK2.out; omega
          case rel => exact ⟨_, _, (by first | rfl | (simp; done) | (simp [*]; done)), (by first | rfl | (simp; done) | (simp [*]; done)), H', ⟨by have := HK1.out; have := HK2.out; omega⟩, by repeat (first | exact Drawn0.refl _ | apply Drawn0.step)⟩
          )
     · rw [if_neg c3] at H
       exact absurd H (by simp)
   · rw [if_neg c2] at H
     have c2b0 : decide (x4_1 < (l0.length : Int)) = false := decide_eq_false c2
     clear c2
     obtain rfl := Option.some.inj H
     go_wp2
     go_ret
     exact ⟨by first | rfl | (simp; done) | (simp [*]; done), by repeat (first | exact Drawn0.refl _ | apply Drawn0.step)⟩
def pannierref02_Seal.f (k : Nat) (a0 : Int) (a1 : ByteArray) : Option (ByteArray) := (pannierref02_Text.f k (([a0] : List Int)) a1).bind fun t388 => ((pannierref02_Sum.f k t388).bind fun t391 => ((some (([(t391) % 256, (t391 / 256) % 256, (t391 / 65536) % 256, (t391 / 16777216) % 256] : List Int) : List Int)).bind fun y392 => (if t388.length + y392.length < 140737488355328 then (some (strOfNums (t388 ++ y392))) else (none))))
set_option maxHeartbeats 8000000 in
set_option maxRecDepth 100000 in
theorem pannierref02_Seal.calls (k : Nat) (a0 : Int) (a1 : ByteArray) (r : ByteArray) (w : World) (h : pannierref02_Seal.f k a0 a1 = some r) :
 Calls Try.prog 86 #[.int .u8 a0, .string a1] w fun e w' => e = .returned (.string r) ∧ Below w.heap.size w w' := by
 have HB := Aside0.mk (Below.refl w.heap.size w)
 have H : ((pannierref02_Text.f k (([a0] : List Int)) a1).bind fun t388 => ((pannierref02_Sum.f k t388).bind fun t391 => ((some (([(t391) % 256, (t391 / 256) % 256, (t391 / 65536) % 256, (t391 / 16777216) % 256] : List Int) : List Int)).bind fun y392 => (if t388.length + y392.length < 140737488355328 then (some (strOfNums (t388 ++ y392))) else (none))))) = some r := h
 clear h
 obtain ⟨y385, hy385⟩ : ∃ y_ : List Int, y_ = (([a0] : List Int)) := ⟨_, rfl⟩
 replace H : ((pannierref02_Text.f k y385 a1).bind fun t388 => ((pannierref02_Sum.f k t388).bind fun t391 => ((some (([(t391) % 256, (t391 / 256) % 256, (t391 / 65536) % 256, (t391 / 16777216) % 256] : List Int) : List Int)).bind fun y392 => (if t388.length + y392.length < 140737488355328 then (some (strOfNums (t388 ++ y392))) else (none))))) = some r := by first | (rw [hy385]; with_reducible exact H) | (have H2_ := (Option.bind_some _ _).symm.trans H; rw [hy385]; with_reducible exact H2_) | (have H2_ := (Option.bind_some _ _).symm.trans H; with_reducible exact H2_) | with_reducible exact H | (rw [hy385]; exact H) | exact H
 have Ny385 := Aside0.mk hy385
 clear hy385
 replace H := Option.bind_eq_some_iff.mp H
 obtain ⟨t388, A30, H⟩ := H
 replace H : ((pannierref02_Sum.f k t388).bind fun t391 => ((some (([(t391) % 256, (t391 / 256) % 256, (t391 / 65536) % 256, (t391 / 16777216) % 256] : List Int) : List Int)).bind fun y392 => (if t388.length + y392.length < 140737488355328 then (some (strOfNums (t388 ++ y392))) else (none)))) = some r := H
 have A3 := Aside0.mk A30
 clear A30
 replace H := Option.bind_eq_some_iff.mp H
 obtain ⟨t391, A40, H⟩ := H
 replace H : ((some (([(t391) % 256, (t391 / 256) % 256, (t391 / 65536) % 256, (t391 / 16777216) % 256] : List Int) : List Int)).bind fun y392 => (if t388.length + y392.length < 140737488355328 then (some (strOfNums (t388 ++ y392))) else (none))) = some r := H
 have A4 := Aside0.mk A40
 clear A40
 obtain ⟨y392, hy392⟩ : ∃ y_ : List Int, y_ = (([(t391) % 256, (t391 / 256) % 256, (t391 / 65536) % 256, (t391 / 16777216) % 256] : List Int)) := ⟨_, rfl⟩
 replace H : (if t388.length + y392.length < 140737488355328 then (some (strOfNums (t388 ++ y392))) else (none)) = some r := by first | (rw [hy392]; with_reducible exact H) | (have H2_ := (Option.bind_some _ _).symm.trans H; rw [hy392]; with_reducible exact H2_) | (have H2_ := (Option.bind_some _ _).symm.trans H; with_reducible exact H2_) | with_reducible exact H | (rw [hy392]; exact H) | exact H
 have Ny392 := Aside0.mk hy392
 clear hy392
 by_cases c5 : t388.length + y392.length < 140737488355328
 · rw [if_pos c5] at H
   have LMc5 := Aside0.mk c5
   clear c5
   obtain ⟨y395, hy395⟩ : ∃ y_ : List Int, y_ = (t388 ++ y392) := ⟨_, rfl⟩
   replace H : (some (strOfNums y395)) = some r := by first | (rw [hy395]; with_reducible exact H) | (have H2_ := (Option.bind_some _ _).symm.trans H; rw [hy395]; with_reducible exact H2_) | (have H2_ := (Option.bind_some _ _).symm.trans H; with_reducible exact H2_) | with_reducible exact H | (rw [hy395]; exact H) | exact H
   have Ny395 := Aside0.mk hy395
   clear hy395
   obtain rfl := Option.some.inj H
   go_enter Try.func86, Try.ntmps86
   go_wp2_with (first | ((with_reducible refine gate_dst (N := 8) rfl ?_); refine Kd.R_lit (Kd.int .u8) _ 5 ?hg (N := 8) ?hd (xs := ([a0] : List Int)) (inner := [.int .u8 a0]) (ok := fun _ => True) (okp := fun _ => True) ?hr ?hp (fun _ hk => hk) trivial (Below.refl _ _) (Nat.le_refl _) (by simp) ?_; (case hd => rfl); (case hg => rfl); (case hr => first | (go_simp; done) | (go_simp; rfl)); (case hp => exact (Reps.one (show Kd.M (Kd.int .u8) _ _ _ a0 [.int .u8 a0] from rfl) (Reps.none _ _))); intro v386 w6 ho7 hb hg_ hnew_; clear hg_ hnew_; (first | rw [← Ny385.out] at ho7 | (simp only [Int.reduceToNat] at ho7; rw [← Ny385.out] at ho7)); have n0_ := Aside0.mk (Kd.R_lower ho7 (below_size (by repeat (first | (with_reducible first | exact HB.out | apply below_alloc | apply pw_below_drewN | apply below_drew1) | exact HB.out)))); have n1_ := Aside0.mk (below_step (by repeat (first | (with_reducible first | exact HB.out | apply below_alloc | apply pw_below_drewN | apply below_drew1) | exact HB.out)) hb); clear HB; have HO387 := n0_; have HB := n1_; clear n0_ n1_; clear hb ho7; obtain ⟨Ao8, co8, eo8⟩ := Kd.R_slice HO387.out; subst eo8) | ((with_reducible refine gate_callee (f := 83) rfl ?_); refine goesL_ (some 10) rfl rfl Try.func83 (by kernel_rfl) rfl #[.slice Ao8 y385.length co8, .string a1] rfl (by (try simp only [List.map_toArray, List.map_cons, List.map_nil]); first | done | rfl | (simp only [List.length_drop, List.length_take]; rfl)) ?_; (with_reducible refine (pannierref02_Text.calls k _ _ y385 a1 t388 _ ?side1 ?side2 A3.out).mono ?_); (case side1 => repeat (first | exact (Kd.R_reads' HO387.out).2.2 | (with_reducible refine Kd.C_alloc ?_ _) | (with_reducible refine Kd.C_drewN ?_ _) | (with_reducible refine Kd.C_drew ?_))); (case side2 => exact (Kd.R_reads' HO387.out).2.1); rintro e w9 ⟨v389, rfl, ho0, hb⟩; refine ⟨_, rfl, ?_⟩; have n0_ := Aside0.mk (Kd.R_elder' (by (with_reducible repeat (first | apply Kd.R_alloc | apply Kd.R_drewN | apply Kd.R_drew)); exact HO387.out) (Kd.R_base ho0) hb); have n1_ := Aside0.mk (Kd.R_lower (Kd.R_new' ho0 (Kd.R_lt (by (with_reducible repeat (first | apply Kd.R_alloc | apply Kd.R_drewN | apply Kd.R_drew)); exact HO387.out))) (below_size (by repeat (first | (with_reducible first | exact HB.out | apply below_alloc | apply pw_below_drewN | apply below_drew1) | exact HB.out)))); have n2_ := Aside0.mk (below_step (by repeat (first | (with_reducible first | exact HB.out | apply below_alloc | apply pw_below_drewN | apply below_drew1) | exact HB.out)) hb); clear HO387; clear HB; have HO387 := n0_; have HO390 := n1_; have HB := n2_; clear n0_ n1_ n2_; (try clear hb); (try clear hb2); (try clear hk); (try clear hi); (try clear ho0); obtain ⟨Ao10, co10, eo10⟩ := Kd.R_slice HO390.out; subst eo10) | ((with_reducible refine gate_callee (f := 122) rfl ?_); refine goesL_ (some 12) rfl rfl Try.func122 (by kernel_rfl) rfl #[.slice Ao10 t388.length co10] rfl (by (try simp only [List.map_toArray, List.map_cons, List.map_nil]); first | done | rfl | (simp only [List.length_drop, List.length_take]; rfl)) ?_; (with_reducible refine (pannierref02_Sum.calls k _ _ t388 t391 _ ?side1 ?side2 A4.out).mono ?_); (case side1 => repeat (first | exact (Kd.R_reads' HO390.out).2.2 | (with_reducible refine Kd.C_alloc ?_ _) | (with_reducible refine Kd.C_drewN ?_ _) | (with_reducible refine Kd.C_drew ?_))); (case side2 => exact (Kd.R_reads' HO390.out).2.1); rintro e w' ⟨rfl, ⟨nd, rfl⟩⟩; refine ⟨_, rfl, ?_⟩) | ((with_reducible refine gate_dst (N := 25) rfl ?_); refine Kd.R_lit (Kd.int .u8) _ 5 ?hg (N := 25) ?hd (xs := ([(t391) % 256, (t391 / 256) % 256, (t391 / 65536) % 256, (t391 / 16777216) % 256] : List Int)) (inner := [.int .u8 ((t391) % 256), .int .u8 ((t391 / 256) % 256), .int .u8 ((t391 / 65536) % 256), .int .u8 ((t391 / 16777216) % 256)]) (ok := fun _ => True) (okp := fun _ => True) ?hr ?hp (fun _ hk => hk) trivial (Below.refl _ _) (Nat.le_refl _) (by simp) ?_; (case hd => rfl); (case hg => rfl); (case hr => first | (go_simp; done) | (go_simp; rfl)); (case hp => exact (Reps.one (show Kd.M (Kd.int .u8) _ _ _ ((t391) % 256) [.int .u8 ((t391) % 256)] from rfl) (Reps.one (show Kd.M (Kd.int .u8) _ _ _ ((t391 / 256) % 256) [.int .u8 ((t391 / 256) % 256)] from rfl) (Reps.one (show Kd.M (Kd.int .u8) _ _ _ ((t391 / 65536) % 256) [.int .u8 ((t391 / 65536) % 256)] from rfl) (Reps.one (show Kd.M (Kd.int .u8) _ _ _ ((t391 / 16777216) % 256) [.int .u8 ((t391 / 16777216) % 256)] from rfl) (Reps.none _ _)))))); intro v393 w11 ho12 hb hg_ hnew_; clear hg_ hnew_; (first | rw [← Ny392.out] at ho12 | (simp only [Int.reduceToNat] at ho12; rw [← Ny392.out] at ho12)); have n0_ := Aside0.mk (Kd.R_elder' (by (with_reducible repeat (first | apply Kd.R_alloc | apply Kd.R_drewN | apply Kd.R_drew)); exact HO387.out) (Kd.R_base ho12) hb); have n1_ := Aside0.mk (Kd.R_elder' (by (with_reducible repeat (first | apply Kd.R_alloc | apply Kd.R_drewN | apply Kd.R_drew)); exact HO390.out) (Kd.R_base ho12) hb); have n2_ := Aside0.mk (Kd.R_lower (Kd.R_new' (Kd.R_new' ho12 (Kd.R_lt (by (with_reducible repeat (first | apply Kd.R_alloc | apply Kd.R_drewN | apply Kd.R_drew)); exact HO387.out))) (Kd.R_lt (by (with_reducible repeat (first | apply Kd.R_alloc | apply Kd.R_drewN | apply Kd.R_drew)); exact HO390.out))) (below_size (by repeat (first | (with_reducible first | exact HB.out | apply below_alloc | apply pw_below_drewN | apply below_drew1) | exact HB.out)))); have n3_ := Aside0.mk (below_step (by repeat (first | (with_reducible first | exact HB.out | apply below_alloc | apply pw_below_drewN | apply below_drew1) | exact HB.out)) hb); clear HO387; clear HO390; clear HB; have HO387 := n0_; have HO390 := n1_; have HO394 := n2_; have HB := n3_; clear n0_ n1_ n2_ n3_; clear hb ho12; obtain ⟨Ao14, co14, eo14⟩ := Kd.R_slice HO394.out; subst eo14) | ((with_reducible refine gate_builtin (b := .append) (xs := #[.tmp 13, .tmp 25]) rfl ?_); at_builtin; refine Kd.R_append_rows (Kd.int .u8) (w0 := w) w.heap.size rfl (.tmp 13) (.tmp 25) 63 5 (.int .u8 0) 1 rfl Try.underlying63 info5 rfl (by decide) (by omega) (.slice Ao10 t388.length co10) t388 y392 _ _ _ (fun k_ => some k_ ≠ (.slice Ao8 y385.length co8 : Value).ownBlock ∧ some k_ ≠ (.slice Ao14 y392.length co14 : Value).ownBlock) (fun _ => False) rfl rfl ?aO ?aR (fun _ _ h => h) (fun _ h => h.elim) ?aF ?aB ?aS ?aL ?_; (case aR => repeat (first | exact (Kd.R_reads' HO394.out).2.2 | (with_reducible refine Kd.C_alloc ?_ _) | (with_reducible refine Kd.C_drewN ?_ _) | (with_reducible refine Kd.C_drew ?_))); (case aB => exact (by repeat (first | (with_reducible first | exact HB.out | apply below_alloc | apply pw_below_drewN | apply below_drew1) | exact HB.out))); (case aF => exact (fun k_ hk => ⟨Kd.fresh' (Kd.R_lt (by (with_reducible repeat (first | apply Kd.R_alloc | apply Kd.R_drewN | apply Kd.R_drew)); exact HO387.out)) k_ hk, Kd.fresh' (Kd.R_lt (by (with_reducible repeat (first | apply Kd.R_alloc | apply Kd.R_drewN | apply Kd.R_drew)); exact HO394.out)) k_ hk⟩)); (case aO => exact (by (with_reducible repeat (first | apply Kd.R_alloc | apply Kd.R_drewN | apply Kd.R_drew)); exact Kd.R_mono HO390.out (fun _ hk => ⟨hk.1.2, hk.2⟩))); (case aS => exact (below_size (by repeat (first | (with_reducible first | exact HB.out | apply below_alloc | apply pw_below_drewN | apply below_drew1) | exact HB.out)))); (case aL => have := LMc5.out; omega); intro v396 w13 ho hb hg hat; rw [← Ny395.out] at ho; have n0_ := Aside0.mk (Kd.R_after (ok := (fun k_ => some k_ ≠ (.slice Ao14 y392.length co14 : Value).ownBlock)) (by (with_reducible repeat (first | apply Kd.R_alloc | apply Kd.R_drewN | apply Kd.R_drew)); exact Kd.R_mono HO387.out (fun _ hk => ⟨hk.2, hk.1.2⟩)) hg hat); have n1_ := Aside0.mk (Kd.R_after (ok := (fun k_ => some k_ ≠ (.slice Ao8 y385.length co8 : Value).ownBlock)) (by (with_reducible repeat (first | apply Kd.R_alloc | apply Kd.R_drewN | apply Kd.R_drew)); exact Kd.R_mono HO394.out (fun _ hk => ⟨hk.1.2, hk.2⟩)) hg hat); have n2_ := Aside0.mk (hb); have n3_ := Aside0.mk (ho); clear HO387; clear HO394; clear HB; clear HO390; have HO387 := n0_; have HO394 := n1_; have HB := n2_; have HO397 := n3_; clear n0_ n1_ n2_ n3_; clear ho hb hg hat; have hcv15 := own_string (P := Try.prog) Try.underlying63 Try.underlying5 Try.underlying9 (Kd.own_of_R HO397.out)))
   go_ret
   exact ⟨by first | rfl | (simp [errW_none, errW_some] <;> rfl) | (simp [*, errW_none, errW_some] <;> rfl), by repeat (first | (with_reducible first | exact HB.out | apply below_alloc | apply pw_below_drewN | apply below_drew1) | exact HB.out)⟩
 · rw [if_neg c5] at H
   exact absurd H (by simp)
end Go.Proofs.Ytenbkljgmgdegaa.PO
end
section
namespace Go.Proofs.Ytenbkljgmgdegaa.PO
open Go.RowKit Go.Proofs.YtenbkljgmgdegaaW.PrintWords Go.Proofs.YtenbkljgmgdegaaW.PrintLast Go.Proofs.YtenbkljgmgdegaaW.PrintMore Go.Proofs.Ytenbkljgmgdegaa.XW
set_option linter.unusedVariables false
set_option linter.unusedSimpArgs false
theorem and1 (c : Int) : Go.bits .and .u32 c 1 = 0 ∨ Go.bits .and .u32 c 1 = 1 := by
 have h : Go.bits .and .u32 c 1 = IntKind.u32.wrap ((BitVec.ofInt 32 c &&& BitVec.ofInt 32 1).toNat : Int) := rfl
 have h1 : (BitVec.ofInt 32 1).toNat = 1 := by decide
 rw [h, BitVec.toNat_and, h1, Nat.and_one_is_mod, IntKind.wrap_u32']
 omega
theorem xor_swap (a b : Int) : Go.bits .xor .u32 a b = Go.bits .xor .u32 b a := by
 show IntKind.u32.wrap ((BitVec.ofInt 32 a ^^^ BitVec.ofInt 32 b).toNat : Int) = IntKind.u32.wrap ((BitVec.ofInt 32 b ^^^ BitVec.ofInt 32 a).toNat : Int)
 rw [BitVec.xor_comm]
theorem crc8_step (n : Nat) (c : Int) : crc8 (n + 1) c = crc8 n (if Go.bits .and .u32 c 1 = 1 then Go.bits .xor .u32 (c / 2) 3988292384 else c / 2) := by
 show crc8 n (if Go.bits .and .u32 c 1 = 0 then c / 2 else Go.bits .xor .u32 (c / 2) 3988292384) = _
 rcases and1 c with h | h
 · rw [if_pos h, if_neg (by omega)]
 · rw [if_neg (by omega), if_pos h]
theorem refSum_l1 (x : List Int) (i : Int) (k : Nat) : ∀ (s : Nat) (c j : Int), j + (s : Int) = 8 → 0 ≤ j → pannierref02_Sum.l1 (s + 1 + k) x c i j = pannierref02_Sum.l0 k x (crc8 s c) (wrap64 (i + 1))
 | 0, c, j, h, hj => by
   rw [show 0 + 1 + k = k + 1 from by omega]
   unfold pannierref02_Sum.l1
   rw [if_neg (by omega)]
   rfl
 | s + 1, c, j, h, hj => by
   rw [show s + 1 + 1 + k = (s + 1 + k) + 1 from by omega]
   unfold pannierref02_Sum.l1
   have hw : wrap64 (j + 1) = j + 1 := by unfold wrap64; omega
   rw [if_pos (by omega), hw, crc8_step]
   have ih := fun c => refSum_l1 x i k s c (j + 1) (by omega) (by omega)
   by_cases hc : Go.bits .and .u32 c 1 = 1
   · rw [if_pos hc, if_pos hc, ih]
   · rw [if_neg hc, if_neg hc, ih]
theorem refSum_l0 (x : List Int) (hx : x.length ≤ 9223372036854775000) : ∀ (d j : Nat) (c : Int), j + d = x.length → pannierref02_Sum.l0 (10 * d + 1) x c (j : Int) = some (Go.bits .xor .u32 4294967295 (crcL c (x.drop j)))
 | 0, j, c, h => by
   unfold pannierref02_Sum.l0
   rw [if_neg (by omega), List.drop_eq_nil_of_le (by omega), xor_swap]
   rfl
 | d + 1, j, c, h => by
   rw [show 10 * (d + 1) + 1 = (8 + 1 + (10 * d + 1)) + 1 from by omega]
   unfold pannierref02_Sum.l0
   have hw : wrap64 ((j : Int) + 1) = ((j + 1 : Nat) : Int) := by unfold wrap64; omega
   rw [if_pos (by omega), if_pos (by omega), refSum_l1 x _ _ 8 _ 0 (by omega) (by omega), hw, refSum_l0 x hx d (j + 1) _ (by omega)]
   have hd : x.drop j = rd x (j : Int) :: x.drop (j + 1) := by
    rw [List.drop_eq_getElem_cons (by omega)]
    congr 1
    simp [rd, List.getD, show j < x.length by omega]
   rw [hd]
   rfl
theorem refSum_f (x : List Int) (hx : x.length ≤ 9223372036854775000) (k : Nat) (hk : 10 * x.length + 1 ≤ k) : pannierref02_Sum.f k x = some (Go.bits .xor .u32 4294967295 (crcL 4294967295 x)) := by
 refine up_of (g := fun k => pannierref02_Sum.f k x) (fun k => pannierref02_Sum.mono _ k) (k := 10 * x.length + 1) ?_ k hk
 unfold pannierref02_Sum.f
 exact refSum_l0 x hx x.length 0 _ (by omega)
theorem refTextBig_f (b : List Int) (s : ByteArray) (hs : s.size ≤ 1000000) (hb : b.length ≤ 140737487000000) (k : Nat) (hk : 40 ≤ k) : pannierref02_Text.f k b s = some (textS b s) := by
 have := encN_len (s.size : Int)
 unfold pannierref02_Text.f
 rw [u_id (by omega) (by omega), refNumber_f _ (by omega) b (by omega) k hk, Option.bind_some, if_pos (by rw [List.length_append]; omega)]
 rfl
theorem refSeal_f (kind : Int) (body : ByteArray) (hs : body.size ≤ 1000000) (k : Nat) (hk : 20000000 ≤ k) : pannierref02_Seal.f k kind body = some (strOfNums (sealT kind (bytesOf body))) := by
 have e1 := encN_len (body.size : Int)
 have e2 := bytesOf_length body
 unfold pannierref02_Seal.f
 have hl : (textS [kind] body).length ≤ 1000100 := by
  rw [textS_app]
  unfold textB
  simp only [List.length_append, List.length_cons, List.length_nil]
  omega
 rw [refTextBig_f [kind] body hs (by simp) k (by omega), Option.bind_some, refSum_f _ (by omega) k (by omega), Option.bind_some, Option.bind_some, if_pos (by simp only [List.length_cons, List.length_nil]; omega)]
 have e : textS [kind] body = kind :: encN (((bytesOf body).length : Nat) : Int) ++ bytesOf body := by
  rw [textS_app, e2]
  simp [textB]
 rw [e]
 rfl
theorem refSeal_calls (kind : Int) (body : ByteArray) (hs : body.size ≤ 1000000) (w : World) :
 Calls Try.prog 86 #[.int .u8 kind, .string body] w fun e w' => e = .returned (.string (strOfNums (sealT kind (bytesOf body)))) ∧ Below w.heap.size w w' :=
 pannierref02_Seal.calls 20000000 kind body _ w (refSeal_f kind body hs _ (Nat.le_refl _))
end Go.Proofs.Ytenbkljgmgdegaa.PO
end
section
namespace Go.Proofs.Ytenbkljgmgdegaa.PO
open Go.RowKit Go.Proofs.YtenbkljgmgdegaaW.PrintWords Go.Proofs.YtenbkljgmgdegaaW.PrintLast Go.Proofs.YtenbkljgmgdegaaW.PrintMore Go.Proofs.Ytenbkljgmgdegaa.XW
open Go.Proofs.Ytenbkljgmgdegaa.XRange Go.Proofs.Ytenbkljgmgdegaa.XMap Go.Proofs.Ytenbkljgmgdegaa.XSeq
set_option linter.unusedVariables false
set_option linter.unusedSimpArgs false
theorem refText32_f (b : List Int) (s : ByteArray) (hs : s.size ≤ 32) (hb : b.length ≤ 140737488355200) (k : Nat) (hk : 40 ≤ k) : pannierref02_Text.f k b s = some (textS b s) := by
 have := encN_len (s.size : Int)
 unfold pannierref02_Text.f
 rw [u_id (by omega) (by omega), refNumber_f _ (by omega) b (by omega) k hk, Option.bind_some, if_pos (by rw [List.length_append]; omega)]
 rfl
theorem refDotB_f (b : List Int) (d : S34) (h0 : d.f0.size ≤ 32) (h1 : 0 ≤ d.f1) (h2 : d.f1 ≤ 4611686018427387904) (hb : b.length ≤ 140737488355000) (k : Nat) (hk : 40 ≤ k) : pannierref08_dot.f k b d.f0 d.f1 = some (b ++ (textB d.f0 ++ encN d.f1)) := by
 unfold pannierref08_dot.f
 have hl : (textS b d.f0).length ≤ b.length + 9 + d.f0.size := textS_len b d.f0
 rw [refText32_f b d.f0 h0 (by omega) k hk, Option.bind_some, u_id h1 (by omega), refNumber_f d.f1 h1 _ (by omega) k hk, Option.bind_some]
 simp [textS, textB]
set_option maxHeartbeats 8000000 in
set_option maxRecDepth 100000 in
theorem refLayO_calls (x : S36) (A2 : Option Addr) (c2 : Nat) (A7 : Option Addr) (c7 : Nat) (w : World) (l2 : x.f1.length ≤ c2) (g2 : Kd.C k34 w A2 x.f1.length x.f1) (l7 : x.f6.length ≤ c7) (g7 : Kd.C k34 w A7 x.f6.length x.f6) (m : Nat) (hm : m ≤ 9223372036854775807) (hz0 : x.f0.f0.size ≤ m) (hz1 : sizes m x.f1) (hz6 : sizes m x.f6) :
 Calls Try.prog 42 #[.agg #[.string x.f0.f0, .int .i64 x.f0.f1, .slice A2 x.f1.length c2, .string x.f2, .int .i64 x.f3, .string x.f4, .int .i64 x.f5, .slice A7 x.f6.length c7]] w
  fun e w' => e = .returned (.tuple #[.string (layF x).1, .int .i64 (layF x).2]) ∧ Below w.heap.size w w' := by
 have HG2 := Aside0.mk g2
 have HG7 := Aside0.mk g7
 have HL2 := Aside0.mk l2
 have HL7 := Aside0.mk l7
 have HM := Aside0.mk (show m ≤ 9223372036854775807 ∧ x.f0.f0.size ≤ m ∧ sizes m x.f1 ∧ sizes m x.f6 from ⟨hm, hz0, hz1, hz6⟩)
 clear l2 g2 l7 g7 hm hz0 hz1 hz6
 obtain ⟨N, hN⟩ : ∃ N, w.heap.size = N := ⟨_, rfl⟩
 go_enter Try.func42, Try.ntmps42
 obtain ⟨w0, hw0⟩ : ∃ w0, w.alloc (.cells #[.string x.f0.f0, .int .i64 x.f0.f1, .slice A2 x.f1.length c2, .string x.f2, .int .i64 x.f3, .string x.f4, .int .i64 x.f5, .slice A7 x.f6.length c7] 36) = w0 := ⟨_, rfl⟩
 have hb0 : Below w.heap.size w w0 := by rw [← hw0]; exact (Below.refl _ w).alloc (Nat.le_refl _) _
 have kx : w0.heap[N]? = some (.cells #[.string x.f0.f0, .int .i64 x.f0.f1, .slice A2 x.f1.length c2, .string x.f2, .int .i64 x.f3, .string x.f4, .int .i64 x.f5, .slice A7 x.f6.length c7] 36 (0, 0)) := by rw [← hw0, ← hN]; exact World.alloc_heap_new w _
 have KX := Aside0.mk kx
 have HB := Aside0.mk hb0
 clear kx hb0
 obtain ⟨n0, n1, n2, n3, n4, n5, n6, n7⟩ := cells8 KX.out
 obtain ⟨br, hbr⟩ : ∃ b, rightO x = b := ⟨_, rfl⟩
 have HBR := Aside0.mk hbr
 clear hbr
 go_wp2_with fail
 refine (refRightO_calls x A2 c2 A7 c7 _ HL2.out (Kd.C_below HG2.out HB.out) HL7.out (Kd.C_below HG7.out HB.out) m HM.out.1 HM.out.2.1 HM.out.2.2.1 HM.out.2.2.2).mono ?_
 rw [HBR.out]
 rintro e w1 ⟨rfl, hb1⟩
 have KX1 := Aside0.mk (blk_below KX.out hb1)
 have HB1 := Aside0.mk (HB.out.trans (hb1.mono HB.out.size))
 clear n0 n1 n2 n3 n4 n5 n6 n7 hb1 KX HB hw0
 cases br with
 | false =>
   have hlf : layF x = (⟨#[]⟩, 2) := by unfold layF; rw [if_neg (by rw [HBR.out]; simp)]
   go_wp2
   go_ret2
   rw [hlf]
   exact ⟨rfl, by first | exact HB1.out | (rw [← hN]; exact HB1.out)⟩
 | true =>
   have hlf : layF x = (strOfNums (layO x), 0) := by unfold layF; rw [if_pos HBR.out]
   have HLF := Aside0.mk hlf
   clear hlf
   obtain ⟨r1, r2, r3, r4, r5, r6, r7, r8, r9⟩ := rightO_all HBR.out
   have hd := dotOk_32 r1
   have H1 := Aside0.mk (refDotB_f [] x.f0 (by omega) (by omega) (by omega) (by simp) 400 (by omega))
   rw [List.nil_append] at H1
   go_wp2
   refine start_ (n := 11) (ds := []) (S := fun w' => w'.cell? ⟨N, 0, none⟩ = some (.string x.f0.f0) ∧ w'.cell? ⟨N, 1, none⟩ = some (.int .i64 x.f0.f1) ∧ w'.cell? ⟨N, 2, none⟩ = some (.slice A2 x.f1.length c2)) _ (by kernel_rfl) rfl rfl
    ⟨(blk_cell (blk_drew KX1.out) 0).trans rfl, (blk_cell (blk_drew KX1.out) 1).trans rfl, (blk_cell (blk_drew KX1.out) 2).trans rfl⟩ (fun hH => ?_)
   refine XReg.pu 0 13 (h := ?_)
   refine XReg.tk 1 14 (h := ?_)
   refine XReg.pu 3 16 (h := ?_)
   refine XReg.tk 4 17 (h := ?_)
   have HD0 := Aside0.mk (show Below w1.heap.size w1 w1.drew from below_drew1 (Below.refl _ w1))
   refine XReg.one (i := 2) (some 15) rfl rfl (by kernel_rfl) (by decide) (fun Kc hKc => ?_)
   refine goes_ Try.func95 (by kernel_rfl) rfl #[.slice none 0 0, .agg #[.string x.f0.f0, .int .i64 x.f0.f1]] (by rfl) rfl rfl (by (try simp only [List.map_toArray, List.map_cons, List.map_nil]); first | done | rfl) ?_
   refine (pannierref08_dot.calls 400 none 0 [] x.f0.f0 x.f0.f1 (textB x.f0.f0 ++ encN x.f0.f1) _ (Kd.C_nil _ _) (by simp) H1.out).mono ?_
   rintro e wa ⟨va, rfl, hra, hba⟩
   refine ⟨_, rfl, ?_⟩
   have HDa := Aside0.mk (show Below w1.heap.size w1 wa from HD0.out.trans (hba.mono HD0.out.size))
   obtain ⟨Aa, ca, rfl, la, Ca⟩ := Kd.R_reads hra
   have HLa := Aside0.mk la
   have HCa := Aside0.mk Ca
   refine hKc.out _ _ ⟨(blk_cell (blk_below KX1.out HDa.out) 0).trans rfl, (blk_cell (blk_below KX1.out HDa.out) 1).trans rfl, (blk_cell (blk_below KX1.out HDa.out) 2).trans rfl⟩ (fun hH2 => ?_)
   clear hKc Kc hH hra hba HD0 H1 la Ca
   obtain ⟨b1, hb1⟩ : ∃ b, textB x.f0.f0 ++ encN x.f0.f1 = b := ⟨_, rfl⟩
   have hl1 : b1.length ≤ 100 := by
    have t0 := textB_len x.f0.f0
    have n0 := encN_len x.f0.f1
    rw [← hb1, List.length_append]
    omega
   rw [hb1] at HLa HCa ⊢
   have H2 := Aside0.mk (show pannierref07_Lay.f 400 b1 x.f1 = some (b1 ++ (layS [] x.f1).1, 0) from by
    have hv64 := (rightS_le r2).1
    rw [refLay_f b1 (by omega) x.f1 64 (by omega) (rightS_le r2).1 (fun y hy => by have := (right_fine r2 y hy).1; omega) 400 (by omega)]
    unfold layS
    rw [if_pos r2, if_pos r2]
    show some (layL _ _, (0 : Int)) = some (_ ++ layL _ _, 0)
    rw [lay_app x.f1 (b1 ++ encN (x.f1.length : Int)), lay_app x.f1 ([] ++ encN (x.f1.length : Int))]
    simp)
   refine XReg.one (i := 5) (some 18) rfl rfl (by kernel_rfl) (by decide) (fun Kc hKc => ?_)
   refine goes_ Try.func85 (by kernel_rfl) rfl #[.slice Aa b1.length ca, .slice A2 x.f1.length c2] (by rfl) rfl rfl (by (try simp only [List.map_toArray, List.map_cons, List.map_nil]); first | done | rfl) ?_
   refine (pannierref07_Lay.calls 400 Aa ca b1 A2 c2 x.f1 (b1 ++ (layS [] x.f1).1) 0 _ HCa.out HLa.out (Kd.C_below HG2.out (HB1.out.trans (HDa.out.mono HB1.out.size))) HL2.out H2.out).mono ?_
   rintro e wb ⟨vb, rfl, hrb, hbb⟩
   refine ⟨_, rfl, ?_⟩
   have HDb := Aside0.mk (show Below w1.heap.size w1 wb from HDa.out.trans (hbb.mono HDa.out.size))
   refine hKc.out _ _ ⟨(blk_cell (blk_below KX1.out HDb.out) 0).trans rfl, (blk_cell (blk_below KX1.out HDb.out) 1).trans rfl, (blk_cell (blk_below KX1.out HDb.out) 2).trans rfl⟩ (fun hH3 => ?_)
   refine XReg.pu 6 12 (h := ?_)
   refine XReg.pu 7 19 (h := ?_)
   refine XReg.pu 8 20 (h := ?_)
   refine XReg.pu 9 5 (h := ?_)
   refine XReg.pu 10 6 (h := ?_)
   refine done_ (by kernel_rfl) ?_
   clear hKc Kc hH2 hH3 HCa HLa H2 HDa
   obtain ⟨b2, hb2⟩ : ∃ b, b1 ++ (layS [] x.f1).1 = b := ⟨_, rfl⟩
   rw [hb2] at hrb
   have hl2 : b2.length ≤ 4000 := by
    have := layS_len x.f1 r2
    rw [← hb2, List.length_append]
    omega
   obtain ⟨Ab, cb, rfl, lb, Cb⟩ := Kd.R_reads hrb
   have KX2 := Aside0.mk (blk_below KX1.out HDb.out)
   have HB2 := Aside0.mk (HB1.out.trans (HDb.out.mono HB1.out.size))
   have HLb := Aside0.mk lb
   have HCb := Aside0.mk Cb
   have H3 := Aside0.mk (refText32_f b2 x.f2 r3 (by omega) 400 (by omega))
   obtain ⟨b3, hb3⟩ : ∃ b, textS b2 x.f2 = b := ⟨_, rfl⟩
   have hl3 : b3.length ≤ 5000 := by have := textS_len b2 x.f2; rw [← hb3]; omega
   have H4 := Aside0.mk (refText32_f b3 x.f4 r4 (by omega) 400 (by omega))
   rw [hb3] at H3
   clear hrb hbb lb Cb HDb KX1 HB1
   go_wp2
   refine start_ (n := 8) (ds := []) (S := fun w' => w'.cell? ⟨N, 3, none⟩ = some (.string x.f2) ∧ w'.cell? ⟨N, 5, none⟩ = some (.string x.f4)) _ (by kernel_rfl) rfl rfl
    ⟨(blk_cell (blk_drew KX2.out) 3).trans rfl, (blk_cell (blk_drew KX2.out) 5).trans rfl⟩ (fun hH => ?_)
   refine XReg.pu 0 21 (h := ?_)
   refine XReg.pu 1 22 (h := ?_)
   refine XReg.tk 2 23 (h := ?_)
   refine XReg.pu 4 25 (h := ?_)
   refine XReg.tk 5 26 (h := ?_)
   have HD0 := Aside0.mk (show Below wb.heap.size wb wb.drew from below_drew1 (Below.refl _ wb))
   refine XReg.one (i := 3) (some 24) rfl rfl (by kernel_rfl) (by decide) (fun Kc hKc => ?_)
   refine goes_ Try.func83 (by kernel_rfl) rfl #[.slice Ab b2.length cb, .string x.f2] (by rfl) rfl rfl (by (try simp only [List.map_toArray, List.map_cons, List.map_nil]); first | done | rfl) ?_
   refine (pannierref02_Text.calls 400 Ab cb b2 x.f2 b3 _ (Kd.C_drew HCb.out) HLb.out H3.out).mono ?_
   rintro e wc ⟨vc, rfl, hrc, hbc⟩
   refine ⟨_, rfl, ?_⟩
   have HDc := Aside0.mk (show Below wb.heap.size wb wc from HD0.out.trans (hbc.mono HD0.out.size))
   obtain ⟨Ac, cc, rfl, lc, Cc⟩ := Kd.R_reads hrc
   have HLc := Aside0.mk lc
   have HCc := Aside0.mk Cc
   refine hKc.out _ _ ⟨(blk_cell (blk_below KX2.out HDc.out) 3).trans rfl, (blk_cell (blk_below KX2.out HDc.out) 5).trans rfl⟩ (fun hH2 => ?_)
   clear hKc Kc hH hrc hbc HD0 H3 lc Cc HCb HLb
   refine XReg.one (i := 6) (some 27) rfl rfl (by kernel_rfl) (by decide) (fun Kc hKc => ?_)
   refine goes_ Try.func83 (by kernel_rfl) rfl #[.slice Ac b3.length cc, .string x.f4] (by rfl) rfl rfl (by (try simp only [List.map_toArray, List.map_cons, List.map_nil]); first | done | rfl) ?_
   refine (pannierref02_Text.calls 400 Ac cc b3 x.f4 (textS b3 x.f4) _ HCc.out HLc.out H4.out).mono ?_
   rintro e wd ⟨vd, rfl, hrd, hbd⟩
   refine ⟨_, rfl, ?_⟩
   have HDd := Aside0.mk (show Below wb.heap.size wb wd from HDc.out.trans (hbd.mono HDc.out.size))
   refine hKc.out _ _ ⟨(blk_cell (blk_below KX2.out HDd.out) 3).trans rfl, (blk_cell (blk_below KX2.out HDd.out) 5).trans rfl⟩ (fun hH3 => ?_)
   refine XReg.pu 7 5 (h := ?_)
   refine done_ (by kernel_rfl) ?_
   have HSC := Aside0.mk (show w.heap.size ≤ wc.heap.size from Nat.le_trans HB2.out.size HDc.out.size)
   clear hKc Kc hH2 hH3 HCc HLc H4 HDc
   have KX3 := Aside0.mk (blk_below KX2.out HDd.out)
   have HB3 := Aside0.mk (HB2.out.trans (HDd.out.mono HB2.out.size))
   obtain ⟨b4, hb4⟩ : ∃ b, textS b3 x.f4 = b := ⟨_, rfl⟩
   have HQ4 := Aside0.mk hb4
   have HQ3 := Aside0.mk hb3
   have HQ2 := Aside0.mk hb2
   have HQ1 := Aside0.mk hb1
   have hl4 : b4.length ≤ 6000 := by have := textS_len b3 x.f4; rw [← hb4]; omega
   rw [hb4] at hrd
   have HV4 := Aside0.mk (Kd.R_lower (base' := w.heap.size) hrd HSC.out)
   clear hrd hbd hb4
   clear hl3
   have HR := Aside0.mk (show (1 ≤ x.f3 ∧ x.f3 ≤ 3) ∧ (0 ≤ x.f5 ∧ x.f5 ≤ 9999) ∧ x.f6.length ≤ 128 from ⟨r7, ⟨r8, r9⟩, r5⟩)
   have H5 := Aside0.mk (show pannierref02_Number.f 400 b4 (IntKind.u64.wrap x.f3) = some (b4 ++ encN x.f3) from by
    have h := HR.out
    rw [u_id (by omega) (by omega)]
    exact refNumber_f x.f3 (by omega) _ (by omega) 400 (by omega))
   obtain ⟨b5, hb5⟩ : ∃ b, b4 ++ encN x.f3 = b := ⟨_, rfl⟩
   have HQ5 := Aside0.mk hb5
   have hl5 : b5.length ≤ 6010 := by have := encN_len x.f3; rw [← hb5, List.length_append]; omega
   rw [hb5] at H5
   have H6 := Aside0.mk (show pannierref02_Number.f 400 b5 (IntKind.u64.wrap x.f5) = some (b5 ++ encN x.f5) from by
    have h := HR.out
    rw [u_id (by omega) (by omega)]
    exact refNumber_f x.f5 (by omega) _ (by omega) 400 (by omega))
   obtain ⟨b6, hb6⟩ : ∃ b, b5 ++ encN x.f5 = b := ⟨_, rfl⟩
   have HQ6 := Aside0.mk hb6
   have hl6 : b6.length ≤ 6020 := by have := encN_len x.f5; rw [← hb6, List.length_append]; omega
   rw [hb6] at H6
   have H7 := Aside0.mk (show pannierref02_Number.f 400 b6 (x.f6.length : Int) = some (b6 ++ encN (x.f6.length : Int)) from by
    have h := HR.out
    exact refNumber_f (x.f6.length : Int) (by omega) _ (by omega) 400 (by omega))
   obtain ⟨b7, hb7⟩ : ∃ b, b6 ++ encN (x.f6.length : Int) = b := ⟨_, rfl⟩
   have HQ7 := Aside0.mk hb7
   have HL7B := Aside0.mk (show b7.length ≤ 6030 from by have := encN_len (x.f6.length : Int); rw [← hb7, List.length_append]; omega)
   rw [hb7] at H7
   obtain ⟨Ad, cd, rfl, ld, Cd⟩ := Kd.R_reads HV4.out
   have HLd := Aside0.mk ld
   have HCd := Aside0.mk Cd
   clear hb5 hb6 hb7 ld Cd
   go_wp2
   refine start_ (n := 10) (ds := []) (S := fun w' => w'.cell? ⟨N, 4, none⟩ = some (.int .i64 x.f3) ∧ w'.cell? ⟨N, 6, none⟩ = some (.int .i64 x.f5)) _ (by kernel_rfl) rfl rfl
    ⟨(blk_cell (blk_drew KX3.out) 4).trans rfl, (blk_cell (blk_drew KX3.out) 6).trans rfl⟩ (fun hH => ?_)
   refine XReg.pu 0 28 (h := ?_)
   refine XReg.pu 1 29 (h := ?_)
   refine XReg.tk 2 30 (h := ?_)
   refine XReg.pu 3 31 (h := ?_)
   refine XReg.pu 5 33 (h := ?_)
   refine XReg.tk 6 34 (h := ?_)
   refine XReg.pu 7 35 (h := ?_)
   have HD0 := Aside0.mk (show Below wd.heap.size wd wd.drew from below_drew1 (Below.refl _ wd))
   refine XReg.one (i := 4) (some 32) rfl rfl (by kernel_rfl) (by decide) (fun Kc hKc => ?_)
   refine goes_ Try.func84 (by kernel_rfl) rfl #[.slice Ad b4.length cd, .int .u64 (IntKind.u64.wrap x.f3)] (by rfl) rfl rfl (by (try simp only [List.map_toArray, List.map_cons, List.map_nil]); first | done | rfl) ?_
   refine (pannierref02_Number.calls 400 Ad cd b4 _ b5 _ (Kd.C_drew HCd.out) HLd.out H5.out).mono ?_
   rintro e we ⟨ve, rfl, hre, hbe⟩
   refine ⟨_, rfl, ?_⟩
   have HDe := Aside0.mk (show Below wd.heap.size wd we from HD0.out.trans (hbe.mono HD0.out.size))
   obtain ⟨Ae, ce, rfl, le, Ce⟩ := Kd.R_reads hre
   have HLe := Aside0.mk le
   have HCe := Aside0.mk Ce
   refine hKc.out _ _ ⟨(blk_cell (blk_below KX3.out HDe.out) 4).trans rfl, (blk_cell (blk_below KX3.out HDe.out) 6).trans rfl⟩ (fun hH2 => ?_)
   clear hKc Kc hH hre hbe HD0 H5 le Ce HCd HLd
   refine XReg.one (i := 8) (some 36) rfl rfl (by kernel_rfl) (by decide) (fun Kc hKc => ?_)
   refine goes_ Try.func84 (by kernel_rfl) rfl #[.slice Ae b5.length ce, .int .u64 (IntKind.u64.wrap x.f5)] (by rfl) rfl rfl (by (try simp only [List.map_toArray, List.map_cons, List.map_nil]); first | done | rfl) ?_
   refine (pannierref02_Number.calls 400 Ae ce b5 _ b6 _ HCe.out HLe.out H6.out).mono ?_
   rintro e wf ⟨vf, rfl, hrf, hbf⟩
   refine ⟨_, rfl, ?_⟩
   have HDf := Aside0.mk (show Below wd.heap.size wd wf from HDe.out.trans (hbf.mono HDe.out.size))
   refine hKc.out _ _ ⟨(blk_cell (blk_below KX3.out HDf.out) 4).trans rfl, (blk_cell (blk_below KX3.out HDf.out) 6).trans rfl⟩ (fun hH3 => ?_)
   refine XReg.pu 9 5 (h := ?_)
   refine done_ (by kernel_rfl) ?_
   have KX4 := Aside0.mk (blk_below KX3.out HDf.out)
   have HB4 := Aside0.mk (HB3.out.trans (HDf.out.mono HB3.out.size))
   obtain ⟨Af, cf, rfl, lf, Cf⟩ := Kd.R_reads hrf
   have HLf := Aside0.mk lf
   have HCf := Aside0.mk Cf
   clear hKc Kc hH2 hH3 HCe HLe H6 HDe hrf hbf lf Cf
   have e7 : wf.cell? ⟨N, 7, none⟩ = some (.slice A7 x.f6.length c7) := (blk_cell KX4.out 7).trans rfl
   go_wp2_with fail
   refine (pannierref02_Number.calls 400 Af cf b6 _ b7 _ HCf.out HLf.out H7.out).mono ?_
   rintro e wg ⟨vg, rfl, hrg, hbg⟩
   have KX5 := Aside0.mk (blk_below KX4.out hbg)
   have HB5 := Aside0.mk (HB4.out.trans (hbg.mono HB4.out.size))
   have HV5 := Aside0.mk (Kd.R_lower (base' := w.heap.size) hrg HB4.out.size)
   have HW5 := Aside0.mk (Below.refl wg.heap.size wg)
   have HF6 := Aside0.mk r6
   clear hrg hbg HCf HLf H7 e7
   go_wp2
   go_loopw [5, 7] (fun v5 v7 wr => ∃ (i : Nat) (T : List Int), v7 = .int .i64 i ∧ i ≤ x.f6.length ∧ Aside0 (T ++ layL [] (x.f6.drop i) = b7 ++ layL [] x.f6) ∧ Aside0 (T.length ≤ 7000 + 60 * i) ∧ Aside0 (Kd.R (Kd.int .u8) 5 wr w.heap.size (fun _ => True) v5 T) ∧ Aside0 (Below wg.heap.size wg wr)) (fun _ v7 _ => x.f6.length - (intOf v7).toNat)
   case atStart => exact ⟨0, b7, rfl, by omega, ⟨rfl⟩, ⟨by have := HL7B.out; omega⟩, HV5, HW5⟩
   case round =>
    clear HV5 HW5
    obtain ⟨i, T, rfl, hi6, HQT, HLT, HVt, HBt⟩ := hrel
    obtain ⟨At, ct, rfl, lt, Ct⟩ := Kd.R_reads HVt.out
    have HCt := Aside0.mk Ct
    have HLt := Aside0.mk lt
    have e7 : wr.cell? ⟨N, 7, none⟩ = some (.slice A7 x.f6.length c7) := (blk_cell (blk_below KX5.out HBt.out) 7).trans rfl
    clear Ct lt
    by_cases h6 : i < x.f6.length
    · obtain ⟨ad, had, f0, f1⟩ := at_T34 (Kd.C_below HG7.out (HB5.out.trans (HBt.out.mono HB5.out.size))) (i : Int) (by omega) (by omega)
      obtain ⟨d, hd⟩ : ∃ d, rd_T34 x.f6 (i : Int) = d := ⟨_, rfl⟩
      rw [hd] at f0 f1
      simp only [Int.toNat_natCast] at f0 f1
      subst had
      have hb3 : 0 ≤ (i : Int) ∧ (i : Int) < (x.f6.length : Int) := by omega
      have q1 : decide ((i : Int) < (x.f6.length : Int)) = true := by simp; omega
      have hdr := rd_drop x.f6 i h6
      rw [hd] at hdr
      have HDR := Aside0.mk hdr
      have hfd := HF6.out d (by rw [← hd]; unfold rd_T34; rw [Int.toNat_natCast, List.getD_eq_getElem?_getD, List.getElem?_eq_getElem h6]; exact List.getElem_mem h6)
      have HFD := Aside0.mk hfd
      clear hdr hfd hd
      go_wp2_with fail
      refine (pannierref08_dot.calls 400 At ct T d.f0 d.f1 _ _ HCt.out HLt.out (refDotB_f T d HFD.out.1 HFD.out.2.1 HFD.out.2.2 (by have := HLT.out; have := HR.out; omega) 400 (by omega))).mono ?_
      rintro e ws ⟨vs, rfl, hrs, hbs⟩
      have HVs := Aside0.mk (Kd.R_lower (base' := w.heap.size) hrs (Nat.le_trans HB5.out.size (HBt.out.size)))
      have HBs := Aside0.mk (HBt.out.trans (hbs.mono HBt.out.size))
      clear hrs hbs f0 f1 e7
      go_wp2
      go_round
      case measure => simp [intOf]; omega
      case rel => exact ⟨i + 1, _, by go_num, by omega, ⟨by
       have h := HQT.out
       rw [HDR.out, layL, lay_app] at h
       rw [← h]
       simp [textS, textB]⟩, ⟨by
       have h1 := textB_len d.f0
       have h2 := encN_len d.f1
       have h3 := HLT.out
       have h4 := HFD.out.1
       rw [List.length_append, List.length_append]
       omega⟩, HVs, HBs⟩
    · have hi : i = x.f6.length := by omega
      subst hi
      have q1 : decide ((x.f6.length : Int) < (x.f6.length : Int)) = false := by simp
      have hcv := own_string (P := Try.prog) Try.underlying63 Try.underlying5 Try.underlying9 (Kd.own_of_R HVt.out)
      have hT : T = layO x := by
       have h := HQT.out
       rw [List.drop_length, ← HQ7.out, ← HQ6.out, ← HQ5.out, ← HQ4.out, ← HQ3.out, ← HQ2.out, ← HQ1.out] at h
       unfold layO
       simpa [textS, textB, layL, List.append_assoc] using h
      have HT := Aside0.mk hT
      clear hT
      go_wp2
      go_ret2
      rw [HLF.out, HT.out]
      exact ⟨rfl, by first | exact HB5.out.trans (HBt.out.mono HB5.out.size) | (rw [← hN]; exact HB5.out.trans (HBt.out.mono HB5.out.size))⟩
end Go.Proofs.Ytenbkljgmgdegaa.PO
end
section
namespace Go.Proofs.Ytenbkljgmgdegaa.PO
open Go.RowKit Go.Proofs.YtenbkljgmgdegaaW.PrintWords Go.Proofs.YtenbkljgmgdegaaW.PrintLast Go.Proofs.YtenbkljgmgdegaaW.PrintMore Go.Proofs.Ytenbkljgmgdegaa.XW
open Go.Proofs.Ytenbkljgmgdegaa.XRange
set_option linter.unusedVariables false
set_option linter.unusedSimpArgs false
theorem refLayV_app (b : List Int) (hb : b.length ≤ 100000) (l : List S34) (h : rightS l = true) : pannierref07_Lay.f 400 b l = some (b ++ (layS [] l).1, 0) := by
 have h64 := (rightS_le h).1
 rw [refLay_f b (by omega) l 64 (by omega) (rightS_le h).1 (fun y hy => by have := (right_fine h y hy).1; omega) 400 (by omega)]
 unfold layS
 rw [if_pos h, if_pos h]
 show some (layL _ _, (0 : Int)) = some (_ ++ layL _ _, 0)
 rw [lay_app l (b ++ encN (l.length : Int)), lay_app l ([] ++ encN (l.length : Int))]
 simp
set_option maxHeartbeats 8000000 in
set_option maxRecDepth 100000 in
theorem refLayF_calls (f : Fr) (A7 : Option Addr) (c7 : Nat) (A8 : Option Addr) (c8 : Nat) (w : World) (l7 : f.kn.length ≤ c7) (g7 : Kd.C k34 w A7 f.kn.length f.kn) (l8 : f.op.length ≤ c8) (g8 : Kd.C k36 w A8 f.op.length f.op) (m : Nat) (hz : WfF m f) :
 Calls Try.prog 36 #[.agg #[.int .i64 f.k, .string f.fa, .string f.fb, .string f.ct, .int .i64 f.se, .int .i64 f.ix, .int .i64 f.mn, .slice A7 f.kn.length c7, .slice A8 f.op.length c8]] w fun e w' => e = .returned (.tuple #[.string (layFr f).1, .int .i64 (layFr f).2]) ∧ Below w.heap.size w w' := by
 have HG7 := Aside0.mk g7
 have HG8 := Aside0.mk g8
 have HL7 := Aside0.mk l7
 have HL8 := Aside0.mk l8
 have HZ := Aside0.mk hz
 clear l7 g7 l8 g8 hz
 obtain ⟨N, hN⟩ : ∃ N, w.heap.size = N := ⟨_, rfl⟩
 go_enter Try.func36, Try.ntmps36
 go_upto_region 1 with fail
 obtain ⟨w0, hw0⟩ : ∃ w0, w.alloc (.cells #[.int .i64 f.k, .string f.fa, .string f.fb, .string f.ct, .int .i64 f.se, .int .i64 f.ix, .int .i64 f.mn, .slice A7 f.kn.length c7, .slice A8 f.op.length c8] 54) = w0 := ⟨_, rfl⟩
 have HB0 := Aside0.mk (show Below w.heap.size w w0 from by rw [← hw0]; exact (Below.refl _ w).alloc (Nat.le_refl _) _)
 have HK0 := Aside0.mk (show w0.heap[N]? = some (.cells #[.int .i64 f.k, .string f.fa, .string f.fb, .string f.ct, .int .i64 f.se, .int .i64 f.ix, .int .i64 f.mn, .slice A7 f.kn.length c7, .slice A8 f.op.length c8] 54 (0, 0)) from by rw [← hw0, ← hN]; exact World.alloc_heap_new w _)
 try rw [hw0]
 try rw [hN]
 clear hw0
 obtain ⟨k0, k1, k2, k3, k4, k5, k6, k7, k8⟩ := cells9 HK0.out
 go_wp2_with fail
 refine (refRightF_calls f A7 c7 A8 c8 w0 HL7.out (Kd.C_below HG7.out HB0.out) HL8.out (Kd.C_below HG8.out HB0.out) m HZ.out).mono ?_
 obtain ⟨br, hbr⟩ : ∃ b, rightF f = b := ⟨_, rfl⟩
 have HBR := Aside0.mk hbr
 rw [hbr]
 rintro e w1 ⟨rfl, hb⟩
 have HB1 := Aside0.mk (HB0.out.trans (hb.mono HB0.out.size))
 have HK1 := Aside0.mk (blk_below HK0.out hb)
 clear hbr hb HB0 HK0 k0 k1 k2 k3 k4 k5 k6 k7 k8
 cases br with
 | false =>
   have hlf : layFr f = (⟨#[]⟩, 2) := by unfold layFr; rw [if_neg (by rw [HBR.out]; simp)]
   go_wp2
   go_ret2
   rw [hlf]
   exact ⟨rfl, by first | exact HB1.out | (rw [← hN]; exact HB1.out)⟩
 | true =>
   have hlf : layFr f = (strOfNums (sealT f.k (bodyB f)), 0) := by unfold layFr; rw [if_pos HBR.out]
   have HLF := Aside0.mk hlf
   clear hlf
   obtain ⟨s1, s2, s3, s4, s5, s6, s7⟩ := rightF_sizes HBR.out
   have hix : f.ix ≤ 1152921504606846976 := by
    unfold bodyF at s7
    by_cases k1 : f.k = 1
    · rw [if_pos k1] at s7
      simp only [Bool.and_eq_true, decide_eq_true_eq] at s7
      omega
    · rw [if_neg k1] at s7
      by_cases k2 : f.k = 2
      · rw [if_pos k2] at s7
        simp only [Bool.and_eq_true, decide_eq_true_eq] at s7
        omega
      · rw [if_neg k2] at s7
        simp only [Bool.and_eq_true, decide_eq_true_eq] at s7
        omega
   have H1 := Aside0.mk (refTextBig_f [] f.fa (by omega) (by simp) 400 (by omega))
   obtain ⟨b1, hb1⟩ : ∃ b, textS [] f.fa = b := ⟨_, rfl⟩
   have hl1 : b1.length ≤ 100 := by have h := textB_len f.fa; rw [← hb1, textS_app]; simp; omega
   rw [hb1] at H1
   have H2 := Aside0.mk (refTextBig_f b1 f.fb (by omega) (by omega) 400 (by omega))
   obtain ⟨b2, hb2⟩ : ∃ b, textS b1 f.fb = b := ⟨_, rfl⟩
   have hl2 : b2.length ≤ 200 := by have h := textB_len f.fb; rw [← hb2, textS_app]; simp; omega
   rw [hb2] at H2
   have H3 := Aside0.mk (refTextBig_f b2 f.ct (by omega) (by omega) 400 (by omega))
   obtain ⟨b3, hb3⟩ : ∃ b, textS b2 f.ct = b := ⟨_, rfl⟩
   have hl3 : b3.length ≤ 300 := by have h := textB_len f.ct; rw [← hb3, textS_app]; simp; omega
   rw [hb3] at H3
   have H4 := Aside0.mk (show pannierref02_Number.f 400 b3 (IntKind.u64.wrap f.se) = some (b3 ++ encN f.se) from by
    rw [u_id (by omega) (by omega)]
    exact refNumber_f f.se (by omega) _ (by omega) 400 (by omega))
   obtain ⟨b4, hb4⟩ : ∃ b, b3 ++ encN f.se = b := ⟨_, rfl⟩
   have hl4 : b4.length ≤ 310 := by have := encN_len f.se; rw [← hb4, List.length_append]; omega
   rw [hb4] at H4
   have H5 := Aside0.mk (show pannierref02_Number.f 400 b4 (IntKind.u64.wrap f.ix) = some (b4 ++ encN f.ix) from by
    rw [u_id (by omega) (by omega)]
    exact refNumber_f f.ix (by omega) _ (by omega) 400 (by omega))
   obtain ⟨b5, hb5⟩ : ∃ b, b4 ++ encN f.ix = b := ⟨_, rfl⟩
   have HL5 := Aside0.mk (show b5.length ≤ 320 from by have := encN_len f.ix; rw [← hb5, List.length_append]; omega)
   rw [hb5] at H5
   have HH := Aside0.mk (show headB f = b5 from by unfold headB; rw [hb1, hb2, hb3, hb4, hb5])
   have HS7 := Aside0.mk s7
   clear hb1 hb2 hb3 hb4 hb5 hl1 hl2 hl3 hl4 s1 s2 s3 s4 s5 s6 s7 hix
   go_wp2
   refine start_ (n := 10) (ds := []) (S := fun w' => w'.cell? ⟨N, 1, none⟩ = some (.string f.fa) ∧ w'.cell? ⟨N, 2, none⟩ = some (.string f.fb) ∧ w'.cell? ⟨N, 3, none⟩ = some (.string f.ct)) _ (by kernel_rfl) rfl rfl
    ⟨(blk_cell (blk_drew HK1.out) 1).trans rfl, (blk_cell (blk_drew HK1.out) 2).trans rfl, (blk_cell (blk_drew HK1.out) 3).trans rfl⟩ (fun hH => ?_)
   refine XReg.pu 0 13 (h := ?_)
   refine XReg.tk 1 14 (h := ?_)
   refine XReg.pu 3 16 (h := ?_)
   refine XReg.tk 4 17 (h := ?_)
   refine XReg.pu 6 19 (h := ?_)
   refine XReg.tk 7 20 (h := ?_)
   have HD0 := Aside0.mk (show Below w1.heap.size w1 w1.drew from below_drew1 (Below.refl _ w1))
   refine XReg.one (i := 2) (some 15) rfl rfl (by kernel_rfl) (by decide) (fun Kc hKc => ?_)
   refine goes_ Try.func83 (by kernel_rfl) rfl #[.slice none 0 0, .string f.fa] (by rfl) rfl rfl (by (try simp only [List.map_toArray, List.map_cons, List.map_nil]); first | done | rfl) ?_
   refine (pannierref02_Text.calls 400 none 0 [] f.fa b1 _ (Kd.C_nil _ _) (by simp) H1.out).mono ?_
   rintro e wa ⟨vv, rfl, hrr, hbb⟩
   refine ⟨_, rfl, ?_⟩
   have HDa := Aside0.mk (show Below w1.heap.size w1 wa from HD0.out.trans (hbb.mono HD0.out.size))
   obtain ⟨Aa, ca, rfl, ll, CC⟩ := Kd.R_reads hrr
   have HLAa := Aside0.mk ll
   have HCAa := Aside0.mk CC
   refine hKc.out _ _ ⟨(blk_cell (blk_below HK1.out HDa.out) 1).trans rfl, (blk_cell (blk_below HK1.out HDa.out) 2).trans rfl, (blk_cell (blk_below HK1.out HDa.out) 3).trans rfl⟩ (fun hHH => ?_)
   clear hKc Kc hbb ll CC
   clear hrr hHH hH HD0 H1
   refine XReg.one (i := 5) (some 18) rfl rfl (by kernel_rfl) (by decide) (fun Kc hKc => ?_)
   refine goes_ Try.func83 (by kernel_rfl) rfl #[.slice Aa b1.length ca, .string f.fb] (by rfl) rfl rfl (by (try simp only [List.map_toArray, List.map_cons, List.map_nil]); first | done | rfl) ?_
   refine (pannierref02_Text.calls 400 Aa ca b1 f.fb b2 _ HCAa.out HLAa.out H2.out).mono ?_
   rintro e wb ⟨vv, rfl, hrr, hbb⟩
   refine ⟨_, rfl, ?_⟩
   have HDb := Aside0.mk (show Below w1.heap.size w1 wb from HDa.out.trans (hbb.mono HDa.out.size))
   obtain ⟨Ab, cb, rfl, ll, CC⟩ := Kd.R_reads hrr
   have HLAb := Aside0.mk ll
   have HCAb := Aside0.mk CC
   refine hKc.out _ _ ⟨(blk_cell (blk_below HK1.out HDb.out) 1).trans rfl, (blk_cell (blk_below HK1.out HDb.out) 2).trans rfl, (blk_cell (blk_below HK1.out HDb.out) 3).trans rfl⟩ (fun hHH => ?_)
   clear hKc Kc hbb ll CC
   clear hrr hHH HDa H2 HCAa HLAa
   refine XReg.one (i := 8) (some 21) rfl rfl (by kernel_rfl) (by decide) (fun Kc hKc => ?_)
   refine goes_ Try.func83 (by kernel_rfl) rfl #[.slice Ab b2.length cb, .string f.ct] (by rfl) rfl rfl (by (try simp only [List.map_toArray, List.map_cons, List.map_nil]); first | done | rfl) ?_
   refine (pannierref02_Text.calls 400 Ab cb b2 f.ct b3 _ HCAb.out HLAb.out H3.out).mono ?_
   rintro e wc ⟨vv, rfl, hrr, hbb⟩
   refine ⟨_, rfl, ?_⟩
   have HDc := Aside0.mk (show Below w1.heap.size w1 wc from HDb.out.trans (hbb.mono HDb.out.size))
   obtain ⟨Ac, cc, rfl, ll, CC⟩ := Kd.R_reads hrr
   have HLAc := Aside0.mk ll
   have HCAc := Aside0.mk CC
   refine hKc.out _ _ ⟨(blk_cell (blk_below HK1.out HDc.out) 1).trans rfl, (blk_cell (blk_below HK1.out HDc.out) 2).trans rfl, (blk_cell (blk_below HK1.out HDc.out) 3).trans rfl⟩ (fun hHH => ?_)
   clear hKc Kc hbb ll CC
   clear hrr hHH H3 HCAb HLAb HDb
   refine XReg.pu 9 5 (h := ?_)
   refine done_ (by kernel_rfl) ?_
   have HK2 := Aside0.mk (blk_below HK1.out HDc.out)
   have HB2 := Aside0.mk (HB1.out.trans (HDc.out.mono HB1.out.size))
   clear HDc HK1 HB1
   go_wp2
   refine start_ (n := 10) (ds := []) (S := fun w' => w'.cell? ⟨N, 4, none⟩ = some (.int .i64 f.se) ∧ w'.cell? ⟨N, 5, none⟩ = some (.int .i64 f.ix)) _ (by kernel_rfl) rfl rfl
    ⟨(blk_cell (blk_drew HK2.out) 4).trans rfl, (blk_cell (blk_drew HK2.out) 5).trans rfl⟩ (fun hH => ?_)
   refine XReg.pu 0 22 (h := ?_)
   refine XReg.pu 1 23 (h := ?_)
   refine XReg.tk 2 24 (h := ?_)
   refine XReg.pu 3 25 (h := ?_)
   refine XReg.pu 5 27 (h := ?_)
   refine XReg.tk 6 28 (h := ?_)
   refine XReg.pu 7 29 (h := ?_)
   have HD0 := Aside0.mk (show Below wc.heap.size wc wc.drew from below_drew1 (Below.refl _ wc))
   refine XReg.one (i := 4) (some 26) rfl rfl (by kernel_rfl) (by decide) (fun Kc hKc => ?_)
   refine goes_ Try.func84 (by kernel_rfl) rfl #[.slice Ac b3.length cc, .int .u64 (IntKind.u64.wrap f.se)] (by rfl) rfl rfl (by (try simp only [List.map_toArray, List.map_cons, List.map_nil]); first | done | rfl) ?_
   refine (pannierref02_Number.calls 400 Ac cc b3 _ b4 _ (Kd.C_drew HCAc.out) HLAc.out H4.out).mono ?_
   rintro e wd ⟨vv, rfl, hrr, hbb⟩
   refine ⟨_, rfl, ?_⟩
   have HDd := Aside0.mk (show Below wc.heap.size wc wd from HD0.out.trans (hbb.mono HD0.out.size))
   obtain ⟨Ad, cd, rfl, ll, CC⟩ := Kd.R_reads hrr
   have HLAd := Aside0.mk ll
   have HCAd := Aside0.mk CC
   refine hKc.out _ _ ⟨(blk_cell (blk_below HK2.out HDd.out) 4).trans rfl, (blk_cell (blk_below HK2.out HDd.out) 5).trans rfl⟩ (fun hHH => ?_)
   clear hKc Kc hbb ll CC
   clear hrr hHH hH HD0 H4 HCAc HLAc
   refine XReg.one (i := 8) (some 30) rfl rfl (by kernel_rfl) (by decide) (fun Kc hKc => ?_)
   refine goes_ Try.func84 (by kernel_rfl) rfl #[.slice Ad b4.length cd, .int .u64 (IntKind.u64.wrap f.ix)] (by rfl) rfl rfl (by (try simp only [List.map_toArray, List.map_cons, List.map_nil]); first | done | rfl) ?_
   refine (pannierref02_Number.calls 400 Ad cd b4 _ b5 _ HCAd.out HLAd.out H5.out).mono ?_
   rintro e we ⟨vv, rfl, hrr, hbb⟩
   refine ⟨_, rfl, ?_⟩
   have HDe := Aside0.mk (show Below wc.heap.size wc we from HDd.out.trans (hbb.mono HDd.out.size))
   obtain ⟨Ae, ce, rfl, ll, CC⟩ := Kd.R_reads hrr
   have HLAe := Aside0.mk ll
   have HCAe := Aside0.mk CC
   refine hKc.out _ _ ⟨(blk_cell (blk_below HK2.out HDe.out) 4).trans rfl, (blk_cell (blk_below HK2.out HDe.out) 5).trans rfl⟩ (fun hHH => ?_)
   clear hKc Kc hbb ll CC
   have HSD := Aside0.mk (show w.heap.size ≤ wd.heap.size from Nat.le_trans HB2.out.size HDd.out.size)
   have HV5 := Aside0.mk (Kd.R_lower (base' := w.heap.size) hrr HSD.out)
   clear hrr hHH H5 HCAd HLAd HDd HSD
   refine XReg.pu 9 5 (h := ?_)
   refine done_ (by kernel_rfl) ?_
   have HK3 := Aside0.mk (blk_below HK2.out HDe.out)
   have HB3 := Aside0.mk (HB2.out.trans (HDe.out.mono HB2.out.size))
   clear HDe HK2 HB2
   obtain ⟨k0, k1, k2, k3, k4, k5, k6, k7, k8⟩ := cells9 HK3.out
   go_upto_block 0 with fail
   clear k0 k1 k2 k3 k4 k5 k6 k7 k8
   go_cut [5, 6, 7, 8] (fun s5 s6 s7 s8 wx => Aside0 (wx.heap[N]? = some (.cells #[.int .i64 f.k, .string f.fa, .string f.fb, .string f.ct, .int .i64 f.se, .int .i64 f.ix, .int .i64 f.mn, .slice A7 f.kn.length c7, .slice A8 f.op.length c8] 54 (0, 0)) ∧ Below w.heap.size w wx ∧ Kd.R (Kd.int .u8) 5 wx w.heap.size (fun _ => True) s5 (bodyB f)))
   case first =>
    by_cases hk1 : f.k = 1
    · have q1 : (f.k == 1) = true := by simp [hk1]
      have hv : rightS f.kn = true := by
       have h := HS7.out
       unfold bodyF at h
       rw [if_pos hk1] at h
       simp only [Bool.and_eq_true, decide_eq_true_eq] at h
       exact h.1.2
      have HBO := Aside0.mk (show bodyB f = b5 ++ (layS [] f.kn).1 from by unfold bodyB; rw [if_pos hk1, HH.out])
      have H6 := Aside0.mk (refLayV_app b5 (by have := HL5.out; omega) f.kn hv)
      obtain ⟨k0, k1, k2, k3, k4, k5, k6, k7, k8⟩ := cells9 HK3.out
      clear hk1 hv
      go_wp2_with fail
      refine (pannierref07_Lay.calls 400 Ae ce b5 A7 c7 f.kn (b5 ++ (layS [] f.kn).1) 0 _ HCAe.out HLAe.out (Kd.C_below HG7.out HB3.out) HL7.out H6.out).mono ?_
      rintro e wg ⟨vg, rfl, hrg, hbg⟩
      have HK4 := Aside0.mk (blk_below HK3.out hbg)
      have HB4 := Aside0.mk (HB3.out.trans (hbg.mono HB3.out.size))
      have HVg := Aside0.mk (Kd.R_lower (base' := w.heap.size) hrg HB3.out.size)
      clear hrg hbg k0 k1 k2 k3 k4 k5 k6 k7 k8
      go_wp2
      go_meet
      exact ⟨⟨HK4.out, HB4.out, by rw [HBO.out]; exact HVg.out⟩⟩
    have q1 : (f.k == 1) = false := by simpa using hk1
    by_cases hk2 : f.k = 2
    · have q2 : (f.k == 2) = true := by simp [hk2]
      have hv : 0 ≤ f.mn ∧ f.mn ≤ 512 ∧ f.op.length ≤ 8 := by
       have h := HS7.out
       have h6 := (rightF_sizes HBR.out).2.2.2.2.2.1
       unfold bodyF at h
       rw [if_neg hk1, if_pos hk2] at h
       simp only [Bool.and_eq_true, decide_eq_true_eq] at h
       omega
      have H6 := Aside0.mk (show pannierref02_Number.f 400 b5 (IntKind.u64.wrap f.mn) = some (b5 ++ encN f.mn) from by
       rw [u_id (by omega) (by omega)]
       exact refNumber_f f.mn (by omega) _ (by have := HL5.out; omega) 400 (by omega))
      obtain ⟨b6, hb6⟩ : ∃ b, b5 ++ encN f.mn = b := ⟨_, rfl⟩
      have hl6 : b6.length ≤ 330 := by have := encN_len f.mn; have := HL5.out; rw [← hb6, List.length_append]; omega
      rw [hb6] at H6
      have H7 := Aside0.mk (show pannierref02_Number.f 400 b6 (IntKind.u64.wrap (f.op.length : Int)) = some (b6 ++ encN (f.op.length : Int)) from by
       rw [u_id (by omega) (by omega)]
       exact refNumber_f (f.op.length : Int) (by omega) _ (by omega) 400 (by omega))
      obtain ⟨b7, hb7⟩ : ∃ b, b6 ++ encN (f.op.length : Int) = b := ⟨_, rfl⟩
      have HL7B := Aside0.mk (show b7.length ≤ 340 from by have := encN_len (f.op.length : Int); rw [← hb7, List.length_append]; omega)
      rw [hb7] at H7
      have HBO := Aside0.mk (show bodyB f = b7 ++ layOps [] f.op from by unfold bodyB; rw [if_neg hk1, if_pos hk2, HH.out, hb6, hb7, layOps_app])
      have HO8 := Aside0.mk hv.2.2
      clear hk1 hk2 hv hb6 hb7 hl6
      obtain ⟨k0, k1, k2, k3, k4, k5, k6, k7, k8⟩ := cells9 HK3.out
      go_wp2
      clear k0 k1 k2 k3 k4 k5 k6 k7 k8
      refine start_ (n := 11) (ds := []) (S := fun w' => w'.cell? ⟨N, 6, none⟩ = some (.int .i64 f.mn) ∧ w'.cell? ⟨N, 8, none⟩ = some (.slice A8 f.op.length c8)) _ (by kernel_rfl) rfl rfl
       ⟨(blk_cell (blk_drew HK3.out) 6).trans rfl, (blk_cell (blk_drew HK3.out) 8).trans rfl⟩ (fun hH => ?_)
      refine XReg.pu 0 44 (h := ?_)
      refine XReg.pu 1 45 (h := ?_)
      refine XReg.tk 2 46 (h := ?_)
      refine XReg.pu 3 47 (h := ?_)
      refine XReg.pu 5 49 (h := ?_)
      refine XReg.tk 6 50 (h := ?_)
      refine XReg.pu 7 51 (h := ?_)
      refine XReg.pu 8 52 (h := ?_)
      have HD0 := Aside0.mk (show Below we.heap.size we we.drew from below_drew1 (Below.refl _ we))
      refine XReg.one (i := 4) (some 48) rfl rfl (by kernel_rfl) (by decide) (fun Kc hKc => ?_)
      refine goes_ Try.func84 (by kernel_rfl) rfl #[.slice Ae b5.length ce, .int .u64 (IntKind.u64.wrap f.mn)] (by rfl) rfl rfl (by (try simp only [List.map_toArray, List.map_cons, List.map_nil]); first | done | rfl) ?_
      refine (pannierref02_Number.calls 400 Ae ce b5 _ b6 _ (Kd.C_drew HCAe.out) HLAe.out H6.out).mono ?_
      rintro e wf ⟨vv, rfl, hrr, hbb⟩
      refine ⟨_, rfl, ?_⟩
      have HDf := Aside0.mk (show Below we.heap.size we wf from HD0.out.trans (hbb.mono HD0.out.size))
      obtain ⟨Af, cf, rfl, ll, CC⟩ := Kd.R_reads hrr
      have HLAf := Aside0.mk ll
      have HCAf := Aside0.mk CC
      refine hKc.out _ _ ⟨(blk_cell (blk_below HK3.out HDf.out) 6).trans rfl, (blk_cell (blk_below HK3.out HDf.out) 8).trans rfl⟩ (fun hHH => ?_)
      clear hKc Kc hbb ll CC
      clear hrr hHH hH HD0 H6
      refine XReg.one (i := 9) (some 53) rfl rfl (by kernel_rfl) (by decide) (fun Kc hKc => ?_)
      refine goes_ Try.func84 (by kernel_rfl) rfl #[.slice Af b6.length cf, .int .u64 (IntKind.u64.wrap (f.op.length : Int))] (by rfl) rfl rfl (by (try simp only [List.map_toArray, List.map_cons, List.map_nil]); first | done | rfl) ?_
      refine (pannierref02_Number.calls 400 Af cf b6 _ b7 _ HCAf.out HLAf.out H7.out).mono ?_
      rintro e wg ⟨vv, rfl, hrr, hbb⟩
      refine ⟨_, rfl, ?_⟩
      have HDg := Aside0.mk (show Below we.heap.size we wg from HDf.out.trans (hbb.mono HDf.out.size))
      obtain ⟨Ag, cg, rfl, ll, CC⟩ := Kd.R_reads hrr
      have HLAg := Aside0.mk ll
      have HCAg := Aside0.mk CC
      refine hKc.out _ _ ⟨(blk_cell (blk_below HK3.out HDg.out) 6).trans rfl, (blk_cell (blk_below HK3.out HDg.out) 8).trans rfl⟩ (fun hHH => ?_)
      clear hKc Kc hbb ll CC
      have HSD := Aside0.mk (show w.heap.size ≤ wf.heap.size from Nat.le_trans HB3.out.size HDf.out.size)
      have HV7 := Aside0.mk (Kd.R_lower (base' := w.heap.size) hrr HSD.out)
      clear hrr hHH H7 HCAf HLAf HDf HSD
      refine XReg.pu 10 5 (h := ?_)
      refine done_ (by kernel_rfl) ?_
      have HK4 := Aside0.mk (blk_below HK3.out HDg.out)
      have HB4 := Aside0.mk (HB3.out.trans (HDg.out.mono HB3.out.size))
      have HW4 := Aside0.mk (Below.refl wg.heap.size wg)
      clear HDg
      go_wp2
      go_loopw [5, 6, 7, 8] (fun v5 v6 v7 v8 wr => ∃ (i : Nat) (T : List Int), v6 = .int .i64 i ∧ i ≤ f.op.length ∧ Aside0 (T ++ layOps [] (f.op.drop i) = b7 ++ layOps [] f.op) ∧ Aside0 (T.length ≤ 1000 + 20100 * i) ∧ Aside0 (Kd.R (Kd.int .u8) 5 wr w.heap.size (fun _ => True) v5 T) ∧ Aside0 (Below wg.heap.size wg wr)) (fun _ v6 _ _ _ => f.op.length - (intOf v6).toNat)
      case atStart => exact ⟨0, b7, rfl, by omega, ⟨rfl⟩, ⟨by have := HL7B.out; omega⟩, HV7, HW4⟩
      case round =>
       clear HV7 HW4
       obtain ⟨i, T, rfl, hi6, HQT, HLT, HVt, HBt⟩ := hrel
       have hO := HO8.out
       obtain ⟨At, ct, rfl, lt, Ct⟩ := Kd.R_reads HVt.out
       have HCt := Aside0.mk Ct
       have HLt := Aside0.mk lt
       have e8 : wr.cell? ⟨N, 8, none⟩ = some (.slice A8 f.op.length c8) := (blk_cell (blk_below HK4.out HBt.out) 8).trans rfl
       clear Ct lt
       by_cases h6 : i < f.op.length
       · obtain ⟨ad, A2, c2, A7', c7', had, f0, f1, f2, f3, f4, f5, f6, f7, l2, g2, l7, g7⟩ := at_T36 (Kd.C_below HG8.out (HB4.out.trans (HBt.out.mono HB4.out.size))) (i : Int) (by omega) (by omega)
         simp only [Int.toNat_natCast] at f0 f1 f2 f3 f4 f5 f6 f7
         have HW := Aside0.mk (HZ.out.op _ (rd_memF f.op i h6))
         have HRO := Aside0.mk (rightF_ops HBR.out _ (rd_memF f.op i h6))
         obtain ⟨x, hx⟩ : ∃ x, rd_T36 f.op (i : Int) = x := ⟨_, rfl⟩
         rw [hx] at f0 f1 f2 f3 f4 f5 f6 f7 l2 g2 l7 g7 HW HRO
         have HD := Aside0.mk (show f.op.drop i = x :: f.op.drop (i + 1) from by rw [← hx]; exact rd_drop36' f.op i h6)
         subst had
         have HL2 := Aside0.mk l2
         have HG2 := Aside0.mk g2
         have HL7' := Aside0.mk l7
         have HG7' := Aside0.mk g7
         have hb3 : 0 ≤ (i : Int) ∧ (i : Int) < (f.op.length : Int) := by omega
         have q3 : decide ((i : Int) < (f.op.length : Int)) = true := by simp; omega
         clear l2 g2 l7 g7 hx
         go_wp2_with fail
         refine (refLayO_calls x A2 c2 A7' c7' _ HL2.out HG2.out HL7'.out HG7'.out m HZ.out.m HW.out.1 HW.out.2.1 HW.out.2.2).mono ?_
         obtain ⟨⟨tx', ex⟩, hlx⟩ : ∃ r, layF x = r := ⟨_, rfl⟩
         have hsz := layF_size x
         rw [hlx] at hsz ⊢
         dsimp only at hsz ⊢
         have HLX := Aside0.mk hlx
         have HSZ := Aside0.mk hsz
         rintro e ws ⟨rfl, hbs⟩
         have HBs := Aside0.mk (HBt.out.trans (hbs.mono HBt.out.size))
         have HCs := Aside0.mk (Kd.C_below HCt.out hbs)
         clear hbs hlx hsz f0 f1 f2 f3 f4 f5 f6 f7 e8
         go_wp2_with fail
         refine (pannierref02_Text.calls 400 At ct T tx' _ _ HCs.out HLt.out (refTextBig_f T tx' (by have := HSZ.out; omega) (by have := HLT.out; have := HO8.out; omega) 400 (by omega))).mono ?_
         rintro e wu ⟨vu, rfl, hru, hbu⟩
         have HVu := Aside0.mk (Kd.R_lower (base' := w.heap.size) hru (Nat.le_trans HB4.out.size HBs.out.size))
         have HBu := Aside0.mk (HBs.out.trans (hbu.mono HBs.out.size))
         clear hru hbu
         go_wp2
         go_round
         case measure => simp [intOf]; omega
         case rel => exact ⟨i + 1, _, by go_num, by omega, ⟨by
          have h := HQT.out
          rw [HD.out, layOps_cons, HLX.out] at h
          rw [← h, textS_app]
          simp⟩, ⟨by
          have h1 := textB_len tx'
          have h3 := HLT.out
          have h4 := HSZ.out
          rw [textS_app, List.length_append]
          omega⟩, HVu, HBu⟩
       · have hi : i = f.op.length := by omega
         subst hi
         have q3 : decide ((f.op.length : Int) < (f.op.length : Int)) = false := by simp
         have HT := Aside0.mk (show T = bodyB f from by
          have h := HQT.out
          rw [List.drop_length] at h
          rw [HBO.out, ← h]
          simp [layOps])
         go_wp2
         go_meet
         exact ⟨⟨blk_below HK4.out HBt.out, HB4.out.trans (HBt.out.mono HB4.out.size), by rw [← HT.out]; exact HVt.out⟩⟩
    · have q2 : (f.k == 2) = false := by simpa using hk2
      have HBO := Aside0.mk (show bodyB f = b5 from by unfold bodyB; rw [if_neg hk1, if_neg hk2, HH.out])
      clear hk1 hk2
      go_wp2
      go_meet
      exact ⟨⟨HK3.out, HB3.out, by rw [HBO.out]; exact HV5.out⟩⟩
   case rest =>
    obtain ⟨⟨hk, hb, hr⟩⟩ := hcut
    have HK4 := Aside0.mk hk
    have HB4 := Aside0.mk hb
    have HVc := Aside0.mk hr
    clear hk hb hr HK3 HB3 HV5 HCAe HLAe
    obtain ⟨At, ct, e5, lt, Ct⟩ := Kd.R_reads HVc.out
    subst e5
    have hcv := own_string (P := Try.prog) Try.underlying63 Try.underlying5 Try.underlying9 (Kd.own_of_R HVc.out)
    have HBY := Aside0.mk (show bytesOf (strOfNums (bodyB f)) = bodyB f from bytes_nums (bodyB_B HBR.out))
    have HSZ := Aside0.mk (show (strOfNums (bodyB f)).size ≤ 1000000 from by
     have h1 := bytesOf_length (strOfNums (bodyB f))
     have h2 := bodyB_len HBR.out
     rw [HBY.out] at h1
     omega)
    have hk : f.k % 256 = f.k := by have := rightF_k HBR.out; omega
    have x0 := (cells9 HK4.out).e0
    clear lt Ct
    go_wp2_with fail
    try rw [hk]
    refine (refSeal_calls f.k (strOfNums (bodyB f)) HSZ.out _).mono ?_
    rw [HBY.out]
    rintro e w9 ⟨rfl, hb⟩
    have HB9 := Aside0.mk (HB4.out.trans (hb.mono HB4.out.size))
    clear hb hcv x0
    go_wp2
    go_ret2
    rw [HLF.out]
    exact ⟨rfl, by first | exact HB9.out | (rw [← hN]; exact HB9.out)⟩
end Go.Proofs.Ytenbkljgmgdegaa.PO
end
