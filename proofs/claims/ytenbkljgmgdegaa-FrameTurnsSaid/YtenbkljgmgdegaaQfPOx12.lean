/- What the rows of this claim use, out of the texts of this work (POx12). No condition beyond those that each statement names. -/
import Derived.Test.YtenbkljgmgdegaaQfPOx0
import Derived.Test.YtenbkljgmgdegaaQfOA
import Derived.Test.YtenbkljgmgdegaaQfPOx2
import Derived.Test.YtenbkljgmgdegaaQfPOx7
namespace Go.Proofs.Ytenbkljgmgdegaa.PO
open Go.RowKit Go.Proofs.YtenbkljgmgdegaaW.PrintWords Go.Proofs.YtenbkljgmgdegaaW.PrintLast Go.Proofs.YtenbkljgmgdegaaW.PrintMore
attribute [local go_sem] max2_int min2_int max_two min_two max_three min_three max_four min_four   -- for this text's walks alone
set_option linter.unusedVariables false
set_option linter.unusedSimpArgs false
attribute [local go_sem high] eqA34
def pannierref07_Same.l0 : Nat → List (S34) → List (S34) → Int → Option (Bool)
 | 0, _, _, _ => none
 | k + 1, x0, x1, x5 => if x5 < (x0.length : Int) then (if 0 ≤ x5 then (if x5 < (x1.length : Int) then (if (!((((rd_T34 x0 x5).f0).toList) == (((rd_T34 x1 x5).f0).toList)) || (!(((rd_T34 x0 x5).f1) == ((rd_T34 x1 x5).f1)))) = true then (some false) else (pannierref07_Same.l0 k x0 x1 (wrap64 (x5 + 1)))) else (none)) else (none)) else (some true)
def pannierref07_Same.f (k : Nat) (l0 : List (S34)) (l1 : List (S34)) : Option (Bool) := if (l0.length : Int) = (l1.length : Int) then (pannierref07_Same.l0 k l0 l1 0) else (some false)
set_option maxHeartbeats 8000000 in
set_option maxRecDepth 100000 in
theorem pannierref07_Same.calls (k : Nat) (A0 : Option Addr) (c0 : Nat) (l0 : List (S34)) (A1 : Option Addr) (c1 : Nat) (l1 : List (S34)) (r : Bool) (w : World) (hr0 : Kd.C k34 w A0 l0.length l0) (hc0 : l0.length ≤ c0) (hr1 : Kd.C k34 w A1 l1.length l1) (hc1 : l1.length ≤ c1) (h : pannierref07_Same.f k l0 l1 = some r) :
 Calls Try.prog 26 #[.slice A0 l0.length c0, .slice A1 l1.length c1] w fun e w' => e = .returned (.bool r) ∧ Drawn0 w w' := by
 have hu34 := Try.underlying34
 have HR0 := Aside0.mk hr0
 have HC0 := Aside0.mk hc0
 clear hr0 hc0
 have HR1 := Aside0.mk hr1
 have HC1 := Aside0.mk hc1
 clear hr1 hc1
 have H : (if (l0.length : Int) = (l1.length : Int) then (pannierref07_Same.l0 k l0 l1 0) else (some false)) = some r := h
 clear h
 by_cases c3 : (l0.length : Int) = (l1.length : Int)
 · rw [if_pos c3] at H
   have c3b0 : ((l0.length : Int) == (l1.length : Int)) = true := beq_iff_eq.mpr c3
   have c3b1 : ((l0.length : Int) != (l1.length : Int)) = false := bne_eq_false_iff_eq.mpr c3
   have c3b2 : (l0.length == l1.length) = true := by first | simpa using c3 | (simp at c3 ⊢; omega)
   clear c3
   have H' := Aside0.mk H
   clear H
   go_enter Try.func26, Try.ntmps26
   go_wp2
   repeat (go_quiet (fail); try go_wp2)
   go_loopg [5] k (fun kq v5 w' => ∃ (x5_1 : Int), v5 = .int .i64 x5_1 ∧ Aside0 (pannierref07_Same.l0 kq l0 l1 x5_1 = some r) ∧ Aside0 (kq ≤ k) ∧ Drawn0 w w')
   case atStart => exact ⟨(0), (by first | rfl | (simp; done) | (simp [*]; done)), H', ⟨Nat.le_refl _⟩, by repeat (first | exact Drawn0.refl _ | apply Drawn0.step)⟩
   case round =>
    clear H'
    try clear c1
    try clear c2
    try clear p2
    try clear c3
    try clear c3b0
    try clear c3b1
    try clear c3b2
    obtain ⟨x5_1, rfl, HA, HK1, ⟨m1, rfl⟩⟩ := hrel
    cases gk with
    | zero => exact absurd HA.out (by simp [pannierref07_Same.l0])
    | succ k1 =>
     have H := HA.out
     clear HA
     simp only [pannierref07_Same.l0] at H
     by_cases c4 : x5_1 < (l0.length : Int)
     · rw [if_pos c4] at H
       have c4b0 : decide (x5_1 < (l0.length : Int)) = true := decide_eq_true c4
       clear c4
       by_cases c5 : 0 ≤ x5_1
       · rw [if_pos c5] at H
         have c5b0 : decide (0 ≤ x5_1) = true := decide_eq_true c5
         clear c5
         by_cases c6 : x5_1 < (l1.length : Int)
         · rw [if_pos c6] at H
           have c6b0 : decide (x5_1 < (l1.length : Int)) = true := decide_eq_true c6
           clear c6
           by_cases c7 : (!((((rd_T34 l0 x5_1).f0).toList) == (((rd_T34 l1 x5_1).f0).toList)) || (!(((rd_T34 l0 x5_1).f1) == ((rd_T34 l1 x5_1).f1)))) = true
           · rw [if_pos c7] at H
             have c7b0 : (!((((rd_T34 l0 x5_1).f0).toList) == (((rd_T34 l1 x5_1).f0).toList)) || (!(((rd_T34 l0 x5_1).f1) == ((rd_T34 l1 x5_1).f1)))) = true := c7
             clear c7
             obtain rfl := Option.some.inj H
             have p178 : 0 ≤ (x5_1 : Int) := of_decide_eq_true (by first | (with_reducible assumption) | assumption)
             have q178 : x5_1 < (l0.length : Int) := of_decide_eq_true (by first | (with_reducible assumption) | assumption)
             obtain ⟨ad178, e178, hx178_0, hx178_1⟩ := at_T34 HR0.out x5_1 p178 q178
             cases e178
             replace p178 := eq_true p178
             replace q178 := eq_true q178
             have p179 : 0 ≤ (x5_1 : Int) := of_decide_eq_true (by first | (with_reducible assumption) | assumption)
             have q179 : x5_1 < (l1.length : Int) := of_decide_eq_true (by first | (with_reducible assumption) | assumption)
             obtain ⟨ad179, e179, hx179_0, hx179_1⟩ := at_T34 HR1.out x5_1 p179 q179
             cases e179
             replace p179 := eq_true p179
             replace q179 := eq_true q179
             go_wp2
             repeat (go_quiet (fail); try go_wp2)
             go_ret
             exact ⟨by first | rfl | (simp; done) | (simp [*]; done), by repeat (first | exact Drawn0.refl _ | apply Drawn0.step)⟩
           · rw [if_neg c7] at H
             have c7b0 : (!((((rd_T34 l0 x5_1).f0).toList) == (((rd_T34 l1 x5_1).f0).toList)) || (!(((rd_T34 l0 x5_1).f1) == ((rd_T34 l1 x5_1).f1)))) = false := by simpa using c7
             clear c7
             have H' := Aside0.mk H
             clear H
             have p178 : 0 ≤ (x5_1 : Int) := of_decide_eq_true (by first | (with_reducible assumption) | assumption)
             have q178 : x5_1 < (l0.length : Int) := of_decide_eq_true (by first | (with_reducible assumption) | assumption)
             obtain ⟨ad178, e178, hx178_0, hx178_1⟩ := at_T34 HR0.out x5_1 p178 q178
             cases e178
             replace p178 := eq_true p178
             replace q178 := eq_true q178
             have p179 : 0 ≤ (x5_1 : Int) := of_decide_eq_true (by first | (with_reducible assumption) | assumption)
             have q179 : x5_1 < (l1.length : Int) := of_decide_eq_true (by first | (with_reducible assumption) | assumption)
             obtain ⟨ad179, e179, hx179_0, hx179_1⟩ := at_T34 HR1.out x5_1 p179 q179
             cases e179
             replace p179 := eq_true p179
             replace q179 := eq_true q179
             go_wp2
             repeat (go_quiet (fail); try go_wp2)
             go_roundg k1
             case measure => have := HK1.out; omega
             case rel => exact ⟨(wrap64 (x5_1 + 1)), (by first | rfl | (simp; done) | (simp [*]; done)), H', ⟨by have := HK1.out; omega⟩, by repeat (first | exact Drawn0.refl _ | apply Drawn0.step)⟩
         · rw [if_neg c6] at H
           exact absurd H (by simp)
       · rw [if_neg c5] at H
         exact absurd H (by simp)
     · rw [if_neg c4] at H
       have c4b0 : decide (x5_1 < (l0.length : Int)) = false := decide_eq_false c4
       clear c4
       obtain rfl := Option.some.inj H
       go_wp2
       repeat (go_quiet (fail); try go_wp2)
       go_ret
       exact ⟨by first | rfl | (simp; done) | (simp [*]; done), by repeat (first | exact Drawn0.refl _ | apply Drawn0.step)⟩
 · rw [if_neg c3] at H
   have c3b0 : ((l0.length : Int) == (l1.length : Int)) = false := beq_eq_false_iff_ne.mpr c3
   have c3b1 : ((l0.length : Int) != (l1.length : Int)) = true := bne_iff_ne.mpr c3
   have c3b2 : (l0.length == l1.length) = false := by first | simpa using c3 | (simp at c3 ⊢; omega)
   obtain rfl := Option.some.inj H
   go_enter Try.func26, Try.ntmps26
   go_wp2
   repeat (go_quiet (fail); try go_wp2)
   go_ret
   exact ⟨by first | rfl | (simp; done) | (simp [*]; done), by repeat (first | exact Drawn0.refl _ | apply Drawn0.step)⟩
def pannierref08_Equal.f (k : Nat) (a0_0 : ByteArray) (a0_1 : Int) (l0_2 : List (S34)) (a0_3 : ByteArray) (a0_4 : Int) (a0_5 : ByteArray) (a0_6 : Int) (l0_7 : List (S34)) (a1_0 : ByteArray) (a1_1 : Int) (l1_2 : List (S34)) (a1_3 : ByteArray) (a1_4 : Int) (a1_5 : ByteArray) (a1_6 : Int) (l1_7 : List (S34)) : Option (Bool) := (pannierref07_Same.f k l0_2 l1_2).bind fun t182 => ((pannierref07_Same.f k l0_7 l1_7).bind fun t183 => (if t182 = true then (if t183 = true then (if (a0_0.toList == a1_0.toList && (a0_1 == a1_1)) = true then (if a0_3.toList = a1_3.toList then (if a0_4 = a1_4 then (if a0_5.toList = a1_5.toList then (some (a0_6 == a1_6)) else (some false)) else (some false)) else (some false)) else (some false)) else (some false)) else (some false)))
set_option maxHeartbeats 8000000 in
set_option maxRecDepth 100000 in
theorem pannierref08_Equal.calls (k : Nat) (a0_0 : ByteArray) (a0_1 : Int) (A0_2 : Option Addr) (c0_2 : Nat) (l0_2 : List (S34)) (a0_3 : ByteArray) (a0_4 : Int) (a0_5 : ByteArray) (a0_6 : Int) (A0_7 : Option Addr) (c0_7 : Nat) (l0_7 : List (S34)) (a1_0 : ByteArray) (a1_1 : Int) (A1_2 : Option Addr) (c1_2 : Nat) (l1_2 : List (S34)) (a1_3 : ByteArray) (a1_4 : Int) (a1_5 : ByteArray) (a1_6 : Int) (A1_7 : Option Addr) (c1_7 : Nat) (l1_7 : List (S34)) (r : Bool) (w : World) (hr0_2 : Kd.C k34 w A0_2 l0_2.length l0_2) (hc0_2 : l0_2.length ≤ c0_2) (hr0_7 : Kd.C k34 w A0_7 l0_7.length l0_7) (hc0_7 : l0_7.length ≤ c0_7) (hr1_2 : Kd.C k34 w A1_2 l1_2.length l1_2) (hc1_2 : l1_2.length ≤ c1_2) (hr1_7 : Kd.C k34 w A1_7 l1_7.length l1_7) (hc1_7 : l1_7.length ≤ c1_7) (h : pannierref08_Equal.f k a0_0 a0_1 l0_2 a0_3 a0_4 a0_5 a0_6 l0_7 a1_0 a1_1 l1_2 a1_3 a1_4 a1_5 a1_6 l1_7 = some r) :
 Calls Try.prog 48 #[.agg #[.string a0_0, .int .i64 a0_1, .slice A0_2 l0_2.length c0_2, .string a0_3, .int .i64 a0_4, .string a0_5, .int .i64 a0_6, .slice A0_7 l0_7.length c0_7], .agg #[.string a1_0, .int .i64 a1_1, .slice A1_2 l1_2.length c1_2, .string a1_3, .int .i64 a1_4, .string a1_5, .int .i64 a1_6, .slice A1_7 l1_7.length c1_7]] w fun e w' => e = .returned (.bool r) ∧ Below w.heap.size w w' := by
 have hu36 := Try.underlying36
 have hu34 := Try.underlying34
 have HR0_2 := Aside0.mk hr0_2
 have HC0_2 := Aside0.mk hc0_2
 clear hr0_2 hc0_2
 have HR0_7 := Aside0.mk hr0_7
 have HC0_7 := Aside0.mk hc0_7
 clear hr0_7 hc0_7
 have HR1_2 := Aside0.mk hr1_2
 have HC1_2 := Aside0.mk hc1_2
 clear hr1_2 hc1_2
 have HR1_7 := Aside0.mk hr1_7
 have HC1_7 := Aside0.mk hc1_7
 clear hr1_7 hc1_7
 have HB := Aside0.mk (Below.refl w.heap.size w)
 have H : ((pannierref07_Same.f k l0_2 l1_2).bind fun t182 => ((pannierref07_Same.f k l0_7 l1_7).bind fun t183 => (if t182 = true then (if t183 = true then (if (a0_0.toList == a1_0.toList && (a0_1 == a1_1)) = true then (if a0_3.toList = a1_3.toList then (if a0_4 = a1_4 then (if a0_5.toList = a1_5.toList then (some (a0_6 == a1_6)) else (some false)) else (some false)) else (some false)) else (some false)) else (some false)) else (some false)))) = some r := h
 clear h
 replace H := Option.bind_eq_some_iff.mp H
 obtain ⟨t182, A30, H⟩ := H
 replace H : ((pannierref07_Same.f k l0_7 l1_7).bind fun t183 => (if t182 = true then (if t183 = true then (if (a0_0.toList == a1_0.toList && (a0_1 == a1_1)) = true then (if a0_3.toList = a1_3.toList then (if a0_4 = a1_4 then (if a0_5.toList = a1_5.toList then (some (a0_6 == a1_6)) else (some false)) else (some false)) else (some false)) else (some false)) else (some false)) else (some false))) = some r := H
 have A3 := Aside0.mk A30
 clear A30
 replace H := Option.bind_eq_some_iff.mp H
 obtain ⟨t183, A40, H⟩ := H
 replace H : (if t182 = true then (if t183 = true then (if (a0_0.toList == a1_0.toList && (a0_1 == a1_1)) = true then (if a0_3.toList = a1_3.toList then (if a0_4 = a1_4 then (if a0_5.toList = a1_5.toList then (some (a0_6 == a1_6)) else (some false)) else (some false)) else (some false)) else (some false)) else (some false)) else (some false)) = some r := H
 have A4 := Aside0.mk A40
 clear A40
 by_cases c5 : t182 = true
 subst c5
 have H1 : (if t183 = true then (if (a0_0.toList == a1_0.toList && (a0_1 == a1_1)) = true then (if a0_3.toList = a1_3.toList then (if a0_4 = a1_4 then (if a0_5.toList = a1_5.toList then (some (a0_6 == a1_6)) else (some false)) else (some false)) else (some false)) else (some false)) else (some false)) = some r := by rw [if_pos rfl] at H; exact H
 clear H
 have H := H1
 clear H1
 by_cases c6 : t183 = true
 subst c6
 have H1 : (if (a0_0.toList == a1_0.toList && (a0_1 == a1_1)) = true then (if a0_3.toList = a1_3.toList then (if a0_4 = a1_4 then (if a0_5.toList = a1_5.toList then (some (a0_6 == a1_6)) else (some false)) else (some false)) else (some false)) else (some false)) = some r := by rw [if_pos rfl] at H; exact H
 clear H
 have H := H1
 clear H1
 by_cases c7 : (a0_0.toList == a1_0.toList && (a0_1 == a1_1)) = true
 rw [if_pos c7] at H
 have c7b0 : (a0_0.toList == a1_0.toList && (a0_1 == a1_1)) = true := c7
 (try (have c7b1 : decide (a0_0.toList = a1_0.toList && (a0_1 == a1_1)) = true := by simpa using c7))
 (try (have c7b2 : (a0_0.toList == a1_0.toList && (a0_1 == a1_1)) = true := by simpa using c7))
 clear c7
 by_cases c8 : a0_3.toList = a1_3.toList
 rw [if_pos c8] at H
 have c8b0 : (a0_3.toList == a1_3.toList) = true := beq_iff_eq.mpr c8
 have c8b1 : (a0_3.toList != a1_3.toList) = false := bne_eq_false_iff_eq.mpr c8
 clear c8
 by_cases c9 : a0_4 = a1_4
 rw [if_pos c9] at H
 have c9b0 : (a0_4 == a1_4) = true := beq_iff_eq.mpr c9
 have c9b1 : (a0_4 != a1_4) = false := bne_eq_false_iff_eq.mpr c9
 clear c9
 by_cases c10 : a0_5.toList = a1_5.toList
 rw [if_pos c10] at H
 have c10b0 : (a0_5.toList == a1_5.toList) = true := beq_iff_eq.mpr c10
 have c10b1 : (a0_5.toList != a1_5.toList) = false := bne_eq_false_iff_eq.mpr c10
 clear c10
 obtain rfl := Option.some.inj H
 rotate_left
 rw [if_neg c10] at H
 have c10b0 : (a0_5.toList == a1_5.toList) = false := beq_eq_false_iff_ne.mpr c10
 have c10b1 : (a0_5.toList != a1_5.toList) = true := bne_iff_ne.mpr c10
 obtain rfl := Option.some.inj H
 rotate_left
 rw [if_neg c9] at H
 have c9b0 : (a0_4 == a1_4) = false := beq_eq_false_iff_ne.mpr c9
 have c9b1 : (a0_4 != a1_4) = true := bne_iff_ne.mpr c9
 obtain rfl := Option.some.inj H
 rotate_left
 rw [if_neg c8] at H
 have c8b0 : (a0_3.toList == a1_3.toList) = false := beq_eq_false_iff_ne.mpr c8
 have c8b1 : (a0_3.toList != a1_3.toList) = true := bne_iff_ne.mpr c8
 obtain rfl := Option.some.inj H
 rotate_left
 rw [if_neg c7] at H
 have c7b0 : (a0_0.toList == a1_0.toList && (a0_1 == a1_1)) = false := by simpa using c7
 (try (have c7b1 : decide (a0_0.toList = a1_0.toList && (a0_1 == a1_1)) = false := by simpa using c7))
 (try (have c7b2 : (a0_0.toList == a1_0.toList && (a0_1 == a1_1)) = false := by simpa using c7))
 (try (have c7b3 : ¬ (a0_0.toList = a1_0.toList && (a0_1 == a1_1)) := by simpa using c7))
 clear c7
 obtain rfl := Option.some.inj H
 rotate_left
 · replace c6 := Bool.eq_false_iff.mpr c6
   subst c6
   have H1 : (some false) = some r := by rw [if_neg (show ¬ (false = true) by decide)] at H; exact H
   clear H
   have H := H1
   clear H1
   obtain rfl := Option.some.inj H
   go_enter Try.func48, Try.ntmps48
   go_wp2_with (first | ((with_reducible refine gate_dst (N := 2) rfl ?_); refine box_event ?hg (N := 2) ?hd (cs := #[.string a0_0, .int .i64 a0_1, .slice A0_2 l0_2.length c0_2, .string a0_3, .int .i64 a0_4, .string a0_5, .int .i64 a0_6, .slice A0_7 l0_7.length c0_7]) (t := 36) ?hr ?_; (case hd => rfl); (case hg => rfl); (case hr => first | (go_simp; done) | (go_simp; rfl)); intro gb180 hg w36 hbox hb; have n0_ := Aside0.mk (below_step (by repeat (first | (with_reducible first | exact HB.out | apply below_alloc | apply pw_below_drewN | apply below_drew1) | exact HB.out)) hb); have n1_ := Aside0.mk (hbox); have n2_ := Aside0.mk ((by rw [hg]; exact (below_size (by repeat (first | (with_reducible first | exact HB.out | apply below_alloc | apply pw_below_drewN | apply below_drew1) | exact HB.out))) : w.heap.size ≤ gb180)); have n3_ := Aside0.mk ((by rw [hg]; exact (below_size (by repeat (first | (with_reducible first | exact HB.out | apply below_alloc | apply pw_below_drewN | apply below_drew1) | exact HB.out))) : w.heap.size ≤ gb180)); clear HB; have HB := n0_; have BK180 := n1_; have GW180 := n2_; have GE180 := n3_; clear n0_ n1_ n2_ n3_; clear hb hbox hg) | ((with_reducible refine gate_dst (N := 3) rfl ?_); refine box_event ?hg (N := 3) ?hd (cs := #[.string a1_0, .int .i64 a1_1, .slice A1_2 l1_2.length c1_2, .string a1_3, .int .i64 a1_4, .string a1_5, .int .i64 a1_6, .slice A1_7 l1_7.length c1_7]) (t := 36) ?hr ?_; (case hd => rfl); (case hg => rfl); (case hr => first | (go_simp; done) | (go_simp; rfl)); intro gb181 hg w37 hbox hb; have n0_ := Aside0.mk (blk_below (g := gb180) (o := .cells #[.string a0_0, .int .i64 a0_1, .slice A0_2 l0_2.length c0_2, .string a0_3, .int .i64 a0_4, .string a0_5, .int .i64 a0_6, .slice A0_7 l0_7.length c0_7] 36 (0, 0)) (by (with_reducible repeat (first | refine blk_drewN ?_ _ | refine blk_drew ?_ | refine blk_alloc ?_ _)); exact BK180.out) hb); have n1_ := Aside0.mk (below_step (by repeat (first | (with_reducible first | exact HB.out | apply below_alloc | apply pw_below_drewN | apply below_drew1 | refine below_set ?_ GE180.out) | exact HB.out)) hb); have n2_ := Aside0.mk (hbox); have n3_ := Aside0.mk ((by rw [hg]; exact (below_size (by repeat (first | (with_reducible first | exact HB.out | apply below_alloc | apply pw_below_drewN | apply below_drew1 | refine below_set ?_ GE180.out) | exact HB.out))) : w.heap.size ≤ gb181)); have n4_ := Aside0.mk ((by rw [hg]; exact (below_size (by repeat (first | (with_reducible first | exact HB.out | apply below_alloc | apply pw_below_drewN | apply below_drew1 | refine below_set ?_ GE180.out) | exact HB.out))) : w.heap.size ≤ gb181)); have n5_ := Aside0.mk ((by rw [hg]; exact Nat.ne_of_lt (blk_lt (g := gb180) (o := .cells #[.string a0_0, .int .i64 a0_1, .slice A0_2 l0_2.length c0_2, .string a0_3, .int .i64 a0_4, .string a0_5, .int .i64 a0_6, .slice A0_7 l0_7.length c0_7] 36 (0, 0)) (by (with_reducible repeat (first | refine blk_drewN ?_ _ | refine blk_drew ?_ | refine blk_alloc ?_ _)); exact BK180.out)) : gb180 ≠ gb181)); have n6_ := Aside0.mk ((by rw [hg]; exact Nat.ne_of_gt (blk_lt (g := gb180) (o := .cells #[.string a0_0, .int .i64 a0_1, .slice A0_2 l0_2.length c0_2, .string a0_3, .int .i64 a0_4, .string a0_5, .int .i64 a0_6, .slice A0_7 l0_7.length c0_7] 36 (0, 0)) (by (with_reducible repeat (first | refine blk_drewN ?_ _ | refine blk_drew ?_ | refine blk_alloc ?_ _)); exact BK180.out)) : gb181 ≠ gb180)); clear BK180; clear HB; have BK180 := n0_; have HB := n1_; have BK181 := n2_; have GW181 := n3_; have GE181 := n4_; have NB180_181 := n5_; have NB181_180 := n6_; clear n0_ n1_ n2_ n3_ n4_ n5_ n6_; clear hb hbox hg; have hnb38 := NB180_181.out; have hnc38 := NB181_180.out; have hcz39_0 : w37.cell? ⟨gb180, 0, none⟩ = some (.string a0_0) := (blk_cell BK180.out 0).trans rfl; have hcz39_1 : w37.cell? ⟨gb180, 1, none⟩ = some (.int .i64 a0_1) := (blk_cell BK180.out 1).trans rfl; have hcz39_2 : w37.cell? ⟨gb180, 2, none⟩ = some (.slice A0_2 l0_2.length c0_2) := (blk_cell BK180.out 2).trans rfl; have hcz39_3 : w37.cell? ⟨gb180, 3, none⟩ = some (.string a0_3) := (blk_cell BK180.out 3).trans rfl; have hcz39_4 : w37.cell? ⟨gb180, 4, none⟩ = some (.int .i64 a0_4) := (blk_cell BK180.out 4).trans rfl; have hcz39_5 : w37.cell? ⟨gb180, 5, none⟩ = some (.string a0_5) := (blk_cell BK180.out 5).trans rfl; have hcz39_6 : w37.cell? ⟨gb180, 6, none⟩ = some (.int .i64 a0_6) := (blk_cell BK180.out 6).trans rfl; have hcz39_7 : w37.cell? ⟨gb180, 7, none⟩ = some (.slice A0_7 l0_7.length c0_7) := (blk_cell BK180.out 7).trans rfl; have hfz39_0 := blk_frozen BK180.out 0; have hfz39_1 := blk_frozen BK180.out 1; have hfz39_2 := blk_frozen BK180.out 2; have hfz39_3 := blk_frozen BK180.out 3; have hfz39_4 := blk_frozen BK180.out 4; have hfz39_5 := blk_frozen BK180.out 5; have hfz39_6 := blk_frozen BK180.out 6; have hfz39_7 := blk_frozen BK180.out 7; have hcz40_0 : w37.cell? ⟨gb181, 0, none⟩ = some (.string a1_0) := (blk_cell BK181.out 0).trans rfl; have hcz40_1 : w37.cell? ⟨gb181, 1, none⟩ = some (.int .i64 a1_1) := (blk_cell BK181.out 1).trans rfl; have hcz40_2 : w37.cell? ⟨gb181, 2, none⟩ = some (.slice A1_2 l1_2.length c1_2) := (blk_cell BK181.out 2).trans rfl; have hcz40_3 : w37.cell? ⟨gb181, 3, none⟩ = some (.string a1_3) := (blk_cell BK181.out 3).trans rfl; have hcz40_4 : w37.cell? ⟨gb181, 4, none⟩ = some (.int .i64 a1_4) := (blk_cell BK181.out 4).trans rfl; have hcz40_5 : w37.cell? ⟨gb181, 5, none⟩ = some (.string a1_5) := (blk_cell BK181.out 5).trans rfl; have hcz40_6 : w37.cell? ⟨gb181, 6, none⟩ = some (.int .i64 a1_6) := (blk_cell BK181.out 6).trans rfl; have hcz40_7 : w37.cell? ⟨gb181, 7, none⟩ = some (.slice A1_7 l1_7.length c1_7) := (blk_cell BK181.out 7).trans rfl; have hfz40_0 := blk_frozen BK181.out 0; have hfz40_1 := blk_frozen BK181.out 1; have hfz40_2 := blk_frozen BK181.out 2; have hfz40_3 := blk_frozen BK181.out 3; have hfz40_4 := blk_frozen BK181.out 4; have hfz40_5 := blk_frozen BK181.out 5; have hfz40_6 := blk_frozen BK181.out 6; have hfz40_7 := blk_frozen BK181.out 7) | ((with_reducible refine gate_callee (f := 26) rfl ?_); refine goesL_ (some 11) rfl rfl Try.func26 (by kernel_rfl) rfl #[.slice A0_2 l0_2.length c0_2, .slice A1_2 l1_2.length c1_2] rfl (by (try simp only [List.map_toArray, List.map_cons, List.map_nil]); first | done | rfl | (simp only [List.length_drop, List.length_take]; rfl)) ?_; (with_reducible refine (pannierref07_Same.calls k _ _ l0_2 _ _ l1_2 true _ ?side1 ?side2 ?side3 ?side4 A3.out).mono ?_); (case side1 => repeat (first | exact (Kd.C_below HR0_2.out HB.out) | (with_reducible refine Kd.C_alloc ?_ _) | (with_reducible refine Kd.C_drewN ?_ _) | (with_reducible refine Kd.C_drew ?_))); (case side2 => exact HC0_2.out); (case side3 => repeat (first | exact (Kd.C_below HR1_2.out HB.out) | (with_reducible refine Kd.C_alloc ?_ _) | (with_reducible refine Kd.C_drewN ?_ _) | (with_reducible refine Kd.C_drew ?_))); (case side4 => exact HC1_2.out); rintro e w' ⟨rfl, ⟨nd, rfl⟩⟩; refine ⟨_, rfl, ?_⟩) | ((with_reducible refine gate_callee (f := 26) rfl ?_); refine goesL_ (some 16) rfl rfl Try.func26 (by kernel_rfl) rfl #[.slice A0_7 l0_7.length c0_7, .slice A1_7 l1_7.length c1_7] rfl (by (try simp only [List.map_toArray, List.map_cons, List.map_nil]); first | done | rfl | (simp only [List.length_drop, List.length_take]; rfl)) ?_; (with_reducible refine (pannierref07_Same.calls k _ _ l0_7 _ _ l1_7 false _ ?side1 ?side2 ?side3 ?side4 A4.out).mono ?_); (case side1 => repeat (first | exact (Kd.C_below HR0_7.out (by repeat (first | (with_reducible first | exact HB.out | apply below_alloc | apply pw_below_drewN | apply below_drew1 | refine below_set ?_ GE180.out | refine below_set ?_ GE181.out) | exact HB.out))) | (with_reducible refine Kd.C_alloc ?_ _) | (with_reducible refine Kd.C_drewN ?_ _) | (with_reducible refine Kd.C_drew ?_))); (case side2 => exact HC0_7.out); (case side3 => repeat (first | exact (Kd.C_below HR1_7.out (by repeat (first | (with_reducible first | exact HB.out | apply below_alloc | apply pw_below_drewN | apply below_drew1 | refine below_set ?_ GE180.out | refine below_set ?_ GE181.out) | exact HB.out))) | (with_reducible refine Kd.C_alloc ?_ _) | (with_reducible refine Kd.C_drewN ?_ _) | (with_reducible refine Kd.C_drew ?_))); (case side4 => exact HC1_7.out); rintro e w' ⟨rfl, ⟨nd, rfl⟩⟩; refine ⟨_, rfl, ?_⟩))
   go_ret
   exact ⟨by first | rfl | (simp [errW_none, errW_some] <;> rfl) | (simp [*, errW_none, errW_some] <;> rfl), by repeat (first | (with_reducible first | exact HB.out | apply below_alloc | apply pw_below_drewN | apply below_drew1 | refine below_set ?_ GE180.out | refine below_set ?_ GE181.out) | exact HB.out)⟩
 · replace c5 := Bool.eq_false_iff.mpr c5
   subst c5
   have H1 : (some false) = some r := by rw [if_neg (show ¬ (false = true) by decide)] at H; exact H
   clear H
   have H := H1
   clear H1
   obtain rfl := Option.some.inj H
   go_enter Try.func48, Try.ntmps48
   go_wp2_with (first | ((with_reducible refine gate_dst (N := 2) rfl ?_); refine box_event ?hg (N := 2) ?hd (cs := #[.string a0_0, .int .i64 a0_1, .slice A0_2 l0_2.length c0_2, .string a0_3, .int .i64 a0_4, .string a0_5, .int .i64 a0_6, .slice A0_7 l0_7.length c0_7]) (t := 36) ?hr ?_; (case hd => rfl); (case hg => rfl); (case hr => first | (go_simp; done) | (go_simp; rfl)); intro gb180 hg w41 hbox hb; have n0_ := Aside0.mk (below_step (by repeat (first | (with_reducible first | exact HB.out | apply below_alloc | apply pw_below_drewN | apply below_drew1) | exact HB.out)) hb); have n1_ := Aside0.mk (hbox); have n2_ := Aside0.mk ((by rw [hg]; exact (below_size (by repeat (first | (with_reducible first | exact HB.out | apply below_alloc | apply pw_below_drewN | apply below_drew1) | exact HB.out))) : w.heap.size ≤ gb180)); have n3_ := Aside0.mk ((by rw [hg]; exact (below_size (by repeat (first | (with_reducible first | exact HB.out | apply below_alloc | apply pw_below_drewN | apply below_drew1) | exact HB.out))) : w.heap.size ≤ gb180)); clear HB; have HB := n0_; have BK180 := n1_; have GW180 := n2_; have GE180 := n3_; clear n0_ n1_ n2_ n3_; clear hb hbox hg) | ((with_reducible refine gate_dst (N := 3) rfl ?_); refine box_event ?hg (N := 3) ?hd (cs := #[.string a1_0, .int .i64 a1_1, .slice A1_2 l1_2.length c1_2, .string a1_3, .int .i64 a1_4, .string a1_5, .int .i64 a1_6, .slice A1_7 l1_7.length c1_7]) (t := 36) ?hr ?_; (case hd => rfl); (case hg => rfl); (case hr => first | (go_simp; done) | (go_simp; rfl)); intro gb181 hg w42 hbox hb; have n0_ := Aside0.mk (blk_below (g := gb180) (o := .cells #[.string a0_0, .int .i64 a0_1, .slice A0_2 l0_2.length c0_2, .string a0_3, .int .i64 a0_4, .string a0_5, .int .i64 a0_6, .slice A0_7 l0_7.length c0_7] 36 (0, 0)) (by (with_reducible repeat (first | refine blk_drewN ?_ _ | refine blk_drew ?_ | refine blk_alloc ?_ _)); exact BK180.out) hb); have n1_ := Aside0.mk (below_step (by repeat (first | (with_reducible first | exact HB.out | apply below_alloc | apply pw_below_drewN | apply below_drew1 | refine below_set ?_ GE180.out) | exact HB.out)) hb); have n2_ := Aside0.mk (hbox); have n3_ := Aside0.mk ((by rw [hg]; exact (below_size (by repeat (first | (with_reducible first | exact HB.out | apply below_alloc | apply pw_below_drewN | apply below_drew1 | refine below_set ?_ GE180.out) | exact HB.out))) : w.heap.size ≤ gb181)); have n4_ := Aside0.mk ((by rw [hg]; exact (below_size (by repeat (first | (with_reducible first | exact HB.out | apply below_alloc | apply pw_below_drewN | apply below_drew1 | refine below_set ?_ GE180.out) | exact HB.out))) : w.heap.size ≤ gb181)); have n5_ := Aside0.mk ((by rw [hg]; exact Nat.ne_of_lt (blk_lt (g := gb180) (o := .cells #[.string a0_0, .int .i64 a0_1, .slice A0_2 l0_2.length c0_2, .string a0_3, .int .i64 a0_4, .string a0_5, .int .i64 a0_6, .slice A0_7 l0_7.length c0_7] 36 (0, 0)) (by (with_reducible repeat (first | refine blk_drewN ?_ _ | refine blk_drew ?_ | refine blk_alloc ?_ _)); exact BK180.out)) : gb180 ≠ gb181)); have n6_ := Aside0.mk ((by rw [hg]; exact Nat.ne_of_gt (blk_lt (g := gb180) (o := .cells #[.string a0_0, .int .i64 a0_1, .slice A0_2 l0_2.length c0_2, .string a0_3, .int .i64 a0_4, .string a0_5, .int .i64 a0_6, .slice A0_7 l0_7.length c0_7] 36 (0, 0)) (by (with_reducible repeat (first | refine blk_drewN ?_ _ | refine blk_drew ?_ | refine blk_alloc ?_ _)); exact BK180.out)) : gb181 ≠ gb180)); clear BK180; clear HB; have BK180 := n0_; have HB := n1_; have BK181 := n2_; have GW181 := n3_; have GE181 := n4_; have NB180_181 := n5_; have NB181_180 := n6_; clear n0_ n1_ n2_ n3_ n4_ n5_ n6_; clear hb hbox hg; have hnb43 := NB180_181.out; have hnc43 := NB181_180.out; have hcz44_0 : w42.cell? ⟨gb180, 0, none⟩ = some (.string a0_0) := (blk_cell BK180.out 0).trans rfl; have hcz44_1 : w42.cell? ⟨gb180, 1, none⟩ = some (.int .i64 a0_1) := (blk_cell BK180.out 1).trans rfl; have hcz44_2 : w42.cell? ⟨gb180, 2, none⟩ = some (.slice A0_2 l0_2.length c0_2) := (blk_cell BK180.out 2).trans rfl; have hcz44_3 : w42.cell? ⟨gb180, 3, none⟩ = some (.string a0_3) := (blk_cell BK180.out 3).trans rfl; have hcz44_4 : w42.cell? ⟨gb180, 4, none⟩ = some (.int .i64 a0_4) := (blk_cell BK180.out 4).trans rfl; have hcz44_5 : w42.cell? ⟨gb180, 5, none⟩ = some (.string a0_5) := (blk_cell BK180.out 5).trans rfl; have hcz44_6 : w42.cell? ⟨gb180, 6, none⟩ = some (.int .i64 a0_6) := (blk_cell BK180.out 6).trans rfl; have hcz44_7 : w42.cell? ⟨gb180, 7, none⟩ = some (.slice A0_7 l0_7.length c0_7) := (blk_cell BK180.out 7).trans rfl; have hfz44_0 := blk_frozen BK180.out 0; have hfz44_1 := blk_frozen BK180.out 1; have hfz44_2 := blk_frozen BK180.out 2; have hfz44_3 := blk_frozen BK180.out 3; have hfz44_4 := blk_frozen BK180.out 4; have hfz44_5 := blk_frozen BK180.out 5; have hfz44_6 := blk_frozen BK180.out 6; have hfz44_7 := blk_frozen BK180.out 7; have hcz45_0 : w42.cell? ⟨gb181, 0, none⟩ = some (.string a1_0) := (blk_cell BK181.out 0).trans rfl; have hcz45_1 : w42.cell? ⟨gb181, 1, none⟩ = some (.int .i64 a1_1) := (blk_cell BK181.out 1).trans rfl; have hcz45_2 : w42.cell? ⟨gb181, 2, none⟩ = some (.slice A1_2 l1_2.length c1_2) := (blk_cell BK181.out 2).trans rfl; have hcz45_3 : w42.cell? ⟨gb181, 3, none⟩ = some (.string a1_3) := (blk_cell BK181.out 3).trans rfl; have hcz45_4 : w42.cell? ⟨gb181, 4, none⟩ = some (.int .i64 a1_4) := (blk_cell BK181.out 4).trans rfl; have hcz45_5 : w42.cell? ⟨gb181, 5, none⟩ = some (.string a1_5) := (blk_cell BK181.out 5).trans rfl; have hcz45_6 : w42.cell? ⟨gb181, 6, none⟩ = some (.int .i64 a1_6) := (blk_cell BK181.out 6).trans rfl; have hcz45_7 : w42.cell? ⟨gb181, 7, none⟩ = some (.slice A1_7 l1_7.length c1_7) := (blk_cell BK181.out 7).trans rfl; have hfz45_0 := blk_frozen BK181.out 0; have hfz45_1 := blk_frozen BK181.out 1; have hfz45_2 := blk_frozen BK181.out 2; have hfz45_3 := blk_frozen BK181.out 3; have hfz45_4 := blk_frozen BK181.out 4; have hfz45_5 := blk_frozen BK181.out 5; have hfz45_6 := blk_frozen BK181.out 6; have hfz45_7 := blk_frozen BK181.out 7) | ((with_reducible refine gate_callee (f := 26) rfl ?_); refine goesL_ (some 11) rfl rfl Try.func26 (by kernel_rfl) rfl #[.slice A0_2 l0_2.length c0_2, .slice A1_2 l1_2.length c1_2] rfl (by (try simp only [List.map_toArray, List.map_cons, List.map_nil]); first | done | rfl | (simp only [List.length_drop, List.length_take]; rfl)) ?_; (with_reducible refine (pannierref07_Same.calls k _ _ l0_2 _ _ l1_2 false _ ?side1 ?side2 ?side3 ?side4 A3.out).mono ?_); (case side1 => repeat (first | exact (Kd.C_below HR0_2.out HB.out) | (with_reducible refine Kd.C_alloc ?_ _) | (with_reducible refine Kd.C_drewN ?_ _) | (with_reducible refine Kd.C_drew ?_))); (case side2 => exact HC0_2.out); (case side3 => repeat (first | exact (Kd.C_below HR1_2.out HB.out) | (with_reducible refine Kd.C_alloc ?_ _) | (with_reducible refine Kd.C_drewN ?_ _) | (with_reducible refine Kd.C_drew ?_))); (case side4 => exact HC1_2.out); rintro e w' ⟨rfl, ⟨nd, rfl⟩⟩; refine ⟨_, rfl, ?_⟩) | ((with_reducible refine gate_callee (f := 26) rfl ?_); refine goesL_ (some 16) rfl rfl Try.func26 (by kernel_rfl) rfl #[.slice A0_7 l0_7.length c0_7, .slice A1_7 l1_7.length c1_7] rfl (by (try simp only [List.map_toArray, List.map_cons, List.map_nil]); first | done | rfl | (simp only [List.length_drop, List.length_take]; rfl)) ?_; (with_reducible refine (pannierref07_Same.calls k _ _ l0_7 _ _ l1_7 t183 _ ?side1 ?side2 ?side3 ?side4 A4.out).mono ?_); (case side1 => repeat (first | exact (Kd.C_below HR0_7.out (by repeat (first | (with_reducible first | exact HB.out | apply below_alloc | apply pw_below_drewN | apply below_drew1 | refine below_set ?_ GE180.out | refine below_set ?_ GE181.out) | exact HB.out))) | (with_reducible refine Kd.C_alloc ?_ _) | (with_reducible refine Kd.C_drewN ?_ _) | (with_reducible refine Kd.C_drew ?_))); (case side2 => exact HC0_7.out); (case side3 => repeat (first | exact (Kd.C_below HR1_7.out (by repeat (first | (with_reducible first | exact HB.out | apply below_alloc | apply pw_below_drewN | apply below_drew1 | refine below_set ?_ GE180.out | refine below_set ?_ GE181.out) | exact HB.out))) | (with_reducible refine Kd.C_alloc ?_ _) | (with_reducible refine Kd.C_drewN ?_ _) | (with_reducible refine Kd.C_drew ?_))); (case side4 => exact HC1_7.out); rintro e w' ⟨rfl, ⟨nd, rfl⟩⟩; refine ⟨_, rfl, ?_⟩))
   go_ret
   exact ⟨by first | rfl | (simp [errW_none, errW_some] <;> rfl) | (simp [*, errW_none, errW_some] <;> rfl), by repeat (first | (with_reducible first | exact HB.out | apply below_alloc | apply pw_below_drewN | apply below_drew1 | refine below_set ?_ GE180.out | refine below_set ?_ GE181.out) | exact HB.out)⟩
 all_goals (
  go_enter Try.func48, Try.ntmps48
  go_wp2_with (first | ((with_reducible refine gate_dst (N := 2) rfl ?_); refine box_event ?hg (N := 2) ?hd (cs := #[.string a0_0, .int .i64 a0_1, .slice A0_2 l0_2.length c0_2, .string a0_3, .int .i64 a0_4, .string a0_5, .int .i64 a0_6, .slice A0_7 l0_7.length c0_7]) (t := 36) ?hr ?_; (case hd => rfl); (case hg => rfl); (case hr => first | (go_simp; done) | (go_simp; rfl)); intro gb9001 hg w9002 hbox hb; have n9003_ := Aside0.mk (below_step (by repeat (first | (with_reducible first | exact HB.out | apply below_alloc | apply pw_below_drewN | apply below_drew1) | exact HB.out)) hb); have n9004_ := Aside0.mk (hbox); have n9005_ := Aside0.mk ((by rw [hg]; exact (below_size (by repeat (first | (with_reducible first | exact HB.out | apply below_alloc | apply pw_below_drewN | apply below_drew1) | exact HB.out))) : w.heap.size ≤ gb9001)); have n9006_ := Aside0.mk ((by rw [hg]; exact (below_size (by repeat (first | (with_reducible first | exact HB.out | apply below_alloc | apply pw_below_drewN | apply below_drew1) | exact HB.out))) : w.heap.size ≤ gb9001)); clear HB; have HB := n9003_; have BK9001 := n9004_; have GW9001 := n9005_; have GE9001 := n9006_; clear n9003_ n9004_ n9005_ n9006_; clear hb hbox hg) | ((with_reducible refine gate_dst (N := 3) rfl ?_); refine box_event ?hg (N := 3) ?hd (cs := #[.string a1_0, .int .i64 a1_1, .slice A1_2 l1_2.length c1_2, .string a1_3, .int .i64 a1_4, .string a1_5, .int .i64 a1_6, .slice A1_7 l1_7.length c1_7]) (t := 36) ?hr ?_; (case hd => rfl); (case hg => rfl); (case hr => first | (go_simp; done) | (go_simp; rfl)); intro gb9007 hg w9008 hbox hb; have n9003_ := Aside0.mk (blk_below (g := gb9001) (o := .cells #[.string a0_0, .int .i64 a0_1, .slice A0_2 l0_2.length c0_2, .string a0_3, .int .i64 a0_4, .string a0_5, .int .i64 a0_6, .slice A0_7 l0_7.length c0_7] 36 (0, 0)) (by (with_reducible repeat (first | refine blk_drewN ?_ _ | refine blk_drew ?_ | refine blk_alloc ?_ _)); exact BK9001.out) hb); have n9004_ := Aside0.mk (below_step (by repeat (first | (with_reducible first | exact HB.out | apply below_alloc | apply pw_below_drewN | apply below_drew1 | refine below_set ?_ GE9001.out) | exact HB.out)) hb); have n9005_ := Aside0.mk (hbox); have n9006_ := Aside0.mk ((by rw [hg]; exact (below_size (by repeat (first | (with_reducible first | exact HB.out | apply below_alloc | apply pw_below_drewN | apply below_drew1 | refine below_set ?_ GE9001.out) | exact HB.out))) : w.heap.size ≤ gb9007)); have n9009_ := Aside0.mk ((by rw [hg]; exact (below_size (by repeat (first | (with_reducible first | exact HB.out | apply below_alloc | apply pw_below_drewN | apply below_drew1 | refine below_set ?_ GE9001.out) | exact HB.out))) : w.heap.size ≤ gb9007)); have n9010_ := Aside0.mk ((by rw [hg]; exact Nat.ne_of_lt (blk_lt (g := gb9001) (o := .cells #[.string a0_0, .int .i64 a0_1, .slice A0_2 l0_2.length c0_2, .string a0_3, .int .i64 a0_4, .string a0_5, .int .i64 a0_6, .slice A0_7 l0_7.length c0_7] 36 (0, 0)) (by (with_reducible repeat (first | refine blk_drewN ?_ _ | refine blk_drew ?_ | refine blk_alloc ?_ _)); exact BK9001.out)) : gb9001 ≠ gb9007)); have n9011_ := Aside0.mk ((by rw [hg]; exact Nat.ne_of_gt (blk_lt (g := gb9001) (o := .cells #[.string a0_0, .int .i64 a0_1, .slice A0_2 l0_2.length c0_2, .string a0_3, .int .i64 a0_4, .string a0_5, .int .i64 a0_6, .slice A0_7 l0_7.length c0_7] 36 (0, 0)) (by (with_reducible repeat (first | refine blk_drewN ?_ _ | refine blk_drew ?_ | refine blk_alloc ?_ _)); exact BK9001.out)) : gb9007 ≠ gb9001)); clear BK9001; clear HB; have BK9001 := n9003_; have HB := n9004_; have BK9007 := n9005_; have GW9007 := n9006_; have GE9007 := n9009_; have NB9001_181 := n9010_; have NB9007_180 := n9011_; clear n9003_ n9004_ n9005_ n9006_ n9009_ n9010_ n9011_; clear hb hbox hg; have hnb9012 := NB9001_181.out; have hnc9012 := NB9007_180.out; have hcz9013_0 : w9008.cell? ⟨gb9001, 0, none⟩ = some (.string a0_0) := (blk_cell BK9001.out 0).trans rfl; have hcz9013_1 : w9008.cell? ⟨gb9001, 1, none⟩ = some (.int .i64 a0_1) := (blk_cell BK9001.out 1).trans rfl; have hcz9013_2 : w9008.cell? ⟨gb9001, 2, none⟩ = some (.slice A0_2 l0_2.length c0_2) := (blk_cell BK9001.out 2).trans rfl; have hcz9013_3 : w9008.cell? ⟨gb9001, 3, none⟩ = some (.string a0_3) := (blk_cell BK9001.out 3).trans rfl; have hcz9013_4 : w9008.cell? ⟨gb9001, 4, none⟩ = some (.int .i64 a0_4) := (blk_cell BK9001.out 4).trans rfl; have hcz9013_5 : w9008.cell? ⟨gb9001, 5, none⟩ = some (.string a0_5) := (blk_cell BK9001.out 5).trans rfl; have hcz9013_6 : w9008.cell? ⟨gb9001, 6, none⟩ = some (.int .i64 a0_6) := (blk_cell BK9001.out 6).trans rfl; have hcz9013_7 : w9008.cell? ⟨gb9001, 7, none⟩ = some (.slice A0_7 l0_7.length c0_7) := (blk_cell BK9001.out 7).trans rfl; have hfz9013_0 := blk_frozen BK9001.out 0; have hfz9013_1 := blk_frozen BK9001.out 1; have hfz9013_2 := blk_frozen BK9001.out 2; have hfz9013_3 := blk_frozen BK9001.out 3; have hfz9013_4 := blk_frozen BK9001.out 4; have hfz9013_5 := blk_frozen BK9001.out 5; have hfz9013_6 := blk_frozen BK9001.out 6; have hfz9013_7 := blk_frozen BK9001.out 7; have hcz9014_0 : w9008.cell? ⟨gb9007, 0, none⟩ = some (.string a1_0) := (blk_cell BK9007.out 0).trans rfl; have hcz9014_1 : w9008.cell? ⟨gb9007, 1, none⟩ = some (.int .i64 a1_1) := (blk_cell BK9007.out 1).trans rfl; have hcz9014_2 : w9008.cell? ⟨gb9007, 2, none⟩ = some (.slice A1_2 l1_2.length c1_2) := (blk_cell BK9007.out 2).trans rfl; have hcz9014_3 : w9008.cell? ⟨gb9007, 3, none⟩ = some (.string a1_3) := (blk_cell BK9007.out 3).trans rfl; have hcz9014_4 : w9008.cell? ⟨gb9007, 4, none⟩ = some (.int .i64 a1_4) := (blk_cell BK9007.out 4).trans rfl; have hcz9014_5 : w9008.cell? ⟨gb9007, 5, none⟩ = some (.string a1_5) := (blk_cell BK9007.out 5).trans rfl; have hcz9014_6 : w9008.cell? ⟨gb9007, 6, none⟩ = some (.int .i64 a1_6) := (blk_cell BK9007.out 6).trans rfl; have hcz9014_7 : w9008.cell? ⟨gb9007, 7, none⟩ = some (.slice A1_7 l1_7.length c1_7) := (blk_cell BK9007.out 7).trans rfl; have hfz9014_0 := blk_frozen BK9007.out 0; have hfz9014_1 := blk_frozen BK9007.out 1; have hfz9014_2 := blk_frozen BK9007.out 2; have hfz9014_3 := blk_frozen BK9007.out 3; have hfz9014_4 := blk_frozen BK9007.out 4; have hfz9014_5 := blk_frozen BK9007.out 5; have hfz9014_6 := blk_frozen BK9007.out 6; have hfz9014_7 := blk_frozen BK9007.out 7) | ((with_reducible refine gate_callee (f := 26) rfl ?_); refine goesL_ (some 11) rfl rfl Try.func26 (by kernel_rfl) rfl #[.slice A0_2 l0_2.length c0_2, .slice A1_2 l1_2.length c1_2] rfl (by (try simp only [List.map_toArray, List.map_cons, List.map_nil]); first | done | rfl | (simp only [List.length_drop, List.length_take]; rfl)) ?_; (with_reducible refine (pannierref07_Same.calls k _ _ l0_2 _ _ l1_2 true _ ?side1 ?side2 ?side3 ?side4 A3.out).mono ?_); (case side1 => repeat (first | exact (Kd.C_below HR0_2.out HB.out) | (with_reducible refine Kd.C_alloc ?_ _) | (with_reducible refine Kd.C_drewN ?_ _) | (with_reducible refine Kd.C_drew ?_))); (case side2 => exact HC0_2.out); (case side3 => repeat (first | exact (Kd.C_below HR1_2.out HB.out) | (with_reducible refine Kd.C_alloc ?_ _) | (with_reducible refine Kd.C_drewN ?_ _) | (with_reducible refine Kd.C_drew ?_))); (case side4 => exact HC1_2.out); rintro e w' ⟨rfl, ⟨nd, rfl⟩⟩; refine ⟨_, rfl, ?_⟩) | ((with_reducible refine gate_callee (f := 26) rfl ?_); refine goesL_ (some 16) rfl rfl Try.func26 (by kernel_rfl) rfl #[.slice A0_7 l0_7.length c0_7, .slice A1_7 l1_7.length c1_7] rfl (by (try simp only [List.map_toArray, List.map_cons, List.map_nil]); first | done | rfl | (simp only [List.length_drop, List.length_take]; rfl)) ?_; (with_reducible refine (pannierref07_Same.calls k _ _ l0_7 _ _ l1_7 true _ ?side1 ?side2 ?side3 ?side4 A4.out).mono ?_); (case side1 => repeat (first | exact (Kd.C_below HR0_7.out (by repeat (first | (with_reducible first | exact HB.out | apply below_alloc | apply pw_below_drewN | apply below_drew1 | refine below_set ?_ GE9001.out | refine below_set ?_ GE9007.out) | exact HB.out))) | (with_reducible refine Kd.C_alloc ?_ _) | (with_reducible refine Kd.C_drewN ?_ _) | (with_reducible refine Kd.C_drew ?_))); (case side2 => exact HC0_7.out); (case side3 => repeat (first | exact (Kd.C_below HR1_7.out (by repeat (first | (with_reducible first | exact HB.out | apply below_alloc | apply pw_below_drewN | apply below_drew1 | refine below_set ?_ GE9001.out | refine below_set ?_ GE9007.out) | exact HB.out))) | (with_reducible refine Kd.C_alloc ?_ _) | (with_reducible refine Kd.C_drewN ?_ _) | (with_reducible refine Kd.C_drew ?_))); (case side4 => exact HC1_7.out); rintro e w' ⟨rfl, ⟨nd, rfl⟩⟩; refine ⟨_, rfl, ?_⟩))
  go_ret
  exact ⟨by first | rfl | (simp [errW_none, errW_some] <;> rfl) | (simp [*, errW_none, errW_some] <;> rfl), by repeat (first | (with_reducible first | exact HB.out | apply below_alloc | apply pw_below_drewN | apply below_drew1 | refine below_set ?_ GE9001.out | refine below_set ?_ GE9007.out) | exact HB.out)⟩
  )
end Go.Proofs.Ytenbkljgmgdegaa.PO
