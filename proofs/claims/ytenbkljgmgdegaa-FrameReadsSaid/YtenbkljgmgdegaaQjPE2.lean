/- What the rows of this claim use, out of the texts of this work (PE2, FA, FB, FD, PE7, FE). No condition beyond those that each statement names. -/
import Derived.Test.YtenbkljgmgdegaaQjPOx2
import Derived.Test.YtenbkljgmgdegaaQjOH
import Derived.Test.YtenbkljgmgdegaaQjPOx0
import Derived.Test.YtenbkljgmgdegaaQjRG
import Derived.Test.YtenbkljgmgdegaaQjOV
import Derived.Test.YtenbkljgmgdegaaQjPOx10
import Derived.Test.YtenbkljgmgdegaaQjPD17
import Derived.Test.YtenbkljgmgdegaaQjPD10
import Derived.Test.YtenbkljgmgdegaaQjPD15
import Derived.Test.YtenbkljgmgdegaaQjOJ
section
namespace Go.Proofs.Ytenbkljgmgdegaa.PO
open Go.RowKit Go.Proofs.YtenbkljgmgdegaaW.PrintWords Go.Proofs.YtenbkljgmgdegaaW.PrintLast Go.Proofs.YtenbkljgmgdegaaW.PrintMore
attribute [local go_sem] max2_int min2_int max_two min_two max_three min_three max_four min_four   -- for this text's walks alone
set_option linter.unusedVariables false
set_option linter.unusedSimpArgs false
def frame_bare.f (a0_0 : Int) (a0_1 : ByteArray) (a0_2 : ByteArray) (a0_3 : ByteArray) (a0_4 : Int) (a0_5 : Int) (a0_6 : Int) (l0_7 : List (S34)) (l0_8 : List (S36)) : Option (Bool) := if a0_6 = 0 then (if (l0_7.length : Int) = 0 then (some ((l0_8.length : Int) == 0)) else (some false)) else (some false)
set_option maxHeartbeats 8000000 in
set_option maxRecDepth 100000 in
theorem frame_bare.calls (a0_0 : Int) (a0_1 : ByteArray) (a0_2 : ByteArray) (a0_3 : ByteArray) (a0_4 : Int) (a0_5 : Int) (a0_6 : Int) (A0_7 : Option Addr) (c0_7 : Nat) (l0_7 : List (S34)) (A0_8 : Option Addr) (c0_8 : Nat) (l0_8 : List (S36)) (r : Bool) (w : World) (hr0_7 : Kd.C k34 w A0_7 l0_7.length l0_7) (hc0_7 : l0_7.length ≤ c0_7) (hr0_8 : Kd.C k36 w A0_8 l0_8.length l0_8) (hc0_8 : l0_8.length ≤ c0_8) (h : frame_bare.f a0_0 a0_1 a0_2 a0_3 a0_4 a0_5 a0_6 l0_7 l0_8 = some r) :
 Calls Try.prog 88 #[.agg #[.int .i64 a0_0, .string a0_1, .string a0_2, .string a0_3, .int .i64 a0_4, .int .i64 a0_5, .int .i64 a0_6, .slice A0_7 l0_7.length c0_7, .slice A0_8 l0_8.length c0_8]] w fun e w' => e = .returned (.bool r) ∧ Below w.heap.size w w' := by
 have hu54 := Try.underlying54
 have HR0_7 := Aside0.mk hr0_7
 have HC0_7 := Aside0.mk hc0_7
 clear hr0_7 hc0_7
 have HR0_8 := Aside0.mk hr0_8
 have HC0_8 := Aside0.mk hc0_8
 clear hr0_8 hc0_8
 have HB := Aside0.mk (Below.refl w.heap.size w)
 have H : (if a0_6 = 0 then (if (l0_7.length : Int) = 0 then (some ((l0_8.length : Int) == 0)) else (some false)) else (some false)) = some r := h
 clear h
 by_cases c2 : a0_6 = 0
 rw [if_pos c2] at H
 have c2b0 : (a0_6 == 0) = true := beq_iff_eq.mpr c2
 have c2b1 : (a0_6 != 0) = false := bne_eq_false_iff_eq.mpr c2
 clear c2
 by_cases c3 : (l0_7.length : Int) = 0
 rw [if_pos c3] at H
 have c3b0 : ((l0_7.length : Int) == 0) = true := beq_iff_eq.mpr c3
 have c3b1 : ((l0_7.length : Int) != 0) = false := bne_eq_false_iff_eq.mpr c3
 clear c3
 obtain rfl := Option.some.inj H
 rotate_left
 rw [if_neg c3] at H
 have c3b0 : ((l0_7.length : Int) == 0) = false := beq_eq_false_iff_ne.mpr c3
 have c3b1 : ((l0_7.length : Int) != 0) = true := bne_iff_ne.mpr c3
 have c3b2 : ¬ (l0_7 = []) := fun h_ => c3 (by rw [h_]; rfl)
 obtain rfl := Option.some.inj H
 rotate_left
 rw [if_neg c2] at H
 have c2b0 : (a0_6 == 0) = false := beq_eq_false_iff_ne.mpr c2
 have c2b1 : (a0_6 != 0) = true := bne_iff_ne.mpr c2
 obtain rfl := Option.some.inj H
 rotate_left
 all_goals (
  go_enter Try.func88, Try.ntmps88
  go_wp2_with (first | ((with_reducible refine gate_dst (N := 1) rfl ?_); (try (refine gate_guard (by rfl) ?_; dsimp only)); refine box_event ?hg (N := 1) ?hd (cs := #[.int .i64 a0_0, .string a0_1, .string a0_2, .string a0_3, .int .i64 a0_4, .int .i64 a0_5, .int .i64 a0_6, .slice A0_7 l0_7.length c0_7, .slice A0_8 l0_8.length c0_8]) (t := 54) ?hr ?_; (case hd => rfl); (case hg => rfl); (case hr => first | (go_simp; done) | (go_simp; rfl)); intro gb9001 hg w9002 hbox hb; have n9003_ := Aside0.mk (below_step (by repeat (first | (with_reducible first | exact HB.out | apply below_alloc | apply pw_below_drewN | apply below_drew1) | exact HB.out)) hb); have n9004_ := Aside0.mk (hbox); have n9005_ := Aside0.mk ((by rw [hg]; exact (below_size (by repeat (first | (with_reducible first | exact HB.out | apply below_alloc | apply pw_below_drewN | apply below_drew1) | exact HB.out))) : w.heap.size ≤ gb9001)); have n9006_ := Aside0.mk ((by rw [hg]; exact (below_size (by repeat (first | (with_reducible first | exact HB.out | apply below_alloc | apply pw_below_drewN | apply below_drew1) | exact HB.out))) : w.heap.size ≤ gb9001)); clear HB; have HB := n9003_; have BK9001 := n9004_; have GW9001 := n9005_; have GE9001 := n9006_; clear n9003_ n9004_ n9005_ n9006_; clear hb hbox hg; have hcz9007_0 : w9002.cell? ⟨gb9001, 0, none⟩ = some (.int .i64 a0_0) := (blk_cell BK9001.out 0).trans rfl; have hcz9007_1 : w9002.cell? ⟨gb9001, 1, none⟩ = some (.string a0_1) := (blk_cell BK9001.out 1).trans rfl; have hcz9007_2 : w9002.cell? ⟨gb9001, 2, none⟩ = some (.string a0_2) := (blk_cell BK9001.out 2).trans rfl; have hcz9007_3 : w9002.cell? ⟨gb9001, 3, none⟩ = some (.string a0_3) := (blk_cell BK9001.out 3).trans rfl; have hcz9007_4 : w9002.cell? ⟨gb9001, 4, none⟩ = some (.int .i64 a0_4) := (blk_cell BK9001.out 4).trans rfl; have hcz9007_5 : w9002.cell? ⟨gb9001, 5, none⟩ = some (.int .i64 a0_5) := (blk_cell BK9001.out 5).trans rfl; have hcz9007_6 : w9002.cell? ⟨gb9001, 6, none⟩ = some (.int .i64 a0_6) := (blk_cell BK9001.out 6).trans rfl; have hcz9007_7 : w9002.cell? ⟨gb9001, 7, none⟩ = some (.slice A0_7 l0_7.length c0_7) := (blk_cell BK9001.out 7).trans rfl; have hcz9007_8 : w9002.cell? ⟨gb9001, 8, none⟩ = some (.slice A0_8 l0_8.length c0_8) := (blk_cell BK9001.out 8).trans rfl; have hfz9007_0 := blk_frozen BK9001.out 0; have hfz9007_1 := blk_frozen BK9001.out 1; have hfz9007_2 := blk_frozen BK9001.out 2; have hfz9007_3 := blk_frozen BK9001.out 3; have hfz9007_4 := blk_frozen BK9001.out 4; have hfz9007_5 := blk_frozen BK9001.out 5; have hfz9007_6 := blk_frozen BK9001.out 6; have hfz9007_7 := blk_frozen BK9001.out 7; have hfz9007_8 := blk_frozen BK9001.out 8))
  go_ret
  exact ⟨by first | rfl | (simp [errW_none, errW_some] <;> rfl) | (simp [*, errW_none, errW_some] <;> rfl), by repeat (first | (with_reducible first | exact HB.out | apply below_alloc | apply pw_below_drewN | apply below_drew1 | refine below_set ?_ GE9001.out) | exact HB.out)⟩
  )
section
open Go.Proofs.Ytenbkljgmgdegaa.XRange Go.Proofs.Ytenbkljgmgdegaa.XHeld
end
end Go.Proofs.Ytenbkljgmgdegaa.PO
end
section
namespace Go.Proofs.Ytenbkljgmgdegaa.PO
open Go.RowKit Go.Proofs.YtenbkljgmgdegaaW.PrintWords Go.Proofs.YtenbkljgmgdegaaW.PrintLast Go.Proofs.YtenbkljgmgdegaaW.PrintMore Go.Proofs.Ytenbkljgmgdegaa.XW
open Go.Proofs.Ytenbkljgmgdegaa.XRange
set_option linter.unusedVariables false
set_option linter.unusedSimpArgs false
structure Fr where
 k : Int
 fa : ByteArray
 fb : ByteArray
 ct : ByteArray
 se : Int
 ix : Int
 mn : Int
 kn : List S34
 op : List S36
def badO (cart : ByteArray) (o : S36) : Bool := decide (o.f2 ≠ cart) || !rightO o
def headF (f : Fr) : Bool := isNameB f.fa && isNameB f.fb && decide (f.fa ≠ f.fb) && decide (1 ≤ f.ct.size) && decide (f.ct.size ≤ 32) && decide (1 ≤ f.se) && decide (f.se ≤ 1152921504606846976) && decide (0 ≤ f.ix)
def bodyF (f : Fr) : Bool :=
 if f.k = 1 then decide (f.mn = 0) && decide (f.op.length = 0) && rightS f.kn && decide (f.ix ≤ 1152921504606846976)
 else if f.k = 2 then decide (f.kn.length = 0) && decide (f.ix < f.mn) && decide (f.mn ≤ 512) && decide (0 < f.op.length) && decide (f.op.length ≤ 8) && !f.op.any (badO f.ct)
 else decide (f.k = 3) && decide (f.mn = 0) && decide (f.kn.length = 0) && decide (f.op.length = 0) && decide (f.ix ≤ 512)
def rightF (f : Fr) : Bool := headF f && bodyF f
structure Cells9 (w : World) (N : Nat) (u0 u1 u2 u3 u4 u5 u6 u7 u8 : Value) : Prop where
 e0 : w.cell? ⟨N, 0, none⟩ = some u0
 e1 : w.cell? ⟨N, 1, none⟩ = some u1
 e2 : w.cell? ⟨N, 2, none⟩ = some u2
 e3 : w.cell? ⟨N, 3, none⟩ = some u3
 e4 : w.cell? ⟨N, 4, none⟩ = some u4
 e5 : w.cell? ⟨N, 5, none⟩ = some u5
 e6 : w.cell? ⟨N, 6, none⟩ = some u6
 e7 : w.cell? ⟨N, 7, none⟩ = some u7
 e8 : w.cell? ⟨N, 8, none⟩ = some u8
theorem cells9 {w : World} {N : Nat} {u0 u1 u2 u3 u4 u5 u6 u7 u8 : Value} (h : w.heap[N]? = some (.cells #[u0, u1, u2, u3, u4, u5, u6, u7, u8] 54 (0, 0))) : Cells9 w N u0 u1 u2 u3 u4 u5 u6 u7 u8 :=
 ⟨(blk_cell h 0).trans rfl, (blk_cell h 1).trans rfl, (blk_cell h 2).trans rfl, (blk_cell h 3).trans rfl, (blk_cell h 4).trans rfl, (blk_cell h 5).trans rfl, (blk_cell h 6).trans rfl, (blk_cell h 7).trans rfl, (blk_cell h 8).trans rfl⟩
set_option maxHeartbeats 8000000 in
set_option maxRecDepth 100000 in
theorem badO_calls (G : Nat) (cart : ByteArray) (x : S36) (A2 : Option Addr) (c2 : Nat) (A7 : Option Addr) (c7 : Nat) (w : World) (l2 : x.f1.length ≤ c2) (g2 : Kd.C k34 w A2 x.f1.length x.f1) (l7 : x.f6.length ≤ c7) (g7 : Kd.C k34 w A7 x.f6.length x.f6) (hG : w.cell? ⟨G, 3, none⟩ = some (.string cart)) :
 Calls Try.prog 89 #[.agg #[.string x.f0.f0, .int .i64 x.f0.f1, .slice A2 x.f1.length c2, .string x.f2, .int .i64 x.f3, .string x.f4, .int .i64 x.f5, .slice A7 x.f6.length c7], .pointer (some ⟨G, 0, none⟩)] w fun e w' => e = .returned (.bool (badO cart x)) ∧ Below w.heap.size w w' := by
 have HG2 := Aside0.mk g2
 have HG7 := Aside0.mk g7
 have HL2 := Aside0.mk l2
 have HL7 := Aside0.mk l7
 have hGl := World.block_lt_of_cell? w _ hG
 obtain ⟨N, hN⟩ : ∃ N, w.heap.size = N := ⟨_, rfl⟩
 clear l2 g2 l7 g7
 go_enter Try.func89, Try.ntmps89
 obtain ⟨w0, hw0⟩ : ∃ w0, w.alloc (.cells #[.string x.f0.f0, .int .i64 x.f0.f1, .slice A2 x.f1.length c2, .string x.f2, .int .i64 x.f3, .string x.f4, .int .i64 x.f5, .slice A7 x.f6.length c7] 36) = w0 := ⟨_, rfl⟩
 have HB := Aside0.mk (show Below w.heap.size w w0 from by rw [← hw0]; exact (Below.refl _ w).alloc (Nat.le_refl _) _)
 have KX := Aside0.mk (show w0.heap[N]? = some (.cells #[.string x.f0.f0, .int .i64 x.f0.f1, .slice A2 x.f1.length c2, .string x.f2, .int .i64 x.f3, .string x.f4, .int .i64 x.f5, .slice A7 x.f6.length c7] 36 (0, 0)) from by rw [← hw0, ← hN]; exact World.alloc_heap_new w _)
 obtain ⟨n0, n1, n2, n3, n4, n5, n6, n7⟩ := cells8 KX.out
 have hG0 : w0.cell? ⟨G, 3, none⟩ = some (.string cart) := (HB.out.cell hGl).trans hG
 clear hG
 by_cases he : x.f2.toList = cart.toList
 · have q1 : (x.f2.toList == cart.toList) = true := by simp [he]
   have HE := Aside0.mk (bytes_inj he)
   go_wp2_with fail
   refine (orderRight_calls x A2 c2 A7 c7 _ HL2.out (Kd.C_below HG2.out HB.out) HL7.out (Kd.C_below HG7.out HB.out)).mono ?_
   rintro e w1 ⟨rfl, hb1⟩
   have HB1 := Aside0.mk (HB.out.trans (hb1.mono HB.out.size))
   clear n0 n1 n2 n3 n4 n5 n6 n7 hb1
   go_wp2
   go_ret
   refine ⟨?_, by first | exact HB1.out | (rw [← hN]; exact HB1.out)⟩
   unfold badO
   rw [HE.out]
   simp
 · have q1 : (x.f2.toList == cart.toList) = false := by simp [he]
   go_wp2
   go_ret
   refine ⟨?_, by first | exact HB.out | (rw [← hN]; exact HB.out)⟩
   unfold badO
   have : x.f2 ≠ cart := fun h => he (by rw [h])
   simp [this]
theorem rd_drop36' (l : List S36) (i : Nat) (h : i < l.length) : l.drop i = rd_T36 l i :: l.drop (i + 1) := by
 rw [List.drop_eq_getElem_cons h, rd_T36]
 congr 1
 simp [List.getD, h]
set_option maxHeartbeats 8000000 in
set_option maxRecDepth 100000 in
theorem idxBad_calls (G : Nat) (cart : ByteArray) (l : List S36) (A : Option Addr) (c : Nat) (w : World) (hc : l.length ≤ c) (hC : Kd.C k36 w A l.length l) (hG : w.cell? ⟨G, 3, none⟩ = some (.string cart)) :
 Calls Try.prog 123 #[.slice A l.length c, .func (.func 89) #[] #[.pointer (some ⟨G, 0, none⟩)]] w fun e w' => ∃ r : Int, e = .returned (.int .i64 r) ∧ decide (0 ≤ r) = l.any (badO cart) ∧ Below w.heap.size w w' := by
 have HC := Aside0.mk hC
 have hm : l.length ≤ 9223372036854775807 := hC.2.1
 have hGl := World.block_lt_of_cell? w _ hG
 have HG := Aside0.mk hG
 clear hC hG
 go_enter Try.func123, Try.ntmps123
 go_wp2
 go_loopw [5, 8] (fun _ v8 wr => ∃ j : Nat, j ≤ l.length ∧ v8 = .int .i64 j ∧ Aside0 ((l.drop j).any (badO cart) = l.any (badO cart)) ∧ Aside0 (Below w.heap.size w wr)) (fun _ v8 _ => l.length - (intOf v8).toNat)
 case atStart => exact ⟨0, Nat.zero_le _, rfl, ⟨by simp⟩, ⟨Below.refl _ _⟩⟩
 case round =>
  obtain ⟨j, hj, rfl, HJ, HB⟩ := hrel
  by_cases hlt : j < l.length
  · obtain ⟨ad, A2, c2, A7, c7, rfl, f0, f1, f2, f3, f4, f5, f6, f7, l2, g2, l7, g7⟩ := at_T36 (Kd.C_below HC.out HB.out) (j : Int) (by omega) (by omega)
    simp only [Int.toNat_natCast] at f0 f1 f2 f3 f4 f5 f6 f7
    obtain ⟨x, hx⟩ : ∃ x, rd_T36 l (j : Int) = x := ⟨_, rfl⟩
    rw [hx] at f0 f1 f2 f3 f4 f5 f6 f7 l2 g2 l7 g7
    have HD := Aside0.mk (show l.drop j = x :: l.drop (j + 1) from by rw [← hx]; exact rd_drop36' l j hlt)
    have HL2 := Aside0.mk l2
    have HG2 := Aside0.mk g2
    have HL7 := Aside0.mk l7
    have HG7 := Aside0.mk g7
    have hb3 : 0 ≤ (j : Int) ∧ (j : Int) < (l.length : Int) := by omega
    have q1 : decide ((j : Int) < (l.length : Int)) = true := by simp; omega
    clear l2 g2 l7 g7 hx
    go_wp2_with fail
    refine (badO_calls G cart x A2 c2 A7 c7 _ HL2.out HG2.out HL7.out HG7.out ((HB.out.cell hGl).trans HG.out)).mono ?_
    rintro e w1 ⟨rfl, hb1⟩
    have HB1 := Aside0.mk (HB.out.trans (hb1.mono HB.out.size))
    obtain ⟨b, hb⟩ : ∃ b, badO cart x = b := ⟨_, rfl⟩
    have HBX := Aside0.mk hb
    rw [hb]
    clear hb hb1 f0 f1 f2 f3 f4 f5 f6 f7
    cases b with
    | true =>
      go_wp2
      go_ret
      exact ⟨_, rfl, by rw [← HJ.out, HD.out, List.any_cons, HBX.out]; simp, HB1.out⟩
    | false =>
      go_wp2
      go_round
      case rel => exact ⟨j + 1, by omega, by go_num, ⟨by rw [← HJ.out, HD.out, List.any_cons, HBX.out]; simp⟩, HB1⟩
      case measure => simp [intOf]; omega
  · have q1 : decide ((j : Int) < (l.length : Int)) = false := by simp; omega
    go_wp2
    go_ret
    exact ⟨_, rfl, by rw [← HJ.out, List.drop_eq_nil_of_le (by omega)]; simp, HB.out⟩
set_option maxHeartbeats 8000000 in
set_option maxRecDepth 100000 in
theorem hasBad_calls (G : Nat) (cart : ByteArray) (l : List S36) (A : Option Addr) (c : Nat) (w : World) (hc : l.length ≤ c) (hC : Kd.C k36 w A l.length l) (hG : w.cell? ⟨G, 3, none⟩ = some (.string cart)) :
 Calls Try.prog 90 #[.slice A l.length c, .func (.func 89) #[] #[.pointer (some ⟨G, 0, none⟩)]] w fun e w' => e = .returned (.bool (l.any (badO cart))) ∧ Below w.heap.size w w' := by
 have h := idxBad_calls G cart l A c w hc hC hG
 go_enter Try.func90, Try.ntmps90
 go_wp2_with fail
 refine h.mono ?_
 rintro e w1 ⟨r, rfl, hr, hb1⟩
 go_wp2
 go_ret
 exact ⟨by rw [← hr]; rfl, hb1⟩
end Go.Proofs.Ytenbkljgmgdegaa.PO
end
section
namespace Go.Proofs.Ytenbkljgmgdegaa.PO
open Go.RowKit Go.Proofs.YtenbkljgmgdegaaW.PrintWords Go.Proofs.YtenbkljgmgdegaaW.PrintLast Go.Proofs.YtenbkljgmgdegaaW.PrintMore Go.Proofs.Ytenbkljgmgdegaa.XW
open Go.Proofs.Ytenbkljgmgdegaa.XRange
set_option linter.unusedVariables false
set_option linter.unusedSimpArgs false
theorem nil_size {s : ByteArray} : s.toList = [] ↔ s.size = 0 := by
 rw [ByteArray.toList_eq, List.eq_nil_iff_length_eq_zero, Array.length_toList]
 exact Iff.rfl
theorem headF_true {f : Fr} (h1 : isNameB f.fa = true) (h2 : isNameB f.fb = true) (h3 : ¬ f.fa.toList = f.fb.toList) (h4 : ¬ f.ct.toList = []) (h5 : (f.ct.size : Int) ≤ 32) (h6 : 1 ≤ f.se) (h7 : f.se ≤ 1152921504606846976) (h8 : 0 ≤ f.ix) : headF f = true := by
 have h9 : f.ct.size ≠ 0 := fun h => h4 (nil_size.2 h)
 have h10 : f.fa ≠ f.fb := fun h => h3 (by rw [h])
 unfold headF
 rw [h1, h2]
 simp [h10, h6, h7, h8]
 omega
theorem headF_parts {f : Fr} (h : headF f = true) : isNameB f.fa = true ∧ isNameB f.fb = true ∧ ¬ f.fa.toList = f.fb.toList ∧ ¬ f.ct.toList = [] ∧ (f.ct.size : Int) ≤ 32 ∧ 1 ≤ f.se ∧ f.se ≤ 1152921504606846976 ∧ 0 ≤ f.ix := by
 unfold headF at h
 simp only [Bool.and_eq_true, decide_eq_true_eq] at h
 obtain ⟨⟨⟨⟨⟨⟨⟨h1, h2⟩, h3⟩, h4⟩, h5⟩, h6⟩, h7⟩, h8⟩ := h
 exact ⟨h1, h2, fun h => h3 (bytes_inj h), fun h => by have := nil_size.1 h; omega, by omega, h6, h7, h8⟩
set_option maxHeartbeats 8000000 in
set_option maxRecDepth 100000 in
theorem frRight_calls (f : Fr) (A7 : Option Addr) (c7 : Nat) (A8 : Option Addr) (c8 : Nat) (w : World) (l7 : f.kn.length ≤ c7) (g7 : Kd.C k34 w A7 f.kn.length f.kn) (l8 : f.op.length ≤ c8) (g8 : Kd.C k36 w A8 f.op.length f.op) :
 Calls Try.prog 37 #[.agg #[.int .i64 f.k, .string f.fa, .string f.fb, .string f.ct, .int .i64 f.se, .int .i64 f.ix, .int .i64 f.mn, .slice A7 f.kn.length c7, .slice A8 f.op.length c8]] w fun e w' => e = .returned (.bool (rightF f)) ∧ Below w.heap.size w w' := by
 have HL7 := Aside0.mk l7
 have HG7 := Aside0.mk g7
 have HL8 := Aside0.mk l8
 have HG8 := Aside0.mk g8
 obtain ⟨N, hN⟩ : ∃ N, w.heap.size = N := ⟨_, rfl⟩
 clear l7 g7 l8 g8
 go_enter Try.func37, Try.ntmps37
 obtain ⟨w0, hw0⟩ : ∃ w0, w.alloc (.cells #[.int .i64 f.k, .string f.fa, .string f.fb, .string f.ct, .int .i64 f.se, .int .i64 f.ix, .int .i64 f.mn, .slice A7 f.kn.length c7, .slice A8 f.op.length c8] 54) = w0 := ⟨_, rfl⟩
 have HB := Aside0.mk (show Below w.heap.size w w0 from by rw [← hw0]; exact (Below.refl _ w).alloc (Nat.le_refl _) _)
 have KX := Aside0.mk (show w0.heap[N]? = some (.cells #[.int .i64 f.k, .string f.fa, .string f.fb, .string f.ct, .int .i64 f.se, .int .i64 f.ix, .int .i64 f.mn, .slice A7 f.kn.length c7, .slice A8 f.op.length c8] 54 (0, 0)) from by rw [← hw0, ← hN]; exact World.alloc_heap_new w _)
 obtain ⟨n0, n1, n2, n3, n4, n5, n6, n7, n8⟩ := cells9 KX.out
 obtain ⟨b1, h1⟩ : ∃ b, isNameB f.fa = b := ⟨_, rfl⟩
 obtain ⟨b2, h2⟩ : ∃ b, isNameB f.fb = b := ⟨_, rfl⟩
 have H1 := Aside0.mk h1
 have H2 := Aside0.mk h2
 clear h1 h2
 go_wp2_with fail
 refine (vector_IsName.calls f.fa b1 _ (congrArg some H1.out)).mono ?_
 rintro e w1 ⟨rfl, hb1⟩
 have HB1 := Aside0.mk (HB.out.trans (hb1.mono HB.out.size))
 have KX1 := Aside0.mk (blk_below KX.out hb1)
 clear n0 n1 n2 n3 n4 n5 n6 n7 n8 hb1 KX HB hw0
 obtain ⟨n0, n1, n2, n3, n4, n5, n6, n7, n8⟩ := cells9 KX1.out
 cases b1 with
 | false =>
   go_wp2
   go_ret
   exact ⟨by unfold rightF headF; rw [H1.out]; rfl, by first | exact HB1.out | (rw [← hN]; exact HB1.out)⟩
 | true =>
   go_wp2_with fail
   refine (vector_IsName.calls f.fb b2 _ (congrArg some H2.out)).mono ?_
   rintro e w2 ⟨rfl, hb2⟩
   have HB2 := Aside0.mk (HB1.out.trans (hb2.mono HB1.out.size))
   have KX2 := Aside0.mk (blk_below KX1.out hb2)
   clear n0 n1 n2 n3 n4 n5 n6 n7 n8 hb2 KX1 HB1
   obtain ⟨n0, n1, n2, n3, n4, n5, n6, n7, n8⟩ := cells9 KX2.out
   cases b2 with
   | false =>
     go_wp2
     go_ret
     exact ⟨by unfold rightF headF; rw [H1.out, H2.out]; rfl, by first | exact HB2.out | (rw [← hN]; exact HB2.out)⟩
   | true =>
     have fz := blk_frozen KX2.out 7
     by_cases hh : headF f = true
     · obtain ⟨_, _, q3, q4, q5, q6, q7, q8⟩ := headF_parts hh
       have HH := Aside0.mk hh
       clear hh
       have p3 : (f.fa.toList == f.fb.toList) = false := by simp [q3]
       have p4 : f.ct.toList.isEmpty = false := by simp [q4]
       have p5 : decide ((32 : Int) < (f.ct.size : Int)) = false := by simp; omega
       have p6 : decide (f.se < 1) = false := by simp; omega
       have p7 : decide ((1152921504606846976 : Int) < f.se) = false := by simp; omega
       have p8 : decide (f.ix < 0) = false := by simp; omega
       have HR := Aside0.mk (show rightF f = bodyF f from by unfold rightF; rw [HH.out]; rfl)
       have Q8 := Aside0.mk q8
       clear q3 q4 q5 q6 q7 q8
       by_cases k1 : f.k = 1
       · have e1 : (f.k == 1) = true := by simp [k1]
         have K1 := Aside0.mk k1
         clear k1
         go_wp2_with fail
         obtain ⟨w3, hw3⟩ : ∃ w3, w2.setCell ⟨N, 7, none⟩ (.slice none 0 0) = w3 := ⟨_, rfl⟩
         rw [hw3]
         have HB3 := Aside0.mk (show Below w.heap.size w w3 from by rw [← hw3]; exact below_set HB2.out (by rw [← hN]; exact Nat.le_refl _))
         have KX3 := Aside0.mk (show w3.cell? ⟨N, 5, none⟩ = some (.int .i64 f.ix) from by rw [← hw3]; exact (blk_cell (blk_set KX2.out 7 (.slice none 0 0)) 5).trans rfl)
         clear hw3 n0 n1 n2 n3 n4 n5 n6 n7 n8 fz
         obtain ⟨bb, hbb⟩ : ∃ b, (decide (f.mn = 0) && decide (f.op.length = 0)) = b := ⟨_, rfl⟩
         have HBB := Aside0.mk hbb
         refine (frame_bare.calls f.k f.fa f.fb f.ct f.se f.ix f.mn none 0 [] A8 c8 f.op bb _ (Kd.C_nil _ _) (by decide) (Kd.C_below HG8.out HB3.out) HL8.out (by
          unfold frame_bare.f
          rw [← HBB.out]
          by_cases h : f.mn = 0 <;> by_cases h' : f.op.length = 0 <;> simp [h, h'] <;> omega)).mono ?_
         rintro e w4 ⟨rfl, hb4⟩
         have HB4 := Aside0.mk (HB3.out.trans (hb4.mono HB3.out.size))
         have c5 : w4.cell? ⟨N, 5, none⟩ = some (.int .i64 f.ix) := (hb4.cell (World.block_lt_of_cell? _ _ KX3.out)).trans KX3.out
         clear hbb hb4
         cases bb with
         | false =>
           go_wp2
           go_ret
           exact ⟨by rw [HR.out]; unfold bodyF; rw [if_pos K1.out, HBB.out]; rfl, by first | exact HB4.out | (rw [← hN]; exact HB4.out)⟩
         | true =>
           go_wp2_with fail
           refine (vector_Right.calls (f.kn.length + 1) A7 c7 f.kn (rightS f.kn) _ (Kd.C_below HG7.out HB4.out) HL7.out (right_f _ HG7.out.2.1 _ (by omega))).mono ?_
           rintro e w5 ⟨rfl, hb5⟩
           have HB5 := Aside0.mk (HB4.out.trans (hb5.mono HB4.out.size))
           have c5' : w5.cell? ⟨N, 5, none⟩ = some (.int .i64 f.ix) := (hb5.cell (World.block_lt_of_cell? _ _ c5)).trans c5
           clear hb5 c5
           go_wp2
           all_goals
            go_ret
            exact ⟨by rw [HR.out]; unfold bodyF; rw [if_pos K1.out, HBB.out]; simp_all, by first | exact HB5.out | (rw [← hN]; exact HB5.out)⟩
       · have e1 : (f.k == 1) = false := by simp [k1]
         have K1 := Aside0.mk k1
         clear k1
         by_cases k2 : f.k = 2
         · have e2 : (f.k == 2) = true := by simp [k2]
           have K2 := Aside0.mk k2
           clear k2
           go_wp2_with fail
           all_goals try (go_ret; exact ⟨by rw [HR.out]; unfold bodyF; rw [if_neg K1.out, if_pos K2.out]; first | (simp_all; done) | (simp_all; omega), by first | exact HB2.out | (rw [← hN]; exact HB2.out)⟩)
           refine (hasBad_calls N f.ct f.op A8 c8 _ HL8.out (Kd.C_below HG8.out HB2.out) n3).mono ?_
           rintro e w3 ⟨rfl, hb3⟩
           have HB3 := Aside0.mk (HB2.out.trans (hb3.mono HB2.out.size))
           clear hb3 n0 n1 n2 n3 n4 n5 n6 n7 n8
           go_wp2
           go_ret
           refine ⟨?_, by first | exact HB3.out | (rw [← hN]; exact HB3.out)⟩
           rw [HR.out]
           unfold bodyF
           rw [if_neg K1.out, if_pos K2.out]
           refine congrArg (fun b => Ending.returned (Value.bool b)) ?_
           simp_all
           intros
           omega
         · have e2 : (f.k == 2) = false := by simp [k2]
           have K2 := Aside0.mk k2
           clear k2
           by_cases k3 : f.k = 3
           · have e3 : (f.k == 3) = true := by simp [k3]
             have K3 := Aside0.mk k3
             clear k3
             go_wp2_with fail
             obtain ⟨bb, hbb⟩ : ∃ b, (decide (f.mn = 0) && decide (f.kn.length = 0) && decide (f.op.length = 0)) = b := ⟨_, rfl⟩
             have HBB := Aside0.mk hbb
             clear hbb
             refine (frame_bare.calls f.k f.fa f.fb f.ct f.se f.ix f.mn A7 c7 f.kn A8 c8 f.op bb _ (Kd.C_below HG7.out HB2.out) HL7.out (Kd.C_below HG8.out HB2.out) HL8.out (by
              unfold frame_bare.f
              rw [← HBB.out]
              by_cases h : f.mn = 0 <;> by_cases h' : f.kn.length = 0 <;> by_cases h'' : f.op.length = 0 <;> simp [h, h', h''] <;> omega)).mono ?_
             rintro e w4 ⟨rfl, hb4⟩
             have HB4 := Aside0.mk (HB2.out.trans (hb4.mono HB2.out.size))
             have c5 : w4.cell? ⟨N, 5, none⟩ = some (.int .i64 f.ix) := (hb4.cell (World.block_lt_of_cell? _ _ n5)).trans n5
             clear hb4 n0 n1 n2 n3 n4 n5 n6 n7 n8
             cases bb <;> go_wp2
             all_goals
              go_ret
              exact ⟨by rw [HR.out]; unfold bodyF; rw [if_neg K1.out, if_neg K2.out, K3.out]; have hb := HBB.out; simp_all, by first | exact HB4.out | (rw [← hN]; exact HB4.out)⟩
           · have e3 : (f.k == 3) = false := by simp [k3]
             have K3 := Aside0.mk k3
             clear k3
             go_wp2
             go_ret
             exact ⟨by rw [HR.out]; unfold bodyF; simp [K1.out, K2.out, K3.out], by first | exact HB2.out | (rw [← hN]; exact HB2.out)⟩
     · have HF := Aside0.mk (show rightF f = false from by unfold rightF; cases h : headF f <;> simp_all)
       go_wp2
       all_goals first
        | (go_ret; exact ⟨by rw [HF.out]; rfl, by first | exact HB2.out | (rw [← hN]; exact HB2.out)⟩)
        | exact absurd (headF_true H1.out H2.out (by simp_all) (by simp_all) (by omega) (by omega) (by omega) (by omega)) hh
end Go.Proofs.Ytenbkljgmgdegaa.PO
end
section
namespace Go.Proofs.Ytenbkljgmgdegaa.PO
open Go.RowKit Go.Proofs.YtenbkljgmgdegaaW.PrintWords Go.Proofs.YtenbkljgmgdegaaW.PrintLast Go.Proofs.YtenbkljgmgdegaaW.PrintMore Go.Proofs.Ytenbkljgmgdegaa.XW
open Go.Proofs.Ytenbkljgmgdegaa.XRange
set_option linter.unusedVariables false
set_option linter.unusedSimpArgs false
theorem set9 {w : World} {G : Nat} {a0 a1 a2 a3 a4 a5 a6 a7 a8 : Value} (h : w.heap[G]? = some (.cells #[a0, a1, a2, a3, a4, a5, a6, a7, a8] 54 (0, 0))) (u0 u1 u2 u3 u4 u5 u6 u7 u8 : Value) :
 (((((((((w.setCell ⟨G, 0, none⟩ u0).setCell ⟨G, 1, none⟩ u1).setCell ⟨G, 2, none⟩ u2).setCell ⟨G, 3, none⟩ u3).setCell ⟨G, 4, none⟩ u4).setCell ⟨G, 5, none⟩ u5).setCell ⟨G, 6, none⟩ u6).setCell ⟨G, 7, none⟩ u7).setCell ⟨G, 8, none⟩ u8).heap[G]? = some (.cells #[u0, u1, u2, u3, u4, u5, u6, u7, u8] 54 (0, 0)) := by
 have h0 := blk_set h 0 u0
 simp only [List.setIfInBounds_toArray, List.set_cons_zero, List.set_cons_succ] at h0
 have h1 := blk_set h0 1 u1
 simp only [List.setIfInBounds_toArray, List.set_cons_zero, List.set_cons_succ] at h1
 have h2 := blk_set h1 2 u2
 simp only [List.setIfInBounds_toArray, List.set_cons_zero, List.set_cons_succ] at h2
 have h3 := blk_set h2 3 u3
 simp only [List.setIfInBounds_toArray, List.set_cons_zero, List.set_cons_succ] at h3
 have h4 := blk_set h3 4 u4
 simp only [List.setIfInBounds_toArray, List.set_cons_zero, List.set_cons_succ] at h4
 have h5 := blk_set h4 5 u5
 simp only [List.setIfInBounds_toArray, List.set_cons_zero, List.set_cons_succ] at h5
 have h6 := blk_set h5 6 u6
 simp only [List.setIfInBounds_toArray, List.set_cons_zero, List.set_cons_succ] at h6
 have h7 := blk_set h6 7 u7
 simp only [List.setIfInBounds_toArray, List.set_cons_zero, List.set_cons_succ] at h7
 have h8 := blk_set h7 8 u8
 simp only [List.setIfInBounds_toArray, List.set_cons_zero, List.set_cons_succ] at h8
 exact h8
theorem keeps9 (w : World) (G : Nat) (u0 u1 u2 u3 u4 u5 u6 u7 u8 : Value) : Keeps (fun k => k = G) w (((((((((w.setCell ⟨G, 0, none⟩ u0).setCell ⟨G, 1, none⟩ u1).setCell ⟨G, 2, none⟩ u2).setCell ⟨G, 3, none⟩ u3).setCell ⟨G, 4, none⟩ u4).setCell ⟨G, 5, none⟩ u5).setCell ⟨G, 6, none⟩ u6).setCell ⟨G, 7, none⟩ u7).setCell ⟨G, 8, none⟩ u8) := by
 have k0 := Keeps.setCell (M := fun k => k = G) (Keeps.refl _ w) (p := ⟨G, 0, none⟩) (.inl rfl) u0
 have k1 := Keeps.setCell (M := fun k => k = G) k0 (p := ⟨G, 1, none⟩) (.inl rfl) u1
 have k2 := Keeps.setCell (M := fun k => k = G) k1 (p := ⟨G, 2, none⟩) (.inl rfl) u2
 have k3 := Keeps.setCell (M := fun k => k = G) k2 (p := ⟨G, 3, none⟩) (.inl rfl) u3
 have k4 := Keeps.setCell (M := fun k => k = G) k3 (p := ⟨G, 4, none⟩) (.inl rfl) u4
 have k5 := Keeps.setCell (M := fun k => k = G) k4 (p := ⟨G, 5, none⟩) (.inl rfl) u5
 have k6 := Keeps.setCell (M := fun k => k = G) k5 (p := ⟨G, 6, none⟩) (.inl rfl) u6
 have k7 := Keeps.setCell (M := fun k => k = G) k6 (p := ⟨G, 7, none⟩) (.inl rfl) u7
 have k8 := Keeps.setCell (M := fun k => k = G) k7 (p := ⟨G, 8, none⟩) (.inl rfl) u8
 exact k8
structure Froz9 (w : World) (N : Nat) : Prop where
 f0 : w.frozen? ⟨N, 0, none⟩ = false
 f1 : w.frozen? ⟨N, 1, none⟩ = false
 f2 : w.frozen? ⟨N, 2, none⟩ = false
 f3 : w.frozen? ⟨N, 3, none⟩ = false
 f4 : w.frozen? ⟨N, 4, none⟩ = false
 f5 : w.frozen? ⟨N, 5, none⟩ = false
 f6 : w.frozen? ⟨N, 6, none⟩ = false
 f7 : w.frozen? ⟨N, 7, none⟩ = false
 f8 : w.frozen? ⟨N, 8, none⟩ = false
theorem froz9 {w : World} {N : Nat} {c : Array Value} {t : TypeId} (h : w.heap[N]? = some (.cells c t (0, 0))) : Froz9 w N :=
 ⟨blk_frozen h 0, blk_frozen h 1, blk_frozen h 2, blk_frozen h 3, blk_frozen h 4, blk_frozen h 5, blk_frozen h 6, blk_frozen h 7, blk_frozen h 8⟩
theorem store_last {P : Program} {o : Oper} {a : Act} {W w1 : World} {Kc : Act → World → Prop} {Q : Exit → Act → World → Prop} {ops : Array Oper} (hw : Region.wanted o (yielded ops a.tmps) = true) (hN : o.dst = none) (hrun : (execOp a.eval o).run P W = .ok .skip w1) (h : Kc a w1) :
 if Region.wanted o (yielded ops a.tmps) = true then Oper.wp P o a W Kc Q else Kc (a.put o.dst undef) W := by
 rw [if_pos hw]
 unfold Oper.wp
 rw [hrun]
 show Kc (a.put o.dst undef) w1
 rw [hN]
 exact h
end Go.Proofs.Ytenbkljgmgdegaa.PO
end
section
namespace Go.Proofs.Ytenbkljgmgdegaa.PO
open Go.RowKit Go.Proofs.YtenbkljgmgdegaaW.PrintWords Go.Proofs.YtenbkljgmgdegaaW.PrintLast Go.Proofs.YtenbkljgmgdegaaW.PrintMore
attribute [local go_sem] max2_int min2_int max_two min_two max_three min_three max_four min_four   -- for this text's walks alone
set_option linter.unusedVariables false
set_option linter.unusedSimpArgs false
def slices_Equal_byte_byte.l0 : Nat → List Int → List Int → Int → Int → Option (Bool)
 | 0, _, _, _, _ => none
 | k + 1, x0, x1, x12, x13 => if x13 < x12 then (if 0 ≤ x13 then (if x13 < (x0.length : Int) then (if x13 < (x1.length : Int) then (if (rd x0 x13) = (rd x1 x13) then (slices_Equal_byte_byte.l0 k x0 x1 x12 (wrap64 (x13 + 1))) else (some false)) else (none)) else (none)) else (none)) else (some true)
def slices_Equal_byte_byte.f (k : Nat) (l0 : List Int) (l1 : List Int) : Option (Bool) := if (l0.length : Int) = (l1.length : Int) then (slices_Equal_byte_byte.l0 k l0 l1 (l0.length : Int) 0) else (some false)
set_option maxHeartbeats 8000000 in
set_option maxRecDepth 100000 in
theorem slices_Equal_byte_byte.calls (k : Nat) (A0 : Option Addr) (c0 : Nat) (l0 : List Int) (A1 : Option Addr) (c1 : Nat) (l1 : List Int) (r : Bool) (w : World) (hr0 : Kd.C (Kd.int .u8) w A0 l0.length l0) (hc0 : l0.length ≤ c0) (hr1 : Kd.C (Kd.int .u8) w A1 l1.length l1) (hc1 : l1.length ≤ c1) (h : slices_Equal_byte_byte.f k l0 l1 = some r) :
 Calls Try.prog 112 #[.slice A0 l0.length c0, .slice A1 l1.length c1] w fun e w' => e = .returned (.bool r) ∧ Drawn0 w w' := by
 have HR0 := Aside0.mk hr0
 have HC0 := Aside0.mk hc0
 clear hr0 hc0
 have HR1 := Aside0.mk hr1
 have HC1 := Aside0.mk hc1
 clear hr1 hc1
 have H : (if (l0.length : Int) = (l1.length : Int) then (slices_Equal_byte_byte.l0 k l0 l1 (l0.length : Int) 0) else (some false)) = some r := h
 clear h
 by_cases c3 : (l0.length : Int) = (l1.length : Int)
 · rw [if_pos c3] at H
   have c3b0 : ((l0.length : Int) == (l1.length : Int)) = true := beq_iff_eq.mpr c3
   have c3b1 : ((l0.length : Int) != (l1.length : Int)) = false := bne_eq_false_iff_eq.mpr c3
   have c3b2 : (l0.length == l1.length) = true := by first | simpa using c3 | (simp at c3 ⊢; omega)
   clear c3
   have H' := Aside0.mk H
   clear H
   go_enter Try.func112, Try.ntmps112
   go_wp2
   repeat (go_quiet (fail); try go_wp2)
   go_loopg [13] k (fun kq v13 w' => ∃ (x13_1 : Int), v13 = .int .i64 x13_1 ∧ Aside0 (slices_Equal_byte_byte.l0 kq l0 l1 (l0.length : Int) x13_1 = some r) ∧ Aside0 (kq ≤ k) ∧ Drawn0 w w')
   case atStart => exact ⟨(0), (by first | rfl | (simp; done) | (simp [*]; done)), H', ⟨Nat.le_refl _⟩, by repeat (first | exact Drawn0.refl _ | apply Drawn0.step)⟩
   case round =>
    clear H'
    try clear c1
    try clear p2
    try clear c3
    try clear c3b0
    try clear c3b1
    try clear c3b2
    obtain ⟨x13_1, rfl, HA, HK1, ⟨m1, rfl⟩⟩ := hrel
    cases gk with
    | zero => exact absurd HA.out (by simp [slices_Equal_byte_byte.l0])
    | succ k1 =>
     have H := HA.out
     clear HA
     simp only [slices_Equal_byte_byte.l0] at H
     by_cases c4 : x13_1 < (l0.length : Int)
     · rw [if_pos c4] at H
       have c4b0 : decide (x13_1 < (l0.length : Int)) = true := decide_eq_true c4
       clear c4
       by_cases c5 : 0 ≤ x13_1
       · rw [if_pos c5] at H
         have c5b0 : decide (0 ≤ x13_1) = true := decide_eq_true c5
         clear c5
         by_cases c6 : x13_1 < (l0.length : Int)
         · rw [if_pos c6] at H
           have c6b0 : decide (x13_1 < (l0.length : Int)) = true := decide_eq_true c6
           clear c6
           by_cases c7 : x13_1 < (l1.length : Int)
           · rw [if_pos c7] at H
             have c7b0 : decide (x13_1 < (l1.length : Int)) = true := decide_eq_true c7
             clear c7
             by_cases c8 : (rd l0 x13_1) = (rd l1 x13_1)
             · rw [if_pos c8] at H
               have c8b0 : ((rd l0 x13_1) == (rd l1 x13_1)) = true := beq_iff_eq.mpr c8
               have c8b1 : ((rd l0 x13_1) != (rd l1 x13_1)) = false := bne_eq_false_iff_eq.mpr c8
               clear c8
               have H' := Aside0.mk H
               clear H
               have p182 : 0 ≤ (x13_1 : Int) := of_decide_eq_true (by first | (with_reducible assumption) | assumption)
               have q182 : x13_1 < (l0.length : Int) := of_decide_eq_true (by first | (with_reducible assumption) | assumption)
               obtain ⟨ad182, e182, hx182_0⟩ := Kd.at_int HR0.out x13_1 p182 q182
               cases e182
               replace p182 := eq_true p182
               replace q182 := eq_true q182
               have p183 : 0 ≤ (x13_1 : Int) := of_decide_eq_true (by first | (with_reducible assumption) | assumption)
               have q183 : x13_1 < (l1.length : Int) := of_decide_eq_true (by first | (with_reducible assumption) | assumption)
               obtain ⟨ad183, e183, hx183_0⟩ := Kd.at_int HR1.out x13_1 p183 q183
               cases e183
               replace p183 := eq_true p183
               replace q183 := eq_true q183
               go_wp2
               repeat (go_quiet (fail); try go_wp2)
               go_roundg k1
               case measure => have := HK1.out; omega
               case rel => exact ⟨(wrap64 (x13_1 + 1)), (by first | rfl | (simp; done) | (simp [*]; done)), H', ⟨by have := HK1.out; omega⟩, by repeat (first | exact Drawn0.refl _ | apply Drawn0.step)⟩
             · rw [if_neg c8] at H
               have c8b0 : ((rd l0 x13_1) == (rd l1 x13_1)) = false := beq_eq_false_iff_ne.mpr c8
               have c8b1 : ((rd l0 x13_1) != (rd l1 x13_1)) = true := bne_iff_ne.mpr c8
               obtain rfl := Option.some.inj H
               have p182 : 0 ≤ (x13_1 : Int) := of_decide_eq_true (by first | (with_reducible assumption) | assumption)
               have q182 : x13_1 < (l0.length : Int) := of_decide_eq_true (by first | (with_reducible assumption) | assumption)
               obtain ⟨ad182, e182, hx182_0⟩ := Kd.at_int HR0.out x13_1 p182 q182
               cases e182
               replace p182 := eq_true p182
               replace q182 := eq_true q182
               have p183 : 0 ≤ (x13_1 : Int) := of_decide_eq_true (by first | (with_reducible assumption) | assumption)
               have q183 : x13_1 < (l1.length : Int) := of_decide_eq_true (by first | (with_reducible assumption) | assumption)
               obtain ⟨ad183, e183, hx183_0⟩ := Kd.at_int HR1.out x13_1 p183 q183
               cases e183
               replace p183 := eq_true p183
               replace q183 := eq_true q183
               go_wp2
               repeat (go_quiet (fail); try go_wp2)
               go_ret
               exact ⟨by first | rfl | (simp; done) | (simp [*]; done), by repeat (first | exact Drawn0.refl _ | apply Drawn0.step)⟩
           · rw [if_neg c7] at H
             exact absurd H (by simp)
         · rw [if_neg c6] at H
           exact absurd H (by simp)
       · rw [if_neg c5] at H
         exact absurd H (by simp)
     · rw [if_neg c4] at H
       have c4b0 : decide (x13_1 < (l0.length : Int)) = false := decide_eq_false c4
       clear c4
       obtain rfl := Option.some.inj H
       go_wp2
       repeat (go_quiet (fail); try go_wp2)
       go_ret
       exact ⟨by first | rfl | (simp; done) | (simp [*]; done), by repeat (first | exact Drawn0.refl _ | apply Drawn0.step)⟩
 · rw [if_neg c3] at H
   have c3b0 : ((l0.length : Int) == (l1.length : Int)) = false := beq_eq_false_iff_ne.mpr c3
   have c3b1 : ((l0.length : Int) != (l1.length : Int)) = true := bne_iff_ne.mpr c3
   have c3b2 : (l0.length == l1.length) = false := by first | simpa using c3 | (simp at c3 ⊢; omega)
   obtain rfl := Option.some.inj H
   go_enter Try.func112, Try.ntmps112
   go_wp2
   repeat (go_quiet (fail); try go_wp2)
   go_ret
   exact ⟨by first | rfl | (simp; done) | (simp [*]; done), by repeat (first | exact Drawn0.refl _ | apply Drawn0.step)⟩
mutual
def wire_add.l0 : Nat → Int → List (List Int) → Int → Int → Option (Int)
 | 0, _, _, _, _ => none
 | k + 1, x0, x10, x11, x12 => if x12 < x11 then (if 0 ≤ x12 then (if x12 < (x10.length : Int) then (wire_add.l1 k x0 x10 x11 x12 (rd_L7 x10 x12) ((rd_L7 x10 x12).length : Int) 0) else (none)) else (none)) else (some x0)
def wire_add.l1 : Nat → Int → List (List Int) → Int → Int → List Int → Int → Int → Option (Int)
 | 0, _, _, _, _, _, _, _ => none
 | k + 1, x0, x10, x11, x12, x16, x17, x18 => if x18 < x17 then (if 0 ≤ x18 then (if x18 < (x16.length : Int) then (wire_add.l2 k (Go.bits .xor .u32 x0 ((rd x16 x18) % 4294967296)) 8 x10 x11 x12 x16 x17 x18) else (none)) else (none)) else (wire_add.l0 k x0 x10 x11 (wrap64 (x12 + 1)))
def wire_add.l2 : Nat → Int → Int → List (List Int) → Int → Int → List Int → Int → Int → Option (Int)
 | 0, _, _, _, _, _, _, _, _ => none
 | k + 1, x0, x9, x10, x11, x12, x16, x17, x18 => if x9 > 0 then (if (Go.bits .and .u32 x0 1) = 0 then (wire_add.l2 k (x0 / 2) (wrap64 (x9 - 1)) x10 x11 x12 x16 x17 x18) else (wire_add.l2 k (Go.bits .xor .u32 (x0 / 2) 3988292384) (wrap64 (x9 - 1)) x10 x11 x12 x16 x17 x18)) else (wire_add.l1 k x0 x10 x11 x12 x16 x17 (wrap64 (x18 + 1)))
end
def wire_add.f (k : Nat) (a0 : Int) (l1 : List (List Int)) : Option (Int) := wire_add.l0 k a0 l1 (l1.length : Int) 0
set_option maxHeartbeats 8000000 in
set_option maxRecDepth 100000 in
theorem wire_add.calls (k : Nat) (a0 : Int) (A1 : Option Addr) (c1 : Nat) (l1 : List (List Int)) (r : Int) (w : World) (hr1 : Kd.C (Kd.slice 5 (Kd.int .u8)) w A1 l1.length l1) (hc1 : l1.length ≤ c1) (h : wire_add.f k a0 l1 = some r) :
 Calls Try.prog 132 #[.int .u32 a0, .slice A1 l1.length c1] w fun e w' => e = .returned (.int .u32 r) ∧ Drawn0 w w' := by
 have HR1 := Aside0.mk hr1
 have HC1 := Aside0.mk hc1
 clear hr1 hc1
 have H : (wire_add.l0 k a0 l1 (l1.length : Int) 0) = some r := h
 clear h
 have H' := Aside0.mk H
 clear H
 go_enter Try.func132, Try.ntmps132
 go_wp2
 repeat (go_step3; go_wp2)
 repeat (rw [Exit.noGoto_normal]; go_wp2)
 go_loopg [0, 12] k (fun kq v0 v12 w' => ∃ (x0_1 : Int) (x12_1 : Int), v0 = .int .u32 x0_1 ∧ v12 = .int .i64 x12_1 ∧ Aside0 (wire_add.l0 kq x0_1 l1 (l1.length : Int) x12_1 = some r) ∧ Aside0 (kq ≤ k) ∧ Drawn0 w w')
 case atStart => exact ⟨(a0), (0), (by first | rfl | (simp; done) | (simp [*]; done)), (by first | rfl | (simp; done) | (simp [*]; done)), H', ⟨Nat.le_refl _⟩, by repeat (first | exact Drawn0.refl _ | apply Drawn0.step)⟩
 case round =>
  clear H'
  try clear c1
  try clear p2
  obtain ⟨x0_1, x12_1, rfl, rfl, HA, HK1, ⟨m1, rfl⟩⟩ := hrel
  cases gk with
  | zero => exact absurd HA.out (by simp [wire_add.l0])
  | succ k1 =>
   have H := HA.out
   clear HA
   simp only [wire_add.l0] at H
   by_cases c3 : x12_1 < (l1.length : Int)
   · rw [if_pos c3] at H
     have c3b0 : decide (x12_1 < (l1.length : Int)) = true := decide_eq_true c3
     clear c3
     by_cases c4 : 0 ≤ x12_1
     · rw [if_pos c4] at H
       have c4b0 : decide (0 ≤ x12_1) = true := decide_eq_true c4
       clear c4
       by_cases c5 : x12_1 < (l1.length : Int)
       · rw [if_pos c5] at H
         have c5b0 : decide (x12_1 < (l1.length : Int)) = true := decide_eq_true c5
         clear c5
         have H' := Aside0.mk H
         clear H
         have p184 : 0 ≤ (x12_1 : Int) := of_decide_eq_true (by first | (with_reducible assumption) | assumption)
         have q184 : x12_1 < (l1.length : Int) := of_decide_eq_true (by first | (with_reducible assumption) | assumption)
         obtain ⟨ad184, A184_0, c184_0, e184, hx184_0, hl184_0, hi184_0⟩ := at_L7 HR1.out x12_1 p184 q184
         cases e184
         have HR184_0 := Aside0.mk hi184_0
         have HC184_0 := Aside0.mk hl184_0
         clear hi184_0 hl184_0
         replace p184 := eq_true p184
         replace q184 := eq_true q184
         go_wp2
         repeat (go_step3; go_wp2)
         repeat (rw [Exit.noGoto_normal]; go_wp2)
         go_loopg [0, 18] k1 (fun kq v0 v18 w' => ∃ (x0_2 : Int) (x18_2 : Int), v0 = .int .u32 x0_2 ∧ v18 = .int .i64 x18_2 ∧ Aside0 (wire_add.l1 kq x0_2 l1 (l1.length : Int) x12_1 (rd_L7 l1 x12_1) ((rd_L7 l1 x12_1).length : Int) x18_2 = some r) ∧ Aside0 (kq ≤ k1) ∧ Drawn0 w w')
         case atStart => exact ⟨(x0_1), (0), (by first | rfl | (simp; done) | (simp [*]; done)), (by first | rfl | (simp; done) | (simp [*]; done)), H', ⟨Nat.le_refl _⟩, by repeat (first | exact Drawn0.refl _ | apply Drawn0.step)⟩
         case round =>
          clear H'
          try clear c1
          try clear p1
          try clear q1
          try clear hx1
          try clear p2
          try clear c3
          try clear c3b0
          try clear c4
          try clear c4b0
          try clear c5
          try clear c5b0
          try clear hx184_0
          try clear p184
          try clear p2
          try clear q184
          obtain ⟨x0_2, x18_2, rfl, rfl, HA, HK2, ⟨m2, rfl⟩⟩ := hrel
          cases gk with
          | zero => exact absurd HA.out (by simp [wire_add.l1])
          | succ k2 =>
           have H := HA.out
           clear HA
           simp only [wire_add.l1] at H
           by_cases c6 : x18_2 < ((rd_L7 l1 x12_1).length : Int)
           · rw [if_pos c6] at H
             have c6b0 : decide (x18_2 < ((rd_L7 l1 x12_1).length : Int)) = true := decide_eq_true c6
             clear c6
             by_cases c7 : 0 ≤ x18_2
             · rw [if_pos c7] at H
               have c7b0 : decide (0 ≤ x18_2) = true := decide_eq_true c7
               clear c7
               by_cases c8 : x18_2 < ((rd_L7 l1 x12_1).length : Int)
               · rw [if_pos c8] at H
                 have c8b0 : decide (x18_2 < ((rd_L7 l1 x12_1).length : Int)) = true := decide_eq_true c8
                 clear c8
                 have H' := Aside0.mk H
                 clear H
                 have p185 : 0 ≤ (x18_2 : Int) := of_decide_eq_true (by first | (with_reducible assumption) | assumption)
                 have q185 : x18_2 < ((rd_L7 l1 x12_1).length : Int) := of_decide_eq_true (by first | (with_reducible assumption) | assumption)
                 obtain ⟨ad185, e185, hx185_0⟩ := Kd.at_int HR184_0.out x18_2 p185 q185
                 cases e185
                 replace p185 := eq_true p185
                 replace q185 := eq_true q185
                 go_wp2
                 repeat (go_step3; go_wp2)
                 repeat (rw [Exit.noGoto_normal]; go_wp2)
                 go_loopg [0, 9] k2 (fun kq v0 v9 w' => ∃ (x0_3 : Int) (x9_3 : Int), v0 = .int .u32 x0_3 ∧ v9 = .int .i64 x9_3 ∧ Aside0 (wire_add.l2 kq x0_3 x9_3 l1 (l1.length : Int) x12_1 (rd_L7 l1 x12_1) ((rd_L7 l1 x12_1).length : Int) x18_2 = some r) ∧ Aside0 (kq ≤ k2) ∧ Drawn0 w w')
                 case atStart => exact ⟨(Go.bits .xor .u32 x0_2 ((rd (rd_L7 l1 x12_1) x18_2) % 4294967296)), (8), (by first | rfl | (simp; done) | (simp [*]; done)), (by first | rfl | (simp; done) | (simp [*]; done)), H', ⟨Nat.le_refl _⟩, by repeat (first | exact Drawn0.refl _ | apply Drawn0.step)⟩
                 case round =>
                  clear H'
                  try clear c1
                  try clear p1
                  try clear q1
                  try clear hx1
                  try clear p2
                  try clear c3
                  try clear c3b0
                  try clear c4
                  try clear c4b0
                  try clear c5
                  try clear c5b0
                  try clear c6
                  try clear c6b0
                  try clear c7
                  try clear c7b0
                  try clear c8
                  try clear c8b0
                  try clear hx184_0
                  try clear hx185_0
                  try clear p1
                  try clear p184
                  try clear p185
                  try clear p2
                  try clear q1
                  try clear q184
                  try clear q185
                  obtain ⟨x0_3, x9_3, rfl, rfl, HA, HK3, ⟨m3, rfl⟩⟩ := hrel
                  cases gk with
                  | zero => exact absurd HA.out (by simp [wire_add.l2])
                  | succ k3 =>
                   have H := HA.out
                   clear HA
                   simp only [wire_add.l2] at H
                   by_cases c9 : x9_3 > 0
                   rw [if_pos c9] at H
                   have c9b0 : decide (0 < x9_3) = true := decide_eq_true c9
                   clear c9
                   by_cases c10 : (Go.bits .and .u32 x0_3 1) = 0
                   rw [if_pos c10] at H
                   have c10b0 : ((Go.bits .and .u32 x0_3 1) == 0) = true := beq_iff_eq.mpr c10
                   have c10b1 : ((Go.bits .and .u32 x0_3 1) != 0) = false := bne_eq_false_iff_eq.mpr c10
                   clear c10
                   rotate_left
                   rw [if_neg c10] at H
                   have c10b0 : ((Go.bits .and .u32 x0_3 1) == 0) = false := beq_eq_false_iff_ne.mpr c10
                   have c10b1 : ((Go.bits .and .u32 x0_3 1) != 0) = true := bne_iff_ne.mpr c10
                   rotate_left
                   rw [if_neg c9] at H
                   have c9b0 : decide (0 < x9_3) = false := decide_eq_false c9
                   clear c9
                   rotate_left
                   all_goals (
                    have H' := Aside0.mk H
                    clear H
                    go_wp2
                    repeat (go_step3; go_wp2)
                    repeat (rw [Exit.noGoto_normal]; go_wp2)
                    go_roundg k3
                    case measure => have := HK1.out; have := HK2.out; have := HK3.out; omega
                    case rel => exact ⟨_, _, (by first | rfl | (simp; done) | (simp [*]; done)), (by first | rfl | (simp; done) | (simp [*]; done)), H', ⟨by have := HK1.out; have := HK2.out; have := HK3.out; omega⟩, by repeat (first | exact Drawn0.refl _ | apply Drawn0.step)⟩
                    )
               · rw [if_neg c8] at H
                 exact absurd H (by simp)
             · rw [if_neg c7] at H
               exact absurd H (by simp)
           · rw [if_neg c6] at H
             have c6b0 : decide (x18_2 < ((rd_L7 l1 x12_1).length : Int)) = false := decide_eq_false c6
             clear c6
             have H' := Aside0.mk H
             clear H
             go_wp2
             repeat (go_step3; go_wp2)
             repeat (rw [Exit.noGoto_normal]; go_wp2)
             go_roundg k2
             case measure => have := HK1.out; have := HK2.out; omega
             case rel => exact ⟨(x0_2), (wrap64 (x12_1 + 1)), (by first | rfl | (simp; done) | (simp [*]; done)), (by first | rfl | (simp; done) | (simp [*]; done)), H', ⟨by have := HK1.out; have := HK2.out; omega⟩, by repeat (first | exact Drawn0.refl _ | apply Drawn0.step)⟩
       · rw [if_neg c5] at H
         exact absurd H (by simp)
     · rw [if_neg c4] at H
       exact absurd H (by simp)
   · rw [if_neg c3] at H
     have c3b0 : decide (x12_1 < (l1.length : Int)) = false := decide_eq_false c3
     clear c3
     obtain rfl := Option.some.inj H
     go_wp2
     repeat (go_step3; go_wp2)
     repeat (rw [Exit.noGoto_normal]; go_wp2)
     (try rw [Exit.noGoto_ret])
     go_ret
     exact ⟨by first | rfl | (simp; done) | (simp [*]; done), by repeat (first | exact Drawn0.refl _ | apply Drawn0.step)⟩
def wire_seal.f (k : Nat) (l0 : List (List Int)) : Option (List Int) := (wire_add.f k 4294967295 l0).bind fun t186 => (some (([(Go.bits .xor .u32 4294967295 t186) % 256, ((Go.bits .xor .u32 4294967295 t186) / 256) % 256, ((Go.bits .xor .u32 4294967295 t186) / 65536) % 256, ((Go.bits .xor .u32 4294967295 t186) / 16777216) % 256] : List Int)))
set_option maxHeartbeats 8000000 in
set_option maxRecDepth 100000 in
theorem wire_seal.calls (k : Nat) (A0 : Option Addr) (c0 : Nat) (l0 : List (List Int)) (r : List Int) (w : World) (hr0 : Kd.C (Kd.slice 5 (Kd.int .u8)) w A0 l0.length l0) (hc0 : l0.length ≤ c0) (h : wire_seal.f k l0 = some r) :
 Calls Try.prog 113 #[.slice A0 l0.length c0] w fun e w' => ∃ v0_ : Value, e = .returned (v0_) ∧ Kd.R (Kd.int .u8) 5 w' w.heap.size (fun _ => True) v0_ r ∧ Below w.heap.size w w' := by
 have HR0 := Aside0.mk hr0
 have HC0 := Aside0.mk hc0
 clear hr0 hc0
 have HB := Aside0.mk (Below.refl w.heap.size w)
 have H : ((wire_add.f k 4294967295 l0).bind fun t186 => (some (([(Go.bits .xor .u32 4294967295 t186) % 256, ((Go.bits .xor .u32 4294967295 t186) / 256) % 256, ((Go.bits .xor .u32 4294967295 t186) / 65536) % 256, ((Go.bits .xor .u32 4294967295 t186) / 16777216) % 256] : List Int)))) = some r := h
 clear h
 replace H := Option.bind_eq_some_iff.mp H
 obtain ⟨t186, A20, H⟩ := H
 replace H : (some (([(Go.bits .xor .u32 4294967295 t186) % 256, ((Go.bits .xor .u32 4294967295 t186) / 256) % 256, ((Go.bits .xor .u32 4294967295 t186) / 65536) % 256, ((Go.bits .xor .u32 4294967295 t186) / 16777216) % 256] : List Int))) = some r := H
 have A2 := Aside0.mk A20
 clear A20
 obtain ⟨y187, hy187⟩ : ∃ y_ : List Int, y_ = (([(Go.bits .xor .u32 4294967295 t186) % 256, ((Go.bits .xor .u32 4294967295 t186) / 256) % 256, ((Go.bits .xor .u32 4294967295 t186) / 65536) % 256, ((Go.bits .xor .u32 4294967295 t186) / 16777216) % 256] : List Int)) := ⟨_, rfl⟩
 replace H : (some y187) = some r := by first | (rw [hy187]; with_reducible exact H) | (have H2_ := (Option.bind_some _ _).symm.trans H; rw [hy187]; with_reducible exact H2_) | (have H2_ := (Option.bind_some _ _).symm.trans H; with_reducible exact H2_) | with_reducible exact H | (rw [hy187]; exact H) | exact H
 have Ny187 := Aside0.mk hy187
 clear hy187
 obtain rfl := Option.some.inj H
 go_enter Try.func113, Try.ntmps113
 go_wp2_with (first | ((with_reducible refine gate_callee (f := 132) rfl ?_); refine goesL_ (some 5) rfl rfl Try.func132 (by kernel_rfl) rfl #[.int .u32 4294967295, .slice A0 l0.length c0] rfl (by (try simp only [List.map_toArray, List.map_cons, List.map_nil]); first | done | rfl | (simp only [List.length_drop, List.length_take]; rfl)) ?_; (with_reducible refine (wire_add.calls k 4294967295 _ _ l0 t186 _ ?side1 ?side2 A2.out).mono ?_); (case side1 => repeat (first | exact HR0.out | (with_reducible refine Kd.C_alloc ?_ _) | (with_reducible refine Kd.C_drewN ?_ _) | (with_reducible refine Kd.C_drew ?_))); (case side2 => exact HC0.out); rintro e w' ⟨rfl, ⟨nd, rfl⟩⟩; refine ⟨_, rfl, ?_⟩) | ((with_reducible refine gate_dst (N := 18) rfl ?_); refine Kd.R_lit (Kd.int .u8) _ 5 ?hg (N := 18) ?hd (xs := ([(Go.bits .xor .u32 4294967295 t186) % 256, ((Go.bits .xor .u32 4294967295 t186) / 256) % 256, ((Go.bits .xor .u32 4294967295 t186) / 65536) % 256, ((Go.bits .xor .u32 4294967295 t186) / 16777216) % 256] : List Int)) (inner := [.int .u8 ((Go.bits .xor .u32 4294967295 t186) % 256), .int .u8 (((Go.bits .xor .u32 4294967295 t186) / 256) % 256), .int .u8 (((Go.bits .xor .u32 4294967295 t186) / 65536) % 256), .int .u8 (((Go.bits .xor .u32 4294967295 t186) / 16777216) % 256)]) (ok := fun _ => True) (okp := fun _ => True) ?hr ?hp (fun _ hk => hk) trivial (Below.refl _ _) (Nat.le_refl _) (by simp) ?_; (case hd => rfl); (case hg => rfl); (case hr => first | (go_simp; done) | (go_simp; rfl)); (case hp => exact (Reps.one (show Kd.M (Kd.int .u8) _ _ _ ((Go.bits .xor .u32 4294967295 t186) % 256) [.int .u8 ((Go.bits .xor .u32 4294967295 t186) % 256)] from rfl) (Reps.one (show Kd.M (Kd.int .u8) _ _ _ (((Go.bits .xor .u32 4294967295 t186) / 256) % 256) [.int .u8 (((Go.bits .xor .u32 4294967295 t186) / 256) % 256)] from rfl) (Reps.one (show Kd.M (Kd.int .u8) _ _ _ (((Go.bits .xor .u32 4294967295 t186) / 65536) % 256) [.int .u8 (((Go.bits .xor .u32 4294967295 t186) / 65536) % 256)] from rfl) (Reps.one (show Kd.M (Kd.int .u8) _ _ _ (((Go.bits .xor .u32 4294967295 t186) / 16777216) % 256) [.int .u8 (((Go.bits .xor .u32 4294967295 t186) / 16777216) % 256)] from rfl) (Reps.none _ _)))))); intro v188 w3 ho4 hb hg_ hnew_; clear hg_ hnew_; (first | rw [← Ny187.out] at ho4 | (simp only [Int.reduceToNat] at ho4; rw [← Ny187.out] at ho4)); have n0_ := Aside0.mk (Kd.R_lower ho4 (below_size (by repeat (first | (with_reducible first | exact HB.out | apply below_alloc | apply pw_below_drewN | apply below_drew1) | exact HB.out)))); have n1_ := Aside0.mk (below_step (by repeat (first | (with_reducible first | exact HB.out | apply below_alloc | apply pw_below_drewN | apply below_drew1) | exact HB.out)) hb); clear HB; have HO189 := n0_; have HB := n1_; clear n0_ n1_; clear hb ho4))
 go_ret
 exact ⟨_, by first | rfl | (simp [errW_none, errW_some] <;> rfl) | (simp [*, errW_none, errW_some] <;> rfl), by (with_reducible repeat (first | apply Kd.R_alloc | apply Kd.R_drewN | apply Kd.R_drew)); exact HO189.out, by repeat (first | (with_reducible first | exact HB.out | apply below_alloc | apply pw_below_drewN | apply below_drew1) | exact HB.out)⟩
end Go.Proofs.Ytenbkljgmgdegaa.PO
end
section
namespace Go.Proofs.Ytenbkljgmgdegaa.PO
open Go.RowKit Go.Proofs.YtenbkljgmgdegaaW.PrintWords Go.Proofs.YtenbkljgmgdegaaW.PrintLast Go.Proofs.YtenbkljgmgdegaaW.PrintMore Go.Proofs.Ytenbkljgmgdegaa.XW
open Go.Proofs.Ytenbkljgmgdegaa.XRange
set_option linter.unusedVariables false
set_option linter.unusedSimpArgs false
theorem grow_run (w : World) (n : Nat) (h0 : 0 < n) (hn : n ≤ 140737488355328) (ty : TypeId) : (Builtin.append_ #[63, 3] ty #[.slice none 0 0, .int .i64 n]).run Try.prog w =
 .ok (.slice (some ⟨w.heap.size, 0, none⟩) n (grownCap w n 0 5)) (w.drew.alloc (.cells (Builtin.zeroCells #[.int .u8 0] n ++ Builtin.zeroCells #[.int .u8 0] (grownCap w n 0 5 - n)) 5)) := by
 obtain ⟨i0, hi0, hiz⟩ := Option.map_eq_some_iff.1 info5
 simp only [Prod.mk.injEq] at hiz
 obtain ⟨hz, hs, hb⟩ := hiz
 have h := Lib.run_append_grow_zeros (P := Try.prog) w 63 3 ty 5 i0 _ .i64 .i64 Try.underlying63 Try.underlying3 hi0 hz none 0 0 [] (by rw [hs]; rfl) n h0 (by omega) (by omega) (by omega) (by rw [hb]; omega) (by rw [hb, Nat.zero_add]; exact growslice_fits (by omega) (by omega))
 simpa [Value.cells] using h
theorem R_empty (w : World) (base g cap : Nat) (cur : Array Value) (hg : w.heap[g]? = some (.cells cur 5 (0, 0))) (hb : base ≤ g) (hc : cap ≤ maxLen) (hs : cur.size = cap) : Kd.R (Kd.int .u8) 5 w base (fun _ => True) (.slice (some ⟨g, 0, none⟩) 0 cap) [] :=
 ⟨fun _ _ => trivial, [], ⟨rfl, .inr ⟨g, cap, cur, rfl, hb, hg, Nat.zero_le _, hc, by rw [hs]; show cap = cap * 1; omega, by simp⟩⟩, ⟨rfl, fun j p hj => by simp at hj⟩⟩
set_option maxHeartbeats 8000000 in
set_option maxRecDepth 100000 in
theorem grow_calls (n : Nat) (h0 : 0 < n) (hn : n ≤ 140737488355328) (w : World) :
 Calls Try.prog 135 #[.slice none 0 0, .int .i64 n] w fun e w' => ∃ v, e = .returned v ∧ Kd.R (Kd.int .u8) 5 w' w.heap.size (fun _ => True) v [] ∧ Below w.heap.size w w' := by
 have q0 : decide ((n : Int) < 0) = false := by simp
 have q1 : decide ((0 : Int) < (n : Int)) = true := by simp; omega
 have hw : wrap64 (n : Int) = (n : Int) := by unfold wrap64; omega
 have hr := grow_run w n h0 hn
 obtain ⟨W1, hW1⟩ : ∃ W1, w.drew.alloc (.cells (Builtin.zeroCells #[.int .u8 0] n ++ Builtin.zeroCells #[.int .u8 0] (grownCap w n 0 5 - n)) 5) = W1 := ⟨_, rfl⟩
 obtain ⟨C, hC⟩ : ∃ C, grownCap w n 0 5 = C := ⟨_, rfl⟩
 have hCn : n ≤ C := by rw [← hC]; exact grownCap_ge w _ _ _
 have hCm : C ≤ maxLen := by rw [← hC]; exact grownCap_le_maxLen w n 0 5 (by unfold maxLen; omega)
 have hN1 : W1.heap[w.heap.size]? = some (.cells (Builtin.zeroCells #[.int .u8 0] n ++ Builtin.zeroCells #[.int .u8 0] (C - n)) 5 (0, 0)) := by rw [← hW1, ← hC]; exact World.alloc_heap_new w.drew _
 have HB := Aside0.mk (show Below w.heap.size w W1 from by rw [← hW1]; exact ((below_drew1 (Below.refl _ w))).alloc (Nat.le_refl _) _)
 have HR := Aside0.mk (R_empty W1 w.heap.size w.heap.size C _ hN1 (Nat.le_refl _) hCm (by simp [Builtin.zeroCells]; omega))
 have hr' : ∀ ty, (Builtin.append_ #[63, 3] ty #[.slice none 0 0, .int .i64 n]).run Try.prog w = .ok (.slice (some ⟨w.heap.size, 0, none⟩) n C) W1 := fun ty => by rw [hr, hW1, hC]
 clear hr hW1 hC hN1
 go_enter Try.func135, Try.ntmps135
 go_wp2_with (at_builtin; refine Lib.wpList_append_run _ rfl _ _ _ _ rfl _ _ rfl rfl _ _ (hr' _) ?_)
 go_ret
 exact ⟨_, rfl, HR.out, HB.out⟩
def catL (l : List (List Int)) : List Int := l.flatten
theorem cat_drop (l : List (List Int)) (i : Nat) (h : i < l.length) : l.drop i = rd_L7 l (i : Int) :: l.drop (i + 1) := by
 rw [List.drop_eq_getElem_cons h, rd_L7]
 congr 1
 simp [List.getD, h]
set_option maxHeartbeats 8000000 in
set_option maxRecDepth 100000 in
theorem concat_calls (l : List (List Int)) (A : Option Addr) (c : Nat) (w : World) (hC : Kd.C (Kd.slice 5 (Kd.int .u8)) w A l.length l) (h0 : 0 < (catL l).length) (hn : (catL l).length ≤ 140737488355328) :
 Calls Try.prog 120 #[.slice A l.length c] w fun e w' => ∃ v, e = .returned v ∧ Kd.R (Kd.int .u8) 5 w' w.heap.size (fun _ => True) v (catL l) ∧ Below w.heap.size w w' := by
 have HC := Aside0.mk hC
 have H0 := Aside0.mk h0
 have HN := Aside0.mk hn
 have hm : l.length ≤ 9223372036854775807 := hC.2.1
 clear hC h0 hn
 go_enter Try.func120, Try.ntmps120
 go_wp2
 go_loopw [3, 5, 11] (fun v3 v5 v11 wr => ∃ (i s : Nat), v3 = .int .i64 s ∧ v11 = .int .i64 i ∧ i ≤ l.length ∧ Aside0 (s + (catL (l.drop i)).length = (catL l).length) ∧ Aside0 (Below w.heap.size w wr)) (fun _ _ v11 _ => l.length - (intOf v11).toNat)
 case atStart => exact ⟨0, 0, rfl, rfl, by omega, ⟨by simp⟩, ⟨Below.refl _ _⟩⟩
 case round =>
  obtain ⟨i, s, rfl, rfl, hi, HS, HB⟩ := hrel
  by_cases hlt : i < l.length
  · obtain ⟨ad, A0, c0, rfl, hx, hc0, hC0⟩ := at_L7 (Kd.C_below HC.out HB.out) (i : Int) (by omega) (by omega)
    simp only [Int.toNat_natCast] at hx
    obtain ⟨x, hxe⟩ : ∃ x, rd_L7 l (i : Int) = x := ⟨_, rfl⟩
    rw [hxe] at hx hc0 hC0
    have HD := Aside0.mk (show l.drop i = x :: l.drop (i + 1) from by rw [← hxe]; exact cat_drop l i hlt)
    have hb3 : 0 ≤ (i : Int) ∧ (i : Int) < (l.length : Int) := by omega
    have q1 : decide ((i : Int) < (l.length : Int)) = true := by simp; omega
    have hs2 : s + x.length ≤ 140737488355328 := by
     have h1 := HS.out
     have h2 := HN.out
     rw [HD.out] at h1
     unfold catL at h1
     rw [List.flatten_cons, List.length_append] at h1
     unfold catL at h2
     omega
    have hw : wrap64 ((s : Int) + (x.length : Int)) = ((s + x.length : Nat) : Int) := by unfold wrap64; omega
    have q2 : decide (((s + x.length : Nat) : Int) < 0) = false := by simp; omega
    clear hc0 hC0 hxe
    go_wp2
    go_round
    case rel => exact ⟨i + 1, s + x.length, by go_num, by go_num, by omega, ⟨by
     have h1 := HS.out
     rw [HD.out] at h1
     unfold catL at h1 ⊢
     rw [List.flatten_cons, List.length_append] at h1
     omega⟩, HB⟩
    case measure => simp [intOf]; omega
  · have q1 : decide ((i : Int) < (l.length : Int)) = false := by simp; omega
    have hs : s = (catL l).length := by
     have h1 := HS.out
     rw [List.drop_eq_nil_of_le (by omega)] at h1
     simpa [catL] using h1
    subst hs
    go_wp2_with fail
    refine (grow_calls (catL l).length H0.out HN.out _).mono ?_
    rintro e w1 ⟨v, rfl, hr1, hb1⟩
    have HB1 := Aside0.mk (HB.out.trans (hb1.mono HB.out.size))
    have HR1 := Aside0.mk (Kd.R_lower hr1 HB.out.size)
    clear hr1 hb1 HB HS q1 hlt
    go_wp2
    go_loopw [6, 8, 27] (fun v6 v8 v27 wr => ∃ (i : Nat) (T : List Int), v27 = .int .i64 i ∧ i ≤ l.length ∧ Aside0 (T ++ catL (l.drop i) = catL l) ∧ Aside0 (Kd.R (Kd.int .u8) 5 wr w.heap.size (fun _ => True) v6 T) ∧ Aside0 (Below w.heap.size w wr)) (fun _ _ v27 _ => l.length - (intOf v27).toNat)
    case atStart => exact ⟨0, [], rfl, by omega, ⟨by simp⟩, HR1, HB1⟩
    case round =>
     clear HR1 HB1
     obtain ⟨i, T, rfl, hi2, HT, HR, HB⟩ := hrel
     by_cases hlt : i < l.length
     · obtain ⟨ad, A0, c0, rfl, hx, hc0, hC0⟩ := at_L7 (Kd.C_below HC.out HB.out) (i : Int) (by omega) (by omega)
       simp only [Int.toNat_natCast] at hx
       obtain ⟨x, hxe⟩ : ∃ x, rd_L7 l (i : Int) = x := ⟨_, rfl⟩
       rw [hxe] at hx hc0 hC0
       have HD := Aside0.mk (show l.drop i = x :: l.drop (i + 1) from by rw [← hxe]; exact cat_drop l i hlt)
       have HX := Aside0.mk hC0
       have HLN := Aside0.mk (show T.length + x.length ≤ 140737488355328 from by
        have h1 := HT.out
        have h2 := HN.out
        rw [HD.out] at h1
        rw [← h1] at h2
        unfold catL at h2
        rw [List.flatten_cons, List.length_append, List.length_append] at h2
        omega)
       have hb3 : 0 ≤ (i : Int) ∧ (i : Int) < (l.length : Int) := by omega
       have q1 : decide ((i : Int) < (l.length : Int)) = true := by simp; omega
       clear hc0 hC0 hxe
       obtain ⟨A6, c6, rfl, l6, _⟩ := Kd.R_reads HR.out
       go_wp2_with (first | ((with_reducible refine gate_builtin (b := .append) (xs := #[.tmp 31, .tmp 32]) rfl ?_); at_builtin; refine Kd.R_append_rows (Kd.int .u8) (w0 := w) w.heap.size rfl (.tmp 31) (.tmp 32) 63 5 (.int .u8 0) 1 rfl Try.underlying63 info5 rfl (by decide) (by omega) (.slice A6 T.length c6) T x _ _ _ (fun _ => True) (fun _ => False) rfl rfl ?aO ?aR (fun _ _ h => h) (fun _ h => h.elim) ?aF ?aB ?aS ?aL ?_; (case aR => exact HX.out); (case aB => exact HB.out); (case aF => exact (fun _ _ => trivial)); (case aO => exact HR.out); (case aS => exact HB.out.size); (case aL => have := HLN.out; omega); intro v9 w9 ho hb hg hat; have HO9 := Aside0.mk ho; have HB9 := Aside0.mk hb; clear ho hb hg hat))
       go_round
       case rel => exact ⟨i + 1, T ++ x, by go_num, by omega, ⟨by
        have h1 := HT.out
        rw [HD.out] at h1
        rw [← h1]
        unfold catL
        rw [List.flatten_cons, List.append_assoc]⟩, HO9, HB9⟩
       case measure => simp [intOf]; omega
     · have q1 : decide ((i : Int) < (l.length : Int)) = false := by simp; omega
       have hT : T = catL l := by
        have h1 := HT.out
        rw [List.drop_eq_nil_of_le (by omega)] at h1
        simpa [catL] using h1
       subst hT
       go_wp2
       go_ret
       exact ⟨_, rfl, HR.out, HB.out⟩
end Go.Proofs.Ytenbkljgmgdegaa.PO
end
