/- What the rows of this claim use, out of the texts of this work (FX, RV, PE7, FE). No condition beyond those that each statement names. -/
import Derived.Deep.DeepCutAuto
import Derived.Deep.CutBlock
import Derived.Test.YtenbkljgmgdegaaQgFB
import Derived.Test.YtenbkljgmgdegaaQgRE
import Derived.Test.YtenbkljgmgdegaaQgOH
import Derived.Test.YtenbkljgmgdegaaQgPD17
import Derived.Test.YtenbkljgmgdegaaQgOV
import Derived.Test.YtenbkljgmgdegaaQgPOx0
import Derived.Test.YtenbkljgmgdegaaQgPOx2
import Derived.Test.YtenbkljgmgdegaaQgPD10
import Derived.Test.YtenbkljgmgdegaaQgPD15
import Derived.Test.YtenbkljgmgdegaaQgOJ
section
namespace Go.Proofs.Ytenbkljgmgdegaa.PO
open Go.RowKit Go.Proofs.YtenbkljgmgdegaaW.PrintWords Go.Proofs.YtenbkljgmgdegaaW.PrintLast Go.Proofs.YtenbkljgmgdegaaW.PrintMore Go.Proofs.Ytenbkljgmgdegaa.XW
open Go.Proofs.Ytenbkljgmgdegaa.XRange
set_option linter.unusedVariables false
set_option linter.unusedSimpArgs false
def WfO (m : Nat) (x : S36) : Prop := x.f0.f0.size ≤ m ∧ sizes m x.f1 ∧ sizes m x.f6
structure WfF (m : Nat) (f : Fr) : Prop where
 a : f.fa.size ≤ m
 b : f.fb.size ≤ m
 c : f.ct.size ≤ m
 kn : sizes m f.kn
 op : ∀ x, x ∈ f.op → WfO m x
 m : m ≤ 9223372036854775807
theorem rd_memF (l : List S36) (i : Nat) (h : i < l.length) : rd_T36 l (i : Int) ∈ l := by
 have : rd_T36 l (i : Int) = l[i] := by simp [rd_T36, List.getD, h]
 rw [this]
 exact List.getElem_mem h
set_option maxHeartbeats 8000000 in
set_option maxRecDepth 100000 in
theorem refOps_calls (l : List S36) (cart : ByteArray) (A : Option Addr) (c : Nat) (w : World) (hc : l.length ≤ c) (hC : Kd.C k36 w A l.length l) (m : Nat) (hm : m ≤ 9223372036854775807) (hz : ∀ x, x ∈ l → WfO m x) :
 Calls Try.prog 92 #[.slice A l.length c, .string cart] w fun e w' => e = .returned (.bool (!l.any (badO cart) && decide (0 < l.length) && decide (l.length ≤ 8))) ∧ Below w.heap.size w w' := by
 have HC := Aside0.mk hC
 have HM := Aside0.mk hm
 have HZ := Aside0.mk hz
 have hlm : l.length ≤ 9223372036854775807 := hC.2.1
 clear hC hm hz
 go_enter Try.func92, Try.ntmps92
 go_wp2
 go_loopw [5, 6] (fun v5 _ wr => ∃ j : Nat, j ≤ l.length ∧ v5 = .int .i64 j ∧ Aside0 ((l.drop j).any (badO cart) = l.any (badO cart)) ∧ Aside0 (Below w.heap.size w wr)) (fun v5 _ _ => l.length - (intOf v5).toNat)
 case atStart => exact ⟨0, Nat.zero_le _, rfl, ⟨by simp⟩, ⟨Below.refl _ _⟩⟩
 case round =>
  obtain ⟨j, hj, rfl, HJ, HB⟩ := hrel
  by_cases hlt : j < l.length
  · obtain ⟨ad, A2, c2, A7, c7, rfl, f0, f1, f2, f3, f4, f5, f6, f7, l2, g2, l7, g7⟩ := at_T36 (Kd.C_below HC.out HB.out) (j : Int) (by omega) (by omega)
    simp only [Int.toNat_natCast] at f0 f1 f2 f3 f4 f5 f6 f7
    have HW := Aside0.mk (HZ.out _ (rd_memF l j hlt))
    obtain ⟨x, hx⟩ : ∃ x, rd_T36 l (j : Int) = x := ⟨_, rfl⟩
    rw [hx] at f0 f1 f2 f3 f4 f5 f6 f7 l2 g2 l7 g7 HW
    have HD := Aside0.mk (show l.drop j = x :: l.drop (j + 1) from by rw [← hx]; exact rd_drop36' l j hlt)
    have HL2 := Aside0.mk l2
    have HG2 := Aside0.mk g2
    have HL7 := Aside0.mk l7
    have HG7 := Aside0.mk g7
    have hb3 : 0 ≤ (j : Int) ∧ (j : Int) < (l.length : Int) := by omega
    have q1 : decide ((j : Int) < (l.length : Int)) = true := by simp; omega
    have hbk := World.block_lt_of_cell? wr _ f3
    clear l2 g2 l7 g7 hx
    go_wp2_with fail
    refine (refRightO_calls x A2 c2 A7 c7 _ HL2.out HG2.out HL7.out HG7.out m HM.out HW.out.1 HW.out.2.1 HW.out.2.2).mono ?_
    rintro e w1 ⟨rfl, hb1⟩
    have HB1 := Aside0.mk (HB.out.trans (hb1.mono HB.out.size))
    have f3' := (hb1.cell (p := ⟨(ad.add (j * 8)).block, (ad.add (j * 8)).off + 3, none⟩) hbk).trans f3
    obtain ⟨b, hb⟩ : ∃ b, rightO x = b := ⟨_, rfl⟩
    have HBX := Aside0.mk hb
    rw [hb]
    clear hb hb1 f0 f1 f2 f3 f4 f5 f6 f7 hbk
    cases b with
    | false =>
      go_wp2
      go_ret
      refine ⟨?_, HB1.out⟩
      rw [← HJ.out, HD.out, List.any_cons]
      unfold badO
      rw [HBX.out]
      simp
    | true =>
      by_cases he : x.f2.toList = cart.toList
      · have q2 : (x.f2.toList == cart.toList) = true := by simp [he]
        have HE := Aside0.mk (bytes_inj he)
        go_wp2
        refine ⟨⟨j + 1, by omega, by go_num, ⟨by rw [← HJ.out, HD.out, List.any_cons]; unfold badO; rw [HBX.out, HE.out]; simp⟩, HB1⟩, ?_⟩
        simp [intOf]
        omega
      · have q2 : (x.f2.toList == cart.toList) = false := by simp [he]
        have HE := Aside0.mk (show x.f2 ≠ cart from fun h => he (by rw [h]))
        go_wp2
        go_ret
        refine ⟨?_, HB1.out⟩
        rw [← HJ.out, HD.out, List.any_cons]
        unfold badO
        simp [HE.out]
  · have q1 : decide ((j : Int) < (l.length : Int)) = false := by simp; omega
    have HF := Aside0.mk (show l.any (badO cart) = false from by rw [← HJ.out, List.drop_eq_nil_of_le (by omega)]; rfl)
    by_cases h1 : 1 ≤ l.length
    · have q2 : decide ((1 : Int) ≤ (l.length : Int)) = true := by simp; omega
      go_wp2
      go_ret
      refine ⟨?_, HB.out⟩
      rw [HF.out, show decide (0 < l.length) = true from decide_eq_true (by omega)]
      simp
      try omega
    · have q2 : decide ((1 : Int) ≤ (l.length : Int)) = false := by simp; omega
      go_wp2
      go_ret
      refine ⟨?_, HB.out⟩
      rw [HF.out, show decide (0 < l.length) = false from decide_eq_false (by omega)]
      simp
      try omega
theorem refName_calls (s : ByteArray) (hs : s.size ≤ 9223372036854775807) (w : World) : Calls Try.prog 91 #[.string s] w fun e w' => e = .returned (.bool (isNameB s)) ∧ Below w.heap.size w w' :=
 (pannierref07_IsName.calls (s.size + 1) s (isNameB s) w (refName_f s hs (s.size + 1) (by omega))).mono (fun e w' h => ⟨h.1, h.2.below⟩)
theorem refRightS_calls (l : List S34) (A : Option Addr) (c : Nat) (w : World) (hl : l.length ≤ c) (hC : Kd.C k34 w A l.length l) (m : Nat) (hm : m ≤ 9223372036854775807) (hz : sizes m l) : Calls Try.prog 62 #[.slice A l.length c] w fun e w' => e = .returned (.bool (rightS l)) ∧ Below w.heap.size w w' :=
 pannierref07_Right.calls (l.length + m + 3) A c l (rightS l) w hC hl (refRight_f l hC.2.1 m hm hz _ (by omega))
set_option maxHeartbeats 8000000 in
set_option maxRecDepth 100000 in
theorem refRightF_calls (f : Fr) (A7 : Option Addr) (c7 : Nat) (A8 : Option Addr) (c8 : Nat) (w : World) (l7 : f.kn.length ≤ c7) (g7 : Kd.C k34 w A7 f.kn.length f.kn) (l8 : f.op.length ≤ c8) (g8 : Kd.C k36 w A8 f.op.length f.op) (m : Nat) (hz : WfF m f) :
 Calls Try.prog 38 #[.agg #[.int .i64 f.k, .string f.fa, .string f.fb, .string f.ct, .int .i64 f.se, .int .i64 f.ix, .int .i64 f.mn, .slice A7 f.kn.length c7, .slice A8 f.op.length c8]] w fun e w' => e = .returned (.bool (rightF f)) ∧ Below w.heap.size w w' := by
 have HG7 := Aside0.mk g7
 have HG8 := Aside0.mk g8
 have HL7 := Aside0.mk l7
 have HL8 := Aside0.mk l8
 have HZ := Aside0.mk hz
 clear l7 g7 l8 g8 hz
 obtain ⟨N, hN⟩ : ∃ N, w.heap.size = N := ⟨_, rfl⟩
 go_enter Try.func38, Try.ntmps38
 go_upto_region 1 with fail
 obtain ⟨w0, hw0⟩ : ∃ w0, w.alloc (.cells #[.int .i64 f.k, .string f.fa, .string f.fb, .string f.ct, .int .i64 f.se, .int .i64 f.ix, .int .i64 f.mn, .slice A7 f.kn.length c7, .slice A8 f.op.length c8] 54) = w0 := ⟨_, rfl⟩
 have HB0 := Aside0.mk (show Below w.heap.size w w0 from by rw [← hw0]; exact (Below.refl _ w).alloc (Nat.le_refl _) _)
 have HK0 := Aside0.mk (show w0.heap[N]? = some (.cells #[.int .i64 f.k, .string f.fa, .string f.fb, .string f.ct, .int .i64 f.se, .int .i64 f.ix, .int .i64 f.mn, .slice A7 f.kn.length c7, .slice A8 f.op.length c8] 54 (0, 0)) from by rw [← hw0, ← hN]; exact World.alloc_heap_new w _)
 try rw [hw0]
 try rw [hN]
 clear hw0
 obtain ⟨k0, k1, k2, k3, k4, k5, k6, k7, k8⟩ := cells9 HK0.out
 go_wp2_with fail
 refine (refName_calls f.fa (Nat.le_trans HZ.out.a HZ.out.m) _).mono ?_
 obtain ⟨b1, hb1⟩ : ∃ b, isNameB f.fa = b := ⟨_, rfl⟩
 have HN1 := Aside0.mk hb1
 rw [hb1]
 rintro e w1 ⟨rfl, hb⟩
 have HB1 := Aside0.mk (HB0.out.trans (hb.mono HB0.out.size))
 have HK1 := Aside0.mk (blk_below HK0.out hb)
 clear hb1 hb k0 k1 k2 k3 k4 k5 k6 k7 k8 HB0 HK0
 obtain ⟨k0, k1, k2, k3, k4, k5, k6, k7, k8⟩ := cells9 HK1.out
 go_wp2_with fail
 refine (refName_calls f.fb (Nat.le_trans HZ.out.b HZ.out.m) _).mono ?_
 obtain ⟨b2, hb2⟩ : ∃ b, isNameB f.fb = b := ⟨_, rfl⟩
 have HN2 := Aside0.mk hb2
 rw [hb2]
 rintro e w2 ⟨rfl, hb⟩
 have HB2 := Aside0.mk (HB1.out.trans (hb.mono HB1.out.size))
 have HK2 := Aside0.mk (blk_below HK1.out hb)
 clear hb2 hb k0 k1 k2 k3 k4 k5 k6 k7 k8 HB1 HK1
 obtain ⟨k0, k1, k2, k3, k4, k5, k6, k7, k8⟩ := cells9 HK2.out
 have no : headF f = false → rightF f = false := fun h => by unfold rightF; rw [h]; rfl
 have NO := Aside0.mk no
 clear no
 cases b1 with
 | false =>
   go_wp2
   go_ret
   exact ⟨by rw [NO.out (by unfold headF; rw [HN1.out]; rfl)]; rfl, by first | exact HB2.out | (rw [← hN]; exact HB2.out)⟩
 | true =>
 cases b2 with
 | false =>
   go_wp2
   go_ret
   exact ⟨by rw [NO.out (by unfold headF; rw [HN1.out, HN2.out]; rfl)]; rfl, by first | exact HB2.out | (rw [← hN]; exact HB2.out)⟩
 | true =>
 by_cases he : f.fa.toList = f.fb.toList
 · have q : (f.fa.toList == f.fb.toList) = true := by simp [he]
   have HE := Aside0.mk (bytes_inj he)
   go_wp2
   go_ret
   exact ⟨by rw [NO.out (by unfold headF; rw [HE.out]; simp)]; rfl, by first | exact HB2.out | (rw [← hN]; exact HB2.out)⟩
 have q : (f.fa.toList == f.fb.toList) = false := by simp [he]
 have HE := Aside0.mk (show f.fa ≠ f.fb from fun h => he (by rw [h]))
 clear he
 by_cases h1 : f.ct.size < 1
 · have HH := Aside0.mk h1
   go_wp2
   go_ret
   exact ⟨by rw [NO.out (by unfold headF; rw [show decide (1 ≤ f.ct.size) = false from decide_eq_false (by have := HH.out; omega)]; simp)]; rfl, by first | exact HB2.out | (rw [← hN]; exact HB2.out)⟩
 by_cases h2 : 32 < f.ct.size
 · have HH := Aside0.mk h2
   go_wp2
   go_ret
   exact ⟨by rw [NO.out (by unfold headF; rw [show decide (f.ct.size ≤ 32) = false from decide_eq_false (by have := HH.out; omega)]; simp)]; rfl, by first | exact HB2.out | (rw [← hN]; exact HB2.out)⟩
 by_cases h3 : f.se < 1
 · have HH := Aside0.mk h3
   go_wp2
   go_ret
   exact ⟨by rw [NO.out (by unfold headF; rw [show decide (1 ≤ f.se) = false from decide_eq_false (by have := HH.out; omega)]; simp)]; rfl, by first | exact HB2.out | (rw [← hN]; exact HB2.out)⟩
 by_cases h4 : f.se > 1152921504606846976
 · have HH := Aside0.mk h4
   go_wp2
   go_ret
   exact ⟨by rw [NO.out (by unfold headF; rw [show decide (f.se ≤ 1152921504606846976) = false from decide_eq_false (by have := HH.out; omega)]; simp)]; rfl, by first | exact HB2.out | (rw [← hN]; exact HB2.out)⟩
 have HR := Aside0.mk (show rightF f = (decide (0 ≤ f.ix) && bodyF f) from by
  unfold rightF headF
  rw [HN1.out, HN2.out, show decide (f.fa ≠ f.fb) = true from decide_eq_true HE.out, show decide (1 ≤ f.ct.size) = true from decide_eq_true (by omega), show decide (f.ct.size ≤ 32) = true from decide_eq_true (by omega),
   show decide (1 ≤ f.se) = true from decide_eq_true (by omega), show decide (f.se ≤ 1152921504606846976) = true from decide_eq_true (by omega)]
  simp)
 clear NO HN1 HN2 HE
 go_upto_region 5 with fail
 clear h1 h2 h3 h4 q
 by_cases p1 : f.k = 1
 · have q1 : (f.k == 1) = true := by simp [p1]
   have HK1 := Aside0.mk p1
   clear p1
   go_wp2_with fail
   refine (refRightS_calls f.kn A7 c7 _ HL7.out (Kd.C_below HG7.out HB2.out) m HZ.out.m HZ.out.kn).mono ?_
   obtain ⟨b3, hb3⟩ : ∃ b, rightS f.kn = b := ⟨_, rfl⟩
   have HN3 := Aside0.mk hb3
   rw [hb3]
   rintro e w3 ⟨rfl, hb⟩
   have HB3 := Aside0.mk (HB2.out.trans (hb.mono HB2.out.size))
   have HK3 := Aside0.mk (blk_below HK2.out hb)
   clear hb3 hb k0 k1 k2 k3 k4 k5 k6 k7 k8 HB2 HK2
   obtain ⟨k0, k1, k2, k3, k4, k5, k6, k7, k8⟩ := cells9 HK3.out
   cases b3 with
   | false =>
     go_wp2
     go_ret
     refine ⟨?_, by first | exact HB3.out | (rw [← hN]; exact HB3.out)⟩
     rw [HR.out]
     unfold bodyF
     rw [if_pos HK1.out, HN3.out]
     simp []
     all_goals (intros; omega)
   | true =>
   by_cases c1 : 0 ≤ f.ix
   case neg =>
    go_wp2
    go_ret
    refine ⟨?_, by first | exact HB3.out | (rw [← hN]; exact HB3.out)⟩
    rw [HR.out]
    unfold bodyF
    rw [if_pos HK1.out, HN3.out]
    simp [c1]
    all_goals (intros; omega)
   by_cases c2 : f.ix ≤ 1152921504606846976
   case neg =>
    go_wp2
    go_ret
    refine ⟨?_, by first | exact HB3.out | (rw [← hN]; exact HB3.out)⟩
    rw [HR.out]
    unfold bodyF
    rw [if_pos HK1.out, HN3.out]
    simp [c1, c2]
    all_goals (intros; omega)
   by_cases c3 : f.mn = 0
   case neg =>
    have d3 : (f.mn == 0) = false := by simpa using c3
    go_wp2
    go_ret
    refine ⟨?_, by first | exact HB3.out | (rw [← hN]; exact HB3.out)⟩
    rw [HR.out]
    unfold bodyF
    rw [if_pos HK1.out, HN3.out]
    simp [c1, c2, c3]
    all_goals (intros; omega)
   have e3 : (f.mn == 0) = true := by simpa using c3
   by_cases c4 : f.op.length = 0
   case neg =>
    have d4 : (f.op.length == 0) = false := by simpa using c4
    go_wp2
    go_ret
    refine ⟨?_, by first | exact HB3.out | (rw [← hN]; exact HB3.out)⟩
    rw [HR.out]
    unfold bodyF
    rw [if_pos HK1.out, HN3.out]
    simp [c1, c2, c3, c4]
    all_goals (intros; omega)
   have e4 : (f.op.length == 0) = true := by simpa using c4
   go_wp2
   go_ret
   refine ⟨?_, by first | exact HB3.out | (rw [← hN]; exact HB3.out)⟩
   rw [HR.out]
   unfold bodyF
   rw [if_pos HK1.out, HN3.out]
   simp [c1, c2, c3, c4]
   all_goals (intros; omega)
 have q1 : (f.k == 1) = false := by simpa using p1
 by_cases p2 : f.k = 2
 · have q2 : (f.k == 2) = true := by simp [p2]
   have HK1 := Aside0.mk p1
   have HP2 := Aside0.mk p2
   clear p1 p2
   go_wp2_with fail
   refine (refOps_calls f.op f.ct A8 c8 _ HL8.out (Kd.C_below HG8.out HB2.out) m HZ.out.m HZ.out.op).mono ?_
   obtain ⟨b3, hb3⟩ : ∃ b, (!f.op.any (badO f.ct) && decide (0 < f.op.length) && decide (f.op.length ≤ 8)) = b := ⟨_, rfl⟩
   have HN3 := Aside0.mk (show bodyF f = (decide (f.kn.length = 0) && decide (f.ix < f.mn) && decide (f.mn ≤ 512) && b3) from by
    unfold bodyF
    rw [if_neg HK1.out, if_pos HP2.out, ← hb3]
    cases !f.op.any (badO f.ct) <;> cases decide (0 < f.op.length) <;> cases decide (f.op.length ≤ 8) <;> simp)
   rw [hb3]
   rintro e w3 ⟨rfl, hb⟩
   have HB3 := Aside0.mk (HB2.out.trans (hb.mono HB2.out.size))
   have HK3 := Aside0.mk (blk_below HK2.out hb)
   clear hb3 hb k0 k1 k2 k3 k4 k5 k6 k7 k8 HB2 HK2
   obtain ⟨k0, k1, k2, k3, k4, k5, k6, k7, k8⟩ := cells9 HK3.out
   cases b3 with
   | false =>
     go_wp2
     go_ret
     refine ⟨?_, by first | exact HB3.out | (rw [← hN]; exact HB3.out)⟩
     rw [HR.out]
     rw [HN3.out]
     simp []
     all_goals (intros; omega)
   | true =>
   by_cases c1 : 0 ≤ f.ix
   case neg =>
    go_wp2
    go_ret
    refine ⟨?_, by first | exact HB3.out | (rw [← hN]; exact HB3.out)⟩
    rw [HR.out]
    rw [HN3.out]
    simp [c1]
    all_goals (intros; omega)
   by_cases c2 : f.ix < f.mn
   case neg =>
    go_wp2
    go_ret
    refine ⟨?_, by first | exact HB3.out | (rw [← hN]; exact HB3.out)⟩
    rw [HR.out]
    rw [HN3.out]
    simp [c1, c2]
    all_goals (intros; omega)
   by_cases c3 : f.mn ≤ 512
   case neg =>
    go_wp2
    go_ret
    refine ⟨?_, by first | exact HB3.out | (rw [← hN]; exact HB3.out)⟩
    rw [HR.out]
    rw [HN3.out]
    simp [c1, c2, c3]
    all_goals (intros; omega)
   by_cases c4 : f.kn.length = 0
   case neg =>
    have d4 : (f.kn.length == 0) = false := by simpa using c4
    go_wp2
    go_ret
    refine ⟨?_, by first | exact HB3.out | (rw [← hN]; exact HB3.out)⟩
    rw [HR.out]
    rw [HN3.out]
    simp [c1, c2, c3, c4]
    all_goals (intros; omega)
   have e4 : (f.kn.length == 0) = true := by simpa using c4
   go_wp2
   go_ret
   refine ⟨?_, by first | exact HB3.out | (rw [← hN]; exact HB3.out)⟩
   rw [HR.out]
   rw [HN3.out]
   simp [c1, c2, c3, c4]
   all_goals (intros; omega)
 have q2 : (f.k == 2) = false := by simpa using p2
 by_cases p3 : f.k = 3
 · have q3 : (f.k == 3) = true := by simp [p3]
   by_cases c0 : 0 ≤ f.ix
   case neg =>
    go_wp2
    go_ret
    refine ⟨?_, by first | exact HB2.out | (rw [← hN]; exact HB2.out)⟩
    rw [HR.out]
    unfold bodyF
    rw [if_neg p1, if_neg p2, show decide (f.k = 3) = true from decide_eq_true p3]
    simp [c0]
    all_goals (intros; omega)
   by_cases c1 : f.ix ≤ 512
   case neg =>
    go_wp2
    go_ret
    refine ⟨?_, by first | exact HB2.out | (rw [← hN]; exact HB2.out)⟩
    rw [HR.out]
    unfold bodyF
    rw [if_neg p1, if_neg p2, show decide (f.k = 3) = true from decide_eq_true p3]
    simp [c0, c1]
    all_goals (intros; omega)
   by_cases c2 : f.mn = 0
   case neg =>
    have d2 : (f.mn == 0) = false := by simpa using c2
    go_wp2
    go_ret
    refine ⟨?_, by first | exact HB2.out | (rw [← hN]; exact HB2.out)⟩
    rw [HR.out]
    unfold bodyF
    rw [if_neg p1, if_neg p2, show decide (f.k = 3) = true from decide_eq_true p3]
    simp [c0, c1, c2]
    all_goals (intros; omega)
   have e2 : (f.mn == 0) = true := by simpa using c2
   by_cases c3 : f.kn.length = 0
   case neg =>
    have d3 : (f.kn.length == 0) = false := by simpa using c3
    go_wp2
    go_ret
    refine ⟨?_, by first | exact HB2.out | (rw [← hN]; exact HB2.out)⟩
    rw [HR.out]
    unfold bodyF
    rw [if_neg p1, if_neg p2, show decide (f.k = 3) = true from decide_eq_true p3]
    simp [c0, c1, c2, c3]
    all_goals (intros; omega)
   have e3 : (f.kn.length == 0) = true := by simpa using c3
   by_cases c4 : f.op.length = 0
   case neg =>
    have d4 : (f.op.length == 0) = false := by simpa using c4
    go_wp2
    go_ret
    refine ⟨?_, by first | exact HB2.out | (rw [← hN]; exact HB2.out)⟩
    rw [HR.out]
    unfold bodyF
    rw [if_neg p1, if_neg p2, show decide (f.k = 3) = true from decide_eq_true p3]
    simp [c0, c1, c2, c3, c4]
    all_goals (intros; omega)
   have e4 : (f.op.length == 0) = true := by simpa using c4
   go_wp2
   go_ret
   refine ⟨?_, by first | exact HB2.out | (rw [← hN]; exact HB2.out)⟩
   rw [HR.out]
   unfold bodyF
   rw [if_neg p1, if_neg p2, show decide (f.k = 3) = true from decide_eq_true p3]
   simp [c0, c1, c2, c3, c4]
   all_goals (intros; omega)
 have q3 : (f.k == 3) = false := by simpa using p3
 go_wp2
 go_ret
 refine ⟨?_, by first | exact HB2.out | (rw [← hN]; exact HB2.out)⟩
 rw [HR.out]
 unfold bodyF
 rw [if_neg p1, if_neg p2, show decide (f.k = 3) = false from decide_eq_false p3]
 simp
end Go.Proofs.Ytenbkljgmgdegaa.PO
end
section
namespace Go.Proofs.Ytenbkljgmgdegaa.PO
open Go.RowKit Go.Proofs.YtenbkljgmgdegaaW.PrintWords Go.Proofs.YtenbkljgmgdegaaW.PrintLast Go.Proofs.YtenbkljgmgdegaaW.PrintMore Go.Proofs.Ytenbkljgmgdegaa.XW
open Go.Proofs.Ytenbkljgmgdegaa.XRange Go.Proofs.Ytenbkljgmgdegaa.XMap Go.Proofs.Ytenbkljgmgdegaa.XSeq
set_option linter.unusedVariables false
set_option linter.unusedSimpArgs false
set_option maxHeartbeats 8000000 in
set_option maxRecDepth 100000 in
theorem refEqualO_calls (x y : S36) (A2 : Option Addr) (c2 : Nat) (A7 : Option Addr) (c7 : Nat) (B2 : Option Addr) (d2 : Nat) (B7 : Option Addr) (d7 : Nat) (w : World) (l2 : x.f1.length ≤ c2) (g2 : Kd.C k34 w A2 x.f1.length x.f1) (l7 : x.f6.length ≤ c7) (g7 : Kd.C k34 w A7 x.f6.length x.f6)
 (m2 : y.f1.length ≤ d2) (h2 : Kd.C k34 w B2 y.f1.length y.f1) (m7 : y.f6.length ≤ d7) (h7 : Kd.C k34 w B7 y.f6.length y.f6) :
 Calls Try.prog 48 #[.agg #[.string x.f0.f0, .int .i64 x.f0.f1, .slice A2 x.f1.length c2, .string x.f2, .int .i64 x.f3, .string x.f4, .int .i64 x.f5, .slice A7 x.f6.length c7], .agg #[.string y.f0.f0, .int .i64 y.f0.f1, .slice B2 y.f1.length d2, .string y.f2, .int .i64 y.f3, .string y.f4, .int .i64 y.f5, .slice B7 y.f6.length d7]] w
  fun e w' => e = .returned (.bool (decide (x = y))) ∧ Below w.heap.size w w' := by
 have HG2 := Aside0.mk g2
 have HG7 := Aside0.mk g7
 have HL2 := Aside0.mk l2
 have HL7 := Aside0.mk l7
 have HH2 := Aside0.mk h2
 have HH7 := Aside0.mk h7
 have HM2 := Aside0.mk m2
 have HM7 := Aside0.mk m7
 have HS2 := Aside0.mk (refSame_f x.f1 y.f1 g2.2.1 (x.f1.length + 1) (by omega))
 have HS7 := Aside0.mk (refSame_f x.f6 y.f6 g7.2.1 (x.f6.length + 1) (by omega))
 clear l2 g2 l7 g7 m2 h2 m7 h7
 obtain ⟨N, hN⟩ : ∃ N, w.heap.size = N := ⟨_, rfl⟩
 go_enter Try.func48, Try.ntmps48
 obtain ⟨w0, hw0⟩ : ∃ w0, (w.alloc (.cells #[.string x.f0.f0, .int .i64 x.f0.f1, .slice A2 x.f1.length c2, .string x.f2, .int .i64 x.f3, .string x.f4, .int .i64 x.f5, .slice A7 x.f6.length c7] 36)).alloc (.cells #[.string y.f0.f0, .int .i64 y.f0.f1, .slice B2 y.f1.length d2, .string y.f2, .int .i64 y.f3, .string y.f4, .int .i64 y.f5, .slice B7 y.f6.length d7] 36) = w0 := ⟨_, rfl⟩
 have hb0 : Below w.heap.size w w0 := by rw [← hw0]; exact ((Below.refl _ w).alloc (Nat.le_refl _) _).alloc (by simp) _
 have kx : w0.heap[N]? = some (.cells #[.string x.f0.f0, .int .i64 x.f0.f1, .slice A2 x.f1.length c2, .string x.f2, .int .i64 x.f3, .string x.f4, .int .i64 x.f5, .slice A7 x.f6.length c7] 36 (0, 0)) := by rw [← hw0, ← hN]; exact blk_alloc (World.alloc_heap_new w _) _
 have ky : w0.heap[N + 1]? = some (.cells #[.string y.f0.f0, .int .i64 y.f0.f1, .slice B2 y.f1.length d2, .string y.f2, .int .i64 y.f3, .string y.f4, .int .i64 y.f5, .slice B7 y.f6.length d7] 36 (0, 0)) := by
  rw [← hw0, ← hN]
  have h := World.alloc_heap_new (w.alloc (.cells #[.string x.f0.f0, .int .i64 x.f0.f1, .slice A2 x.f1.length c2, .string x.f2, .int .i64 x.f3, .string x.f4, .int .i64 x.f5, .slice A7 x.f6.length c7] 36)) (.cells #[.string y.f0.f0, .int .i64 y.f0.f1, .slice B2 y.f1.length d2, .string y.f2, .int .i64 y.f3, .string y.f4, .int .i64 y.f5, .slice B7 y.f6.length d7] 36)
  simpa using h
 have KX := Aside0.mk kx
 have KY := Aside0.mk ky
 have HB := Aside0.mk hb0
 clear kx ky hb0
 obtain ⟨n0, n1, n2, n3, n4, n5, n6, n7⟩ := cells8 KX.out
 obtain ⟨p0, p1, p2, p3, p4, p5, p6, p7⟩ := cells8 KY.out
 go_wp2_with fail
 refine (pannierref07_Same.calls (x.f1.length + 1) A2 c2 x.f1 B2 d2 y.f1 _ _ (Kd.C_below HG2.out HB.out) HL2.out (Kd.C_below HH2.out HB.out) HM2.out HS2.out).mono ?_
 rintro e w1 ⟨rfl, hd1⟩
 have KX1 := Aside0.mk (blk_below KX.out hd1.below)
 have KY1 := Aside0.mk (blk_below KY.out hd1.below)
 have HB1 := Aside0.mk (HB.out.trans (hd1.below.mono HB.out.size))
 clear n0 n1 n2 n3 n4 n5 n6 n7 p0 p1 p2 p3 p4 p5 p6 p7 hd1 KX KY HB hw0
 obtain ⟨n0, n1, n2, n3, n4, n5, n6, n7⟩ := cells8 KX1.out
 obtain ⟨p0, p1, p2, p3, p4, p5, p6, p7⟩ := cells8 KY1.out
 go_wp2_with fail
 refine (pannierref07_Same.calls (x.f6.length + 1) A7 c7 x.f6 B7 d7 y.f6 _ _ (Kd.C_below HG7.out HB1.out) HL7.out (Kd.C_below HH7.out HB1.out) HM7.out HS7.out).mono ?_
 rintro e w2 ⟨rfl, hd2⟩
 have KX2 := Aside0.mk (blk_below KX1.out hd2.below)
 have KY2 := Aside0.mk (blk_below KY1.out hd2.below)
 have HB2 := Aside0.mk (HB1.out.trans (hd2.below.mono HB1.out.size))
 clear n0 n1 n2 n3 n4 n5 n6 n7 p0 p1 p2 p3 p4 p5 p6 p7 hd2 KX1 KY1 HB1
 obtain ⟨n0, n1, n2, n3, n4, n5, n6, n7⟩ := cells8 KX2.out
 obtain ⟨p0, p1, p2, p3, p4, p5, p6, p7⟩ := cells8 KY2.out
 go_wp2
 all_goals
  go_ret
  refine ⟨?_, by first | exact HB2.out | (rw [← hN]; exact HB2.out)⟩
  congr 2
  simp only [Bool.eq_iff_iff, decide_eq_true_eq, eqO_iff]
  first | (simp_all; done) | (simp_all; rfl)
end Go.Proofs.Ytenbkljgmgdegaa.PO
end
section
namespace Go.Proofs.Ytenbkljgmgdegaa.PO
open Go.RowKit Go.Proofs.YtenbkljgmgdegaaW.PrintWords Go.Proofs.YtenbkljgmgdegaaW.PrintLast Go.Proofs.YtenbkljgmgdegaaW.PrintMore
attribute [local go_sem] max2_int min2_int max_two min_two max_three min_three max_four min_four   -- for this text's walks alone
set_option linter.unusedVariables false
set_option linter.unusedSimpArgs false
def slices_Equal_byte_byte.l0 : Nat → List Int → List Int → Int → Int → Option (Bool)
 | 0, _, _, _, _ => none
 | k + 1, x0, x1, x12, x13 => if x13 < x12 then (if 0 ≤ x13 then (if x13 < (x0.length : Int) then (if x13 < (x1.length : Int) then (if (rd x0 x13) = (rd x1 x13) then (slices_Equal_byte_byte.l0 k x0 x1 x12 (wrap64 (x13 + 1))) else (some false)) else (none)) else (none)) else (none)) else (some true)
def slices_Equal_byte_byte.f (k : Nat) (l0 : List Int) (l1 : List Int) : Option (Bool) := if (l0.length : Int) = (l1.length : Int) then (slices_Equal_byte_byte.l0 k l0 l1 (l0.length : Int) 0) else (some false)
theorem slices_Equal_byte_byte.mono_l : ∀ k, (∀ y0 y1 y2 y3, LeO (slices_Equal_byte_byte.l0 k y0 y1 y2 y3) (slices_Equal_byte_byte.l0 (k + 1) y0 y1 y2 y3))
 | 0 => fun _ _ _ _ r h => by simp [slices_Equal_byte_byte.l0] at h
 | k + 1 => by
   have ih0 := slices_Equal_byte_byte.mono_l k
   · intro y0 y1 y2 y3
     unfold slices_Equal_byte_byte.l0
     repeat' first
     | (with_reducible exact ih0 _ _ _ _)
     | (with_reducible exact LeO.refl _)
     | (with_reducible exact LeO.none _)
     | (with_reducible refine LeO.ite ?_ ?_)
     | (with_reducible refine LeO.bind ?_ (fun _ => ?_))
     | exact ih0 _ _ _ _
     | exact LeO.none _
     | refine LeO.ite ?_ ?_
     | refine LeO.bind ?_ (fun _ => ?_)
theorem slices_Equal_byte_byte.mono : ∀ a0 a1 k, LeO (slices_Equal_byte_byte.f k a0 a1) (slices_Equal_byte_byte.f (k + 1) a0 a1) := by
 intro a0 a1 k
 have ih0 := slices_Equal_byte_byte.mono_l k
 unfold slices_Equal_byte_byte.f
 repeat' first
  | (with_reducible exact ih0 _ _ _ _)
  | (with_reducible exact LeO.refl _)
  | (with_reducible exact LeO.none _)
  | (with_reducible refine LeO.ite ?_ ?_)
  | (with_reducible refine LeO.bind ?_ (fun _ => ?_))
  | exact ih0 _ _ _ _
  | exact LeO.none _
  | refine LeO.ite ?_ ?_
  | refine LeO.bind ?_ (fun _ => ?_)
set_option maxHeartbeats 8000000 in
set_option maxRecDepth 100000 in
theorem slices_Equal_byte_byte.calls (k : Nat) (A0 : Option Addr) (c0 : Nat) (l0 : List Int) (A1 : Option Addr) (c1 : Nat) (l1 : List Int) (r : Bool) (w : World) (hr0 : Kd.C (Kd.int .u8) w A0 l0.length l0) (hc0 : l0.length ≤ c0) (hr1 : Kd.C (Kd.int .u8) w A1 l1.length l1) (hc1 : l1.length ≤ c1) (h : slices_Equal_byte_byte.f k l0 l1 = some r) :
 Calls Try.prog 112 #[.slice A0 l0.length c0, .slice A1 l1.length c1] w fun e w' => e = .returned (.bool r) ∧ Drawn0 w w' := by
 have HR0 := Aside0.mk hr0
 have HC0 := Aside0.mk hc0
 clear hr0 hc0
 have HR1 := Aside0.mk hr1
 have HC1 := Aside0.mk hc1
 clear hr1 hc1
 have H : (if (l0.length : Int) = (l1.length : Int) then (slices_Equal_byte_byte.l0 k l0 l1 (l0.length : Int) 0) else (some false)) = some r := h
 clear h
 by_cases c3 : (l0.length : Int) = (l1.length : Int)
 · rw [if_pos c3] at H
   have c3b0 : ((l0.length : Int) == (l1.length : Int)) = true := beq_iff_eq.mpr c3
   have c3b1 : ((l0.length : Int) != (l1.length : Int)) = false := bne_eq_false_iff_eq.mpr c3
   have c3b2 : (l0.length == l1.length) = true := by first | simpa using c3 | (simp at c3 ⊢; omega)
   clear c3
   have H' := Aside0.mk H
   clear H
   go_enter Try.func112, Try.ntmps112
   go_wp2
   repeat (go_quiet (fail); try go_wp2)
   go_loopg [13] k (fun kq v13 w' => ∃ (x13_1 : Int), v13 = .int .i64 x13_1 ∧ Aside0 (slices_Equal_byte_byte.l0 kq l0 l1 (l0.length : Int) x13_1 = some r) ∧ Aside0 (kq ≤ k) ∧ Drawn0 w w')
   case atStart => exact ⟨(0), (by first | rfl | (simp; done) | (simp [*]; done)), H', ⟨Nat.le_refl _⟩, by repeat (first | exact Drawn0.refl _ | apply Drawn0.step)⟩
   case round =>
    clear H'
    try clear c1
    try clear p2
    try clear c3
    try clear c3b0
    try clear c3b1
    try clear c3b2
    obtain ⟨x13_1, rfl, HA, HK1, ⟨m1, rfl⟩⟩ := hrel
    cases gk with
    | zero => exact absurd HA.out (by simp [slices_Equal_byte_byte.l0])
    | succ k1 =>
     have H := HA.out
     clear HA
     simp only [slices_Equal_byte_byte.l0] at H
     by_cases c4 : x13_1 < (l0.length : Int)
     · rw [if_pos c4] at H
       have c4b0 : decide (x13_1 < (l0.length : Int)) = true := decide_eq_true c4
       clear c4
       by_cases c5 : 0 ≤ x13_1
       · rw [if_pos c5] at H
         have c5b0 : decide (0 ≤ x13_1) = true := decide_eq_true c5
         clear c5
         by_cases c6 : x13_1 < (l0.length : Int)
         · rw [if_pos c6] at H
           have c6b0 : decide (x13_1 < (l0.length : Int)) = true := decide_eq_true c6
           clear c6
           by_cases c7 : x13_1 < (l1.length : Int)
           · rw [if_pos c7] at H
             have c7b0 : decide (x13_1 < (l1.length : Int)) = true := decide_eq_true c7
             clear c7
             by_cases c8 : (rd l0 x13_1) = (rd l1 x13_1)
             · rw [if_pos c8] at H
               have c8b0 : ((rd l0 x13_1) == (rd l1 x13_1)) = true := beq_iff_eq.mpr c8
               have c8b1 : ((rd l0 x13_1) != (rd l1 x13_1)) = false := bne_eq_false_iff_eq.mpr c8
               clear c8
               have H' := Aside0.mk H
               clear H
               have p182 : 0 ≤ (x13_1 : Int) := of_decide_eq_true (by first | (with_reducible assumption) | assumption)
               have q182 : x13_1 < (l0.length : Int) := of_decide_eq_true (by first | (with_reducible assumption) | assumption)
               obtain ⟨ad182, e182, hx182_0⟩ := Kd.at_int HR0.out x13_1 p182 q182
               cases e182
               replace p182 := eq_true p182
               replace q182 := eq_true q182
               have p183 : 0 ≤ (x13_1 : Int) := of_decide_eq_true (by first | (with_reducible assumption) | assumption)
               have q183 : x13_1 < (l1.length : Int) := of_decide_eq_true (by first | (with_reducible assumption) | assumption)
               obtain ⟨ad183, e183, hx183_0⟩ := Kd.at_int HR1.out x13_1 p183 q183
               cases e183
               replace p183 := eq_true p183
               replace q183 := eq_true q183
               go_wp2
               repeat (go_quiet (fail); try go_wp2)
               go_roundg k1
               case measure => have := HK1.out; omega
               case rel => exact ⟨(wrap64 (x13_1 + 1)), (by first | rfl | (simp; done) | (simp [*]; done)), H', ⟨by have := HK1.out; omega⟩, by repeat (first | exact Drawn0.refl _ | apply Drawn0.step)⟩
             · rw [if_neg c8] at H
               have c8b0 : ((rd l0 x13_1) == (rd l1 x13_1)) = false := beq_eq_false_iff_ne.mpr c8
               have c8b1 : ((rd l0 x13_1) != (rd l1 x13_1)) = true := bne_iff_ne.mpr c8
               obtain rfl := Option.some.inj H
               have p182 : 0 ≤ (x13_1 : Int) := of_decide_eq_true (by first | (with_reducible assumption) | assumption)
               have q182 : x13_1 < (l0.length : Int) := of_decide_eq_true (by first | (with_reducible assumption) | assumption)
               obtain ⟨ad182, e182, hx182_0⟩ := Kd.at_int HR0.out x13_1 p182 q182
               cases e182
               replace p182 := eq_true p182
               replace q182 := eq_true q182
               have p183 : 0 ≤ (x13_1 : Int) := of_decide_eq_true (by first | (with_reducible assumption) | assumption)
               have q183 : x13_1 < (l1.length : Int) := of_decide_eq_true (by first | (with_reducible assumption) | assumption)
               obtain ⟨ad183, e183, hx183_0⟩ := Kd.at_int HR1.out x13_1 p183 q183
               cases e183
               replace p183 := eq_true p183
               replace q183 := eq_true q183
               go_wp2
               repeat (go_quiet (fail); try go_wp2)
               go_ret
               exact ⟨by first | rfl | (simp; done) | (simp [*]; done), by repeat (first | exact Drawn0.refl _ | apply Drawn0.step)⟩
           · rw [if_neg c7] at H
             exact absurd H (by simp)
         · rw [if_neg c6] at H
           exact absurd H (by simp)
       · rw [if_neg c5] at H
         exact absurd H (by simp)
     · rw [if_neg c4] at H
       have c4b0 : decide (x13_1 < (l0.length : Int)) = false := decide_eq_false c4
       clear c4
       obtain rfl := Option.some.inj H
       go_wp2
       repeat (go_quiet (fail); try go_wp2)
       go_ret
       exact ⟨by first | rfl | (simp; done) | (simp [*]; done), by repeat (first | exact Drawn0.refl _ | apply Drawn0.step)⟩
 · rw [if_neg c3] at H
   have c3b0 : ((l0.length : Int) == (l1.length : Int)) = false := beq_eq_false_iff_ne.mpr c3
   have c3b1 : ((l0.length : Int) != (l1.length : Int)) = true := bne_iff_ne.mpr c3
   have c3b2 : (l0.length == l1.length) = false := by first | simpa using c3 | (simp at c3 ⊢; omega)
   obtain rfl := Option.some.inj H
   go_enter Try.func112, Try.ntmps112
   go_wp2
   repeat (go_quiet (fail); try go_wp2)
   go_ret
   exact ⟨by first | rfl | (simp; done) | (simp [*]; done), by repeat (first | exact Drawn0.refl _ | apply Drawn0.step)⟩
mutual
def wire_add.l0 : Nat → Int → List (List Int) → Int → Int → Option (Int)
 | 0, _, _, _, _ => none
 | k + 1, x0, x10, x11, x12 => if x12 < x11 then (if 0 ≤ x12 then (if x12 < (x10.length : Int) then (wire_add.l1 k x0 x10 x11 x12 (rd_L7 x10 x12) ((rd_L7 x10 x12).length : Int) 0) else (none)) else (none)) else (some x0)
def wire_add.l1 : Nat → Int → List (List Int) → Int → Int → List Int → Int → Int → Option (Int)
 | 0, _, _, _, _, _, _, _ => none
 | k + 1, x0, x10, x11, x12, x16, x17, x18 => if x18 < x17 then (if 0 ≤ x18 then (if x18 < (x16.length : Int) then (wire_add.l2 k (Go.bits .xor .u32 x0 ((rd x16 x18) % 4294967296)) 8 x10 x11 x12 x16 x17 x18) else (none)) else (none)) else (wire_add.l0 k x0 x10 x11 (wrap64 (x12 + 1)))
def wire_add.l2 : Nat → Int → Int → List (List Int) → Int → Int → List Int → Int → Int → Option (Int)
 | 0, _, _, _, _, _, _, _, _ => none
 | k + 1, x0, x9, x10, x11, x12, x16, x17, x18 => if x9 > 0 then (if (Go.bits .and .u32 x0 1) = 0 then (wire_add.l2 k (x0 / 2) (wrap64 (x9 - 1)) x10 x11 x12 x16 x17 x18) else (wire_add.l2 k (Go.bits .xor .u32 (x0 / 2) 3988292384) (wrap64 (x9 - 1)) x10 x11 x12 x16 x17 x18)) else (wire_add.l1 k x0 x10 x11 x12 x16 x17 (wrap64 (x18 + 1)))
end
def wire_add.f (k : Nat) (a0 : Int) (l1 : List (List Int)) : Option (Int) := wire_add.l0 k a0 l1 (l1.length : Int) 0
theorem wire_add.mono_l : ∀ k, (∀ y0 y1 y2 y3, LeO (wire_add.l0 k y0 y1 y2 y3) (wire_add.l0 (k + 1) y0 y1 y2 y3)) ∧ (∀ y0 y1 y2 y3 y4 y5 y6, LeO (wire_add.l1 k y0 y1 y2 y3 y4 y5 y6) (wire_add.l1 (k + 1) y0 y1 y2 y3 y4 y5 y6)) ∧ (∀ y0 y1 y2 y3 y4 y5 y6 y7, LeO (wire_add.l2 k y0 y1 y2 y3 y4 y5 y6 y7) (wire_add.l2 (k + 1) y0 y1 y2 y3 y4 y5 y6 y7))
 | 0 => ⟨fun _ _ _ _ r h => by simp [wire_add.l0] at h, fun _ _ _ _ _ _ _ r h => by simp [wire_add.l1] at h, fun _ _ _ _ _ _ _ _ r h => by simp [wire_add.l2] at h⟩
 | k + 1 => by
   obtain ⟨ih0, ih1, ih2⟩ := wire_add.mono_l k
   refine ⟨?_, ?_, ?_⟩
   · intro y0 y1 y2 y3
     unfold wire_add.l0
     repeat' first
     | (with_reducible exact ih0 _ _ _ _)
     | (with_reducible exact ih1 _ _ _ _ _ _ _)
     | (with_reducible exact ih2 _ _ _ _ _ _ _ _)
     | (with_reducible exact LeO.refl _)
     | (with_reducible exact LeO.none _)
     | (with_reducible refine LeO.ite ?_ ?_)
     | (with_reducible refine LeO.bind ?_ (fun _ => ?_))
     | exact ih0 _ _ _ _
     | exact ih1 _ _ _ _ _ _ _
     | exact ih2 _ _ _ _ _ _ _ _
     | exact LeO.none _
     | refine LeO.ite ?_ ?_
     | refine LeO.bind ?_ (fun _ => ?_)
   · intro y0 y1 y2 y3 y4 y5 y6
     unfold wire_add.l1
     repeat' first
     | (with_reducible exact ih0 _ _ _ _)
     | (with_reducible exact ih1 _ _ _ _ _ _ _)
     | (with_reducible exact ih2 _ _ _ _ _ _ _ _)
     | (with_reducible exact LeO.refl _)
     | (with_reducible exact LeO.none _)
     | (with_reducible refine LeO.ite ?_ ?_)
     | (with_reducible refine LeO.bind ?_ (fun _ => ?_))
     | exact ih0 _ _ _ _
     | exact ih1 _ _ _ _ _ _ _
     | exact ih2 _ _ _ _ _ _ _ _
     | exact LeO.none _
     | refine LeO.ite ?_ ?_
     | refine LeO.bind ?_ (fun _ => ?_)
   · intro y0 y1 y2 y3 y4 y5 y6 y7
     unfold wire_add.l2
     repeat' first
     | (with_reducible exact ih0 _ _ _ _)
     | (with_reducible exact ih1 _ _ _ _ _ _ _)
     | (with_reducible exact ih2 _ _ _ _ _ _ _ _)
     | (with_reducible exact LeO.refl _)
     | (with_reducible exact LeO.none _)
     | (with_reducible refine LeO.ite ?_ ?_)
     | (with_reducible refine LeO.bind ?_ (fun _ => ?_))
     | exact ih0 _ _ _ _
     | exact ih1 _ _ _ _ _ _ _
     | exact ih2 _ _ _ _ _ _ _ _
     | exact LeO.none _
     | refine LeO.ite ?_ ?_
     | refine LeO.bind ?_ (fun _ => ?_)
theorem wire_add.mono : ∀ a0 a1 k, LeO (wire_add.f k a0 a1) (wire_add.f (k + 1) a0 a1) := by
 intro a0 a1 k
 obtain ⟨ih0, ih1, ih2⟩ := wire_add.mono_l k
 unfold wire_add.f
 repeat' first
  | (with_reducible exact ih0 _ _ _ _)
  | (with_reducible exact ih1 _ _ _ _ _ _ _)
  | (with_reducible exact ih2 _ _ _ _ _ _ _ _)
  | (with_reducible exact LeO.refl _)
  | (with_reducible exact LeO.none _)
  | (with_reducible refine LeO.ite ?_ ?_)
  | (with_reducible refine LeO.bind ?_ (fun _ => ?_))
  | exact ih0 _ _ _ _
  | exact ih1 _ _ _ _ _ _ _
  | exact ih2 _ _ _ _ _ _ _ _
  | exact LeO.none _
  | refine LeO.ite ?_ ?_
  | refine LeO.bind ?_ (fun _ => ?_)
set_option maxHeartbeats 8000000 in
set_option maxRecDepth 100000 in
theorem wire_add.calls (k : Nat) (a0 : Int) (A1 : Option Addr) (c1 : Nat) (l1 : List (List Int)) (r : Int) (w : World) (hr1 : Kd.C (Kd.slice 5 (Kd.int .u8)) w A1 l1.length l1) (hc1 : l1.length ≤ c1) (h : wire_add.f k a0 l1 = some r) :
 Calls Try.prog 132 #[.int .u32 a0, .slice A1 l1.length c1] w fun e w' => e = .returned (.int .u32 r) ∧ Drawn0 w w' := by
 have HR1 := Aside0.mk hr1
 have HC1 := Aside0.mk hc1
 clear hr1 hc1
 have H : (wire_add.l0 k a0 l1 (l1.length : Int) 0) = some r := h
 clear h
 have H' := Aside0.mk H
 clear H
 go_enter Try.func132, Try.ntmps132
 go_wp2
 repeat (go_step3; go_wp2)
 repeat (rw [Exit.noGoto_normal]; go_wp2)
 go_loopg [0, 12] k (fun kq v0 v12 w' => ∃ (x0_1 : Int) (x12_1 : Int), v0 = .int .u32 x0_1 ∧ v12 = .int .i64 x12_1 ∧ Aside0 (wire_add.l0 kq x0_1 l1 (l1.length : Int) x12_1 = some r) ∧ Aside0 (kq ≤ k) ∧ Drawn0 w w')
 case atStart => exact ⟨(a0), (0), (by first | rfl | (simp; done) | (simp [*]; done)), (by first | rfl | (simp; done) | (simp [*]; done)), H', ⟨Nat.le_refl _⟩, by repeat (first | exact Drawn0.refl _ | apply Drawn0.step)⟩
 case round =>
  clear H'
  try clear c1
  try clear p2
  obtain ⟨x0_1, x12_1, rfl, rfl, HA, HK1, ⟨m1, rfl⟩⟩ := hrel
  cases gk with
  | zero => exact absurd HA.out (by simp [wire_add.l0])
  | succ k1 =>
   have H := HA.out
   clear HA
   simp only [wire_add.l0] at H
   by_cases c3 : x12_1 < (l1.length : Int)
   · rw [if_pos c3] at H
     have c3b0 : decide (x12_1 < (l1.length : Int)) = true := decide_eq_true c3
     clear c3
     by_cases c4 : 0 ≤ x12_1
     · rw [if_pos c4] at H
       have c4b0 : decide (0 ≤ x12_1) = true := decide_eq_true c4
       clear c4
       by_cases c5 : x12_1 < (l1.length : Int)
       · rw [if_pos c5] at H
         have c5b0 : decide (x12_1 < (l1.length : Int)) = true := decide_eq_true c5
         clear c5
         have H' := Aside0.mk H
         clear H
         have p184 : 0 ≤ (x12_1 : Int) := of_decide_eq_true (by first | (with_reducible assumption) | assumption)
         have q184 : x12_1 < (l1.length : Int) := of_decide_eq_true (by first | (with_reducible assumption) | assumption)
         obtain ⟨ad184, A184_0, c184_0, e184, hx184_0, hl184_0, hi184_0⟩ := at_L7 HR1.out x12_1 p184 q184
         cases e184
         have HR184_0 := Aside0.mk hi184_0
         have HC184_0 := Aside0.mk hl184_0
         clear hi184_0 hl184_0
         replace p184 := eq_true p184
         replace q184 := eq_true q184
         go_wp2
         repeat (go_step3; go_wp2)
         repeat (rw [Exit.noGoto_normal]; go_wp2)
         go_loopg [0, 18] k1 (fun kq v0 v18 w' => ∃ (x0_2 : Int) (x18_2 : Int), v0 = .int .u32 x0_2 ∧ v18 = .int .i64 x18_2 ∧ Aside0 (wire_add.l1 kq x0_2 l1 (l1.length : Int) x12_1 (rd_L7 l1 x12_1) ((rd_L7 l1 x12_1).length : Int) x18_2 = some r) ∧ Aside0 (kq ≤ k1) ∧ Drawn0 w w')
         case atStart => exact ⟨(x0_1), (0), (by first | rfl | (simp; done) | (simp [*]; done)), (by first | rfl | (simp; done) | (simp [*]; done)), H', ⟨Nat.le_refl _⟩, by repeat (first | exact Drawn0.refl _ | apply Drawn0.step)⟩
         case round =>
          clear H'
          try clear c1
          try clear p1
          try clear q1
          try clear hx1
          try clear p2
          try clear c3
          try clear c3b0
          try clear c4
          try clear c4b0
          try clear c5
          try clear c5b0
          try clear hx184_0
          try clear p184
          try clear p2
          try clear q184
          obtain ⟨x0_2, x18_2, rfl, rfl, HA, HK2, ⟨m2, rfl⟩⟩ := hrel
          cases gk with
          | zero => exact absurd HA.out (by simp [wire_add.l1])
          | succ k2 =>
           have H := HA.out
           clear HA
           simp only [wire_add.l1] at H
           by_cases c6 : x18_2 < ((rd_L7 l1 x12_1).length : Int)
           · rw [if_pos c6] at H
             have c6b0 : decide (x18_2 < ((rd_L7 l1 x12_1).length : Int)) = true := decide_eq_true c6
             clear c6
             by_cases c7 : 0 ≤ x18_2
             · rw [if_pos c7] at H
               have c7b0 : decide (0 ≤ x18_2) = true := decide_eq_true c7
               clear c7
               by_cases c8 : x18_2 < ((rd_L7 l1 x12_1).length : Int)
               · rw [if_pos c8] at H
                 have c8b0 : decide (x18_2 < ((rd_L7 l1 x12_1).length : Int)) = true := decide_eq_true c8
                 clear c8
                 have H' := Aside0.mk H
                 clear H
                 have p185 : 0 ≤ (x18_2 : Int) := of_decide_eq_true (by first | (with_reducible assumption) | assumption)
                 have q185 : x18_2 < ((rd_L7 l1 x12_1).length : Int) := of_decide_eq_true (by first | (with_reducible assumption) | assumption)
                 obtain ⟨ad185, e185, hx185_0⟩ := Kd.at_int HR184_0.out x18_2 p185 q185
                 cases e185
                 replace p185 := eq_true p185
                 replace q185 := eq_true q185
                 go_wp2
                 repeat (go_step3; go_wp2)
                 repeat (rw [Exit.noGoto_normal]; go_wp2)
                 go_loopg [0, 9] k2 (fun kq v0 v9 w' => ∃ (x0_3 : Int) (x9_3 : Int), v0 = .int .u32 x0_3 ∧ v9 = .int .i64 x9_3 ∧ Aside0 (wire_add.l2 kq x0_3 x9_3 l1 (l1.length : Int) x12_1 (rd_L7 l1 x12_1) ((rd_L7 l1 x12_1).length : Int) x18_2 = some r) ∧ Aside0 (kq ≤ k2) ∧ Drawn0 w w')
                 case atStart => exact ⟨(Go.bits .xor .u32 x0_2 ((rd (rd_L7 l1 x12_1) x18_2) % 4294967296)), (8), (by first | rfl | (simp; done) | (simp [*]; done)), (by first | rfl | (simp; done) | (simp [*]; done)), H', ⟨Nat.le_refl _⟩, by repeat (first | exact Drawn0.refl _ | apply Drawn0.step)⟩
                 case round =>
                  clear H'
                  try clear c1
                  try clear p1
                  try clear q1
                  try clear hx1
                  try clear p2
                  try clear c3
                  try clear c3b0
                  try clear c4
                  try clear c4b0
                  try clear c5
                  try clear c5b0
                  try clear c6
                  try clear c6b0
                  try clear c7
                  try clear c7b0
                  try clear c8
                  try clear c8b0
                  try clear hx184_0
                  try clear hx185_0
                  try clear p1
                  try clear p184
                  try clear p185
                  try clear p2
                  try clear q1
                  try clear q184
                  try clear q185
                  obtain ⟨x0_3, x9_3, rfl, rfl, HA, HK3, ⟨m3, rfl⟩⟩ := hrel
                  cases gk with
                  | zero => exact absurd HA.out (by simp [wire_add.l2])
                  | succ k3 =>
                   have H := HA.out
                   clear HA
                   simp only [wire_add.l2] at H
                   by_cases c9 : x9_3 > 0
                   rw [if_pos c9] at H
                   have c9b0 : decide (0 < x9_3) = true := decide_eq_true c9
                   clear c9
                   by_cases c10 : (Go.bits .and .u32 x0_3 1) = 0
                   rw [if_pos c10] at H
                   have c10b0 : ((Go.bits .and .u32 x0_3 1) == 0) = true := beq_iff_eq.mpr c10
                   have c10b1 : ((Go.bits .and .u32 x0_3 1) != 0) = false := bne_eq_false_iff_eq.mpr c10
                   clear c10
                   rotate_left
                   rw [if_neg c10] at H
                   have c10b0 : ((Go.bits .and .u32 x0_3 1) == 0) = false := beq_eq_false_iff_ne.mpr c10
                   have c10b1 : ((Go.bits .and .u32 x0_3 1) != 0) = true := bne_iff_ne.mpr c10
                   rotate_left
                   rw [if_neg c9] at H
                   have c9b0 : decide (0 < x9_3) = false := decide_eq_false c9
                   clear c9
                   rotate_left
                   all_goals (
                    have H' := Aside0.mk H
                    clear H
                    go_wp2
                    repeat (go_step3; go_wp2)
                    repeat (rw [Exit.noGoto_normal]; go_wp2)
                    go_roundg k3
                    case measure => have := HK1.out; have := HK2.out; have := HK3.out; omega
                    case rel => exact ⟨_, _, (by first | rfl | (simp; done) | (simp [*]; done)), (by first | rfl | (simp; done) | (simp [*]; done)), H', ⟨by have := HK1.out; have := HK2.out; have := HK3.out; omega⟩, by repeat (first | exact Drawn0.refl _ | apply Drawn0.step)⟩
                    )
               · rw [if_neg c8] at H
                 exact absurd H (by simp)
             · rw [if_neg c7] at H
               exact absurd H (by simp)
           · rw [if_neg c6] at H
             have c6b0 : decide (x18_2 < ((rd_L7 l1 x12_1).length : Int)) = false := decide_eq_false c6
             clear c6
             have H' := Aside0.mk H
             clear H
             go_wp2
             repeat (go_step3; go_wp2)
             repeat (rw [Exit.noGoto_normal]; go_wp2)
             go_roundg k2
             case measure => have := HK1.out; have := HK2.out; omega
             case rel => exact ⟨(x0_2), (wrap64 (x12_1 + 1)), (by first | rfl | (simp; done) | (simp [*]; done)), (by first | rfl | (simp; done) | (simp [*]; done)), H', ⟨by have := HK1.out; have := HK2.out; omega⟩, by repeat (first | exact Drawn0.refl _ | apply Drawn0.step)⟩
       · rw [if_neg c5] at H
         exact absurd H (by simp)
     · rw [if_neg c4] at H
       exact absurd H (by simp)
   · rw [if_neg c3] at H
     have c3b0 : decide (x12_1 < (l1.length : Int)) = false := decide_eq_false c3
     clear c3
     obtain rfl := Option.some.inj H
     go_wp2
     repeat (go_step3; go_wp2)
     repeat (rw [Exit.noGoto_normal]; go_wp2)
     (try rw [Exit.noGoto_ret])
     go_ret
     exact ⟨by first | rfl | (simp; done) | (simp [*]; done), by repeat (first | exact Drawn0.refl _ | apply Drawn0.step)⟩
def wire_seal.f (k : Nat) (l0 : List (List Int)) : Option (List Int) := (wire_add.f k 4294967295 l0).bind fun t186 => (some (([(Go.bits .xor .u32 4294967295 t186) % 256, ((Go.bits .xor .u32 4294967295 t186) / 256) % 256, ((Go.bits .xor .u32 4294967295 t186) / 65536) % 256, ((Go.bits .xor .u32 4294967295 t186) / 16777216) % 256] : List Int)))
theorem wire_seal.mono : ∀ a0 k, LeO (wire_seal.f k a0) (wire_seal.f (k + 1) a0) := by
 intro a0 k
 unfold wire_seal.f
 repeat' first
  | (with_reducible exact wire_add.mono _ _ _)
  | (with_reducible exact LeO.refl _)
  | (with_reducible exact LeO.none _)
  | (with_reducible refine LeO.ite ?_ ?_)
  | (with_reducible refine LeO.bind ?_ (fun _ => ?_))
  | exact wire_add.mono _ _ _
  | exact LeO.none _
  | refine LeO.ite ?_ ?_
  | refine LeO.bind ?_ (fun _ => ?_)
set_option maxHeartbeats 8000000 in
set_option maxRecDepth 100000 in
theorem wire_seal.calls (k : Nat) (A0 : Option Addr) (c0 : Nat) (l0 : List (List Int)) (r : List Int) (w : World) (hr0 : Kd.C (Kd.slice 5 (Kd.int .u8)) w A0 l0.length l0) (hc0 : l0.length ≤ c0) (h : wire_seal.f k l0 = some r) :
 Calls Try.prog 113 #[.slice A0 l0.length c0] w fun e w' => ∃ v0_ : Value, e = .returned (v0_) ∧ Kd.R (Kd.int .u8) 5 w' w.heap.size (fun _ => True) v0_ r ∧ Below w.heap.size w w' := by
 have HR0 := Aside0.mk hr0
 have HC0 := Aside0.mk hc0
 clear hr0 hc0
 have HB := Aside0.mk (Below.refl w.heap.size w)
 have H : ((wire_add.f k 4294967295 l0).bind fun t186 => (some (([(Go.bits .xor .u32 4294967295 t186) % 256, ((Go.bits .xor .u32 4294967295 t186) / 256) % 256, ((Go.bits .xor .u32 4294967295 t186) / 65536) % 256, ((Go.bits .xor .u32 4294967295 t186) / 16777216) % 256] : List Int)))) = some r := h
 clear h
 replace H := Option.bind_eq_some_iff.mp H
 obtain ⟨t186, A20, H⟩ := H
 replace H : (some (([(Go.bits .xor .u32 4294967295 t186) % 256, ((Go.bits .xor .u32 4294967295 t186) / 256) % 256, ((Go.bits .xor .u32 4294967295 t186) / 65536) % 256, ((Go.bits .xor .u32 4294967295 t186) / 16777216) % 256] : List Int))) = some r := H
 have A2 := Aside0.mk A20
 clear A20
 obtain ⟨y187, hy187⟩ : ∃ y_ : List Int, y_ = (([(Go.bits .xor .u32 4294967295 t186) % 256, ((Go.bits .xor .u32 4294967295 t186) / 256) % 256, ((Go.bits .xor .u32 4294967295 t186) / 65536) % 256, ((Go.bits .xor .u32 4294967295 t186) / 16777216) % 256] : List Int)) := ⟨_, rfl⟩
 replace H : (some y187) = some r := by first | (rw [hy187]; with_reducible exact H) | (have H2_ := (Option.bind_some _ _).symm.trans H; rw [hy187]; with_reducible exact H2_) | (have H2_ := (Option.bind_some _ _).symm.trans H; with_reducible exact H2_) | with_reducible exact H | (rw [hy187]; exact H) | exact H
 have Ny187 := Aside0.mk hy187
 clear hy187
 obtain rfl := Option.some.inj H
 go_enter Try.func113, Try.ntmps113
 go_wp2_with (first | ((with_reducible refine gate_callee (f := 132) rfl ?_); refine goesL_ (some 5) rfl rfl Try.func132 (by kernel_rfl) rfl #[.int .u32 4294967295, .slice A0 l0.length c0] rfl (by (try simp only [List.map_toArray, List.map_cons, List.map_nil]); first | done | rfl | (simp only [List.length_drop, List.length_take]; rfl)) ?_; (with_reducible refine (wire_add.calls k 4294967295 _ _ l0 t186 _ ?side1 ?side2 A2.out).mono ?_); (case side1 => repeat (first | exact HR0.out | (with_reducible refine Kd.C_alloc ?_ _) | (with_reducible refine Kd.C_drewN ?_ _) | (with_reducible refine Kd.C_drew ?_))); (case side2 => exact HC0.out); rintro e w' ⟨rfl, ⟨nd, rfl⟩⟩; refine ⟨_, rfl, ?_⟩) | ((with_reducible refine gate_dst (N := 18) rfl ?_); refine Kd.R_lit (Kd.int .u8) _ 5 ?hg (N := 18) ?hd (xs := ([(Go.bits .xor .u32 4294967295 t186) % 256, ((Go.bits .xor .u32 4294967295 t186) / 256) % 256, ((Go.bits .xor .u32 4294967295 t186) / 65536) % 256, ((Go.bits .xor .u32 4294967295 t186) / 16777216) % 256] : List Int)) (inner := [.int .u8 ((Go.bits .xor .u32 4294967295 t186) % 256), .int .u8 (((Go.bits .xor .u32 4294967295 t186) / 256) % 256), .int .u8 (((Go.bits .xor .u32 4294967295 t186) / 65536) % 256), .int .u8 (((Go.bits .xor .u32 4294967295 t186) / 16777216) % 256)]) (ok := fun _ => True) (okp := fun _ => True) ?hr ?hp (fun _ hk => hk) trivial (Below.refl _ _) (Nat.le_refl _) (by simp) ?_; (case hd => rfl); (case hg => rfl); (case hr => first | (go_simp; done) | (go_simp; rfl)); (case hp => exact (Reps.one (show Kd.M (Kd.int .u8) _ _ _ ((Go.bits .xor .u32 4294967295 t186) % 256) [.int .u8 ((Go.bits .xor .u32 4294967295 t186) % 256)] from rfl) (Reps.one (show Kd.M (Kd.int .u8) _ _ _ (((Go.bits .xor .u32 4294967295 t186) / 256) % 256) [.int .u8 (((Go.bits .xor .u32 4294967295 t186) / 256) % 256)] from rfl) (Reps.one (show Kd.M (Kd.int .u8) _ _ _ (((Go.bits .xor .u32 4294967295 t186) / 65536) % 256) [.int .u8 (((Go.bits .xor .u32 4294967295 t186) / 65536) % 256)] from rfl) (Reps.one (show Kd.M (Kd.int .u8) _ _ _ (((Go.bits .xor .u32 4294967295 t186) / 16777216) % 256) [.int .u8 (((Go.bits .xor .u32 4294967295 t186) / 16777216) % 256)] from rfl) (Reps.none _ _)))))); intro v188 w3 ho4 hb hg_ hnew_; clear hg_ hnew_; (first | rw [← Ny187.out] at ho4 | (simp only [Int.reduceToNat] at ho4; rw [← Ny187.out] at ho4)); have n0_ := Aside0.mk (Kd.R_lower ho4 (below_size (by repeat (first | (with_reducible first | exact HB.out | apply below_alloc | apply pw_below_drewN | apply below_drew1) | exact HB.out)))); have n1_ := Aside0.mk (below_step (by repeat (first | (with_reducible first | exact HB.out | apply below_alloc | apply pw_below_drewN | apply below_drew1) | exact HB.out)) hb); clear HB; have HO189 := n0_; have HB := n1_; clear n0_ n1_; clear hb ho4))
 go_ret
 exact ⟨_, by first | rfl | (simp [errW_none, errW_some] <;> rfl) | (simp [*, errW_none, errW_some] <;> rfl), by (with_reducible repeat (first | apply Kd.R_alloc | apply Kd.R_drewN | apply Kd.R_drew)); exact HO189.out, by repeat (first | (with_reducible first | exact HB.out | apply below_alloc | apply pw_below_drewN | apply below_drew1) | exact HB.out)⟩
end Go.Proofs.Ytenbkljgmgdegaa.PO
end
section
namespace Go.Proofs.Ytenbkljgmgdegaa.PO
open Go.RowKit Go.Proofs.YtenbkljgmgdegaaW.PrintWords Go.Proofs.YtenbkljgmgdegaaW.PrintLast Go.Proofs.YtenbkljgmgdegaaW.PrintMore Go.Proofs.Ytenbkljgmgdegaa.XW
open Go.Proofs.Ytenbkljgmgdegaa.XRange
set_option linter.unusedVariables false
set_option linter.unusedSimpArgs false
theorem grow_run (w : World) (n : Nat) (h0 : 0 < n) (hn : n ≤ 140737488355328) (ty : TypeId) : (Builtin.append_ #[63, 3] ty #[.slice none 0 0, .int .i64 n]).run Try.prog w =
 .ok (.slice (some ⟨w.heap.size, 0, none⟩) n (grownCap w n 0 5)) (w.drew.alloc (.cells (Builtin.zeroCells #[.int .u8 0] n ++ Builtin.zeroCells #[.int .u8 0] (grownCap w n 0 5 - n)) 5)) := by
 obtain ⟨i0, hi0, hiz⟩ := Option.map_eq_some_iff.1 info5
 simp only [Prod.mk.injEq] at hiz
 obtain ⟨hz, hs, hb⟩ := hiz
 have h := Lib.run_append_grow_zeros (P := Try.prog) w 63 3 ty 5 i0 _ .i64 .i64 Try.underlying63 Try.underlying3 hi0 hz none 0 0 [] (by rw [hs]; rfl) n h0 (by omega) (by omega) (by omega) (by rw [hb]; omega) (by rw [hb, Nat.zero_add]; exact growslice_fits (by omega) (by omega))
 simpa [Value.cells] using h
theorem R_empty (w : World) (base g cap : Nat) (cur : Array Value) (hg : w.heap[g]? = some (.cells cur 5 (0, 0))) (hb : base ≤ g) (hc : cap ≤ maxLen) (hs : cur.size = cap) : Kd.R (Kd.int .u8) 5 w base (fun _ => True) (.slice (some ⟨g, 0, none⟩) 0 cap) [] :=
 ⟨fun _ _ => trivial, [], ⟨rfl, .inr ⟨g, cap, cur, rfl, hb, hg, Nat.zero_le _, hc, by rw [hs]; show cap = cap * 1; omega, by simp⟩⟩, ⟨rfl, fun j p hj => by simp at hj⟩⟩
set_option maxHeartbeats 8000000 in
set_option maxRecDepth 100000 in
theorem grow_calls (n : Nat) (h0 : 0 < n) (hn : n ≤ 140737488355328) (w : World) :
 Calls Try.prog 135 #[.slice none 0 0, .int .i64 n] w fun e w' => ∃ v, e = .returned v ∧ Kd.R (Kd.int .u8) 5 w' w.heap.size (fun _ => True) v [] ∧ Below w.heap.size w w' := by
 have q0 : decide ((n : Int) < 0) = false := by simp
 have q1 : decide ((0 : Int) < (n : Int)) = true := by simp; omega
 have hw : wrap64 (n : Int) = (n : Int) := by unfold wrap64; omega
 have hr := grow_run w n h0 hn
 obtain ⟨W1, hW1⟩ : ∃ W1, w.drew.alloc (.cells (Builtin.zeroCells #[.int .u8 0] n ++ Builtin.zeroCells #[.int .u8 0] (grownCap w n 0 5 - n)) 5) = W1 := ⟨_, rfl⟩
 obtain ⟨C, hC⟩ : ∃ C, grownCap w n 0 5 = C := ⟨_, rfl⟩
 have hCn : n ≤ C := by rw [← hC]; exact grownCap_ge w _ _ _
 have hCm : C ≤ maxLen := by rw [← hC]; exact grownCap_le_maxLen w n 0 5 (by unfold maxLen; omega)
 have hN1 : W1.heap[w.heap.size]? = some (.cells (Builtin.zeroCells #[.int .u8 0] n ++ Builtin.zeroCells #[.int .u8 0] (C - n)) 5 (0, 0)) := by rw [← hW1, ← hC]; exact World.alloc_heap_new w.drew _
 have HB := Aside0.mk (show Below w.heap.size w W1 from by rw [← hW1]; exact ((below_drew1 (Below.refl _ w))).alloc (Nat.le_refl _) _)
 have HR := Aside0.mk (R_empty W1 w.heap.size w.heap.size C _ hN1 (Nat.le_refl _) hCm (by simp [Builtin.zeroCells]; omega))
 have hr' : ∀ ty, (Builtin.append_ #[63, 3] ty #[.slice none 0 0, .int .i64 n]).run Try.prog w = .ok (.slice (some ⟨w.heap.size, 0, none⟩) n C) W1 := fun ty => by rw [hr, hW1, hC]
 clear hr hW1 hC hN1
 go_enter Try.func135, Try.ntmps135
 go_wp2_with (at_builtin; refine Lib.wpList_append_run _ rfl _ _ _ _ rfl _ _ rfl rfl _ _ (hr' _) ?_)
 go_ret
 exact ⟨_, rfl, HR.out, HB.out⟩
def catL (l : List (List Int)) : List Int := l.flatten
theorem cat_drop (l : List (List Int)) (i : Nat) (h : i < l.length) : l.drop i = rd_L7 l (i : Int) :: l.drop (i + 1) := by
 rw [List.drop_eq_getElem_cons h, rd_L7]
 congr 1
 simp [List.getD, h]
set_option maxHeartbeats 8000000 in
set_option maxRecDepth 100000 in
theorem concat_calls (l : List (List Int)) (A : Option Addr) (c : Nat) (w : World) (hC : Kd.C (Kd.slice 5 (Kd.int .u8)) w A l.length l) (h0 : 0 < (catL l).length) (hn : (catL l).length ≤ 140737488355328) :
 Calls Try.prog 120 #[.slice A l.length c] w fun e w' => ∃ v, e = .returned v ∧ Kd.R (Kd.int .u8) 5 w' w.heap.size (fun _ => True) v (catL l) ∧ Below w.heap.size w w' := by
 have HC := Aside0.mk hC
 have H0 := Aside0.mk h0
 have HN := Aside0.mk hn
 have hm : l.length ≤ 9223372036854775807 := hC.2.1
 clear hC h0 hn
 go_enter Try.func120, Try.ntmps120
 go_wp2
 go_loopw [3, 5, 11] (fun v3 v5 v11 wr => ∃ (i s : Nat), v3 = .int .i64 s ∧ v11 = .int .i64 i ∧ i ≤ l.length ∧ Aside0 (s + (catL (l.drop i)).length = (catL l).length) ∧ Aside0 (Below w.heap.size w wr)) (fun _ _ v11 _ => l.length - (intOf v11).toNat)
 case atStart => exact ⟨0, 0, rfl, rfl, by omega, ⟨by simp⟩, ⟨Below.refl _ _⟩⟩
 case round =>
  obtain ⟨i, s, rfl, rfl, hi, HS, HB⟩ := hrel
  by_cases hlt : i < l.length
  · obtain ⟨ad, A0, c0, rfl, hx, hc0, hC0⟩ := at_L7 (Kd.C_below HC.out HB.out) (i : Int) (by omega) (by omega)
    simp only [Int.toNat_natCast] at hx
    obtain ⟨x, hxe⟩ : ∃ x, rd_L7 l (i : Int) = x := ⟨_, rfl⟩
    rw [hxe] at hx hc0 hC0
    have HD := Aside0.mk (show l.drop i = x :: l.drop (i + 1) from by rw [← hxe]; exact cat_drop l i hlt)
    have hb3 : 0 ≤ (i : Int) ∧ (i : Int) < (l.length : Int) := by omega
    have q1 : decide ((i : Int) < (l.length : Int)) = true := by simp; omega
    have hs2 : s + x.length ≤ 140737488355328 := by
     have h1 := HS.out
     have h2 := HN.out
     rw [HD.out] at h1
     unfold catL at h1
     rw [List.flatten_cons, List.length_append] at h1
     unfold catL at h2
     omega
    have hw : wrap64 ((s : Int) + (x.length : Int)) = ((s + x.length : Nat) : Int) := by unfold wrap64; omega
    have q2 : decide (((s + x.length : Nat) : Int) < 0) = false := by simp; omega
    clear hc0 hC0 hxe
    go_wp2
    go_round
    case rel => exact ⟨i + 1, s + x.length, by go_num, by go_num, by omega, ⟨by
     have h1 := HS.out
     rw [HD.out] at h1
     unfold catL at h1 ⊢
     rw [List.flatten_cons, List.length_append] at h1
     omega⟩, HB⟩
    case measure => simp [intOf]; omega
  · have q1 : decide ((i : Int) < (l.length : Int)) = false := by simp; omega
    have hs : s = (catL l).length := by
     have h1 := HS.out
     rw [List.drop_eq_nil_of_le (by omega)] at h1
     simpa [catL] using h1
    subst hs
    go_wp2_with fail
    refine (grow_calls (catL l).length H0.out HN.out _).mono ?_
    rintro e w1 ⟨v, rfl, hr1, hb1⟩
    have HB1 := Aside0.mk (HB.out.trans (hb1.mono HB.out.size))
    have HR1 := Aside0.mk (Kd.R_lower hr1 HB.out.size)
    clear hr1 hb1 HB HS q1 hlt
    go_wp2
    go_loopw [6, 8, 27] (fun v6 v8 v27 wr => ∃ (i : Nat) (T : List Int), v27 = .int .i64 i ∧ i ≤ l.length ∧ Aside0 (T ++ catL (l.drop i) = catL l) ∧ Aside0 (Kd.R (Kd.int .u8) 5 wr w.heap.size (fun _ => True) v6 T) ∧ Aside0 (Below w.heap.size w wr)) (fun _ _ v27 _ => l.length - (intOf v27).toNat)
    case atStart => exact ⟨0, [], rfl, by omega, ⟨by simp⟩, HR1, HB1⟩
    case round =>
     clear HR1 HB1
     obtain ⟨i, T, rfl, hi2, HT, HR, HB⟩ := hrel
     by_cases hlt : i < l.length
     · obtain ⟨ad, A0, c0, rfl, hx, hc0, hC0⟩ := at_L7 (Kd.C_below HC.out HB.out) (i : Int) (by omega) (by omega)
       simp only [Int.toNat_natCast] at hx
       obtain ⟨x, hxe⟩ : ∃ x, rd_L7 l (i : Int) = x := ⟨_, rfl⟩
       rw [hxe] at hx hc0 hC0
       have HD := Aside0.mk (show l.drop i = x :: l.drop (i + 1) from by rw [← hxe]; exact cat_drop l i hlt)
       have HX := Aside0.mk hC0
       have HLN := Aside0.mk (show T.length + x.length ≤ 140737488355328 from by
        have h1 := HT.out
        have h2 := HN.out
        rw [HD.out] at h1
        rw [← h1] at h2
        unfold catL at h2
        rw [List.flatten_cons, List.length_append, List.length_append] at h2
        omega)
       have hb3 : 0 ≤ (i : Int) ∧ (i : Int) < (l.length : Int) := by omega
       have q1 : decide ((i : Int) < (l.length : Int)) = true := by simp; omega
       clear hc0 hC0 hxe
       obtain ⟨A6, c6, rfl, l6, _⟩ := Kd.R_reads HR.out
       go_wp2_with (first | ((with_reducible refine gate_builtin (b := .append) (xs := #[.tmp 31, .tmp 32]) rfl ?_); at_builtin; refine Kd.R_append_rows (Kd.int .u8) (w0 := w) w.heap.size rfl (.tmp 31) (.tmp 32) 63 5 (.int .u8 0) 1 rfl Try.underlying63 info5 rfl (by decide) (by omega) (.slice A6 T.length c6) T x _ _ _ (fun _ => True) (fun _ => False) rfl rfl ?aO ?aR (fun _ _ h => h) (fun _ h => h.elim) ?aF ?aB ?aS ?aL ?_; (case aR => exact HX.out); (case aB => exact HB.out); (case aF => exact (fun _ _ => trivial)); (case aO => exact HR.out); (case aS => exact HB.out.size); (case aL => have := HLN.out; omega); intro v9 w9 ho hb hg hat; have HO9 := Aside0.mk ho; have HB9 := Aside0.mk hb; clear ho hb hg hat))
       go_round
       case rel => exact ⟨i + 1, T ++ x, by go_num, by omega, ⟨by
        have h1 := HT.out
        rw [HD.out] at h1
        rw [← h1]
        unfold catL
        rw [List.flatten_cons, List.append_assoc]⟩, HO9, HB9⟩
       case measure => simp [intOf]; omega
     · have q1 : decide ((i : Int) < (l.length : Int)) = false := by simp; omega
       have hT : T = catL l := by
        have h1 := HT.out
        rw [List.drop_eq_nil_of_le (by omega)] at h1
        simpa [catL] using h1
       subst hT
       go_wp2
       go_ret
       exact ⟨_, rfl, HR.out, HB.out⟩
end Go.Proofs.Ytenbkljgmgdegaa.PO
end
