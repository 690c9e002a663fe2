/- What the rows of this claim use, out of the texts of this work (FB, OU, FC, FD). No condition beyond those that each statement names. -/
import Derived.Test.YtenbkljgmgdegaaQgOV
import Derived.Test.YtenbkljgmgdegaaQgOA
section
namespace Go.Proofs.Ytenbkljgmgdegaa.PO
open Go.RowKit Go.Proofs.YtenbkljgmgdegaaW.PrintWords Go.Proofs.YtenbkljgmgdegaaW.PrintLast Go.Proofs.YtenbkljgmgdegaaW.PrintMore Go.Proofs.Ytenbkljgmgdegaa.XW
open Go.Proofs.Ytenbkljgmgdegaa.XRange
set_option linter.unusedVariables false
set_option linter.unusedSimpArgs false
theorem nil_size {s : ByteArray} : s.toList = [] ↔ s.size = 0 := by
 rw [ByteArray.toList_eq, List.eq_nil_iff_length_eq_zero, Array.length_toList]
 exact Iff.rfl
theorem headF_true {f : Fr} (h1 : isNameB f.fa = true) (h2 : isNameB f.fb = true) (h3 : ¬ f.fa.toList = f.fb.toList) (h4 : ¬ f.ct.toList = []) (h5 : (f.ct.size : Int) ≤ 32) (h6 : 1 ≤ f.se) (h7 : f.se ≤ 1152921504606846976) (h8 : 0 ≤ f.ix) : headF f = true := by
 have h9 : f.ct.size ≠ 0 := fun h => h4 (nil_size.2 h)
 have h10 : f.fa ≠ f.fb := fun h => h3 (by rw [h])
 unfold headF
 rw [h1, h2]
 simp [h10, h6, h7, h8]
 omega
theorem headF_parts {f : Fr} (h : headF f = true) : isNameB f.fa = true ∧ isNameB f.fb = true ∧ ¬ f.fa.toList = f.fb.toList ∧ ¬ f.ct.toList = [] ∧ (f.ct.size : Int) ≤ 32 ∧ 1 ≤ f.se ∧ f.se ≤ 1152921504606846976 ∧ 0 ≤ f.ix := by
 unfold headF at h
 simp only [Bool.and_eq_true, decide_eq_true_eq] at h
 obtain ⟨⟨⟨⟨⟨⟨⟨h1, h2⟩, h3⟩, h4⟩, h5⟩, h6⟩, h7⟩, h8⟩ := h
 exact ⟨h1, h2, fun h => h3 (bytes_inj h), fun h => by have := nil_size.1 h; omega, by omega, h6, h7, h8⟩
set_option maxHeartbeats 8000000 in
set_option maxRecDepth 100000 in
theorem frRight_calls (f : Fr) (A7 : Option Addr) (c7 : Nat) (A8 : Option Addr) (c8 : Nat) (w : World) (l7 : f.kn.length ≤ c7) (g7 : Kd.C k34 w A7 f.kn.length f.kn) (l8 : f.op.length ≤ c8) (g8 : Kd.C k36 w A8 f.op.length f.op) :
 Calls Try.prog 37 #[.agg #[.int .i64 f.k, .string f.fa, .string f.fb, .string f.ct, .int .i64 f.se, .int .i64 f.ix, .int .i64 f.mn, .slice A7 f.kn.length c7, .slice A8 f.op.length c8]] w fun e w' => e = .returned (.bool (rightF f)) ∧ Below w.heap.size w w' := by
 have HL7 := Aside0.mk l7
 have HG7 := Aside0.mk g7
 have HL8 := Aside0.mk l8
 have HG8 := Aside0.mk g8
 obtain ⟨N, hN⟩ : ∃ N, w.heap.size = N := ⟨_, rfl⟩
 clear l7 g7 l8 g8
 go_enter Try.func37, Try.ntmps37
 obtain ⟨w0, hw0⟩ : ∃ w0, w.alloc (.cells #[.int .i64 f.k, .string f.fa, .string f.fb, .string f.ct, .int .i64 f.se, .int .i64 f.ix, .int .i64 f.mn, .slice A7 f.kn.length c7, .slice A8 f.op.length c8] 54) = w0 := ⟨_, rfl⟩
 have HB := Aside0.mk (show Below w.heap.size w w0 from by rw [← hw0]; exact (Below.refl _ w).alloc (Nat.le_refl _) _)
 have KX := Aside0.mk (show w0.heap[N]? = some (.cells #[.int .i64 f.k, .string f.fa, .string f.fb, .string f.ct, .int .i64 f.se, .int .i64 f.ix, .int .i64 f.mn, .slice A7 f.kn.length c7, .slice A8 f.op.length c8] 54 (0, 0)) from by rw [← hw0, ← hN]; exact World.alloc_heap_new w _)
 obtain ⟨n0, n1, n2, n3, n4, n5, n6, n7, n8⟩ := cells9 KX.out
 obtain ⟨b1, h1⟩ : ∃ b, isNameB f.fa = b := ⟨_, rfl⟩
 obtain ⟨b2, h2⟩ : ∃ b, isNameB f.fb = b := ⟨_, rfl⟩
 have H1 := Aside0.mk h1
 have H2 := Aside0.mk h2
 clear h1 h2
 go_wp2_with fail
 refine (vector_IsName.calls f.fa b1 _ (congrArg some H1.out)).mono ?_
 rintro e w1 ⟨rfl, hb1⟩
 have HB1 := Aside0.mk (HB.out.trans (hb1.mono HB.out.size))
 have KX1 := Aside0.mk (blk_below KX.out hb1)
 clear n0 n1 n2 n3 n4 n5 n6 n7 n8 hb1 KX HB hw0
 obtain ⟨n0, n1, n2, n3, n4, n5, n6, n7, n8⟩ := cells9 KX1.out
 cases b1 with
 | false =>
   go_wp2
   go_ret
   exact ⟨by unfold rightF headF; rw [H1.out]; rfl, by first | exact HB1.out | (rw [← hN]; exact HB1.out)⟩
 | true =>
   go_wp2_with fail
   refine (vector_IsName.calls f.fb b2 _ (congrArg some H2.out)).mono ?_
   rintro e w2 ⟨rfl, hb2⟩
   have HB2 := Aside0.mk (HB1.out.trans (hb2.mono HB1.out.size))
   have KX2 := Aside0.mk (blk_below KX1.out hb2)
   clear n0 n1 n2 n3 n4 n5 n6 n7 n8 hb2 KX1 HB1
   obtain ⟨n0, n1, n2, n3, n4, n5, n6, n7, n8⟩ := cells9 KX2.out
   cases b2 with
   | false =>
     go_wp2
     go_ret
     exact ⟨by unfold rightF headF; rw [H1.out, H2.out]; rfl, by first | exact HB2.out | (rw [← hN]; exact HB2.out)⟩
   | true =>
     have fz := blk_frozen KX2.out 7
     by_cases hh : headF f = true
     · obtain ⟨_, _, q3, q4, q5, q6, q7, q8⟩ := headF_parts hh
       have HH := Aside0.mk hh
       clear hh
       have p3 : (f.fa.toList == f.fb.toList) = false := by simp [q3]
       have p4 : f.ct.toList.isEmpty = false := by simp [q4]
       have p5 : decide ((32 : Int) < (f.ct.size : Int)) = false := by simp; omega
       have p6 : decide (f.se < 1) = false := by simp; omega
       have p7 : decide ((1152921504606846976 : Int) < f.se) = false := by simp; omega
       have p8 : decide (f.ix < 0) = false := by simp; omega
       have HR := Aside0.mk (show rightF f = bodyF f from by unfold rightF; rw [HH.out]; rfl)
       have Q8 := Aside0.mk q8
       clear q3 q4 q5 q6 q7 q8
       by_cases k1 : f.k = 1
       · have e1 : (f.k == 1) = true := by simp [k1]
         have K1 := Aside0.mk k1
         clear k1
         go_wp2_with fail
         obtain ⟨w3, hw3⟩ : ∃ w3, w2.setCell ⟨N, 7, none⟩ (.slice none 0 0) = w3 := ⟨_, rfl⟩
         rw [hw3]
         have HB3 := Aside0.mk (show Below w.heap.size w w3 from by rw [← hw3]; exact below_set HB2.out (by rw [← hN]; exact Nat.le_refl _))
         have KX3 := Aside0.mk (show w3.cell? ⟨N, 5, none⟩ = some (.int .i64 f.ix) from by rw [← hw3]; exact (blk_cell (blk_set KX2.out 7 (.slice none 0 0)) 5).trans rfl)
         clear hw3 n0 n1 n2 n3 n4 n5 n6 n7 n8 fz
         obtain ⟨bb, hbb⟩ : ∃ b, (decide (f.mn = 0) && decide (f.op.length = 0)) = b := ⟨_, rfl⟩
         have HBB := Aside0.mk hbb
         refine (frame_bare.calls f.k f.fa f.fb f.ct f.se f.ix f.mn none 0 [] A8 c8 f.op bb _ (Kd.C_nil _ _) (by decide) (Kd.C_below HG8.out HB3.out) HL8.out (by
          unfold frame_bare.f
          rw [← HBB.out]
          by_cases h : f.mn = 0 <;> by_cases h' : f.op.length = 0 <;> simp [h, h'] <;> omega)).mono ?_
         rintro e w4 ⟨rfl, hb4⟩
         have HB4 := Aside0.mk (HB3.out.trans (hb4.mono HB3.out.size))
         have c5 : w4.cell? ⟨N, 5, none⟩ = some (.int .i64 f.ix) := (hb4.cell (World.block_lt_of_cell? _ _ KX3.out)).trans KX3.out
         clear hbb hb4
         cases bb with
         | false =>
           go_wp2
           go_ret
           exact ⟨by rw [HR.out]; unfold bodyF; rw [if_pos K1.out, HBB.out]; rfl, by first | exact HB4.out | (rw [← hN]; exact HB4.out)⟩
         | true =>
           go_wp2_with fail
           refine (vector_Right.calls (f.kn.length + 1) A7 c7 f.kn (rightS f.kn) _ (Kd.C_below HG7.out HB4.out) HL7.out (right_f _ HG7.out.2.1 _ (by omega))).mono ?_
           rintro e w5 ⟨rfl, hb5⟩
           have HB5 := Aside0.mk (HB4.out.trans (hb5.mono HB4.out.size))
           have c5' : w5.cell? ⟨N, 5, none⟩ = some (.int .i64 f.ix) := (hb5.cell (World.block_lt_of_cell? _ _ c5)).trans c5
           clear hb5 c5
           go_wp2
           all_goals
            go_ret
            exact ⟨by rw [HR.out]; unfold bodyF; rw [if_pos K1.out, HBB.out]; simp_all, by first | exact HB5.out | (rw [← hN]; exact HB5.out)⟩
       · have e1 : (f.k == 1) = false := by simp [k1]
         have K1 := Aside0.mk k1
         clear k1
         by_cases k2 : f.k = 2
         · have e2 : (f.k == 2) = true := by simp [k2]
           have K2 := Aside0.mk k2
           clear k2
           go_wp2_with fail
           all_goals try (go_ret; exact ⟨by rw [HR.out]; unfold bodyF; rw [if_neg K1.out, if_pos K2.out]; first | (simp_all; done) | (simp_all; omega), by first | exact HB2.out | (rw [← hN]; exact HB2.out)⟩)
           refine (hasBad_calls N f.ct f.op A8 c8 _ HL8.out (Kd.C_below HG8.out HB2.out) n3).mono ?_
           rintro e w3 ⟨rfl, hb3⟩
           have HB3 := Aside0.mk (HB2.out.trans (hb3.mono HB2.out.size))
           clear hb3 n0 n1 n2 n3 n4 n5 n6 n7 n8
           go_wp2
           go_ret
           refine ⟨?_, by first | exact HB3.out | (rw [← hN]; exact HB3.out)⟩
           rw [HR.out]
           unfold bodyF
           rw [if_neg K1.out, if_pos K2.out]
           refine congrArg (fun b => Ending.returned (Value.bool b)) ?_
           simp_all
           intros
           omega
         · have e2 : (f.k == 2) = false := by simp [k2]
           have K2 := Aside0.mk k2
           clear k2
           by_cases k3 : f.k = 3
           · have e3 : (f.k == 3) = true := by simp [k3]
             have K3 := Aside0.mk k3
             clear k3
             go_wp2_with fail
             obtain ⟨bb, hbb⟩ : ∃ b, (decide (f.mn = 0) && decide (f.kn.length = 0) && decide (f.op.length = 0)) = b := ⟨_, rfl⟩
             have HBB := Aside0.mk hbb
             clear hbb
             refine (frame_bare.calls f.k f.fa f.fb f.ct f.se f.ix f.mn A7 c7 f.kn A8 c8 f.op bb _ (Kd.C_below HG7.out HB2.out) HL7.out (Kd.C_below HG8.out HB2.out) HL8.out (by
              unfold frame_bare.f
              rw [← HBB.out]
              by_cases h : f.mn = 0 <;> by_cases h' : f.kn.length = 0 <;> by_cases h'' : f.op.length = 0 <;> simp [h, h', h''] <;> omega)).mono ?_
             rintro e w4 ⟨rfl, hb4⟩
             have HB4 := Aside0.mk (HB2.out.trans (hb4.mono HB2.out.size))
             have c5 : w4.cell? ⟨N, 5, none⟩ = some (.int .i64 f.ix) := (hb4.cell (World.block_lt_of_cell? _ _ n5)).trans n5
             clear hb4 n0 n1 n2 n3 n4 n5 n6 n7 n8
             cases bb <;> go_wp2
             all_goals
              go_ret
              exact ⟨by rw [HR.out]; unfold bodyF; rw [if_neg K1.out, if_neg K2.out, K3.out]; have hb := HBB.out; simp_all, by first | exact HB4.out | (rw [← hN]; exact HB4.out)⟩
           · have e3 : (f.k == 3) = false := by simp [k3]
             have K3 := Aside0.mk k3
             clear k3
             go_wp2
             go_ret
             exact ⟨by rw [HR.out]; unfold bodyF; simp [K1.out, K2.out, K3.out], by first | exact HB2.out | (rw [← hN]; exact HB2.out)⟩
     · have HF := Aside0.mk (show rightF f = false from by unfold rightF; cases h : headF f <;> simp_all)
       go_wp2
       all_goals first
        | (go_ret; exact ⟨by rw [HF.out]; rfl, by first | exact HB2.out | (rw [← hN]; exact HB2.out)⟩)
        | exact absurd (headF_true H1.out H2.out (by simp_all) (by simp_all) (by omega) (by omega) (by omega) (by omega)) hh
end Go.Proofs.Ytenbkljgmgdegaa.PO
end
section
namespace Go.Proofs.Ytenbkljgmgdegaa.PO
open Go.RowKit Go.Proofs.YtenbkljgmgdegaaW.PrintWords Go.Proofs.YtenbkljgmgdegaaW.PrintLast Go.Proofs.YtenbkljgmgdegaaW.PrintMore Go.Proofs.Ytenbkljgmgdegaa.XW
set_option linter.unusedVariables false
set_option linter.unusedSimpArgs false
def sameO (x y : S36) : Bool := rightO x && rightO y && decide (x = y)
theorem sameO_of {x y : S36} (hx : rightO x = true) (hy : rightO y = true) : sameO x y = decide (x = y) := by unfold sameO; rw [hx, hy]; rfl
set_option maxHeartbeats 8000000 in
set_option maxRecDepth 100000 in
theorem sameO_calls (x y : S36) (A2 : Option Addr) (c2 : Nat) (A7 : Option Addr) (c7 : Nat) (B2 : Option Addr) (d2 : Nat) (B7 : Option Addr) (d7 : Nat) (w : World) (l2 : x.f1.length ≤ c2) (g2 : Kd.C k34 w A2 x.f1.length x.f1) (l7 : x.f6.length ≤ c7) (g7 : Kd.C k34 w A7 x.f6.length x.f6)
 (m2 : y.f1.length ≤ d2) (h2 : Kd.C k34 w B2 y.f1.length y.f1) (m7 : y.f6.length ≤ d7) (h7 : Kd.C k34 w B7 y.f6.length y.f6) :
 Calls Try.prog 30 #[.agg #[.string x.f0.f0, .int .i64 x.f0.f1, .slice A2 x.f1.length c2, .string x.f2, .int .i64 x.f3, .string x.f4, .int .i64 x.f5, .slice A7 x.f6.length c7], .agg #[.string y.f0.f0, .int .i64 y.f0.f1, .slice B2 y.f1.length d2, .string y.f2, .int .i64 y.f3, .string y.f4, .int .i64 y.f5, .slice B7 y.f6.length d7]] w
  fun e w' => e = .returned (.bool (sameO x y)) ∧ Below w.heap.size w w' := by
 have HL2 := Aside0.mk l2
 have HL7 := Aside0.mk l7
 have HM2 := Aside0.mk m2
 have HM7 := Aside0.mk m7
 have HG2 := Aside0.mk g2
 have HG7 := Aside0.mk g7
 have HH2 := Aside0.mk h2
 have HH7 := Aside0.mk h7
 have hE := equalO_f x y g2.2.1 g7.2.1 (x.f1.length + x.f6.length + 1) (by omega) (by omega)
 have HE := Aside0.mk hE
 obtain ⟨N, hN⟩ : ∃ N, w.heap.size = N := ⟨_, rfl⟩
 clear l2 l7 m2 m7 g2 g7 h2 h7 hE
 go_enter Try.func30, Try.ntmps30
 go_wp2_with fail
 obtain ⟨w1, hw1⟩ : ∃ w1, (w.alloc (.cells #[.string x.f0.f0, .int .i64 x.f0.f1, .slice A2 x.f1.length c2, .string x.f2, .int .i64 x.f3, .string x.f4, .int .i64 x.f5, .slice A7 x.f6.length c7] 36)).alloc (.cells #[.string y.f0.f0, .int .i64 y.f0.f1, .slice B2 y.f1.length d2, .string y.f2, .int .i64 y.f3, .string y.f4, .int .i64 y.f5, .slice B7 y.f6.length d7] 36) = w1 := ⟨_, rfl⟩
 have hb1 : Below w.heap.size w w1 := by rw [← hw1]; exact ((Below.refl _ w).alloc (Nat.le_refl _) _).alloc (by simp) _
 have k1 : w1.heap[N]? = some (.cells #[.string x.f0.f0, .int .i64 x.f0.f1, .slice A2 x.f1.length c2, .string x.f2, .int .i64 x.f3, .string x.f4, .int .i64 x.f5, .slice A7 x.f6.length c7] 36 (0, 0)) := by rw [← hw1, ← hN]; exact blk_alloc (World.alloc_heap_new w _) _
 have k2 : w1.heap[N + 1]? = some (.cells #[.string y.f0.f0, .int .i64 y.f0.f1, .slice B2 y.f1.length d2, .string y.f2, .int .i64 y.f3, .string y.f4, .int .i64 y.f5, .slice B7 y.f6.length d7] 36 (0, 0)) := by
  rw [← hw1, ← hN]; have := World.alloc_heap_new (w.alloc (.cells #[.string x.f0.f0, .int .i64 x.f0.f1, .slice A2 x.f1.length c2, .string x.f2, .int .i64 x.f3, .string x.f4, .int .i64 x.f5, .slice A7 x.f6.length c7] 36)) (.cells #[.string y.f0.f0, .int .i64 y.f0.f1, .slice B2 y.f1.length d2, .string y.f2, .int .i64 y.f3, .string y.f4, .int .i64 y.f5, .slice B7 y.f6.length d7] 36); rwa [World.size_alloc] at this
 first | rw [hw1] | (rw [hN] at hw1; rw [hw1]) | skip
 have HB1 := Aside0.mk hb1
 have K1 := Aside0.mk k1
 have K2 := Aside0.mk k2
 clear hw1 hb1 k1 k2
 refine (orderRight_calls x A2 c2 A7 c7 w1 HL2.out (Kd.C_below HG2.out HB1.out) HL7.out (Kd.C_below HG7.out HB1.out)).mono ?_
 rintro e w2 ⟨rfl, hb2⟩
 have HB2 := Aside0.mk (show Below w.heap.size w w2 from HB1.out.trans (hb2.mono HB1.out.size))
 have K12 := Aside0.mk (blk_below K1.out hb2)
 have K22 := Aside0.mk (blk_below K2.out hb2)
 clear hb2 K1 K2 HB1
 obtain ⟨b1, hb1⟩ : ∃ b, rightO x = b := ⟨_, rfl⟩
 have HO1 := Aside0.mk hb1
 rw [hb1]
 clear hb1
 cases b1 with
 | false =>
   go_wp2
   go_ret
   exact ⟨by unfold sameO; rw [HO1.out]; rfl, by first | exact HB2.out | (rw [← hN]; exact HB2.out)⟩
 | true =>
   have f0 := (blk_cell K22.out 0).trans rfl
   have f1 := (blk_cell K22.out 1).trans rfl
   have f2 := (blk_cell K22.out 2).trans rfl
   have f3 := (blk_cell K22.out 3).trans rfl
   have f4 := (blk_cell K22.out 4).trans rfl
   have f5 := (blk_cell K22.out 5).trans rfl
   have f6 := (blk_cell K22.out 6).trans rfl
   have f7 := (blk_cell K22.out 7).trans rfl
   go_wp2_with fail
   refine (orderRight_calls y B2 d2 B7 d7 w2 HM2.out (Kd.C_below HH2.out HB2.out) HM7.out (Kd.C_below HH7.out HB2.out)).mono ?_
   rintro e w3 ⟨rfl, hb3⟩
   have HB3 := Aside0.mk (show Below w.heap.size w w3 from HB2.out.trans (hb3.mono HB2.out.size))
   have K13 := Aside0.mk (blk_below K12.out hb3)
   have K23 := Aside0.mk (blk_below K22.out hb3)
   clear hb3 K12 K22 HB2 f0 f1 f2 f3 f4 f5 f6 f7
   obtain ⟨b2, hb2⟩ : ∃ b, rightO y = b := ⟨_, rfl⟩
   have HO2 := Aside0.mk hb2
   rw [hb2]
   clear hb2
   cases b2 with
   | false =>
     go_wp2
     go_ret
     exact ⟨by unfold sameO; rw [HO1.out, HO2.out]; rfl, by first | exact HB3.out | (rw [← hN]; exact HB3.out)⟩
   | true =>
     have e0 := (blk_cell K13.out 0).trans rfl
     have e1 := (blk_cell K13.out 1).trans rfl
     have e2 := (blk_cell K13.out 2).trans rfl
     have e3 := (blk_cell K13.out 3).trans rfl
     have e4 := (blk_cell K13.out 4).trans rfl
     have e5 := (blk_cell K13.out 5).trans rfl
     have e6 := (blk_cell K13.out 6).trans rfl
     have e7 := (blk_cell K13.out 7).trans rfl
     have f0 := (blk_cell K23.out 0).trans rfl
     have f1 := (blk_cell K23.out 1).trans rfl
     have f2 := (blk_cell K23.out 2).trans rfl
     have f3 := (blk_cell K23.out 3).trans rfl
     have f4 := (blk_cell K23.out 4).trans rfl
     have f5 := (blk_cell K23.out 5).trans rfl
     have f6 := (blk_cell K23.out 6).trans rfl
     have f7 := (blk_cell K23.out 7).trans rfl
     go_wp2_with fail
     refine (order_equal.calls (x.f1.length + x.f6.length + 1) x.f0.f0 x.f0.f1 A2 c2 x.f1 x.f2 x.f3 x.f4 x.f5 A7 c7 x.f6 y.f0.f0 y.f0.f1 B2 d2 y.f1 y.f2 y.f3 y.f4 y.f5 B7 d7 y.f6 _ w3 (Kd.C_below HG2.out HB3.out) HL2.out (Kd.C_below HG7.out HB3.out) HL7.out (Kd.C_below HH2.out HB3.out) HM2.out (Kd.C_below HH7.out HB3.out) HM7.out HE.out).mono ?_
     rintro e w4 ⟨rfl, hb4⟩
     have HB4 := Aside0.mk (show Below w.heap.size w w4 from by first | exact HB3.out.trans (hb4.mono HB3.out.size) | exact HB3.out.trans (hb4.below.mono HB3.out.size))
     clear hb4 e0 e1 e2 e3 e4 e5 e6 e7 f0 f1 f2 f3 f4 f5 f6 f7
     have HS := Aside0.mk (sameO_of HO1.out HO2.out)
     go_wp2
     go_ret
     exact ⟨by rw [HS.out]; rfl, by first | exact HB4.out | (rw [← hN]; exact HB4.out)⟩
end Go.Proofs.Ytenbkljgmgdegaa.PO
end
section
namespace Go.Proofs.Ytenbkljgmgdegaa.PO
open Go.RowKit Go.Proofs.YtenbkljgmgdegaaW.PrintWords Go.Proofs.YtenbkljgmgdegaaW.PrintLast Go.Proofs.YtenbkljgmgdegaaW.PrintMore Go.Proofs.Ytenbkljgmgdegaa.XW
open Go.Proofs.Ytenbkljgmgdegaa.XRange
set_option linter.unusedVariables false
set_option linter.unusedSimpArgs false
def sameL : List S36 → List S36 → Bool
 | [], [] => true
 | x :: l, y :: m => sameO x y && sameL l m
 | _, _ => false
set_option maxHeartbeats 8000000 in
set_option maxRecDepth 100000 in
theorem eqFunc_calls (l m : List S36) (A : Option Addr) (c : Nat) (B : Option Addr) (d : Nat) (w : World) (hc : l.length ≤ c) (hC : Kd.C k36 w A l.length l) (hd : m.length ≤ d) (hD : Kd.C k36 w B m.length m) :
 Calls Try.prog 124 #[.slice A l.length c, .slice B m.length d, .func (.func 30) #[] #[]] w fun e w' => e = .returned (.bool (sameL l m)) ∧ Below w.heap.size w w' := by
 have HC := Aside0.mk hC
 have HD := Aside0.mk hD
 have hm : l.length ≤ 9223372036854775807 := hC.2.1
 clear hC hD
 go_enter Try.func124, Try.ntmps124
 by_cases hlen : l.length = m.length
 case neg =>
  have q0 : ((l.length : Int) != (m.length : Int)) = true := by simp; omega
  have HF := Aside0.mk (show sameL l m = false from by
   clear HC HD hm q0 hc hd
   induction l generalizing m with
   | nil => cases m with | nil => exact absurd rfl hlen | cons y m => rfl
   | cons x l ih => cases m with | nil => rfl | cons y m => unfold sameL; rw [ih]; simp; simpa using hlen)
  go_wp2
  go_ret
  exact ⟨by rw [HF.out]; rfl, Below.refl _ _⟩
 have q0 : ((l.length : Int) != (m.length : Int)) = false := by simp; omega
 have HLEN := Aside0.mk hlen
 clear hlen
 go_wp2
 go_loopw [17] (fun v17 wr => ∃ j : Nat, j ≤ l.length ∧ v17 = .int .i64 j ∧ Aside0 (sameL (l.drop j) (m.drop j) = sameL l m) ∧ Aside0 (Below w.heap.size w wr)) (fun v17 _ => l.length - (intOf v17).toNat)
 case atStart => exact ⟨0, Nat.zero_le _, rfl, ⟨rfl⟩, ⟨Below.refl _ _⟩⟩
 case round =>
  obtain ⟨j, hj, rfl, HJ, HB⟩ := hrel
  by_cases hlt : j < l.length
  · obtain ⟨ad, A2, c2, A7, c7, rfl, f0, f1, f2, f3, f4, f5, f6, f7, l2, g2, l7, g7⟩ := at_T36 (Kd.C_below HC.out HB.out) (j : Int) (by omega) (by omega)
    simp only [Int.toNat_natCast] at f0 f1 f2 f3 f4 f5 f6 f7
    obtain ⟨x, hx⟩ : ∃ x, rd_T36 l (j : Int) = x := ⟨_, rfl⟩
    rw [hx] at f0 f1 f2 f3 f4 f5 f6 f7 l2 g2 l7 g7
    have HX := Aside0.mk (show l.drop j = x :: l.drop (j + 1) from by rw [← hx]; exact rd_drop36' l j hlt)
    have HL2 := Aside0.mk l2
    have HG2 := Aside0.mk g2
    have HL7 := Aside0.mk l7
    have HG7 := Aside0.mk g7
    have hb3 : 0 ≤ (j : Int) ∧ (j : Int) < (l.length : Int) := by omega
    have hb4 : 0 ≤ (j : Int) ∧ (j : Int) < (m.length : Int) := by have := HLEN.out; omega
    have q1 : decide ((j : Int) < (l.length : Int)) = true := by simp; omega
    clear l2 g2 l7 g7 hx
    have hba : Below wr.heap.size wr (wr.alloc (.cells #[.string x.f0.f0, .int .i64 x.f0.f1, .slice A2 x.f1.length c2, .string x.f2, .int .i64 x.f3, .string x.f4, .int .i64 x.f5, .slice A7 x.f6.length c7] 36)) := (Below.refl _ wr).alloc (Nat.le_refl _) _
    obtain ⟨bd, B2, d2, B7, d7, rfl, p0, p1, p2, p3, p4, p5, p6, p7, l2, g2, l7, g7⟩ := at_T36 (Kd.C_below HD.out (HB.out.trans (hba.mono HB.out.size))) (j : Int) (by omega) (by have := HLEN.out; omega)
    simp only [Int.toNat_natCast] at p0 p1 p2 p3 p4 p5 p6 p7
    obtain ⟨y, hy⟩ : ∃ y, rd_T36 m (j : Int) = y := ⟨_, rfl⟩
    rw [hy] at p0 p1 p2 p3 p4 p5 p6 p7 l2 g2 l7 g7
    have HY := Aside0.mk (show m.drop j = y :: m.drop (j + 1) from by rw [← hy]; exact rd_drop36' m j (by have := HLEN.out; omega))
    have HM2 := Aside0.mk l2
    have HH2 := Aside0.mk g2
    have HM7 := Aside0.mk l7
    have HH7 := Aside0.mk g7
    clear l2 g2 l7 g7 hy
    go_wp2_with fail
    have hbb : Below wr.heap.size wr ((wr.alloc (.cells #[.string x.f0.f0, .int .i64 x.f0.f1, .slice A2 x.f1.length c2, .string x.f2, .int .i64 x.f3, .string x.f4, .int .i64 x.f5, .slice A7 x.f6.length c7] 36)).alloc (.cells #[.string y.f0.f0, .int .i64 y.f0.f1, .slice B2 y.f1.length d2, .string y.f2, .int .i64 y.f3, .string y.f4, .int .i64 y.f5, .slice B7 y.f6.length d7] 36)) := hba.alloc (by simp) _
    have hbc := (Below.refl (wr.alloc (.cells #[.string x.f0.f0, .int .i64 x.f0.f1, .slice A2 x.f1.length c2, .string x.f2, .int .i64 x.f3, .string x.f4, .int .i64 x.f5, .slice A7 x.f6.length c7] 36)).heap.size (wr.alloc (.cells #[.string x.f0.f0, .int .i64 x.f0.f1, .slice A2 x.f1.length c2, .string x.f2, .int .i64 x.f3, .string x.f4, .int .i64 x.f5, .slice A7 x.f6.length c7] 36))).alloc (Nat.le_refl _) (.cells #[.string y.f0.f0, .int .i64 y.f0.f1, .slice B2 y.f1.length d2, .string y.f2, .int .i64 y.f3, .string y.f4, .int .i64 y.f5, .slice B7 y.f6.length d7] 36)
    refine (sameO_calls x y A2 c2 A7 c7 B2 d2 B7 d7 _ HL2.out (Kd.C_below HG2.out hbb) HL7.out (Kd.C_below HG7.out hbb) HM2.out (Kd.C_below HH2.out hbc) HM7.out (Kd.C_below HH7.out hbc)).mono ?_
    rintro e w1 ⟨rfl, hb1⟩
    have HB1 := Aside0.mk (HB.out.trans ((hbb.trans (hb1.mono hbb.size)).mono HB.out.size))
    obtain ⟨b, hb⟩ : ∃ b, sameO x y = b := ⟨_, rfl⟩
    have HBX := Aside0.mk hb
    rw [hb]
    clear hb hb1 hba hbb hbc f0 f1 f2 f3 f4 f5 f6 f7 p0 p1 p2 p3 p4 p5 p6 p7
    cases b with
    | false =>
      go_wp2
      go_ret
      exact ⟨by rw [← HJ.out, HX.out, HY.out, sameL, HBX.out]; rfl, HB1.out⟩
    | true =>
      go_wp2
      go_round
      case rel => exact ⟨j + 1, by omega, by go_num, ⟨by rw [← HJ.out, HX.out, HY.out, sameL, HBX.out]; simp⟩, HB1⟩
      case measure => simp [intOf]; omega
  · have q1 : decide ((j : Int) < (l.length : Int)) = false := by simp; omega
    go_wp2
    go_ret
    exact ⟨by rw [← HJ.out, List.drop_eq_nil_of_le (by omega), List.drop_eq_nil_of_le (by have := HLEN.out; omega)]; rfl, HB.out⟩
end Go.Proofs.Ytenbkljgmgdegaa.PO
end
section
namespace Go.Proofs.Ytenbkljgmgdegaa.PO
open Go.RowKit Go.Proofs.YtenbkljgmgdegaaW.PrintWords Go.Proofs.YtenbkljgmgdegaaW.PrintLast Go.Proofs.YtenbkljgmgdegaaW.PrintMore Go.Proofs.Ytenbkljgmgdegaa.XW
open Go.Proofs.Ytenbkljgmgdegaa.XRange
set_option linter.unusedVariables false
set_option linter.unusedSimpArgs false
theorem set9 {w : World} {G : Nat} {a0 a1 a2 a3 a4 a5 a6 a7 a8 : Value} (h : w.heap[G]? = some (.cells #[a0, a1, a2, a3, a4, a5, a6, a7, a8] 54 (0, 0))) (u0 u1 u2 u3 u4 u5 u6 u7 u8 : Value) :
 (((((((((w.setCell ⟨G, 0, none⟩ u0).setCell ⟨G, 1, none⟩ u1).setCell ⟨G, 2, none⟩ u2).setCell ⟨G, 3, none⟩ u3).setCell ⟨G, 4, none⟩ u4).setCell ⟨G, 5, none⟩ u5).setCell ⟨G, 6, none⟩ u6).setCell ⟨G, 7, none⟩ u7).setCell ⟨G, 8, none⟩ u8).heap[G]? = some (.cells #[u0, u1, u2, u3, u4, u5, u6, u7, u8] 54 (0, 0)) := by
 have h0 := blk_set h 0 u0
 simp only [List.setIfInBounds_toArray, List.set_cons_zero, List.set_cons_succ] at h0
 have h1 := blk_set h0 1 u1
 simp only [List.setIfInBounds_toArray, List.set_cons_zero, List.set_cons_succ] at h1
 have h2 := blk_set h1 2 u2
 simp only [List.setIfInBounds_toArray, List.set_cons_zero, List.set_cons_succ] at h2
 have h3 := blk_set h2 3 u3
 simp only [List.setIfInBounds_toArray, List.set_cons_zero, List.set_cons_succ] at h3
 have h4 := blk_set h3 4 u4
 simp only [List.setIfInBounds_toArray, List.set_cons_zero, List.set_cons_succ] at h4
 have h5 := blk_set h4 5 u5
 simp only [List.setIfInBounds_toArray, List.set_cons_zero, List.set_cons_succ] at h5
 have h6 := blk_set h5 6 u6
 simp only [List.setIfInBounds_toArray, List.set_cons_zero, List.set_cons_succ] at h6
 have h7 := blk_set h6 7 u7
 simp only [List.setIfInBounds_toArray, List.set_cons_zero, List.set_cons_succ] at h7
 have h8 := blk_set h7 8 u8
 simp only [List.setIfInBounds_toArray, List.set_cons_zero, List.set_cons_succ] at h8
 exact h8
theorem keeps9 (w : World) (G : Nat) (u0 u1 u2 u3 u4 u5 u6 u7 u8 : Value) : Keeps (fun k => k = G) w (((((((((w.setCell ⟨G, 0, none⟩ u0).setCell ⟨G, 1, none⟩ u1).setCell ⟨G, 2, none⟩ u2).setCell ⟨G, 3, none⟩ u3).setCell ⟨G, 4, none⟩ u4).setCell ⟨G, 5, none⟩ u5).setCell ⟨G, 6, none⟩ u6).setCell ⟨G, 7, none⟩ u7).setCell ⟨G, 8, none⟩ u8) := by
 have k0 := Keeps.setCell (M := fun k => k = G) (Keeps.refl _ w) (p := ⟨G, 0, none⟩) (.inl rfl) u0
 have k1 := Keeps.setCell (M := fun k => k = G) k0 (p := ⟨G, 1, none⟩) (.inl rfl) u1
 have k2 := Keeps.setCell (M := fun k => k = G) k1 (p := ⟨G, 2, none⟩) (.inl rfl) u2
 have k3 := Keeps.setCell (M := fun k => k = G) k2 (p := ⟨G, 3, none⟩) (.inl rfl) u3
 have k4 := Keeps.setCell (M := fun k => k = G) k3 (p := ⟨G, 4, none⟩) (.inl rfl) u4
 have k5 := Keeps.setCell (M := fun k => k = G) k4 (p := ⟨G, 5, none⟩) (.inl rfl) u5
 have k6 := Keeps.setCell (M := fun k => k = G) k5 (p := ⟨G, 6, none⟩) (.inl rfl) u6
 have k7 := Keeps.setCell (M := fun k => k = G) k6 (p := ⟨G, 7, none⟩) (.inl rfl) u7
 have k8 := Keeps.setCell (M := fun k => k = G) k7 (p := ⟨G, 8, none⟩) (.inl rfl) u8
 exact k8
structure Froz9 (w : World) (N : Nat) : Prop where
 f0 : w.frozen? ⟨N, 0, none⟩ = false
 f1 : w.frozen? ⟨N, 1, none⟩ = false
 f2 : w.frozen? ⟨N, 2, none⟩ = false
 f3 : w.frozen? ⟨N, 3, none⟩ = false
 f4 : w.frozen? ⟨N, 4, none⟩ = false
 f5 : w.frozen? ⟨N, 5, none⟩ = false
 f6 : w.frozen? ⟨N, 6, none⟩ = false
 f7 : w.frozen? ⟨N, 7, none⟩ = false
 f8 : w.frozen? ⟨N, 8, none⟩ = false
theorem froz9 {w : World} {N : Nat} {c : Array Value} {t : TypeId} (h : w.heap[N]? = some (.cells c t (0, 0))) : Froz9 w N :=
 ⟨blk_frozen h 0, blk_frozen h 1, blk_frozen h 2, blk_frozen h 3, blk_frozen h 4, blk_frozen h 5, blk_frozen h 6, blk_frozen h 7, blk_frozen h 8⟩
theorem put9 {w : World} {G : Nat} {a0 a1 a2 a3 a4 a5 a6 a7 a8 : Value} (h : w.heap[G]? = some (.cells #[a0, a1, a2, a3, a4, a5, a6, a7, a8] 54 (0, 0))) (u0 u1 u2 u3 u4 u5 u6 u7 u8 : Value) {Goal : World → Prop}
 (hG : ∀ w1, w1.heap[G]? = some (.cells #[u0, u1, u2, u3, u4, u5, u6, u7, u8] 54 (0, 0)) → Keeps (fun k => k = G) w w1 → Goal w1) : Goal (((((((((w.setCell ⟨G, 0, none⟩ u0).setCell ⟨G, 1, none⟩ u1).setCell ⟨G, 2, none⟩ u2).setCell ⟨G, 3, none⟩ u3).setCell ⟨G, 4, none⟩ u4).setCell ⟨G, 5, none⟩ u5).setCell ⟨G, 6, none⟩ u6).setCell ⟨G, 7, none⟩ u7).setCell ⟨G, 8, none⟩ u8) := hG _ (set9 h u0 u1 u2 u3 u4 u5 u6 u7 u8) (keeps9 w G u0 u1 u2 u3 u4 u5 u6 u7 u8)
theorem store_last {P : Program} {o : Oper} {a : Act} {W w1 : World} {Kc : Act → World → Prop} {Q : Exit → Act → World → Prop} {ops : Array Oper} (hw : Region.wanted o (yielded ops a.tmps) = true) (hN : o.dst = none) (hrun : (execOp a.eval o).run P W = .ok .skip w1) (h : Kc a w1) :
 if Region.wanted o (yielded ops a.tmps) = true then Oper.wp P o a W Kc Q else Kc (a.put o.dst undef) W := by
 rw [if_pos hw]
 unfold Oper.wp
 rw [hrun]
 show Kc (a.put o.dst undef) w1
 rw [hN]
 exact h
theorem two_x {P : Program} {md : Region.Mode} {ops : Array Oper} {Q : Exit → Act → World → Prop} {S : World → Prop} {ds : List Nat} {i j : Nat} {oi oj : Oper} {fuel : Nat} {l : Array Bool} {a : Act} {w : World} (Ni Nj : Option Tmp) (hi : ops[i]? = some oi) (hj : ops[j]? = some oj) (hNi : oi.dst = Ni) (hNj : oj.dst = Nj)
 (hc : (Region.ready md ops l == [i, j]) = true) (hdi : i ∉ ds) (hdj : j ∉ ds)
 (h1 : ∀ K : Act → World → Prop, Shut (∀ a' w', S w' → (S w' → wpAnyLast P md ops Q S ds fuel (l.setIfInBounds i true) a' w') → K a' w') → if Region.wanted oi (yielded ops a.tmps) = true then Oper.wp P oi a w K Q else K (a.put Ni undef) w)
 (h2 : ∀ K : Act → World → Prop, Shut (∀ a' w', S w' → (S w' → wpAnyLast P md ops Q S ds fuel (l.setIfInBounds j true) a' w') → K a' w') → if Region.wanted oj (yielded ops a.tmps) = true then Oper.wp P oj a w K Q else K (a.put Nj undef) w) :
 wpAnyLast P md ops Q S ds (fuel + 1) l a w := two_ _ _ hi hj hNi hNj (by simp only [hc, beq_self_eq_true, Bool.and_self]) hdi hdj h1 h2
def equalF (f g : Fr) : Bool := decide (f.k = g.k) && decide (f.fa = g.fa) && decide (f.fb = g.fb) && decide (f.ct = g.ct) && decide (f.se = g.se) && decide (f.ix = g.ix) && decide (f.mn = g.mn) && decide (f.kn = g.kn) && sameL f.op g.op
theorem equalF_iff {f g : Fr} : equalF f g = true ↔ (f.k = g.k ∧ f.fa.toList = g.fa.toList ∧ f.fb.toList = g.fb.toList ∧ f.ct.toList = g.ct.toList ∧ f.se = g.se ∧ f.ix = g.ix ∧ f.mn = g.mn ∧ f.kn = g.kn ∧ sameL f.op g.op = true) := by
 unfold equalF
 simp only [Bool.and_eq_true, decide_eq_true_eq, injT, and_assoc]
set_option maxHeartbeats 8000000 in
set_option maxRecDepth 100000 in
theorem frEqual_calls (f : Fr) (A7 : Option Addr) (c7 : Nat) (A8 : Option Addr) (c8 : Nat) (g : Fr) (B7 : Option Addr) (d7 : Nat) (B8 : Option Addr) (d8 : Nat) (w : World) (l7 : f.kn.length ≤ c7) (g7 : Kd.C k34 w A7 f.kn.length f.kn) (l8 : f.op.length ≤ c8) (g8 : Kd.C k36 w A8 f.op.length f.op)
 (m7 : g.kn.length ≤ d7) (h7 : Kd.C k34 w B7 g.kn.length g.kn) (m8 : g.op.length ≤ d8) (h8 : Kd.C k36 w B8 g.op.length g.op) :
 Calls Try.prog 93 #[.agg #[.int .i64 f.k, .string f.fa, .string f.fb, .string f.ct, .int .i64 f.se, .int .i64 f.ix, .int .i64 f.mn, .slice A7 f.kn.length c7, .slice A8 f.op.length c8], .agg #[.int .i64 g.k, .string g.fa, .string g.fb, .string g.ct, .int .i64 g.se, .int .i64 g.ix, .int .i64 g.mn, .slice B7 g.kn.length d7, .slice B8 g.op.length d8]] w
  fun e w' => e = .returned (.bool (equalF f g)) ∧ Below w.heap.size w w' := by
 have HL7 := Aside0.mk l7
 have HG7 := Aside0.mk g7
 have HL8 := Aside0.mk l8
 have HG8 := Aside0.mk g8
 have HM7 := Aside0.mk m7
 have HH7 := Aside0.mk h7
 have HM8 := Aside0.mk m8
 have HH8 := Aside0.mk h8
 have HS := Aside0.mk (eqDots_f f.kn g.kn g7.2.1 (f.kn.length + 1) (by omega))
 obtain ⟨N, hN⟩ : ∃ N, w.heap.size = N := ⟨_, rfl⟩
 clear l7 g7 l8 g8 m7 h7 m8 h8
 go_enter Try.func93, Try.ntmps93
 obtain ⟨w0, hw0⟩ : ∃ w0, (w.alloc (.cells #[.int .i64 f.k, .string f.fa, .string f.fb, .string f.ct, .int .i64 f.se, .int .i64 f.ix, .int .i64 f.mn, .slice A7 f.kn.length c7, .slice A8 f.op.length c8] 54)).alloc (.cells #[.int .i64 g.k, .string g.fa, .string g.fb, .string g.ct, .int .i64 g.se, .int .i64 g.ix, .int .i64 g.mn, .slice B7 g.kn.length d7, .slice B8 g.op.length d8] 54) = w0 := ⟨_, rfl⟩
 have HB := Aside0.mk (show Below w.heap.size w w0 from by rw [← hw0]; exact ((Below.refl _ w).alloc (Nat.le_refl _) _).alloc (by simp) _)
 have KX := Aside0.mk (show w0.heap[N]? = some (.cells #[.int .i64 f.k, .string f.fa, .string f.fb, .string f.ct, .int .i64 f.se, .int .i64 f.ix, .int .i64 f.mn, .slice A7 f.kn.length c7, .slice A8 f.op.length c8] 54 (0, 0)) from by rw [← hw0, ← hN]; exact blk_alloc (World.alloc_heap_new w _) _)
 have KY := Aside0.mk (show w0.heap[N + 1]? = some (.cells #[.int .i64 g.k, .string g.fa, .string g.fb, .string g.ct, .int .i64 g.se, .int .i64 g.ix, .int .i64 g.mn, .slice B7 g.kn.length d7, .slice B8 g.op.length d8] 54 (0, 0)) from by
  rw [← hw0, ← hN]
  have h := World.alloc_heap_new (w.alloc (.cells #[.int .i64 f.k, .string f.fa, .string f.fb, .string f.ct, .int .i64 f.se, .int .i64 f.ix, .int .i64 f.mn, .slice A7 f.kn.length c7, .slice A8 f.op.length c8] 54)) (.cells #[.int .i64 g.k, .string g.fa, .string g.fb, .string g.ct, .int .i64 g.se, .int .i64 g.ix, .int .i64 g.mn, .slice B7 g.kn.length d7, .slice B8 g.op.length d8] 54)
  simpa using h)
 have HN := Aside0.mk (show w0.heap.size = N + 2 from by rw [← hw0, ← hN]; simp)
 go_wp2
 clear hw0
 refine start_ (n := 6) (ds := []) (S := fun w' => Cells9 w' N (.int .i64 f.k) (.string f.fa) (.string f.fb) (.string f.ct) (.int .i64 f.se) (.int .i64 f.ix) (.int .i64 f.mn) (.slice A7 f.kn.length c7) (.slice A8 f.op.length c8) ∧ Cells9 w' (N + 1) (.int .i64 g.k) (.string g.fa) (.string g.fb) (.string g.ct) (.int .i64 g.se) (.int .i64 g.ix) (.int .i64 g.mn) (.slice B7 g.kn.length d7) (.slice B8 g.op.length d8)) _ (by kernel_rfl) rfl rfl ⟨cells9 (blk_drew KX.out), cells9 (blk_drew KY.out)⟩ (fun hH => ?_)
 refine XReg.tk 0 7 (hy := by (intro w' hS_; obtain ⟨⟨s0, s1, s2, s3, s4, s5, s6, s7, s8⟩, _⟩ := hS_; go_simp; with_reducible rfl)) (h := ?_)
 refine XReg.tk 1 8 (hy := by (intro w' hS_; obtain ⟨_, ⟨s0, s1, s2, s3, s4, s5, s6, s7, s8⟩⟩ := hS_; go_simp; with_reducible rfl)) (h := ?_)
 refine join_ (σ := Nat × Nat) 0 #[true, true, true, true, true, true] (fun s => [(5, .pointer (some ⟨s.1, 0, none⟩)), (6, .pointer (some ⟨s.2, 0, none⟩))])
  (fun s w' => w'.heap[s.1]? = some (.cells #[.int .i64 f.k, .string f.fa, .string f.fb, .string f.ct, .int .i64 f.se, .int .i64 f.ix, .int .i64 f.mn, .slice A7 f.kn.length c7, .slice A8 f.op.length c8] 54 (0, 0)) ∧ w'.heap[s.2]? = some (.cells #[.int .i64 g.k, .string g.fa, .string g.fb, .string g.ct, .int .i64 g.se, .int .i64 g.ix, .int .i64 g.mn, .slice B7 g.kn.length d7, .slice B8 g.op.length d8] 54 (0, 0)) ∧ s.1 ≠ s.2 ∧ N + 1 < s.1 ∧ N + 1 < s.2 ∧ Below w.heap.size w w' ∧ w'.heap[N]? = some (.cells #[.int .i64 f.k, .string f.fa, .string f.fb, .string f.ct, .int .i64 f.se, .int .i64 f.ix, .int .i64 f.mn, .slice A7 f.kn.length c7, .slice A8 f.op.length c8] 54 (0, 0)) ∧ w'.heap[N + 1]? = some (.cells #[.int .i64 g.k, .string g.fa, .string g.fb, .string g.ct, .int .i64 g.se, .int .i64 g.ix, .int .i64 g.mn, .slice B7 g.kn.length d7, .slice B8 g.op.length d8] 54 (0, 0))) ?hcont (fun hj => ?_)
 case hcont =>
  clear hH
  rintro ⟨p5, p6⟩ w1 ⟨hx5, hx6, hne, hl5, hl6, hb1, hkx, hky⟩
  have HX5 := Aside0.mk hx5
  have HX6 := Aside0.mk hx6
  have HB1 := Aside0.mk hb1
  have KX1 := Aside0.mk hkx
  have KY1 := Aside0.mk hky
  have HNE := Aside0.mk (show p5 ≠ p6 ∧ N + 1 < p5 ∧ N + 1 < p6 from ⟨hne, hl5, hl6⟩)
  obtain ⟨e0, e1, e2, e3, e4, e5, e6, e7, e8⟩ := cells9 hx5
  obtain ⟨y0, y1, y2, y3, y4, y5, y6, y7, y8⟩ := cells9 hx6
  have z7 := blk_frozen hx5 7
  have z8 := blk_frozen hx5 8
  have v7 := blk_frozen hx6 7
  have v8 := blk_frozen hx6 8
  have n56 : p6 ≠ p5 := fun h => hne h.symm
  have n1 : N ≠ p5 := by omega
  have n2 : N ≠ p6 := by omega
  have n3 : N + 1 ≠ p5 := by omega
  have n4 : N + 1 ≠ p6 := by omega
  have x7 := (cells9 hkx).e7
  have x8 := (cells9 hkx).e8
  have g7 := (cells9 hky).e7
  have g8 := (cells9 hky).e8
  have HB2 := Aside0.mk (show Below w.heap.size w ((((w1.setCell ⟨p5, 7, none⟩ (.slice none 0 0)).setCell ⟨p5, 8, none⟩ (.slice none 0 0)).setCell ⟨p6, 7, none⟩ (.slice none 0 0)).setCell ⟨p6, 8, none⟩ (.slice none 0 0)) from below_set (below_set (below_set (below_set hb1 (by omega)) (by omega)) (by omega)) (by omega))
  have KX2 := Aside0.mk (show ((((w1.setCell ⟨p5, 7, none⟩ (.slice none 0 0)).setCell ⟨p5, 8, none⟩ (.slice none 0 0)).setCell ⟨p6, 7, none⟩ (.slice none 0 0)).setCell ⟨p6, 8, none⟩ (.slice none 0 0)).heap[N]? = some (.cells #[.int .i64 f.k, .string f.fa, .string f.fb, .string f.ct, .int .i64 f.se, .int .i64 f.ix, .int .i64 f.mn, .slice A7 f.kn.length c7, .slice A8 f.op.length c8] 54 (0, 0)) from by
   rw [Below.heap_setCell _ _ _ _ (by simpa using n2), Below.heap_setCell _ _ _ _ (by simpa using n2), Below.heap_setCell _ _ _ _ (by simpa using n1), Below.heap_setCell _ _ _ _ (by simpa using n1)]; exact hkx)
  have KY2 := Aside0.mk (show ((((w1.setCell ⟨p5, 7, none⟩ (.slice none 0 0)).setCell ⟨p5, 8, none⟩ (.slice none 0 0)).setCell ⟨p6, 7, none⟩ (.slice none 0 0)).setCell ⟨p6, 8, none⟩ (.slice none 0 0)).heap[N + 1]? = some (.cells #[.int .i64 g.k, .string g.fa, .string g.fb, .string g.ct, .int .i64 g.se, .int .i64 g.ix, .int .i64 g.mn, .slice B7 g.kn.length d7, .slice B8 g.op.length d8] 54 (0, 0)) from by
   rw [Below.heap_setCell _ _ _ _ (by simpa using n4), Below.heap_setCell _ _ _ _ (by simpa using n4), Below.heap_setCell _ _ _ _ (by simpa using n3), Below.heap_setCell _ _ _ _ (by simpa using n3)]; exact hky)
  clear hx5 hx6 hb1 hkx hky hl5 hl6 KX KY HB
  simp only [putAll, Act.put, List.setIfInBounds_toArray, List.set_cons_zero, List.set_cons_succ]
  refine done_ (by kernel_rfl) ?_
  go_wp2_with fail
  all_goals try (go_ret; refine ⟨?_, by first | exact HB2.out | (rw [← hN]; exact HB2.out)⟩; refine congrArg (fun b => Ending.returned (Value.bool b)) ?_; rw [Bool.eq_iff_iff, equalF_iff]; first | (simp_all; done) | (simp_all; rfl))
  obtain ⟨w2, hw2⟩ : ∃ w2, ((((w1.setCell ⟨p5, 7, none⟩ (.slice none 0 0)).setCell ⟨p5, 8, none⟩ (.slice none 0 0)).setCell ⟨p6, 7, none⟩ (.slice none 0 0)).setCell ⟨p6, 8, none⟩ (.slice none 0 0)) = w2 := ⟨_, rfl⟩
  rw [hw2] at HB2 KX2 KY2 ⊢
  clear hw2 e0 e1 e2 e3 e4 e5 e6 e7 e8 y0 y1 y2 y3 y4 y5 y6 y7 y8 x7 x8 g7 g8 z7 z8 v7 v8
  refine (api_Dot_106.calls (f.kn.length + 1) A7 c7 f.kn B7 d7 g.kn _ _ (Kd.C_below HG7.out HB2.out) HL7.out (Kd.C_below HH7.out HB2.out) HM7.out HS.out).mono ?_
  rintro e w3 ⟨rfl, hd3⟩
  have HB3 := Aside0.mk (HB2.out.trans (hd3.below.mono HB2.out.size))
  have x8 := (cells9 (blk_below KX2.out hd3.below)).e8
  have g8 := (cells9 (blk_below KY2.out hd3.below)).e8
  clear hd3
  go_wp2_with fail
  all_goals try (go_ret; refine ⟨?_, by first | exact HB3.out | (rw [← hN]; exact HB3.out)⟩; refine congrArg (fun b => Ending.returned (Value.bool b)) ?_; rw [Bool.eq_iff_iff, equalF_iff]; first | (simp_all; done) | (simp_all; rfl))
  refine (eqFunc_calls f.op g.op A8 c8 B8 d8 _ HL8.out (Kd.C_below HG8.out HB3.out) HM8.out (Kd.C_below HH8.out HB3.out)).mono ?_
  rintro e w4 ⟨rfl, hb4⟩
  have HB4 := Aside0.mk (HB3.out.trans (hb4.mono HB3.out.size))
  clear hb4 x8 g8
  go_wp2
  go_ret
  refine ⟨?_, by first | exact HB4.out | (rw [← hN]; exact HB4.out)⟩
  refine congrArg (fun b => Ending.returned (Value.bool b)) ?_
  rw [Bool.eq_iff_iff, equalF_iff]
  simp_all
 refine two_x (i := 2) (j := 3) (some 5) (some 6) rfl rfl rfl rfl (by kernel_rfl) (by decide) (by decide) (fun K hK => ?_) (fun K hK => ?_)
 · refine box_step rfl rfl (cs := #[.int .i64 0, .string ⟨#[]⟩, .string ⟨#[]⟩, .string ⟨#[]⟩, .int .i64 0, .int .i64 0, .int .i64 0, .slice none 0 0, .slice none 0 0]) (t := 54) ?hr ?_
   case hr => first | (go_simp; done) | (go_simp; rfl)
   intro p1 hp1 w1 hx1 hb1
   refine hK.out _ _ ⟨cells9 (blk_below (blk_drew KX.out) hb1), cells9 (blk_below (blk_drew KY.out) hb1)⟩ (fun hH2 => ?_)
   clear hK K hH
   refine XReg.one (i := 3) (some 6) rfl rfl (by kernel_rfl) (by decide) (fun Kc hKc => ?_)
   refine box_step rfl rfl (cs := #[.int .i64 0, .string ⟨#[]⟩, .string ⟨#[]⟩, .string ⟨#[]⟩, .int .i64 0, .int .i64 0, .int .i64 0, .slice none 0 0, .slice none 0 0]) (t := 54) ?hr ?_
   case hr => first | (go_simp; done) | (go_simp; rfl)
   intro p2 hp2 w2 hx2 hb2
   have hx12 := blk_below hx1 hb2
   have hne : p1 ≠ p2 := by have := blk_lt hx1; omega
   have HKX := blk_below (blk_below (blk_drew KX.out) hb1) hb2
   have HKY := blk_below (blk_below (blk_drew KY.out) hb1) hb2
   have hlt1 : N + 1 < p1 := by have h := HN.out; have h2 : w0.drew.heap.size = w0.heap.size := rfl; omega
   have hlt2 : p1 < p2 := by have := blk_lt hx1; omega
   refine hKc.out _ _ ⟨cells9 HKX, cells9 HKY⟩ (fun hH3 => ?_)
   clear hKc Kc hH2 hp1 hp2
   refine XReg.one (i := 4) none rfl rfl (by kernel_rfl) (by decide) (fun Kc hKc => ?_)
   have hx5 := hx12
   have hx6 := hx2
   obtain ⟨e0, e1, e2, e3, e4, e5, e6, e7, e8⟩ := cells9 hx5
   obtain ⟨z0, z1, z2, z3, z4, z5, z6, z7, z8⟩ := froz9 hx5
   refine store_last rfl rfl (by first | (go_simp; done) | (go_simp; rfl)) ?_
   refine put9 (Goal := fun w1 => Kc _ w1) hx5 (.int .i64 f.k) (.string f.fa) (.string f.fb) (.string f.ct) (.int .i64 f.se) (.int .i64 f.ix) (.int .i64 f.mn) (.slice A7 f.kn.length c7) (.slice A8 f.op.length c8) (fun w3 hs3 hk3 => ?_)
   have HKX3 := (hk3.block N (blk_lt HKX) (by omega)).trans HKX
   have HKY3 := (hk3.block (N + 1) (blk_lt HKY) (by omega)).trans HKY
   have hx63 := (hk3.block p2 (blk_lt hx6) (by omega)).trans hx6
   refine hKc.out _ _ ⟨cells9 HKX3, cells9 HKY3⟩ (fun hH4 => ?_)
   clear hKc Kc e0 e1 e2 e3 e4 e5 e6 e7 e8 z0 z1 z2 z3 z4 z5 z6 z7 z8
   obtain ⟨e0, e1, e2, e3, e4, e5, e6, e7, e8⟩ := cells9 hx63
   obtain ⟨z0, z1, z2, z3, z4, z5, z6, z7, z8⟩ := froz9 hx63
   refine XReg.one (i := 5) none rfl rfl (by kernel_rfl) (by decide) (fun Kc hKc => ?_)
   refine store_last rfl rfl (by first | (go_simp; done) | (go_simp; rfl)) ?_
   refine put9 (Goal := fun w1 => Kc _ w1) hx63 (.int .i64 g.k) (.string g.fa) (.string g.fb) (.string g.ct) (.int .i64 g.se) (.int .i64 g.ix) (.int .i64 g.mn) (.slice B7 g.kn.length d7) (.slice B8 g.op.length d8) (fun w4 hs4 hk4 => ?_)
   have HKX4 := (hk4.block N (blk_lt HKX3) (by omega)).trans HKX3
   have HKY4 := (hk4.block (N + 1) (blk_lt HKY3) (by omega)).trans HKY3
   have hs34 := (hk4.block p1 (blk_lt hs3) (by omega)).trans hs3
   refine hKc.out _ _ ⟨cells9 HKX4, cells9 HKY4⟩ (fun hH5 => ?_)
   exact hj (p1, p2) w4 ⟨hs34, hs4, by omega, by omega, by omega, below_keeps (below_keeps ((((HB.out.trans ((below_drew1 (Below.refl _ w0)).mono HB.out.size))).trans (hb1.mono (by have := HB.out.size; exact this))).trans (hb2.mono (by have := HB.out.size; have := hb1.size; exact Nat.le_trans HB.out.size hb1.size))) (fun k hk => by subst hk; omega) (by have := hb1.size; have := hb2.size; have := HB.out.size; have h2 : w0.drew.heap.size = w0.heap.size := rfl; omega) hk3) (fun k hk => by subst hk; omega) (by have := hk3.size; have := hb1.size; have := hb2.size; have := HB.out.size; have h2 : w0.drew.heap.size = w0.heap.size := rfl; omega) hk4, HKX4, HKY4⟩
 · refine box_step rfl rfl (cs := #[.int .i64 0, .string ⟨#[]⟩, .string ⟨#[]⟩, .string ⟨#[]⟩, .int .i64 0, .int .i64 0, .int .i64 0, .slice none 0 0, .slice none 0 0]) (t := 54) ?hr ?_
   case hr => first | (go_simp; done) | (go_simp; rfl)
   intro p1 hp1 w1 hx1 hb1
   refine hK.out _ _ ⟨cells9 (blk_below (blk_drew KX.out) hb1), cells9 (blk_below (blk_drew KY.out) hb1)⟩ (fun hH2 => ?_)
   clear hK K hH
   refine XReg.one (i := 2) (some 5) rfl rfl (by kernel_rfl) (by decide) (fun Kc hKc => ?_)
   refine box_step rfl rfl (cs := #[.int .i64 0, .string ⟨#[]⟩, .string ⟨#[]⟩, .string ⟨#[]⟩, .int .i64 0, .int .i64 0, .int .i64 0, .slice none 0 0, .slice none 0 0]) (t := 54) ?hr ?_
   case hr => first | (go_simp; done) | (go_simp; rfl)
   intro p2 hp2 w2 hx2 hb2
   have hx12 := blk_below hx1 hb2
   have hne : p1 ≠ p2 := by have := blk_lt hx1; omega
   have HKX := blk_below (blk_below (blk_drew KX.out) hb1) hb2
   have HKY := blk_below (blk_below (blk_drew KY.out) hb1) hb2
   have hlt1 : N + 1 < p1 := by have h := HN.out; have h2 : w0.drew.heap.size = w0.heap.size := rfl; omega
   have hlt2 : p1 < p2 := by have := blk_lt hx1; omega
   refine hKc.out _ _ ⟨cells9 HKX, cells9 HKY⟩ (fun hH3 => ?_)
   clear hKc Kc hH2 hp1 hp2
   refine XReg.one (i := 4) none rfl rfl (by kernel_rfl) (by decide) (fun Kc hKc => ?_)
   have hx5 := hx2
   have hx6 := hx12
   obtain ⟨e0, e1, e2, e3, e4, e5, e6, e7, e8⟩ := cells9 hx5
   obtain ⟨z0, z1, z2, z3, z4, z5, z6, z7, z8⟩ := froz9 hx5
   refine store_last rfl rfl (by first | (go_simp; done) | (go_simp; rfl)) ?_
   refine put9 (Goal := fun w1 => Kc _ w1) hx5 (.int .i64 f.k) (.string f.fa) (.string f.fb) (.string f.ct) (.int .i64 f.se) (.int .i64 f.ix) (.int .i64 f.mn) (.slice A7 f.kn.length c7) (.slice A8 f.op.length c8) (fun w3 hs3 hk3 => ?_)
   have HKX3 := (hk3.block N (blk_lt HKX) (by omega)).trans HKX
   have HKY3 := (hk3.block (N + 1) (blk_lt HKY) (by omega)).trans HKY
   have hx63 := (hk3.block p1 (blk_lt hx6) (by omega)).trans hx6
   refine hKc.out _ _ ⟨cells9 HKX3, cells9 HKY3⟩ (fun hH4 => ?_)
   clear hKc Kc e0 e1 e2 e3 e4 e5 e6 e7 e8 z0 z1 z2 z3 z4 z5 z6 z7 z8
   obtain ⟨e0, e1, e2, e3, e4, e5, e6, e7, e8⟩ := cells9 hx63
   obtain ⟨z0, z1, z2, z3, z4, z5, z6, z7, z8⟩ := froz9 hx63
   refine XReg.one (i := 5) none rfl rfl (by kernel_rfl) (by decide) (fun Kc hKc => ?_)
   refine store_last rfl rfl (by first | (go_simp; done) | (go_simp; rfl)) ?_
   refine put9 (Goal := fun w1 => Kc _ w1) hx63 (.int .i64 g.k) (.string g.fa) (.string g.fb) (.string g.ct) (.int .i64 g.se) (.int .i64 g.ix) (.int .i64 g.mn) (.slice B7 g.kn.length d7) (.slice B8 g.op.length d8) (fun w4 hs4 hk4 => ?_)
   have HKX4 := (hk4.block N (blk_lt HKX3) (by omega)).trans HKX3
   have HKY4 := (hk4.block (N + 1) (blk_lt HKY3) (by omega)).trans HKY3
   have hs34 := (hk4.block p2 (blk_lt hs3) (by omega)).trans hs3
   refine hKc.out _ _ ⟨cells9 HKX4, cells9 HKY4⟩ (fun hH5 => ?_)
   exact hj (p2, p1) w4 ⟨hs34, hs4, by omega, by omega, by omega, below_keeps (below_keeps ((((HB.out.trans ((below_drew1 (Below.refl _ w0)).mono HB.out.size))).trans (hb1.mono (by have := HB.out.size; exact this))).trans (hb2.mono (by have := HB.out.size; have := hb1.size; exact Nat.le_trans HB.out.size hb1.size))) (fun k hk => by subst hk; omega) (by have := hb1.size; have := hb2.size; have := HB.out.size; have h2 : w0.drew.heap.size = w0.heap.size := rfl; omega) hk3) (fun k hk => by subst hk; omega) (by have := hk3.size; have := hb1.size; have := hb2.size; have := HB.out.size; have h2 : w0.drew.heap.size = w0.heap.size := rfl; omega) hk4, HKX4, HKY4⟩
def sameF (f g : Fr) : Bool := rightF f && rightF g && equalF f g
set_option maxHeartbeats 8000000 in
set_option maxRecDepth 100000 in
theorem frSame_calls (f : Fr) (A7 : Option Addr) (c7 : Nat) (A8 : Option Addr) (c8 : Nat) (g : Fr) (B7 : Option Addr) (d7 : Nat) (B8 : Option Addr) (d8 : Nat) (w : World) (l7 : f.kn.length ≤ c7) (g7 : Kd.C k34 w A7 f.kn.length f.kn) (l8 : f.op.length ≤ c8) (g8 : Kd.C k36 w A8 f.op.length f.op)
 (m7 : g.kn.length ≤ d7) (h7 : Kd.C k34 w B7 g.kn.length g.kn) (m8 : g.op.length ≤ d8) (h8 : Kd.C k36 w B8 g.op.length g.op) :
 Calls Try.prog 39 #[.agg #[.int .i64 f.k, .string f.fa, .string f.fb, .string f.ct, .int .i64 f.se, .int .i64 f.ix, .int .i64 f.mn, .slice A7 f.kn.length c7, .slice A8 f.op.length c8], .agg #[.int .i64 g.k, .string g.fa, .string g.fb, .string g.ct, .int .i64 g.se, .int .i64 g.ix, .int .i64 g.mn, .slice B7 g.kn.length d7, .slice B8 g.op.length d8]] w
  fun e w' => e = .returned (.bool (sameF f g)) ∧ Below w.heap.size w w' := by
 have HL7 := Aside0.mk l7
 have HG7 := Aside0.mk g7
 have HL8 := Aside0.mk l8
 have HG8 := Aside0.mk g8
 have HM7 := Aside0.mk m7
 have HH7 := Aside0.mk h7
 have HM8 := Aside0.mk m8
 have HH8 := Aside0.mk h8
 obtain ⟨N, hN⟩ : ∃ N, w.heap.size = N := ⟨_, rfl⟩
 obtain ⟨bx, hbx⟩ : ∃ b, rightF f = b := ⟨_, rfl⟩
 obtain ⟨bz, hbz⟩ : ∃ b, rightF g = b := ⟨_, rfl⟩
 have HX := Aside0.mk hbx
 have HY := Aside0.mk hbz
 clear l7 g7 l8 g8 m7 h7 m8 h8 hbx hbz
 go_enter Try.func39, Try.ntmps39
 obtain ⟨w0, hw0⟩ : ∃ w0, (w.alloc (.cells #[.int .i64 f.k, .string f.fa, .string f.fb, .string f.ct, .int .i64 f.se, .int .i64 f.ix, .int .i64 f.mn, .slice A7 f.kn.length c7, .slice A8 f.op.length c8] 54)).alloc (.cells #[.int .i64 g.k, .string g.fa, .string g.fb, .string g.ct, .int .i64 g.se, .int .i64 g.ix, .int .i64 g.mn, .slice B7 g.kn.length d7, .slice B8 g.op.length d8] 54) = w0 := ⟨_, rfl⟩
 have HB := Aside0.mk (show Below w.heap.size w w0 from by rw [← hw0]; exact ((Below.refl _ w).alloc (Nat.le_refl _) _).alloc (by simp) _)
 have KX := Aside0.mk (show w0.heap[N]? = some (.cells #[.int .i64 f.k, .string f.fa, .string f.fb, .string f.ct, .int .i64 f.se, .int .i64 f.ix, .int .i64 f.mn, .slice A7 f.kn.length c7, .slice A8 f.op.length c8] 54 (0, 0)) from by rw [← hw0, ← hN]; exact blk_alloc (World.alloc_heap_new w _) _)
 have KY := Aside0.mk (show w0.heap[N + 1]? = some (.cells #[.int .i64 g.k, .string g.fa, .string g.fb, .string g.ct, .int .i64 g.se, .int .i64 g.ix, .int .i64 g.mn, .slice B7 g.kn.length d7, .slice B8 g.op.length d8] 54 (0, 0)) from by
  rw [← hw0, ← hN]
  have h := World.alloc_heap_new (w.alloc (.cells #[.int .i64 f.k, .string f.fa, .string f.fb, .string f.ct, .int .i64 f.se, .int .i64 f.ix, .int .i64 f.mn, .slice A7 f.kn.length c7, .slice A8 f.op.length c8] 54)) (.cells #[.int .i64 g.k, .string g.fa, .string g.fb, .string g.ct, .int .i64 g.se, .int .i64 g.ix, .int .i64 g.mn, .slice B7 g.kn.length d7, .slice B8 g.op.length d8] 54)
  simpa using h)
 obtain ⟨e0, e1, e2, e3, e4, e5, e6, e7, e8⟩ := cells9 KX.out
 go_wp2_with fail
 refine (frRight_calls f A7 c7 A8 c8 _ HL7.out (Kd.C_below HG7.out HB.out) HL8.out (Kd.C_below HG8.out HB.out)).mono ?_
 rw [HX.out]
 rintro e w1 ⟨rfl, hb1⟩
 have HB1 := Aside0.mk (HB.out.trans (hb1.mono HB.out.size))
 have KX1 := Aside0.mk (blk_below KX.out hb1)
 have KY1 := Aside0.mk (blk_below KY.out hb1)
 clear hb1 hw0 e0 e1 e2 e3 e4 e5 e6 e7 e8 KX KY HB
 cases bx with
 | false =>
   go_wp2
   go_ret
   exact ⟨by unfold sameF; rw [HX.out]; rfl, by first | exact HB1.out | (rw [← hN]; exact HB1.out)⟩
 | true =>
   obtain ⟨e0, e1, e2, e3, e4, e5, e6, e7, e8⟩ := cells9 KY1.out
   go_wp2_with fail
   refine (frRight_calls g B7 d7 B8 d8 _ HM7.out (Kd.C_below HH7.out HB1.out) HM8.out (Kd.C_below HH8.out HB1.out)).mono ?_
   rw [HY.out]
   rintro e w2 ⟨rfl, hb2⟩
   have HB2 := Aside0.mk (HB1.out.trans (hb2.mono HB1.out.size))
   have KX2 := Aside0.mk (blk_below KX1.out hb2)
   have KY2 := Aside0.mk (blk_below KY1.out hb2)
   clear hb2 e0 e1 e2 e3 e4 e5 e6 e7 e8 KX1 KY1 HB1
   cases bz with
   | false =>
     go_wp2
     go_ret
     exact ⟨by unfold sameF; rw [HX.out, HY.out]; rfl, by first | exact HB2.out | (rw [← hN]; exact HB2.out)⟩
   | true =>
     obtain ⟨e0, e1, e2, e3, e4, e5, e6, e7, e8⟩ := cells9 KX2.out
     obtain ⟨y0, y1, y2, y3, y4, y5, y6, y7, y8⟩ := cells9 KY2.out
     go_wp2_with fail
     refine (frEqual_calls f A7 c7 A8 c8 g B7 d7 B8 d8 _ HL7.out (Kd.C_below HG7.out HB2.out) HL8.out (Kd.C_below HG8.out HB2.out) HM7.out (Kd.C_below HH7.out HB2.out) HM8.out (Kd.C_below HH8.out HB2.out)).mono ?_
     rintro e w3 ⟨rfl, hb3⟩
     have HB3 := Aside0.mk (HB2.out.trans (hb3.mono HB2.out.size))
     clear hb3 e0 e1 e2 e3 e4 e5 e6 e7 e8 y0 y1 y2 y3 y4 y5 y6 y7 y8
     go_wp2
     go_ret
     exact ⟨by unfold sameF; rw [HX.out, HY.out]; rfl, by first | exact HB3.out | (rw [← hN]; exact HB3.out)⟩
end Go.Proofs.Ytenbkljgmgdegaa.PO
end
