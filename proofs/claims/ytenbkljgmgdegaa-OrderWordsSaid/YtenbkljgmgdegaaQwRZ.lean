/- What the rows of this claim use, out of the texts of this work (RZ, RV, RW). No condition beyond those that each statement names. -/
import Derived.Test.YtenbkljgmgdegaaQwRF
import Derived.Test.YtenbkljgmgdegaaQwRP
import Derived.Test.YtenbkljgmgdegaaQwRD
import Derived.Test.YtenbkljgmgdegaaQwOF
section
namespace Go.Proofs.Ytenbkljgmgdegaa.PO
open Go.RowKit Go.Proofs.YtenbkljgmgdegaaW.PrintWords Go.Proofs.YtenbkljgmgdegaaW.PrintLast Go.Proofs.YtenbkljgmgdegaaW.PrintMore Go.Proofs.Ytenbkljgmgdegaa.XW
open Go.Proofs.Ytenbkljgmgdegaa.XRange Go.Proofs.Ytenbkljgmgdegaa.XMap Go.Proofs.Ytenbkljgmgdegaa.XSeq
set_option linter.unusedVariables false
set_option linter.unusedSimpArgs false
theorem refText32_f (b : List Int) (s : ByteArray) (hs : s.size ≤ 32) (hb : b.length ≤ 140737488355200) (k : Nat) (hk : 40 ≤ k) : pannierref02_Text.f k b s = some (textS b s) := by
 have := encN_len (s.size : Int)
 unfold pannierref02_Text.f
 rw [u_id (by omega) (by omega), refNumber_f _ (by omega) b (by omega) k hk, Option.bind_some, if_pos (by rw [List.length_append]; omega)]
 rfl
theorem refDotB_f (b : List Int) (d : S34) (h0 : d.f0.size ≤ 32) (h1 : 0 ≤ d.f1) (h2 : d.f1 ≤ 4611686018427387904) (hb : b.length ≤ 140737488355000) (k : Nat) (hk : 40 ≤ k) : pannierref08_dot.f k b d.f0 d.f1 = some (b ++ (textB d.f0 ++ encN d.f1)) := by
 unfold pannierref08_dot.f
 have hl : (textS b d.f0).length ≤ b.length + 9 + d.f0.size := textS_len b d.f0
 rw [refText32_f b d.f0 h0 (by omega) k hk, Option.bind_some, u_id h1 (by omega), refNumber_f d.f1 h1 _ (by omega) k hk, Option.bind_some]
 simp [textS, textB]
set_option maxHeartbeats 8000000 in
set_option maxRecDepth 100000 in
theorem refLayO_calls (x : S36) (A2 : Option Addr) (c2 : Nat) (A7 : Option Addr) (c7 : Nat) (w : World) (l2 : x.f1.length ≤ c2) (g2 : Kd.C k34 w A2 x.f1.length x.f1) (l7 : x.f6.length ≤ c7) (g7 : Kd.C k34 w A7 x.f6.length x.f6) (m : Nat) (hm : m ≤ 9223372036854775807) (hz0 : x.f0.f0.size ≤ m) (hz1 : sizes m x.f1) (hz6 : sizes m x.f6) :
 Calls Try.prog 42 #[.agg #[.string x.f0.f0, .int .i64 x.f0.f1, .slice A2 x.f1.length c2, .string x.f2, .int .i64 x.f3, .string x.f4, .int .i64 x.f5, .slice A7 x.f6.length c7]] w
  fun e w' => e = .returned (.tuple #[.string (layF x).1, .int .i64 (layF x).2]) ∧ Below w.heap.size w w' := by
 have HG2 := Aside0.mk g2
 have HG7 := Aside0.mk g7
 have HL2 := Aside0.mk l2
 have HL7 := Aside0.mk l7
 have HM := Aside0.mk (show m ≤ 9223372036854775807 ∧ x.f0.f0.size ≤ m ∧ sizes m x.f1 ∧ sizes m x.f6 from ⟨hm, hz0, hz1, hz6⟩)
 clear l2 g2 l7 g7 hm hz0 hz1 hz6
 obtain ⟨N, hN⟩ : ∃ N, w.heap.size = N := ⟨_, rfl⟩
 go_enter Try.func42, Try.ntmps42
 obtain ⟨w0, hw0⟩ : ∃ w0, w.alloc (.cells #[.string x.f0.f0, .int .i64 x.f0.f1, .slice A2 x.f1.length c2, .string x.f2, .int .i64 x.f3, .string x.f4, .int .i64 x.f5, .slice A7 x.f6.length c7] 36) = w0 := ⟨_, rfl⟩
 have hb0 : Below w.heap.size w w0 := by rw [← hw0]; exact (Below.refl _ w).alloc (Nat.le_refl _) _
 have kx : w0.heap[N]? = some (.cells #[.string x.f0.f0, .int .i64 x.f0.f1, .slice A2 x.f1.length c2, .string x.f2, .int .i64 x.f3, .string x.f4, .int .i64 x.f5, .slice A7 x.f6.length c7] 36 (0, 0)) := by rw [← hw0, ← hN]; exact World.alloc_heap_new w _
 have KX := Aside0.mk kx
 have HB := Aside0.mk hb0
 clear kx hb0
 obtain ⟨n0, n1, n2, n3, n4, n5, n6, n7⟩ := cells8 KX.out
 obtain ⟨br, hbr⟩ : ∃ b, rightO x = b := ⟨_, rfl⟩
 have HBR := Aside0.mk hbr
 clear hbr
 go_wp2_with fail
 refine (refRightO_calls x A2 c2 A7 c7 _ HL2.out (Kd.C_below HG2.out HB.out) HL7.out (Kd.C_below HG7.out HB.out) m HM.out.1 HM.out.2.1 HM.out.2.2.1 HM.out.2.2.2).mono ?_
 rw [HBR.out]
 rintro e w1 ⟨rfl, hb1⟩
 have KX1 := Aside0.mk (blk_below KX.out hb1)
 have HB1 := Aside0.mk (HB.out.trans (hb1.mono HB.out.size))
 clear n0 n1 n2 n3 n4 n5 n6 n7 hb1 KX HB hw0
 cases br with
 | false =>
   have hlf : layF x = (⟨#[]⟩, 2) := by unfold layF; rw [if_neg (by rw [HBR.out]; simp)]
   go_wp2
   go_ret2
   rw [hlf]
   exact ⟨rfl, by first | exact HB1.out | (rw [← hN]; exact HB1.out)⟩
 | true =>
   have hlf : layF x = (strOfNums (layO x), 0) := by unfold layF; rw [if_pos HBR.out]
   have HLF := Aside0.mk hlf
   clear hlf
   obtain ⟨r1, r2, r3, r4, r5, r6, r7, r8, r9⟩ := rightO_all HBR.out
   have hd := dotOk_32 r1
   have H1 := Aside0.mk (refDotB_f [] x.f0 (by omega) (by omega) (by omega) (by simp) 400 (by omega))
   rw [List.nil_append] at H1
   go_wp2
   refine start_ (n := 11) (ds := []) (S := fun w' => w'.cell? ⟨N, 0, none⟩ = some (.string x.f0.f0) ∧ w'.cell? ⟨N, 1, none⟩ = some (.int .i64 x.f0.f1) ∧ w'.cell? ⟨N, 2, none⟩ = some (.slice A2 x.f1.length c2)) _ (by kernel_rfl) rfl rfl
    ⟨(blk_cell (blk_drew KX1.out) 0).trans rfl, (blk_cell (blk_drew KX1.out) 1).trans rfl, (blk_cell (blk_drew KX1.out) 2).trans rfl⟩ (fun hH => ?_)
   refine XReg.pu 0 13 (h := ?_)
   refine XReg.tk 1 14 (h := ?_)
   refine XReg.pu 3 16 (h := ?_)
   refine XReg.tk 4 17 (h := ?_)
   have HD0 := Aside0.mk (show Below w1.heap.size w1 w1.drew from below_drew1 (Below.refl _ w1))
   refine XReg.one (i := 2) (some 15) rfl rfl (by kernel_rfl) (by decide) (fun Kc hKc => ?_)
   refine goes_ Try.func95 (by kernel_rfl) rfl #[.slice none 0 0, .agg #[.string x.f0.f0, .int .i64 x.f0.f1]] (by rfl) rfl rfl (by (try simp only [List.map_toArray, List.map_cons, List.map_nil]); first | done | rfl) ?_
   refine (pannierref08_dot.calls 400 none 0 [] x.f0.f0 x.f0.f1 (textB x.f0.f0 ++ encN x.f0.f1) _ (Kd.C_nil _ _) (by simp) H1.out).mono ?_
   rintro e wa ⟨va, rfl, hra, hba⟩
   refine ⟨_, rfl, ?_⟩
   have HDa := Aside0.mk (show Below w1.heap.size w1 wa from HD0.out.trans (hba.mono HD0.out.size))
   obtain ⟨Aa, ca, rfl, la, Ca⟩ := Kd.R_reads hra
   have HLa := Aside0.mk la
   have HCa := Aside0.mk Ca
   refine hKc.out _ _ ⟨(blk_cell (blk_below KX1.out HDa.out) 0).trans rfl, (blk_cell (blk_below KX1.out HDa.out) 1).trans rfl, (blk_cell (blk_below KX1.out HDa.out) 2).trans rfl⟩ (fun hH2 => ?_)
   clear hKc Kc hH hra hba HD0 H1 la Ca
   obtain ⟨b1, hb1⟩ : ∃ b, textB x.f0.f0 ++ encN x.f0.f1 = b := ⟨_, rfl⟩
   have hl1 : b1.length ≤ 100 := by
    have t0 := textB_len x.f0.f0
    have n0 := encN_len x.f0.f1
    rw [← hb1, List.length_append]
    omega
   rw [hb1] at HLa HCa ⊢
   have H2 := Aside0.mk (show pannierref07_Lay.f 400 b1 x.f1 = some (b1 ++ (layS [] x.f1).1, 0) from by
    have hv64 := (rightS_le r2).1
    rw [refLay_f b1 (by omega) x.f1 64 (by omega) (rightS_le r2).1 (fun y hy => by have := (right_fine r2 y hy).1; omega) 400 (by omega)]
    unfold layS
    rw [if_pos r2, if_pos r2]
    show some (layL _ _, (0 : Int)) = some (_ ++ layL _ _, 0)
    rw [lay_app x.f1 (b1 ++ encN (x.f1.length : Int)), lay_app x.f1 ([] ++ encN (x.f1.length : Int))]
    simp)
   refine XReg.one (i := 5) (some 18) rfl rfl (by kernel_rfl) (by decide) (fun Kc hKc => ?_)
   refine goes_ Try.func85 (by kernel_rfl) rfl #[.slice Aa b1.length ca, .slice A2 x.f1.length c2] (by rfl) rfl rfl (by (try simp only [List.map_toArray, List.map_cons, List.map_nil]); first | done | rfl) ?_
   refine (pannierref07_Lay.calls 400 Aa ca b1 A2 c2 x.f1 (b1 ++ (layS [] x.f1).1) 0 _ HCa.out HLa.out (Kd.C_below HG2.out (HB1.out.trans (HDa.out.mono HB1.out.size))) HL2.out H2.out).mono ?_
   rintro e wb ⟨vb, rfl, hrb, hbb⟩
   refine ⟨_, rfl, ?_⟩
   have HDb := Aside0.mk (show Below w1.heap.size w1 wb from HDa.out.trans (hbb.mono HDa.out.size))
   refine hKc.out _ _ ⟨(blk_cell (blk_below KX1.out HDb.out) 0).trans rfl, (blk_cell (blk_below KX1.out HDb.out) 1).trans rfl, (blk_cell (blk_below KX1.out HDb.out) 2).trans rfl⟩ (fun hH3 => ?_)
   refine XReg.pu 6 12 (h := ?_)
   refine XReg.pu 7 19 (h := ?_)
   refine XReg.pu 8 20 (h := ?_)
   refine XReg.pu 9 5 (h := ?_)
   refine XReg.pu 10 6 (h := ?_)
   refine done_ (by kernel_rfl) ?_
   clear hKc Kc hH2 hH3 HCa HLa H2 HDa
   obtain ⟨b2, hb2⟩ : ∃ b, b1 ++ (layS [] x.f1).1 = b := ⟨_, rfl⟩
   rw [hb2] at hrb
   have hl2 : b2.length ≤ 4000 := by
    have := layS_len x.f1 r2
    rw [← hb2, List.length_append]
    omega
   obtain ⟨Ab, cb, rfl, lb, Cb⟩ := Kd.R_reads hrb
   have KX2 := Aside0.mk (blk_below KX1.out HDb.out)
   have HB2 := Aside0.mk (HB1.out.trans (HDb.out.mono HB1.out.size))
   have HLb := Aside0.mk lb
   have HCb := Aside0.mk Cb
   have H3 := Aside0.mk (refText32_f b2 x.f2 r3 (by omega) 400 (by omega))
   obtain ⟨b3, hb3⟩ : ∃ b, textS b2 x.f2 = b := ⟨_, rfl⟩
   have hl3 : b3.length ≤ 5000 := by have := textS_len b2 x.f2; rw [← hb3]; omega
   have H4 := Aside0.mk (refText32_f b3 x.f4 r4 (by omega) 400 (by omega))
   rw [hb3] at H3
   clear hrb hbb lb Cb HDb KX1 HB1
   go_wp2
   refine start_ (n := 8) (ds := []) (S := fun w' => w'.cell? ⟨N, 3, none⟩ = some (.string x.f2) ∧ w'.cell? ⟨N, 5, none⟩ = some (.string x.f4)) _ (by kernel_rfl) rfl rfl
    ⟨(blk_cell (blk_drew KX2.out) 3).trans rfl, (blk_cell (blk_drew KX2.out) 5).trans rfl⟩ (fun hH => ?_)
   refine XReg.pu 0 21 (h := ?_)
   refine XReg.pu 1 22 (h := ?_)
   refine XReg.tk 2 23 (h := ?_)
   refine XReg.pu 4 25 (h := ?_)
   refine XReg.tk 5 26 (h := ?_)
   have HD0 := Aside0.mk (show Below wb.heap.size wb wb.drew from below_drew1 (Below.refl _ wb))
   refine XReg.one (i := 3) (some 24) rfl rfl (by kernel_rfl) (by decide) (fun Kc hKc => ?_)
   refine goes_ Try.func83 (by kernel_rfl) rfl #[.slice Ab b2.length cb, .string x.f2] (by rfl) rfl rfl (by (try simp only [List.map_toArray, List.map_cons, List.map_nil]); first | done | rfl) ?_
   refine (pannierref02_Text.calls 400 Ab cb b2 x.f2 b3 _ (Kd.C_drew HCb.out) HLb.out H3.out).mono ?_
   rintro e wc ⟨vc, rfl, hrc, hbc⟩
   refine ⟨_, rfl, ?_⟩
   have HDc := Aside0.mk (show Below wb.heap.size wb wc from HD0.out.trans (hbc.mono HD0.out.size))
   obtain ⟨Ac, cc, rfl, lc, Cc⟩ := Kd.R_reads hrc
   have HLc := Aside0.mk lc
   have HCc := Aside0.mk Cc
   refine hKc.out _ _ ⟨(blk_cell (blk_below KX2.out HDc.out) 3).trans rfl, (blk_cell (blk_below KX2.out HDc.out) 5).trans rfl⟩ (fun hH2 => ?_)
   clear hKc Kc hH hrc hbc HD0 H3 lc Cc HCb HLb
   refine XReg.one (i := 6) (some 27) rfl rfl (by kernel_rfl) (by decide) (fun Kc hKc => ?_)
   refine goes_ Try.func83 (by kernel_rfl) rfl #[.slice Ac b3.length cc, .string x.f4] (by rfl) rfl rfl (by (try simp only [List.map_toArray, List.map_cons, List.map_nil]); first | done | rfl) ?_
   refine (pannierref02_Text.calls 400 Ac cc b3 x.f4 (textS b3 x.f4) _ HCc.out HLc.out H4.out).mono ?_
   rintro e wd ⟨vd, rfl, hrd, hbd⟩
   refine ⟨_, rfl, ?_⟩
   have HDd := Aside0.mk (show Below wb.heap.size wb wd from HDc.out.trans (hbd.mono HDc.out.size))
   refine hKc.out _ _ ⟨(blk_cell (blk_below KX2.out HDd.out) 3).trans rfl, (blk_cell (blk_below KX2.out HDd.out) 5).trans rfl⟩ (fun hH3 => ?_)
   refine XReg.pu 7 5 (h := ?_)
   refine done_ (by kernel_rfl) ?_
   have HSC := Aside0.mk (show w.heap.size ≤ wc.heap.size from Nat.le_trans HB2.out.size HDc.out.size)
   clear hKc Kc hH2 hH3 HCc HLc H4 HDc
   have KX3 := Aside0.mk (blk_below KX2.out HDd.out)
   have HB3 := Aside0.mk (HB2.out.trans (HDd.out.mono HB2.out.size))
   obtain ⟨b4, hb4⟩ : ∃ b, textS b3 x.f4 = b := ⟨_, rfl⟩
   have HQ4 := Aside0.mk hb4
   have HQ3 := Aside0.mk hb3
   have HQ2 := Aside0.mk hb2
   have HQ1 := Aside0.mk hb1
   have hl4 : b4.length ≤ 6000 := by have := textS_len b3 x.f4; rw [← hb4]; omega
   rw [hb4] at hrd
   have HV4 := Aside0.mk (Kd.R_lower (base' := w.heap.size) hrd HSC.out)
   clear hrd hbd hb4
   clear hl3
   have HR := Aside0.mk (show (1 ≤ x.f3 ∧ x.f3 ≤ 3) ∧ (0 ≤ x.f5 ∧ x.f5 ≤ 9999) ∧ x.f6.length ≤ 128 from ⟨r7, ⟨r8, r9⟩, r5⟩)
   have H5 := Aside0.mk (show pannierref02_Number.f 400 b4 (IntKind.u64.wrap x.f3) = some (b4 ++ encN x.f3) from by
    have h := HR.out
    rw [u_id (by omega) (by omega)]
    exact refNumber_f x.f3 (by omega) _ (by omega) 400 (by omega))
   obtain ⟨b5, hb5⟩ : ∃ b, b4 ++ encN x.f3 = b := ⟨_, rfl⟩
   have HQ5 := Aside0.mk hb5
   have hl5 : b5.length ≤ 6010 := by have := encN_len x.f3; rw [← hb5, List.length_append]; omega
   rw [hb5] at H5
   have H6 := Aside0.mk (show pannierref02_Number.f 400 b5 (IntKind.u64.wrap x.f5) = some (b5 ++ encN x.f5) from by
    have h := HR.out
    rw [u_id (by omega) (by omega)]
    exact refNumber_f x.f5 (by omega) _ (by omega) 400 (by omega))
   obtain ⟨b6, hb6⟩ : ∃ b, b5 ++ encN x.f5 = b := ⟨_, rfl⟩
   have HQ6 := Aside0.mk hb6
   have hl6 : b6.length ≤ 6020 := by have := encN_len x.f5; rw [← hb6, List.length_append]; omega
   rw [hb6] at H6
   have H7 := Aside0.mk (show pannierref02_Number.f 400 b6 (x.f6.length : Int) = some (b6 ++ encN (x.f6.length : Int)) from by
    have h := HR.out
    exact refNumber_f (x.f6.length : Int) (by omega) _ (by omega) 400 (by omega))
   obtain ⟨b7, hb7⟩ : ∃ b, b6 ++ encN (x.f6.length : Int) = b := ⟨_, rfl⟩
   have HQ7 := Aside0.mk hb7
   have HL7B := Aside0.mk (show b7.length ≤ 6030 from by have := encN_len (x.f6.length : Int); rw [← hb7, List.length_append]; omega)
   rw [hb7] at H7
   obtain ⟨Ad, cd, rfl, ld, Cd⟩ := Kd.R_reads HV4.out
   have HLd := Aside0.mk ld
   have HCd := Aside0.mk Cd
   clear hb5 hb6 hb7 ld Cd
   go_wp2
   refine start_ (n := 10) (ds := []) (S := fun w' => w'.cell? ⟨N, 4, none⟩ = some (.int .i64 x.f3) ∧ w'.cell? ⟨N, 6, none⟩ = some (.int .i64 x.f5)) _ (by kernel_rfl) rfl rfl
    ⟨(blk_cell (blk_drew KX3.out) 4).trans rfl, (blk_cell (blk_drew KX3.out) 6).trans rfl⟩ (fun hH => ?_)
   refine XReg.pu 0 28 (h := ?_)
   refine XReg.pu 1 29 (h := ?_)
   refine XReg.tk 2 30 (h := ?_)
   refine XReg.pu 3 31 (h := ?_)
   refine XReg.pu 5 33 (h := ?_)
   refine XReg.tk 6 34 (h := ?_)
   refine XReg.pu 7 35 (h := ?_)
   have HD0 := Aside0.mk (show Below wd.heap.size wd wd.drew from below_drew1 (Below.refl _ wd))
   refine XReg.one (i := 4) (some 32) rfl rfl (by kernel_rfl) (by decide) (fun Kc hKc => ?_)
   refine goes_ Try.func84 (by kernel_rfl) rfl #[.slice Ad b4.length cd, .int .u64 (IntKind.u64.wrap x.f3)] (by rfl) rfl rfl (by (try simp only [List.map_toArray, List.map_cons, List.map_nil]); first | done | rfl) ?_
   refine (pannierref02_Number.calls 400 Ad cd b4 _ b5 _ (Kd.C_drew HCd.out) HLd.out H5.out).mono ?_
   rintro e we ⟨ve, rfl, hre, hbe⟩
   refine ⟨_, rfl, ?_⟩
   have HDe := Aside0.mk (show Below wd.heap.size wd we from HD0.out.trans (hbe.mono HD0.out.size))
   obtain ⟨Ae, ce, rfl, le, Ce⟩ := Kd.R_reads hre
   have HLe := Aside0.mk le
   have HCe := Aside0.mk Ce
   refine hKc.out _ _ ⟨(blk_cell (blk_below KX3.out HDe.out) 4).trans rfl, (blk_cell (blk_below KX3.out HDe.out) 6).trans rfl⟩ (fun hH2 => ?_)
   clear hKc Kc hH hre hbe HD0 H5 le Ce HCd HLd
   refine XReg.one (i := 8) (some 36) rfl rfl (by kernel_rfl) (by decide) (fun Kc hKc => ?_)
   refine goes_ Try.func84 (by kernel_rfl) rfl #[.slice Ae b5.length ce, .int .u64 (IntKind.u64.wrap x.f5)] (by rfl) rfl rfl (by (try simp only [List.map_toArray, List.map_cons, List.map_nil]); first | done | rfl) ?_
   refine (pannierref02_Number.calls 400 Ae ce b5 _ b6 _ HCe.out HLe.out H6.out).mono ?_
   rintro e wf ⟨vf, rfl, hrf, hbf⟩
   refine ⟨_, rfl, ?_⟩
   have HDf := Aside0.mk (show Below wd.heap.size wd wf from HDe.out.trans (hbf.mono HDe.out.size))
   refine hKc.out _ _ ⟨(blk_cell (blk_below KX3.out HDf.out) 4).trans rfl, (blk_cell (blk_below KX3.out HDf.out) 6).trans rfl⟩ (fun hH3 => ?_)
   refine XReg.pu 9 5 (h := ?_)
   refine done_ (by kernel_rfl) ?_
   have KX4 := Aside0.mk (blk_below KX3.out HDf.out)
   have HB4 := Aside0.mk (HB3.out.trans (HDf.out.mono HB3.out.size))
   obtain ⟨Af, cf, rfl, lf, Cf⟩ := Kd.R_reads hrf
   have HLf := Aside0.mk lf
   have HCf := Aside0.mk Cf
   clear hKc Kc hH2 hH3 HCe HLe H6 HDe hrf hbf lf Cf
   have e7 : wf.cell? ⟨N, 7, none⟩ = some (.slice A7 x.f6.length c7) := (blk_cell KX4.out 7).trans rfl
   go_wp2_with fail
   refine (pannierref02_Number.calls 400 Af cf b6 _ b7 _ HCf.out HLf.out H7.out).mono ?_
   rintro e wg ⟨vg, rfl, hrg, hbg⟩
   have KX5 := Aside0.mk (blk_below KX4.out hbg)
   have HB5 := Aside0.mk (HB4.out.trans (hbg.mono HB4.out.size))
   have HV5 := Aside0.mk (Kd.R_lower (base' := w.heap.size) hrg HB4.out.size)
   have HW5 := Aside0.mk (Below.refl wg.heap.size wg)
   have HF6 := Aside0.mk r6
   clear hrg hbg HCf HLf H7 e7
   go_wp2
   go_loopw [5, 7] (fun v5 v7 wr => ∃ (i : Nat) (T : List Int), v7 = .int .i64 i ∧ i ≤ x.f6.length ∧ Aside0 (T ++ layL [] (x.f6.drop i) = b7 ++ layL [] x.f6) ∧ Aside0 (T.length ≤ 7000 + 60 * i) ∧ Aside0 (Kd.R (Kd.int .u8) 5 wr w.heap.size (fun _ => True) v5 T) ∧ Aside0 (Below wg.heap.size wg wr)) (fun _ v7 _ => x.f6.length - (intOf v7).toNat)
   case atStart => exact ⟨0, b7, rfl, by omega, ⟨rfl⟩, ⟨by have := HL7B.out; omega⟩, HV5, HW5⟩
   case round =>
    clear HV5 HW5
    obtain ⟨i, T, rfl, hi6, HQT, HLT, HVt, HBt⟩ := hrel
    obtain ⟨At, ct, rfl, lt, Ct⟩ := Kd.R_reads HVt.out
    have HCt := Aside0.mk Ct
    have HLt := Aside0.mk lt
    have e7 : wr.cell? ⟨N, 7, none⟩ = some (.slice A7 x.f6.length c7) := (blk_cell (blk_below KX5.out HBt.out) 7).trans rfl
    clear Ct lt
    by_cases h6 : i < x.f6.length
    · obtain ⟨ad, had, f0, f1⟩ := at_T34 (Kd.C_below HG7.out (HB5.out.trans (HBt.out.mono HB5.out.size))) (i : Int) (by omega) (by omega)
      obtain ⟨d, hd⟩ : ∃ d, rd_T34 x.f6 (i : Int) = d := ⟨_, rfl⟩
      rw [hd] at f0 f1
      simp only [Int.toNat_natCast] at f0 f1
      subst had
      have hb3 : 0 ≤ (i : Int) ∧ (i : Int) < (x.f6.length : Int) := by omega
      have q1 : decide ((i : Int) < (x.f6.length : Int)) = true := by simp; omega
      have hdr := rd_drop x.f6 i h6
      rw [hd] at hdr
      have HDR := Aside0.mk hdr
      have hfd := HF6.out d (by rw [← hd]; unfold rd_T34; rw [Int.toNat_natCast, List.getD_eq_getElem?_getD, List.getElem?_eq_getElem h6]; exact List.getElem_mem h6)
      have HFD := Aside0.mk hfd
      clear hdr hfd hd
      go_wp2_with fail
      refine (pannierref08_dot.calls 400 At ct T d.f0 d.f1 _ _ HCt.out HLt.out (refDotB_f T d HFD.out.1 HFD.out.2.1 HFD.out.2.2 (by have := HLT.out; have := HR.out; omega) 400 (by omega))).mono ?_
      rintro e ws ⟨vs, rfl, hrs, hbs⟩
      have HVs := Aside0.mk (Kd.R_lower (base' := w.heap.size) hrs (Nat.le_trans HB5.out.size (HBt.out.size)))
      have HBs := Aside0.mk (HBt.out.trans (hbs.mono HBt.out.size))
      clear hrs hbs f0 f1 e7
      go_wp2
      go_round
      case measure => simp [intOf]; omega
      case rel => exact ⟨i + 1, _, by go_num, by omega, ⟨by
       have h := HQT.out
       rw [HDR.out, layL, lay_app] at h
       rw [← h]
       simp [textS, textB]⟩, ⟨by
       have h1 := textB_len d.f0
       have h2 := encN_len d.f1
       have h3 := HLT.out
       have h4 := HFD.out.1
       rw [List.length_append, List.length_append]
       omega⟩, HVs, HBs⟩
    · have hi : i = x.f6.length := by omega
      subst hi
      have q1 : decide ((x.f6.length : Int) < (x.f6.length : Int)) = false := by simp
      have hcv := own_string (P := Try.prog) Try.underlying63 Try.underlying5 Try.underlying9 (Kd.own_of_R HVt.out)
      have hT : T = layO x := by
       have h := HQT.out
       rw [List.drop_length, ← HQ7.out, ← HQ6.out, ← HQ5.out, ← HQ4.out, ← HQ3.out, ← HQ2.out, ← HQ1.out] at h
       unfold layO
       simpa [textS, textB, layL, List.append_assoc] using h
      have HT := Aside0.mk hT
      clear hT
      go_wp2
      go_ret2
      rw [HLF.out, HT.out]
      exact ⟨rfl, by first | exact HB5.out.trans (HBt.out.mono HB5.out.size) | (rw [← hN]; exact HB5.out.trans (HBt.out.mono HB5.out.size))⟩
end Go.Proofs.Ytenbkljgmgdegaa.PO
end
section
namespace Go.Proofs.Ytenbkljgmgdegaa.PO
open Go.RowKit Go.Proofs.YtenbkljgmgdegaaW.PrintWords Go.Proofs.YtenbkljgmgdegaaW.PrintLast Go.Proofs.YtenbkljgmgdegaaW.PrintMore Go.Proofs.Ytenbkljgmgdegaa.XW
open Go.Proofs.Ytenbkljgmgdegaa.XRange Go.Proofs.Ytenbkljgmgdegaa.XMap Go.Proofs.Ytenbkljgmgdegaa.XSeq
set_option linter.unusedVariables false
set_option linter.unusedSimpArgs false
set_option maxHeartbeats 8000000 in
set_option maxRecDepth 100000 in
theorem refEqualO_calls (x y : S36) (A2 : Option Addr) (c2 : Nat) (A7 : Option Addr) (c7 : Nat) (B2 : Option Addr) (d2 : Nat) (B7 : Option Addr) (d7 : Nat) (w : World) (l2 : x.f1.length ≤ c2) (g2 : Kd.C k34 w A2 x.f1.length x.f1) (l7 : x.f6.length ≤ c7) (g7 : Kd.C k34 w A7 x.f6.length x.f6)
 (m2 : y.f1.length ≤ d2) (h2 : Kd.C k34 w B2 y.f1.length y.f1) (m7 : y.f6.length ≤ d7) (h7 : Kd.C k34 w B7 y.f6.length y.f6) :
 Calls Try.prog 48 #[.agg #[.string x.f0.f0, .int .i64 x.f0.f1, .slice A2 x.f1.length c2, .string x.f2, .int .i64 x.f3, .string x.f4, .int .i64 x.f5, .slice A7 x.f6.length c7], .agg #[.string y.f0.f0, .int .i64 y.f0.f1, .slice B2 y.f1.length d2, .string y.f2, .int .i64 y.f3, .string y.f4, .int .i64 y.f5, .slice B7 y.f6.length d7]] w
  fun e w' => e = .returned (.bool (decide (x = y))) ∧ Below w.heap.size w w' := by
 have HG2 := Aside0.mk g2
 have HG7 := Aside0.mk g7
 have HL2 := Aside0.mk l2
 have HL7 := Aside0.mk l7
 have HH2 := Aside0.mk h2
 have HH7 := Aside0.mk h7
 have HM2 := Aside0.mk m2
 have HM7 := Aside0.mk m7
 have HS2 := Aside0.mk (refSame_f x.f1 y.f1 g2.2.1 (x.f1.length + 1) (by omega))
 have HS7 := Aside0.mk (refSame_f x.f6 y.f6 g7.2.1 (x.f6.length + 1) (by omega))
 clear l2 g2 l7 g7 m2 h2 m7 h7
 obtain ⟨N, hN⟩ : ∃ N, w.heap.size = N := ⟨_, rfl⟩
 go_enter Try.func48, Try.ntmps48
 obtain ⟨w0, hw0⟩ : ∃ w0, (w.alloc (.cells #[.string x.f0.f0, .int .i64 x.f0.f1, .slice A2 x.f1.length c2, .string x.f2, .int .i64 x.f3, .string x.f4, .int .i64 x.f5, .slice A7 x.f6.length c7] 36)).alloc (.cells #[.string y.f0.f0, .int .i64 y.f0.f1, .slice B2 y.f1.length d2, .string y.f2, .int .i64 y.f3, .string y.f4, .int .i64 y.f5, .slice B7 y.f6.length d7] 36) = w0 := ⟨_, rfl⟩
 have hb0 : Below w.heap.size w w0 := by rw [← hw0]; exact ((Below.refl _ w).alloc (Nat.le_refl _) _).alloc (by simp) _
 have kx : w0.heap[N]? = some (.cells #[.string x.f0.f0, .int .i64 x.f0.f1, .slice A2 x.f1.length c2, .string x.f2, .int .i64 x.f3, .string x.f4, .int .i64 x.f5, .slice A7 x.f6.length c7] 36 (0, 0)) := by rw [← hw0, ← hN]; exact blk_alloc (World.alloc_heap_new w _) _
 have ky : w0.heap[N + 1]? = some (.cells #[.string y.f0.f0, .int .i64 y.f0.f1, .slice B2 y.f1.length d2, .string y.f2, .int .i64 y.f3, .string y.f4, .int .i64 y.f5, .slice B7 y.f6.length d7] 36 (0, 0)) := by
  rw [← hw0, ← hN]
  have h := World.alloc_heap_new (w.alloc (.cells #[.string x.f0.f0, .int .i64 x.f0.f1, .slice A2 x.f1.length c2, .string x.f2, .int .i64 x.f3, .string x.f4, .int .i64 x.f5, .slice A7 x.f6.length c7] 36)) (.cells #[.string y.f0.f0, .int .i64 y.f0.f1, .slice B2 y.f1.length d2, .string y.f2, .int .i64 y.f3, .string y.f4, .int .i64 y.f5, .slice B7 y.f6.length d7] 36)
  simpa using h
 have KX := Aside0.mk kx
 have KY := Aside0.mk ky
 have HB := Aside0.mk hb0
 clear kx ky hb0
 obtain ⟨n0, n1, n2, n3, n4, n5, n6, n7⟩ := cells8 KX.out
 obtain ⟨p0, p1, p2, p3, p4, p5, p6, p7⟩ := cells8 KY.out
 go_wp2_with fail
 refine (pannierref07_Same.calls (x.f1.length + 1) A2 c2 x.f1 B2 d2 y.f1 _ _ (Kd.C_below HG2.out HB.out) HL2.out (Kd.C_below HH2.out HB.out) HM2.out HS2.out).mono ?_
 rintro e w1 ⟨rfl, hd1⟩
 have KX1 := Aside0.mk (blk_below KX.out hd1.below)
 have KY1 := Aside0.mk (blk_below KY.out hd1.below)
 have HB1 := Aside0.mk (HB.out.trans (hd1.below.mono HB.out.size))
 clear n0 n1 n2 n3 n4 n5 n6 n7 p0 p1 p2 p3 p4 p5 p6 p7 hd1 KX KY HB hw0
 obtain ⟨n0, n1, n2, n3, n4, n5, n6, n7⟩ := cells8 KX1.out
 obtain ⟨p0, p1, p2, p3, p4, p5, p6, p7⟩ := cells8 KY1.out
 go_wp2_with fail
 refine (pannierref07_Same.calls (x.f6.length + 1) A7 c7 x.f6 B7 d7 y.f6 _ _ (Kd.C_below HG7.out HB1.out) HL7.out (Kd.C_below HH7.out HB1.out) HM7.out HS7.out).mono ?_
 rintro e w2 ⟨rfl, hd2⟩
 have KX2 := Aside0.mk (blk_below KX1.out hd2.below)
 have KY2 := Aside0.mk (blk_below KY1.out hd2.below)
 have HB2 := Aside0.mk (HB1.out.trans (hd2.below.mono HB1.out.size))
 clear n0 n1 n2 n3 n4 n5 n6 n7 p0 p1 p2 p3 p4 p5 p6 p7 hd2 KX1 KY1 HB1
 obtain ⟨n0, n1, n2, n3, n4, n5, n6, n7⟩ := cells8 KX2.out
 obtain ⟨p0, p1, p2, p3, p4, p5, p6, p7⟩ := cells8 KY2.out
 go_wp2
 all_goals
  go_ret
  refine ⟨?_, by first | exact HB2.out | (rw [← hN]; exact HB2.out)⟩
  congr 2
  simp only [Bool.eq_iff_iff, decide_eq_true_eq, eqO_iff]
  first | (simp_all; done) | (simp_all; rfl)
set_option maxHeartbeats 8000000 in
set_option maxRecDepth 100000 in
theorem refSameO_calls (x y : S36) (A2 : Option Addr) (c2 : Nat) (A7 : Option Addr) (c7 : Nat) (B2 : Option Addr) (d2 : Nat) (B7 : Option Addr) (d7 : Nat) (w : World) (l2 : x.f1.length ≤ c2) (g2 : Kd.C k34 w A2 x.f1.length x.f1) (l7 : x.f6.length ≤ c7) (g7 : Kd.C k34 w A7 x.f6.length x.f6)
 (m2 : y.f1.length ≤ d2) (h2 : Kd.C k34 w B2 y.f1.length y.f1) (m7 : y.f6.length ≤ d7) (h7 : Kd.C k34 w B7 y.f6.length y.f6) (m : Nat) (hm : m ≤ 9223372036854775807) (hf : x.f0.f0.size ≤ m ∧ sizes m x.f1 ∧ sizes m x.f6) (hf2 : y.f0.f0.size ≤ m ∧ sizes m y.f1 ∧ sizes m y.f6) :
 Calls Try.prog 47 #[.agg #[.string x.f0.f0, .int .i64 x.f0.f1, .slice A2 x.f1.length c2, .string x.f2, .int .i64 x.f3, .string x.f4, .int .i64 x.f5, .slice A7 x.f6.length c7], .agg #[.string y.f0.f0, .int .i64 y.f0.f1, .slice B2 y.f1.length d2, .string y.f2, .int .i64 y.f3, .string y.f4, .int .i64 y.f5, .slice B7 y.f6.length d7]] w
  fun e w' => e = .returned (.bool (sameO x y)) ∧ Below w.heap.size w w' := by
 have HG2 := Aside0.mk g2
 have HG7 := Aside0.mk g7
 have HL2 := Aside0.mk l2
 have HL7 := Aside0.mk l7
 have HH2 := Aside0.mk h2
 have HH7 := Aside0.mk h7
 have HM2 := Aside0.mk m2
 have HM7 := Aside0.mk m7
 have HF := Aside0.mk hf
 have HF2 := Aside0.mk hf2
 have HMM := Aside0.mk hm
 clear l2 g2 l7 g7 m2 h2 m7 h7 hf hf2 hm
 obtain ⟨N, hN⟩ : ∃ N, w.heap.size = N := ⟨_, rfl⟩
 go_enter Try.func47, Try.ntmps47
 obtain ⟨w0, hw0⟩ : ∃ w0, (w.alloc (.cells #[.string x.f0.f0, .int .i64 x.f0.f1, .slice A2 x.f1.length c2, .string x.f2, .int .i64 x.f3, .string x.f4, .int .i64 x.f5, .slice A7 x.f6.length c7] 36)).alloc (.cells #[.string y.f0.f0, .int .i64 y.f0.f1, .slice B2 y.f1.length d2, .string y.f2, .int .i64 y.f3, .string y.f4, .int .i64 y.f5, .slice B7 y.f6.length d7] 36) = w0 := ⟨_, rfl⟩
 have hb0 : Below w.heap.size w w0 := by rw [← hw0]; exact ((Below.refl _ w).alloc (Nat.le_refl _) _).alloc (by simp) _
 have kx : w0.heap[N]? = some (.cells #[.string x.f0.f0, .int .i64 x.f0.f1, .slice A2 x.f1.length c2, .string x.f2, .int .i64 x.f3, .string x.f4, .int .i64 x.f5, .slice A7 x.f6.length c7] 36 (0, 0)) := by rw [← hw0, ← hN]; exact blk_alloc (World.alloc_heap_new w _) _
 have ky : w0.heap[N + 1]? = some (.cells #[.string y.f0.f0, .int .i64 y.f0.f1, .slice B2 y.f1.length d2, .string y.f2, .int .i64 y.f3, .string y.f4, .int .i64 y.f5, .slice B7 y.f6.length d7] 36 (0, 0)) := by
  rw [← hw0, ← hN]
  have h := World.alloc_heap_new (w.alloc (.cells #[.string x.f0.f0, .int .i64 x.f0.f1, .slice A2 x.f1.length c2, .string x.f2, .int .i64 x.f3, .string x.f4, .int .i64 x.f5, .slice A7 x.f6.length c7] 36)) (.cells #[.string y.f0.f0, .int .i64 y.f0.f1, .slice B2 y.f1.length d2, .string y.f2, .int .i64 y.f3, .string y.f4, .int .i64 y.f5, .slice B7 y.f6.length d7] 36)
  simpa using h
 have KX := Aside0.mk kx
 have KY := Aside0.mk ky
 have HB := Aside0.mk hb0
 clear kx ky hb0
 obtain ⟨n0, n1, n2, n3, n4, n5, n6, n7⟩ := cells8 KX.out
 go_wp2_with fail
 refine (refRightO_calls x A2 c2 A7 c7 _ HL2.out (Kd.C_below HG2.out HB.out) HL7.out (Kd.C_below HG7.out HB.out) m HMM.out HF.out.1 HF.out.2.1 HF.out.2.2).mono ?_
 rintro e w1 ⟨rfl, hb1⟩
 have KX1 := Aside0.mk (blk_below KX.out hb1)
 have KY1 := Aside0.mk (blk_below KY.out hb1)
 have HB1 := Aside0.mk (HB.out.trans (hb1.mono HB.out.size))
 clear n0 n1 n2 n3 n4 n5 n6 n7 hb1 KX KY HB hw0
 obtain ⟨p0, p1, p2, p3, p4, p5, p6, p7⟩ := cells8 KY1.out
 go_wp2_with fail
 refine (refRightO_calls y B2 d2 B7 d7 _ HM2.out (Kd.C_below HH2.out HB1.out) HM7.out (Kd.C_below HH7.out HB1.out) m HMM.out HF2.out.1 HF2.out.2.1 HF2.out.2.2).mono ?_
 rintro e w2 ⟨rfl, hb2⟩
 have KX2 := Aside0.mk (blk_below KX1.out hb2)
 have KY2 := Aside0.mk (blk_below KY1.out hb2)
 have HB2 := Aside0.mk (HB1.out.trans (hb2.mono HB1.out.size))
 clear p0 p1 p2 p3 p4 p5 p6 p7 hb2 KX1 KY1 HB1
 obtain ⟨n0, n1, n2, n3, n4, n5, n6, n7⟩ := cells8 KX2.out
 obtain ⟨p0, p1, p2, p3, p4, p5, p6, p7⟩ := cells8 KY2.out
 obtain ⟨bx, hbx⟩ : ∃ b, rightO x = b := ⟨_, rfl⟩
 obtain ⟨bz, hbz⟩ : ∃ b, rightO y = b := ⟨_, rfl⟩
 have HX := Aside0.mk hbx
 have HY := Aside0.mk hbz
 rw [hbx, hbz]
 clear hbx hbz
 by_cases h : bx = true ∧ bz = true
 · obtain ⟨rfl, rfl⟩ := h
   go_wp2_with fail
   refine (refEqualO_calls x y A2 c2 A7 c7 B2 d2 B7 d7 _ HL2.out (Kd.C_below HG2.out HB2.out) HL7.out (Kd.C_below HG7.out HB2.out) HM2.out (Kd.C_below HH2.out HB2.out) HM7.out (Kd.C_below HH7.out HB2.out)).mono ?_
   rintro e w3 ⟨rfl, hb3⟩
   have HB3 := Aside0.mk (HB2.out.trans (hb3.mono HB2.out.size))
   clear hb3 n0 n1 n2 n3 n4 n5 n6 n7 p0 p1 p2 p3 p4 p5 p6 p7
   go_wp2
   go_ret
   exact ⟨by rw [sameO_of HX.out HY.out]; rfl, by first | exact HB3.out | (rw [← hN]; exact HB3.out)⟩
 · have hc : bx = false ∨ (bx = true ∧ bz = false) := by cases bx <;> cases bz <;> simp_all
   clear h
   rcases hc with rfl | ⟨rfl, rfl⟩
   all_goals
    go_wp2
    go_ret
    exact ⟨by unfold sameO; rw [HX.out]; first | rfl | (rw [HY.out]; rfl), by first | exact HB2.out | (rw [← hN]; exact HB2.out)⟩
end Go.Proofs.Ytenbkljgmgdegaa.PO
end
section
namespace Go.Proofs.Ytenbkljgmgdegaa.PO
open Go.RowKit Go.Proofs.YtenbkljgmgdegaaW.PrintWords Go.Proofs.YtenbkljgmgdegaaW.PrintLast Go.Proofs.YtenbkljgmgdegaaW.PrintMore Go.Proofs.Ytenbkljgmgdegaa.XW
open Go.Proofs.Ytenbkljgmgdegaa.XRange Go.Proofs.Ytenbkljgmgdegaa.XMap Go.Proofs.Ytenbkljgmgdegaa.XSeq
set_option linter.unusedVariables false
set_option linter.unusedSimpArgs false
set_option maxHeartbeats 8000000 in
set_option maxRecDepth 100000 in
theorem orderWords_calls (w : World) (x : S36) (A2 : Option Addr) (c2 : Nat) (A7 : Option Addr) (c7 : Nat) (y : S36) (B2 : Option Addr) (d2 : Nat) (B7 : Option Addr) (d7 : Nat) (t : ByteArray)
 (l2 : x.f1.length ≤ c2) (g2 : Kd.C k34 w A2 x.f1.length x.f1) (l7 : x.f6.length ≤ c7) (g7 : Kd.C k34 w A7 x.f6.length x.f6) (hx : WfOp x)
 (m2 : y.f1.length ≤ d2) (h2 : Kd.C k34 w B2 y.f1.length y.f1) (m7 : y.f6.length ≤ d7) (h7 : Kd.C k34 w B7 y.f6.length y.f6) (hy : WfOp y) (ht : t.size ≤ 140737488351232) :
 Calls Try.prog 13 #[.agg #[.string x.f0.f0, .int .i64 x.f0.f1, .slice A2 x.f1.length c2, .string x.f2, .int .i64 x.f3, .string x.f4, .int .i64 x.f5, .slice A7 x.f6.length c7], .agg #[.string y.f0.f0, .int .i64 y.f0.f1, .slice B2 y.f1.length d2, .string y.f2, .int .i64 y.f3, .string y.f4, .int .i64 y.f5, .slice B7 y.f6.length d7], .string t] w fun e w' => e = .returned (.bool true) ∧ Below w.heap.size w w' := by
 have HG2 := Aside0.mk g2
 have HG7 := Aside0.mk g7
 have HL2 := Aside0.mk l2
 have HL7 := Aside0.mk l7
 have HH2 := Aside0.mk h2
 have HH7 := Aside0.mk h7
 have HM2 := Aside0.mk m2
 have HM7 := Aside0.mk m7
 obtain ⟨m, hm, hx0, hx1, hx6, hy0, hy1, hy6⟩ : ∃ m, m ≤ 9223372036854775807 ∧ x.f0.f0.size ≤ m ∧ sizes m x.f1 ∧ sizes m x.f6 ∧ y.f0.f0.size ≤ m ∧ sizes m y.f1 ∧ sizes m y.f6 :=
  ⟨maxLen, by unfold maxLen; omega, hx.1, hx.2.1, hx.2.2.2.2.2.2, hy.1, hy.2.1, hy.2.2.2.2.2.2⟩
 have HMM := Aside0.mk (show m ≤ 9223372036854775807 from hm)
 have HFX := Aside0.mk (show x.f0.f0.size ≤ m ∧ sizes m x.f1 ∧ sizes m x.f6 from ⟨hx0, hx1, hx6⟩)
 have HFY := Aside0.mk (show y.f0.f0.size ≤ m ∧ sizes m y.f1 ∧ sizes m y.f6 from ⟨hy0, hy1, hy6⟩)
 obtain ⟨⟨lu, le⟩, hlf⟩ : ∃ r, layF x = r := ⟨_, rfl⟩
 have HLF := Aside0.mk hlf
 obtain ⟨br, hbr⟩ : ∃ b, rightO x = b := ⟨_, rfl⟩
 have HBR := Aside0.mk hbr
 obtain ⟨bs, hbs⟩ : ∃ b, sameO x y = b := ⟨_, rfl⟩
 have HBS := Aside0.mk hbs
 clear l2 g2 l7 g7 m2 h2 m7 h7 hx hy hm hx0 hx1 hx6 hy0 hy1 hy6 hlf hbr hbs
 obtain ⟨N, hN⟩ : ∃ N, w.heap.size = N := ⟨_, rfl⟩
 go_enter Try.func13, Try.ntmps13
 go_wp2_with fail
 obtain ⟨w0, hw0⟩ : ∃ w0, (w.alloc (.cells #[.string x.f0.f0, .int .i64 x.f0.f1, .slice A2 x.f1.length c2, .string x.f2, .int .i64 x.f3, .string x.f4, .int .i64 x.f5, .slice A7 x.f6.length c7] 36)).alloc (.cells #[.string y.f0.f0, .int .i64 y.f0.f1, .slice B2 y.f1.length d2, .string y.f2, .int .i64 y.f3, .string y.f4, .int .i64 y.f5, .slice B7 y.f6.length d7] 36) = w0 := ⟨_, rfl⟩
 have hb0 : Below w.heap.size w w0 := by rw [← hw0]; exact ((Below.refl _ w).alloc (Nat.le_refl _) _).alloc (by simp) _
 have kx : w0.heap[N]? = some (.cells #[.string x.f0.f0, .int .i64 x.f0.f1, .slice A2 x.f1.length c2, .string x.f2, .int .i64 x.f3, .string x.f4, .int .i64 x.f5, .slice A7 x.f6.length c7] 36 (0, 0)) := by rw [← hw0, ← hN]; exact blk_alloc (World.alloc_heap_new w _) _
 have ky : w0.heap[N + 1]? = some (.cells #[.string y.f0.f0, .int .i64 y.f0.f1, .slice B2 y.f1.length d2, .string y.f2, .int .i64 y.f3, .string y.f4, .int .i64 y.f5, .slice B7 y.f6.length d7] 36 (0, 0)) := by
  rw [← hw0, ← hN]
  have h := World.alloc_heap_new (w.alloc (.cells #[.string x.f0.f0, .int .i64 x.f0.f1, .slice A2 x.f1.length c2, .string x.f2, .int .i64 x.f3, .string x.f4, .int .i64 x.f5, .slice A7 x.f6.length c7] 36)) (.cells #[.string y.f0.f0, .int .i64 y.f0.f1, .slice B2 y.f1.length d2, .string y.f2, .int .i64 y.f3, .string y.f4, .int .i64 y.f5, .slice B7 y.f6.length d7] 36)
  simpa using h
 rw [hw0]
 refine (shown_calls _).mono ?_
 rintro e w1 ⟨rfl, hb1⟩
 have KX1 := Aside0.mk (blk_below kx hb1)
 have KY1 := Aside0.mk (blk_below ky hb1)
 have HB1 := Aside0.mk (hb0.trans (hb1.mono hb0.size))
 clear hb0 hb1 kx ky hw0
 obtain ⟨n0, n1, n2, n3, n4, n5, n6, n7⟩ := cells8 KX1.out
 go_wp2_with fail
 refine (layO_calls x A2 c2 A7 c7 _ HL2.out (Kd.C_below HG2.out HB1.out) HL7.out (Kd.C_below HG7.out HB1.out)).mono ?_
 simp only [HLF.out]
 rintro e w2 ⟨rfl, hb2⟩
 have KX2 := Aside0.mk (blk_below KX1.out hb2)
 have KY2 := Aside0.mk (blk_below KY1.out hb2)
 have HB2 := Aside0.mk (HB1.out.trans (hb2.mono HB1.out.size))
 clear n0 n1 n2 n3 n4 n5 n6 n7 hb2 KX1 KY1 HB1
 obtain ⟨n0, n1, n2, n3, n4, n5, n6, n7⟩ := cells8 KX2.out
 go_wp2_with fail
 refine (refLayO_calls x A2 c2 A7 c7 _ HL2.out (Kd.C_below HG2.out HB2.out) HL7.out (Kd.C_below HG7.out HB2.out) m HMM.out HFX.out.1 HFX.out.2.1 HFX.out.2.2).mono ?_
 simp only [HLF.out]
 rintro e w3 ⟨rfl, hb3⟩
 have KX3 := Aside0.mk (blk_below KX2.out hb3)
 have KY3 := Aside0.mk (blk_below KY2.out hb3)
 have HB3 := Aside0.mk (HB2.out.trans (hb3.mono HB2.out.size))
 clear n0 n1 n2 n3 n4 n5 n6 n7 hb3 KX2 KY2 HB2
 go_wp2_with fail
 obtain ⟨l, hl⟩ : ∃ l, bytesOf t = l := ⟨_, rfl⟩
 have hB : isB l := by rw [← hl]; exact bytes_B t
 obtain ⟨⟨z, er⟩, hz⟩ : ∃ r, readO l = r := ⟨_, rfl⟩
 have hz2 : refO l = (z, er) := (refO_eq hB).trans hz
 have HZ := Aside0.mk hz
 have HZ2 := Aside0.mk hz2
 have HLL := Aside0.mk hl
 clear hB hz hz2 hl
 refine (read43 w3 t ht).mono ?_
 rintro e w4 ⟨v2, v7, rfl, hr2, hr7, hb4⟩
 rw [HLL.out, HZ.out] at hr2 hr7 ⊢
 dsimp only at hr2 hr7 ⊢
 obtain ⟨C2, e2, rfl⟩ := Kd.R_slice hr2
 obtain ⟨C7, e7, rfl⟩ := Kd.R_slice hr7
 have HE2 := Aside0.mk hr2
 have HE7 := Aside0.mk hr7
 have KX4 := Aside0.mk (blk_below KX3.out hb4)
 have KY4 := Aside0.mk (blk_below KY3.out hb4)
 have HB4 := Aside0.mk (HB3.out.trans (hb4.mono HB3.out.size))
 clear hr2 hr7 hb4 KX3 KY3 HB3
 obtain ⟨M, hM⟩ : ∃ M, w4.heap.size = M := ⟨_, rfl⟩
 obtain ⟨w5, hw5⟩ : ∃ w5, w4.alloc (.cells #[.string z.f0.f0, .int .i64 z.f0.f1, .slice C2 z.f1.length e2, .string z.f2, .int .i64 z.f3, .string z.f4, .int .i64 z.f5, .slice C7 z.f6.length e7] 36) = w5 := ⟨_, rfl⟩
 have hb5 : Below w4.heap.size w4 w5 := by rw [← hw5]; exact (Below.refl _ w4).alloc (Nat.le_refl _) _
 have KZ5 := Aside0.mk (show w5.heap[M]? = some (.cells #[.string z.f0.f0, .int .i64 z.f0.f1, .slice C2 z.f1.length e2, .string z.f2, .int .i64 z.f3, .string z.f4, .int .i64 z.f5, .slice C7 z.f6.length e7] 36 (0, 0)) from by rw [← hw5, ← hM]; exact World.alloc_heap_new w4 _)
 have KX5 := Aside0.mk (blk_below KX4.out hb5)
 have KY5 := Aside0.mk (blk_below KY4.out hb5)
 have HB5 := Aside0.mk (HB4.out.trans (hb5.mono HB4.out.size))
 have HE25 := Aside0.mk (Kd.R_below HE2.out hb5)
 have HE75 := Aside0.mk (Kd.R_below HE7.out hb5)
 clear hb5 KX4 KY4 HB4 HE2 HE7
 go_wp2_with fail
 try rw [hw5]
 try rw [hM]
 clear hw5 hM
 refine (read44 w5 t ht).mono ?_
 rintro e w6 ⟨v2, v7, rfl, hr2, hr7, hb6⟩
 rw [HLL.out, HZ2.out] at hr2 hr7 ⊢
 dsimp only at hr2 hr7 ⊢
 obtain ⟨D2, k2, rfl⟩ := Kd.R_slice hr2
 obtain ⟨D7, k7, rfl⟩ := Kd.R_slice hr7
 obtain ⟨M1, hM1⟩ : ∃ M, w6.heap.size = M := ⟨_, rfl⟩
 obtain ⟨w7, hw7⟩ : ∃ w7, w6.alloc (.cells #[.string z.f0.f0, .int .i64 z.f0.f1, .slice D2 z.f1.length k2, .string z.f2, .int .i64 z.f3, .string z.f4, .int .i64 z.f5, .slice D7 z.f6.length k7] 36) = w7 := ⟨_, rfl⟩
 have hb7 : Below w6.heap.size w6 w7 := by rw [← hw7]; exact (Below.refl _ w6).alloc (Nat.le_refl _) _
 have KU := Aside0.mk (show w7.heap[M1]? = some (.cells #[.string z.f0.f0, .int .i64 z.f0.f1, .slice D2 z.f1.length k2, .string z.f2, .int .i64 z.f3, .string z.f4, .int .i64 z.f5, .slice D7 z.f6.length k7] 36 (0, 0)) from by rw [← hw7, ← hM1]; exact World.alloc_heap_new w6 _)
 have KX := Aside0.mk (blk_below (blk_below KX5.out hb6) hb7)
 have KY := Aside0.mk (blk_below (blk_below KY5.out hb6) hb7)
 have KZ := Aside0.mk (blk_below (blk_below KZ5.out hb6) hb7)
 have HB := Aside0.mk ((HB5.out.trans (hb6.mono HB5.out.size)).trans (hb7.mono (HB5.out.trans (hb6.mono HB5.out.size)).size))
 have HE2 := Aside0.mk (Kd.R_below (Kd.R_below HE25.out hb6) hb7)
 have HE7 := Aside0.mk (Kd.R_below (Kd.R_below HE75.out hb6) hb7)
 have HU2 := Aside0.mk (Kd.R_below hr2 hb7)
 have HU7 := Aside0.mk (Kd.R_below hr7 hb7)
 clear hb6 hb7 hr2 hr7 KX5 KY5 KZ5 HB5 HE25 HE75
 go_wp2_with fail
 try rw [hw7]
 try rw [hM1]
 clear hw7 hM1
 refine start_ (n := 38) (ds := []) (S := fun w' => Cells8 w' N (.string x.f0.f0) (.int .i64 x.f0.f1) (.slice A2 x.f1.length c2) (.string x.f2) (.int .i64 x.f3) (.string x.f4) (.int .i64 x.f5) (.slice A7 x.f6.length c7) ∧ Cells8 w' (N + 1) (.string y.f0.f0) (.int .i64 y.f0.f1) (.slice B2 y.f1.length d2) (.string y.f2) (.int .i64 y.f3) (.string y.f4) (.int .i64 y.f5) (.slice B7 y.f6.length d7) ∧ Cells8 w' M (.string z.f0.f0) (.int .i64 z.f0.f1) (.slice C2 z.f1.length e2) (.string z.f2) (.int .i64 z.f3) (.string z.f4) (.int .i64 z.f5) (.slice C7 z.f6.length e7) ∧ Cells8 w' M1 (.string z.f0.f0) (.int .i64 z.f0.f1) (.slice D2 z.f1.length k2) (.string z.f2) (.int .i64 z.f3) (.string z.f4) (.int .i64 z.f5) (.slice D7 z.f6.length k7)) _ (by kernel_rfl) rfl rfl ⟨cells8 (blk_drew KX.out), cells8 (blk_drew KY.out), cells8 (blk_drew KZ.out), cells8 (blk_drew KU.out)⟩ (fun hH => ?_)
 refine XReg.pu 0 37 (h := ?_)
 refine XReg.pu 1 38 (h := ?_)
 refine XReg.tk 2 39 (hy := by (intro w' hS_; obtain ⟨⟨s0, s1, s2, s3, s4, s5, s6, s7⟩, _⟩ := hS_; go_simp; with_reducible rfl)) (h := ?_)
 refine XReg.tk 4 41 (hy := by (intro w' hS_; obtain ⟨⟨s0, s1, s2, s3, s4, s5, s6, s7⟩, _⟩ := hS_; go_simp; with_reducible rfl)) (h := ?_)
 have HD0 := Aside0.mk (show Below w7.heap.size w7 w7.drew from below_drew1 (Below.refl _ w7))
 clear hH
 refine XReg.one (i := 3) (some 40) rfl rfl (by kernel_rfl) (by decide) (fun Kc hKc => ?_)
 refine goes_ Try.func45 (by kernel_rfl) rfl #[.agg #[.string x.f0.f0, .int .i64 x.f0.f1, .slice A2 x.f1.length c2, .string x.f2, .int .i64 x.f3, .string x.f4, .int .i64 x.f5, .slice A7 x.f6.length c7]] (by rfl) rfl rfl (by (try simp only [List.map_toArray, List.map_cons, List.map_nil]); first | done | rfl) ?_
 refine (orderRight_calls x A2 c2 A7 c7 _ HL2.out (Kd.C_below HG2.out (HB.out.trans (HD0.out.mono HB.out.size))) HL7.out (Kd.C_below HG7.out (HB.out.trans (HD0.out.mono HB.out.size)))).mono ?_
 rw [HBR.out]
 rintro e wc1 ⟨rfl, hb⟩
 refine ⟨_, rfl, ?_⟩
 have HD1 := Aside0.mk (show Below w7.heap.size w7 wc1 from HD0.out.trans (hb.mono HD0.out.size))
 refine hKc.out _ _ ⟨cells8 (blk_below KX.out HD1.out), cells8 (blk_below KY.out HD1.out), cells8 (blk_below KZ.out HD1.out), cells8 (blk_below KU.out HD1.out)⟩ (fun hH1 => ?_)
 clear hKc Kc hb HD0
 refine XReg.one (i := 5) (some 42) rfl rfl (by kernel_rfl) (by decide) (fun Kc hKc => ?_)
 refine goes_ Try.func46 (by kernel_rfl) rfl #[.agg #[.string x.f0.f0, .int .i64 x.f0.f1, .slice A2 x.f1.length c2, .string x.f2, .int .i64 x.f3, .string x.f4, .int .i64 x.f5, .slice A7 x.f6.length c7]] (by rfl) rfl rfl (by (try simp only [List.map_toArray, List.map_cons, List.map_nil]); first | done | rfl) ?_
 refine (refRightO_calls x A2 c2 A7 c7 _ HL2.out (Kd.C_below HG2.out (HB.out.trans (HD1.out.mono HB.out.size))) HL7.out (Kd.C_below HG7.out (HB.out.trans (HD1.out.mono HB.out.size))) m HMM.out HFX.out.1 HFX.out.2.1 HFX.out.2.2).mono ?_
 rw [HBR.out]
 rintro e wc2 ⟨rfl, hb⟩
 refine ⟨_, rfl, ?_⟩
 have HD2 := Aside0.mk (show Below w7.heap.size w7 wc2 from HD1.out.trans (hb.mono HD1.out.size))
 refine hKc.out _ _ ⟨cells8 (blk_below KX.out HD2.out), cells8 (blk_below KY.out HD2.out), cells8 (blk_below KZ.out HD2.out), cells8 (blk_below KU.out HD2.out)⟩ (fun hH2 => ?_)
 clear hKc Kc hb HD1 hH1
 refine XReg.pu 6 43 (h := ?_)
 refine XReg.pu 7 44 (h := ?_)
 refine XReg.pu 8 45 (h := ?_)
 refine XReg.tk 9 46 (hy := by (intro w' hS_; obtain ⟨⟨s0, s1, s2, s3, s4, s5, s6, s7⟩, _⟩ := hS_; go_simp; with_reducible rfl)) (h := ?_)
 refine XReg.tk 10 47 (hy := by (intro w' hS_; obtain ⟨_, ⟨s0, s1, s2, s3, s4, s5, s6, s7⟩, _⟩ := hS_; go_simp; with_reducible rfl)) (h := ?_)
 refine XReg.tk 12 49 (hy := by (intro w' hS_; obtain ⟨⟨s0, s1, s2, s3, s4, s5, s6, s7⟩, _⟩ := hS_; go_simp; with_reducible rfl)) (h := ?_)
 refine XReg.tk 13 50 (hy := by (intro w' hS_; obtain ⟨_, ⟨s0, s1, s2, s3, s4, s5, s6, s7⟩, _⟩ := hS_; go_simp; with_reducible rfl)) (h := ?_)
 refine XReg.one (i := 11) (some 48) rfl rfl (by kernel_rfl) (by decide) (fun Kc hKc => ?_)
 refine goes_ Try.func30 (by kernel_rfl) rfl #[.agg #[.string x.f0.f0, .int .i64 x.f0.f1, .slice A2 x.f1.length c2, .string x.f2, .int .i64 x.f3, .string x.f4, .int .i64 x.f5, .slice A7 x.f6.length c7], .agg #[.string y.f0.f0, .int .i64 y.f0.f1, .slice B2 y.f1.length d2, .string y.f2, .int .i64 y.f3, .string y.f4, .int .i64 y.f5, .slice B7 y.f6.length d7]] (by rfl) rfl rfl (by (try simp only [List.map_toArray, List.map_cons, List.map_nil]); first | done | rfl) ?_
 refine (sameO_calls x y A2 c2 A7 c7 B2 d2 B7 d7 _ HL2.out (Kd.C_below HG2.out (HB.out.trans (HD2.out.mono HB.out.size))) HL7.out (Kd.C_below HG7.out (HB.out.trans (HD2.out.mono HB.out.size))) HM2.out (Kd.C_below HH2.out (HB.out.trans (HD2.out.mono HB.out.size))) HM7.out (Kd.C_below HH7.out (HB.out.trans (HD2.out.mono HB.out.size)))).mono ?_
 rw [HBS.out]
 rintro e wc3 ⟨rfl, hb⟩
 refine ⟨_, rfl, ?_⟩
 have HD3 := Aside0.mk (show Below w7.heap.size w7 wc3 from HD2.out.trans (hb.mono HD2.out.size))
 refine hKc.out _ _ ⟨cells8 (blk_below KX.out HD3.out), cells8 (blk_below KY.out HD3.out), cells8 (blk_below KZ.out HD3.out), cells8 (blk_below KU.out HD3.out)⟩ (fun hH3 => ?_)
 clear hKc Kc hb HD2 hH2
 refine XReg.one (i := 14) (some 51) rfl rfl (by kernel_rfl) (by decide) (fun Kc hKc => ?_)
 refine goes_ Try.func47 (by kernel_rfl) rfl #[.agg #[.string x.f0.f0, .int .i64 x.f0.f1, .slice A2 x.f1.length c2, .string x.f2, .int .i64 x.f3, .string x.f4, .int .i64 x.f5, .slice A7 x.f6.length c7], .agg #[.string y.f0.f0, .int .i64 y.f0.f1, .slice B2 y.f1.length d2, .string y.f2, .int .i64 y.f3, .string y.f4, .int .i64 y.f5, .slice B7 y.f6.length d7]] (by rfl) rfl rfl (by (try simp only [List.map_toArray, List.map_cons, List.map_nil]); first | done | rfl) ?_
 refine (refSameO_calls x y A2 c2 A7 c7 B2 d2 B7 d7 _ HL2.out (Kd.C_below HG2.out (HB.out.trans (HD3.out.mono HB.out.size))) HL7.out (Kd.C_below HG7.out (HB.out.trans (HD3.out.mono HB.out.size))) HM2.out (Kd.C_below HH2.out (HB.out.trans (HD3.out.mono HB.out.size))) HM7.out (Kd.C_below HH7.out (HB.out.trans (HD3.out.mono HB.out.size))) m HMM.out HFX.out HFY.out).mono ?_
 rw [HBS.out]
 rintro e wc4 ⟨rfl, hb⟩
 refine ⟨_, rfl, ?_⟩
 have HD4 := Aside0.mk (show Below w7.heap.size w7 wc4 from HD3.out.trans (hb.mono HD3.out.size))
 refine hKc.out _ _ ⟨cells8 (blk_below KX.out HD4.out), cells8 (blk_below KY.out HD4.out), cells8 (blk_below KZ.out HD4.out), cells8 (blk_below KU.out HD4.out)⟩ (fun hH4 => ?_)
 clear hKc Kc hb HD3 hH3
 refine XReg.pu 15 52 (h := ?_)
 refine XReg.pu 16 53 (h := ?_)
 refine XReg.pu 17 54 (h := ?_)
 refine XReg.pu 18 55 (h := ?_)
 refine XReg.pu 19 56 (h := ?_)
 refine XReg.pu 20 57 (h := ?_)
 refine XReg.pu 21 58 (h := ?_)
 refine XReg.pu 22 59 (h := ?_)
 refine XReg.pu 23 60 (h := ?_)
 refine XReg.pu 24 61 (h := ?_)
 refine XReg.pu 25 62 (h := ?_)
 refine XReg.pu 26 63 (h := ?_)
 refine XReg.pu 27 64 (h := ?_)
 refine XReg.tk 28 65 (hy := by (intro w' hS_; obtain ⟨_, _, ⟨s0, s1, s2, s3, s4, s5, s6, s7⟩, _⟩ := hS_; go_simp; with_reducible rfl)) (h := ?_)
 refine XReg.tk 29 66 (hy := by (intro w' hS_; obtain ⟨_, _, _, ⟨s0, s1, s2, s3, s4, s5, s6, s7⟩⟩ := hS_; go_simp; with_reducible rfl)) (h := ?_)
 refine XReg.one (i := 30) (some 67) rfl rfl (by kernel_rfl) (by decide) (fun Kc hKc => ?_)
 refine goes_ Try.func48 (by kernel_rfl) rfl #[.agg #[.string z.f0.f0, .int .i64 z.f0.f1, .slice C2 z.f1.length e2, .string z.f2, .int .i64 z.f3, .string z.f4, .int .i64 z.f5, .slice C7 z.f6.length e7], .agg #[.string z.f0.f0, .int .i64 z.f0.f1, .slice D2 z.f1.length k2, .string z.f2, .int .i64 z.f3, .string z.f4, .int .i64 z.f5, .slice D7 z.f6.length k7]] (by rfl) rfl rfl (by (try simp only [List.map_toArray, List.map_cons, List.map_nil]); first | done | rfl) ?_
 refine (refEqualO_calls z z C2 e2 C7 e7 D2 k2 D7 k7 _ (Kd.R_reads' HE2.out).2.1 (Kd.C_below (Kd.R_reads' HE2.out).2.2 HD4.out) (Kd.R_reads' HE7.out).2.1 (Kd.C_below (Kd.R_reads' HE7.out).2.2 HD4.out) (Kd.R_reads' HU2.out).2.1 (Kd.C_below (Kd.R_reads' HU2.out).2.2 HD4.out) (Kd.R_reads' HU7.out).2.1 (Kd.C_below (Kd.R_reads' HU7.out).2.2 HD4.out)).mono ?_
 rw [show decide (z = z) = true by simp]
 rintro e wc5 ⟨rfl, hb⟩
 refine ⟨_, rfl, ?_⟩
 have HD5 := Aside0.mk (show Below w7.heap.size w7 wc5 from HD4.out.trans (hb.mono HD4.out.size))
 refine hKc.out _ _ ⟨cells8 (blk_below KX.out HD5.out), cells8 (blk_below KY.out HD5.out), cells8 (blk_below KZ.out HD5.out), cells8 (blk_below KU.out HD5.out)⟩ (fun hH5 => ?_)
 clear hKc Kc hb HD4 hH4
 refine XReg.pu 31 68 (h := ?_)
 refine XReg.pu 32 69 (h := ?_)
 refine XReg.pu 33 70 (h := ?_)
 refine XReg.pu 34 71 (h := ?_)
 refine XReg.pu 35 72 (h := ?_)
 refine XReg.pu 36 73 (h := ?_)
 refine XReg.pu 37 6 (h := ?_)
 refine done_ (by kernel_rfl) ?_
 clear hH5
 have HE := Aside0.mk (HB.out.trans (HD5.out.mono HB.out.size))
 go_wp2
 go_ret
 exact ⟨by first | rfl | simp, by first | exact HE.out | (rw [← hN]; exact HE.out)⟩
end Go.Proofs.Ytenbkljgmgdegaa.PO
end
