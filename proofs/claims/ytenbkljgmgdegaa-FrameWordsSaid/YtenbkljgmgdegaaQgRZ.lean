/- What the rows of this claim use, out of the texts of this work (RZ, GA, SH, GB). No condition beyond those that each statement names. -/
import Derived.Deep.DeepCutAuto
import Derived.Deep.CutBlock
import Derived.Test.YtenbkljgmgdegaaQgFF
import Derived.Test.YtenbkljgmgdegaaQgRE
import Derived.Test.YtenbkljgmgdegaaQgFX
import Derived.Test.YtenbkljgmgdegaaQgFT
import Derived.Test.YtenbkljgmgdegaaQgRD
section
namespace Go.Proofs.Ytenbkljgmgdegaa.PO
open Go.RowKit Go.Proofs.YtenbkljgmgdegaaW.PrintWords Go.Proofs.YtenbkljgmgdegaaW.PrintLast Go.Proofs.YtenbkljgmgdegaaW.PrintMore Go.Proofs.Ytenbkljgmgdegaa.XW
open Go.Proofs.Ytenbkljgmgdegaa.XRange Go.Proofs.Ytenbkljgmgdegaa.XMap Go.Proofs.Ytenbkljgmgdegaa.XSeq
set_option linter.unusedVariables false
set_option linter.unusedSimpArgs false
theorem refText32_f (b : List Int) (s : ByteArray) (hs : s.size ≤ 32) (hb : b.length ≤ 140737488355200) (k : Nat) (hk : 40 ≤ k) : pannierref02_Text.f k b s = some (textS b s) := by
 have := encN_len (s.size : Int)
 unfold pannierref02_Text.f
 rw [u_id (by omega) (by omega), refNumber_f _ (by omega) b (by omega) k hk, Option.bind_some, if_pos (by rw [List.length_append]; omega)]
 rfl
theorem refDotB_f (b : List Int) (d : S34) (h0 : d.f0.size ≤ 32) (h1 : 0 ≤ d.f1) (h2 : d.f1 ≤ 4611686018427387904) (hb : b.length ≤ 140737488355000) (k : Nat) (hk : 40 ≤ k) : pannierref08_dot.f k b d.f0 d.f1 = some (b ++ (textB d.f0 ++ encN d.f1)) := by
 unfold pannierref08_dot.f
 have hl : (textS b d.f0).length ≤ b.length + 9 + d.f0.size := textS_len b d.f0
 rw [refText32_f b d.f0 h0 (by omega) k hk, Option.bind_some, u_id h1 (by omega), refNumber_f d.f1 h1 _ (by omega) k hk, Option.bind_some]
 simp [textS, textB]
set_option maxHeartbeats 8000000 in
set_option maxRecDepth 100000 in
theorem refLayO_calls (x : S36) (A2 : Option Addr) (c2 : Nat) (A7 : Option Addr) (c7 : Nat) (w : World) (l2 : x.f1.length ≤ c2) (g2 : Kd.C k34 w A2 x.f1.length x.f1) (l7 : x.f6.length ≤ c7) (g7 : Kd.C k34 w A7 x.f6.length x.f6) (m : Nat) (hm : m ≤ 9223372036854775807) (hz0 : x.f0.f0.size ≤ m) (hz1 : sizes m x.f1) (hz6 : sizes m x.f6) :
 Calls Try.prog 42 #[.agg #[.string x.f0.f0, .int .i64 x.f0.f1, .slice A2 x.f1.length c2, .string x.f2, .int .i64 x.f3, .string x.f4, .int .i64 x.f5, .slice A7 x.f6.length c7]] w
  fun e w' => e = .returned (.tuple #[.string (layF x).1, .int .i64 (layF x).2]) ∧ Below w.heap.size w w' := by
 have HG2 := Aside0.mk g2
 have HG7 := Aside0.mk g7
 have HL2 := Aside0.mk l2
 have HL7 := Aside0.mk l7
 have HM := Aside0.mk (show m ≤ 9223372036854775807 ∧ x.f0.f0.size ≤ m ∧ sizes m x.f1 ∧ sizes m x.f6 from ⟨hm, hz0, hz1, hz6⟩)
 clear l2 g2 l7 g7 hm hz0 hz1 hz6
 obtain ⟨N, hN⟩ : ∃ N, w.heap.size = N := ⟨_, rfl⟩
 go_enter Try.func42, Try.ntmps42
 obtain ⟨w0, hw0⟩ : ∃ w0, w.alloc (.cells #[.string x.f0.f0, .int .i64 x.f0.f1, .slice A2 x.f1.length c2, .string x.f2, .int .i64 x.f3, .string x.f4, .int .i64 x.f5, .slice A7 x.f6.length c7] 36) = w0 := ⟨_, rfl⟩
 have hb0 : Below w.heap.size w w0 := by rw [← hw0]; exact (Below.refl _ w).alloc (Nat.le_refl _) _
 have kx : w0.heap[N]? = some (.cells #[.string x.f0.f0, .int .i64 x.f0.f1, .slice A2 x.f1.length c2, .string x.f2, .int .i64 x.f3, .string x.f4, .int .i64 x.f5, .slice A7 x.f6.length c7] 36 (0, 0)) := by rw [← hw0, ← hN]; exact World.alloc_heap_new w _
 have KX := Aside0.mk kx
 have HB := Aside0.mk hb0
 clear kx hb0
 obtain ⟨n0, n1, n2, n3, n4, n5, n6, n7⟩ := cells8 KX.out
 obtain ⟨br, hbr⟩ : ∃ b, rightO x = b := ⟨_, rfl⟩
 have HBR := Aside0.mk hbr
 clear hbr
 go_wp2_with fail
 refine (refRightO_calls x A2 c2 A7 c7 _ HL2.out (Kd.C_below HG2.out HB.out) HL7.out (Kd.C_below HG7.out HB.out) m HM.out.1 HM.out.2.1 HM.out.2.2.1 HM.out.2.2.2).mono ?_
 rw [HBR.out]
 rintro e w1 ⟨rfl, hb1⟩
 have KX1 := Aside0.mk (blk_below KX.out hb1)
 have HB1 := Aside0.mk (HB.out.trans (hb1.mono HB.out.size))
 clear n0 n1 n2 n3 n4 n5 n6 n7 hb1 KX HB hw0
 cases br with
 | false =>
   have hlf : layF x = (⟨#[]⟩, 2) := by unfold layF; rw [if_neg (by rw [HBR.out]; simp)]
   go_wp2
   go_ret2
   rw [hlf]
   exact ⟨rfl, by first | exact HB1.out | (rw [← hN]; exact HB1.out)⟩
 | true =>
   have hlf : layF x = (strOfNums (layO x), 0) := by unfold layF; rw [if_pos HBR.out]
   have HLF := Aside0.mk hlf
   clear hlf
   obtain ⟨r1, r2, r3, r4, r5, r6, r7, r8, r9⟩ := rightO_all HBR.out
   have hd := dotOk_32 r1
   have H1 := Aside0.mk (refDotB_f [] x.f0 (by omega) (by omega) (by omega) (by simp) 400 (by omega))
   rw [List.nil_append] at H1
   go_wp2
   refine start_ (n := 11) (ds := []) (S := fun w' => w'.cell? ⟨N, 0, none⟩ = some (.string x.f0.f0) ∧ w'.cell? ⟨N, 1, none⟩ = some (.int .i64 x.f0.f1) ∧ w'.cell? ⟨N, 2, none⟩ = some (.slice A2 x.f1.length c2)) _ (by kernel_rfl) rfl rfl
    ⟨(blk_cell (blk_drew KX1.out) 0).trans rfl, (blk_cell (blk_drew KX1.out) 1).trans rfl, (blk_cell (blk_drew KX1.out) 2).trans rfl⟩ (fun hH => ?_)
   refine XReg.pu 0 13 (h := ?_)
   refine XReg.tk 1 14 (h := ?_)
   refine XReg.pu 3 16 (h := ?_)
   refine XReg.tk 4 17 (h := ?_)
   have HD0 := Aside0.mk (show Below w1.heap.size w1 w1.drew from below_drew1 (Below.refl _ w1))
   refine XReg.one (i := 2) (some 15) rfl rfl (by kernel_rfl) (by decide) (fun Kc hKc => ?_)
   refine goes_ Try.func95 (by kernel_rfl) rfl #[.slice none 0 0, .agg #[.string x.f0.f0, .int .i64 x.f0.f1]] (by rfl) rfl rfl (by (try simp only [List.map_toArray, List.map_cons, List.map_nil]); first | done | rfl) ?_
   refine (pannierref08_dot.calls 400 none 0 [] x.f0.f0 x.f0.f1 (textB x.f0.f0 ++ encN x.f0.f1) _ (Kd.C_nil _ _) (by simp) H1.out).mono ?_
   rintro e wa ⟨va, rfl, hra, hba⟩
   refine ⟨_, rfl, ?_⟩
   have HDa := Aside0.mk (show Below w1.heap.size w1 wa from HD0.out.trans (hba.mono HD0.out.size))
   obtain ⟨Aa, ca, rfl, la, Ca⟩ := Kd.R_reads hra
   have HLa := Aside0.mk la
   have HCa := Aside0.mk Ca
   refine hKc.out _ _ ⟨(blk_cell (blk_below KX1.out HDa.out) 0).trans rfl, (blk_cell (blk_below KX1.out HDa.out) 1).trans rfl, (blk_cell (blk_below KX1.out HDa.out) 2).trans rfl⟩ (fun hH2 => ?_)
   clear hKc Kc hH hra hba HD0 H1 la Ca
   obtain ⟨b1, hb1⟩ : ∃ b, textB x.f0.f0 ++ encN x.f0.f1 = b := ⟨_, rfl⟩
   have hl1 : b1.length ≤ 100 := by
    have t0 := textB_len x.f0.f0
    have n0 := encN_len x.f0.f1
    rw [← hb1, List.length_append]
    omega
   rw [hb1] at HLa HCa ⊢
   have H2 := Aside0.mk (show pannierref07_Lay.f 400 b1 x.f1 = some (b1 ++ (layS [] x.f1).1, 0) from by
    have hv64 := (rightS_le r2).1
    rw [refLay_f b1 (by omega) x.f1 64 (by omega) (rightS_le r2).1 (fun y hy => by have := (right_fine r2 y hy).1; omega) 400 (by omega)]
    unfold layS
    rw [if_pos r2, if_pos r2]
    show some (layL _ _, (0 : Int)) = some (_ ++ layL _ _, 0)
    rw [lay_app x.f1 (b1 ++ encN (x.f1.length : Int)), lay_app x.f1 ([] ++ encN (x.f1.length : Int))]
    simp)
   refine XReg.one (i := 5) (some 18) rfl rfl (by kernel_rfl) (by decide) (fun Kc hKc => ?_)
   refine goes_ Try.func85 (by kernel_rfl) rfl #[.slice Aa b1.length ca, .slice A2 x.f1.length c2] (by rfl) rfl rfl (by (try simp only [List.map_toArray, List.map_cons, List.map_nil]); first | done | rfl) ?_
   refine (pannierref07_Lay.calls 400 Aa ca b1 A2 c2 x.f1 (b1 ++ (layS [] x.f1).1) 0 _ HCa.out HLa.out (Kd.C_below HG2.out (HB1.out.trans (HDa.out.mono HB1.out.size))) HL2.out H2.out).mono ?_
   rintro e wb ⟨vb, rfl, hrb, hbb⟩
   refine ⟨_, rfl, ?_⟩
   have HDb := Aside0.mk (show Below w1.heap.size w1 wb from HDa.out.trans (hbb.mono HDa.out.size))
   refine hKc.out _ _ ⟨(blk_cell (blk_below KX1.out HDb.out) 0).trans rfl, (blk_cell (blk_below KX1.out HDb.out) 1).trans rfl, (blk_cell (blk_below KX1.out HDb.out) 2).trans rfl⟩ (fun hH3 => ?_)
   refine XReg.pu 6 12 (h := ?_)
   refine XReg.pu 7 19 (h := ?_)
   refine XReg.pu 8 20 (h := ?_)
   refine XReg.pu 9 5 (h := ?_)
   refine XReg.pu 10 6 (h := ?_)
   refine done_ (by kernel_rfl) ?_
   clear hKc Kc hH2 hH3 HCa HLa H2 HDa
   obtain ⟨b2, hb2⟩ : ∃ b, b1 ++ (layS [] x.f1).1 = b := ⟨_, rfl⟩
   rw [hb2] at hrb
   have hl2 : b2.length ≤ 4000 := by
    have := layS_len x.f1 r2
    rw [← hb2, List.length_append]
    omega
   obtain ⟨Ab, cb, rfl, lb, Cb⟩ := Kd.R_reads hrb
   have KX2 := Aside0.mk (blk_below KX1.out HDb.out)
   have HB2 := Aside0.mk (HB1.out.trans (HDb.out.mono HB1.out.size))
   have HLb := Aside0.mk lb
   have HCb := Aside0.mk Cb
   have H3 := Aside0.mk (refText32_f b2 x.f2 r3 (by omega) 400 (by omega))
   obtain ⟨b3, hb3⟩ : ∃ b, textS b2 x.f2 = b := ⟨_, rfl⟩
   have hl3 : b3.length ≤ 5000 := by have := textS_len b2 x.f2; rw [← hb3]; omega
   have H4 := Aside0.mk (refText32_f b3 x.f4 r4 (by omega) 400 (by omega))
   rw [hb3] at H3
   clear hrb hbb lb Cb HDb KX1 HB1
   go_wp2
   refine start_ (n := 8) (ds := []) (S := fun w' => w'.cell? ⟨N, 3, none⟩ = some (.string x.f2) ∧ w'.cell? ⟨N, 5, none⟩ = some (.string x.f4)) _ (by kernel_rfl) rfl rfl
    ⟨(blk_cell (blk_drew KX2.out) 3).trans rfl, (blk_cell (blk_drew KX2.out) 5).trans rfl⟩ (fun hH => ?_)
   refine XReg.pu 0 21 (h := ?_)
   refine XReg.pu 1 22 (h := ?_)
   refine XReg.tk 2 23 (h := ?_)
   refine XReg.pu 4 25 (h := ?_)
   refine XReg.tk 5 26 (h := ?_)
   have HD0 := Aside0.mk (show Below wb.heap.size wb wb.drew from below_drew1 (Below.refl _ wb))
   refine XReg.one (i := 3) (some 24) rfl rfl (by kernel_rfl) (by decide) (fun Kc hKc => ?_)
   refine goes_ Try.func83 (by kernel_rfl) rfl #[.slice Ab b2.length cb, .string x.f2] (by rfl) rfl rfl (by (try simp only [List.map_toArray, List.map_cons, List.map_nil]); first | done | rfl) ?_
   refine (pannierref02_Text.calls 400 Ab cb b2 x.f2 b3 _ (Kd.C_drew HCb.out) HLb.out H3.out).mono ?_
   rintro e wc ⟨vc, rfl, hrc, hbc⟩
   refine ⟨_, rfl, ?_⟩
   have HDc := Aside0.mk (show Below wb.heap.size wb wc from HD0.out.trans (hbc.mono HD0.out.size))
   obtain ⟨Ac, cc, rfl, lc, Cc⟩ := Kd.R_reads hrc
   have HLc := Aside0.mk lc
   have HCc := Aside0.mk Cc
   refine hKc.out _ _ ⟨(blk_cell (blk_below KX2.out HDc.out) 3).trans rfl, (blk_cell (blk_below KX2.out HDc.out) 5).trans rfl⟩ (fun hH2 => ?_)
   clear hKc Kc hH hrc hbc HD0 H3 lc Cc HCb HLb
   refine XReg.one (i := 6) (some 27) rfl rfl (by kernel_rfl) (by decide) (fun Kc hKc => ?_)
   refine goes_ Try.func83 (by kernel_rfl) rfl #[.slice Ac b3.length cc, .string x.f4] (by rfl) rfl rfl (by (try simp only [List.map_toArray, List.map_cons, List.map_nil]); first | done | rfl) ?_
   refine (pannierref02_Text.calls 400 Ac cc b3 x.f4 (textS b3 x.f4) _ HCc.out HLc.out H4.out).mono ?_
   rintro e wd ⟨vd, rfl, hrd, hbd⟩
   refine ⟨_, rfl, ?_⟩
   have HDd := Aside0.mk (show Below wb.heap.size wb wd from HDc.out.trans (hbd.mono HDc.out.size))
   refine hKc.out _ _ ⟨(blk_cell (blk_below KX2.out HDd.out) 3).trans rfl, (blk_cell (blk_below KX2.out HDd.out) 5).trans rfl⟩ (fun hH3 => ?_)
   refine XReg.pu 7 5 (h := ?_)
   refine done_ (by kernel_rfl) ?_
   have HSC := Aside0.mk (show w.heap.size ≤ wc.heap.size from Nat.le_trans HB2.out.size HDc.out.size)
   clear hKc Kc hH2 hH3 HCc HLc H4 HDc
   have KX3 := Aside0.mk (blk_below KX2.out HDd.out)
   have HB3 := Aside0.mk (HB2.out.trans (HDd.out.mono HB2.out.size))
   obtain ⟨b4, hb4⟩ : ∃ b, textS b3 x.f4 = b := ⟨_, rfl⟩
   have HQ4 := Aside0.mk hb4
   have HQ3 := Aside0.mk hb3
   have HQ2 := Aside0.mk hb2
   have HQ1 := Aside0.mk hb1
   have hl4 : b4.length ≤ 6000 := by have := textS_len b3 x.f4; rw [← hb4]; omega
   rw [hb4] at hrd
   have HV4 := Aside0.mk (Kd.R_lower (base' := w.heap.size) hrd HSC.out)
   clear hrd hbd hb4
   clear hl3
   have HR := Aside0.mk (show (1 ≤ x.f3 ∧ x.f3 ≤ 3) ∧ (0 ≤ x.f5 ∧ x.f5 ≤ 9999) ∧ x.f6.length ≤ 128 from ⟨r7, ⟨r8, r9⟩, r5⟩)
   have H5 := Aside0.mk (show pannierref02_Number.f 400 b4 (IntKind.u64.wrap x.f3) = some (b4 ++ encN x.f3) from by
    have h := HR.out
    rw [u_id (by omega) (by omega)]
    exact refNumber_f x.f3 (by omega) _ (by omega) 400 (by omega))
   obtain ⟨b5, hb5⟩ : ∃ b, b4 ++ encN x.f3 = b := ⟨_, rfl⟩
   have HQ5 := Aside0.mk hb5
   have hl5 : b5.length ≤ 6010 := by have := encN_len x.f3; rw [← hb5, List.length_append]; omega
   rw [hb5] at H5
   have H6 := Aside0.mk (show pannierref02_Number.f 400 b5 (IntKind.u64.wrap x.f5) = some (b5 ++ encN x.f5) from by
    have h := HR.out
    rw [u_id (by omega) (by omega)]
    exact refNumber_f x.f5 (by omega) _ (by omega) 400 (by omega))
   obtain ⟨b6, hb6⟩ : ∃ b, b5 ++ encN x.f5 = b := ⟨_, rfl⟩
   have HQ6 := Aside0.mk hb6
   have hl6 : b6.length ≤ 6020 := by have := encN_len x.f5; rw [← hb6, List.length_append]; omega
   rw [hb6] at H6
   have H7 := Aside0.mk (show pannierref02_Number.f 400 b6 (x.f6.length : Int) = some (b6 ++ encN (x.f6.length : Int)) from by
    have h := HR.out
    exact refNumber_f (x.f6.length : Int) (by omega) _ (by omega) 400 (by omega))
   obtain ⟨b7, hb7⟩ : ∃ b, b6 ++ encN (x.f6.length : Int) = b := ⟨_, rfl⟩
   have HQ7 := Aside0.mk hb7
   have HL7B := Aside0.mk (show b7.length ≤ 6030 from by have := encN_len (x.f6.length : Int); rw [← hb7, List.length_append]; omega)
   rw [hb7] at H7
   obtain ⟨Ad, cd, rfl, ld, Cd⟩ := Kd.R_reads HV4.out
   have HLd := Aside0.mk ld
   have HCd := Aside0.mk Cd
   clear hb5 hb6 hb7 ld Cd
   go_wp2
   refine start_ (n := 10) (ds := []) (S := fun w' => w'.cell? ⟨N, 4, none⟩ = some (.int .i64 x.f3) ∧ w'.cell? ⟨N, 6, none⟩ = some (.int .i64 x.f5)) _ (by kernel_rfl) rfl rfl
    ⟨(blk_cell (blk_drew KX3.out) 4).trans rfl, (blk_cell (blk_drew KX3.out) 6).trans rfl⟩ (fun hH => ?_)
   refine XReg.pu 0 28 (h := ?_)
   refine XReg.pu 1 29 (h := ?_)
   refine XReg.tk 2 30 (h := ?_)
   refine XReg.pu 3 31 (h := ?_)
   refine XReg.pu 5 33 (h := ?_)
   refine XReg.tk 6 34 (h := ?_)
   refine XReg.pu 7 35 (h := ?_)
   have HD0 := Aside0.mk (show Below wd.heap.size wd wd.drew from below_drew1 (Below.refl _ wd))
   refine XReg.one (i := 4) (some 32) rfl rfl (by kernel_rfl) (by decide) (fun Kc hKc => ?_)
   refine goes_ Try.func84 (by kernel_rfl) rfl #[.slice Ad b4.length cd, .int .u64 (IntKind.u64.wrap x.f3)] (by rfl) rfl rfl (by (try simp only [List.map_toArray, List.map_cons, List.map_nil]); first | done | rfl) ?_
   refine (pannierref02_Number.calls 400 Ad cd b4 _ b5 _ (Kd.C_drew HCd.out) HLd.out H5.out).mono ?_
   rintro e we ⟨ve, rfl, hre, hbe⟩
   refine ⟨_, rfl, ?_⟩
   have HDe := Aside0.mk (show Below wd.heap.size wd we from HD0.out.trans (hbe.mono HD0.out.size))
   obtain ⟨Ae, ce, rfl, le, Ce⟩ := Kd.R_reads hre
   have HLe := Aside0.mk le
   have HCe := Aside0.mk Ce
   refine hKc.out _ _ ⟨(blk_cell (blk_below KX3.out HDe.out) 4).trans rfl, (blk_cell (blk_below KX3.out HDe.out) 6).trans rfl⟩ (fun hH2 => ?_)
   clear hKc Kc hH hre hbe HD0 H5 le Ce HCd HLd
   refine XReg.one (i := 8) (some 36) rfl rfl (by kernel_rfl) (by decide) (fun Kc hKc => ?_)
   refine goes_ Try.func84 (by kernel_rfl) rfl #[.slice Ae b5.length ce, .int .u64 (IntKind.u64.wrap x.f5)] (by rfl) rfl rfl (by (try simp only [List.map_toArray, List.map_cons, List.map_nil]); first | done | rfl) ?_
   refine (pannierref02_Number.calls 400 Ae ce b5 _ b6 _ HCe.out HLe.out H6.out).mono ?_
   rintro e wf ⟨vf, rfl, hrf, hbf⟩
   refine ⟨_, rfl, ?_⟩
   have HDf := Aside0.mk (show Below wd.heap.size wd wf from HDe.out.trans (hbf.mono HDe.out.size))
   refine hKc.out _ _ ⟨(blk_cell (blk_below KX3.out HDf.out) 4).trans rfl, (blk_cell (blk_below KX3.out HDf.out) 6).trans rfl⟩ (fun hH3 => ?_)
   refine XReg.pu 9 5 (h := ?_)
   refine done_ (by kernel_rfl) ?_
   have KX4 := Aside0.mk (blk_below KX3.out HDf.out)
   have HB4 := Aside0.mk (HB3.out.trans (HDf.out.mono HB3.out.size))
   obtain ⟨Af, cf, rfl, lf, Cf⟩ := Kd.R_reads hrf
   have HLf := Aside0.mk lf
   have HCf := Aside0.mk Cf
   clear hKc Kc hH2 hH3 HCe HLe H6 HDe hrf hbf lf Cf
   have e7 : wf.cell? ⟨N, 7, none⟩ = some (.slice A7 x.f6.length c7) := (blk_cell KX4.out 7).trans rfl
   go_wp2_with fail
   refine (pannierref02_Number.calls 400 Af cf b6 _ b7 _ HCf.out HLf.out H7.out).mono ?_
   rintro e wg ⟨vg, rfl, hrg, hbg⟩
   have KX5 := Aside0.mk (blk_below KX4.out hbg)
   have HB5 := Aside0.mk (HB4.out.trans (hbg.mono HB4.out.size))
   have HV5 := Aside0.mk (Kd.R_lower (base' := w.heap.size) hrg HB4.out.size)
   have HW5 := Aside0.mk (Below.refl wg.heap.size wg)
   have HF6 := Aside0.mk r6
   clear hrg hbg HCf HLf H7 e7
   go_wp2
   go_loopw [5, 7] (fun v5 v7 wr => ∃ (i : Nat) (T : List Int), v7 = .int .i64 i ∧ i ≤ x.f6.length ∧ Aside0 (T ++ layL [] (x.f6.drop i) = b7 ++ layL [] x.f6) ∧ Aside0 (T.length ≤ 7000 + 60 * i) ∧ Aside0 (Kd.R (Kd.int .u8) 5 wr w.heap.size (fun _ => True) v5 T) ∧ Aside0 (Below wg.heap.size wg wr)) (fun _ v7 _ => x.f6.length - (intOf v7).toNat)
   case atStart => exact ⟨0, b7, rfl, by omega, ⟨rfl⟩, ⟨by have := HL7B.out; omega⟩, HV5, HW5⟩
   case round =>
    clear HV5 HW5
    obtain ⟨i, T, rfl, hi6, HQT, HLT, HVt, HBt⟩ := hrel
    obtain ⟨At, ct, rfl, lt, Ct⟩ := Kd.R_reads HVt.out
    have HCt := Aside0.mk Ct
    have HLt := Aside0.mk lt
    have e7 : wr.cell? ⟨N, 7, none⟩ = some (.slice A7 x.f6.length c7) := (blk_cell (blk_below KX5.out HBt.out) 7).trans rfl
    clear Ct lt
    by_cases h6 : i < x.f6.length
    · obtain ⟨ad, had, f0, f1⟩ := at_T34 (Kd.C_below HG7.out (HB5.out.trans (HBt.out.mono HB5.out.size))) (i : Int) (by omega) (by omega)
      obtain ⟨d, hd⟩ : ∃ d, rd_T34 x.f6 (i : Int) = d := ⟨_, rfl⟩
      rw [hd] at f0 f1
      simp only [Int.toNat_natCast] at f0 f1
      subst had
      have hb3 : 0 ≤ (i : Int) ∧ (i : Int) < (x.f6.length : Int) := by omega
      have q1 : decide ((i : Int) < (x.f6.length : Int)) = true := by simp; omega
      have hdr := rd_drop x.f6 i h6
      rw [hd] at hdr
      have HDR := Aside0.mk hdr
      have hfd := HF6.out d (by rw [← hd]; unfold rd_T34; rw [Int.toNat_natCast, List.getD_eq_getElem?_getD, List.getElem?_eq_getElem h6]; exact List.getElem_mem h6)
      have HFD := Aside0.mk hfd
      clear hdr hfd hd
      go_wp2_with fail
      refine (pannierref08_dot.calls 400 At ct T d.f0 d.f1 _ _ HCt.out HLt.out (refDotB_f T d HFD.out.1 HFD.out.2.1 HFD.out.2.2 (by have := HLT.out; have := HR.out; omega) 400 (by omega))).mono ?_
      rintro e ws ⟨vs, rfl, hrs, hbs⟩
      have HVs := Aside0.mk (Kd.R_lower (base' := w.heap.size) hrs (Nat.le_trans HB5.out.size (HBt.out.size)))
      have HBs := Aside0.mk (HBt.out.trans (hbs.mono HBt.out.size))
      clear hrs hbs f0 f1 e7
      go_wp2
      go_round
      case measure => simp [intOf]; omega
      case rel => exact ⟨i + 1, _, by go_num, by omega, ⟨by
       have h := HQT.out
       rw [HDR.out, layL, lay_app] at h
       rw [← h]
       simp [textS, textB]⟩, ⟨by
       have h1 := textB_len d.f0
       have h2 := encN_len d.f1
       have h3 := HLT.out
       have h4 := HFD.out.1
       rw [List.length_append, List.length_append]
       omega⟩, HVs, HBs⟩
    · have hi : i = x.f6.length := by omega
      subst hi
      have q1 : decide ((x.f6.length : Int) < (x.f6.length : Int)) = false := by simp
      have hcv := own_string (P := Try.prog) Try.underlying63 Try.underlying5 Try.underlying9 (Kd.own_of_R HVt.out)
      have hT : T = layO x := by
       have h := HQT.out
       rw [List.drop_length, ← HQ7.out, ← HQ6.out, ← HQ5.out, ← HQ4.out, ← HQ3.out, ← HQ2.out, ← HQ1.out] at h
       unfold layO
       simpa [textS, textB, layL, List.append_assoc] using h
      have HT := Aside0.mk hT
      clear hT
      go_wp2
      go_ret2
      rw [HLF.out, HT.out]
      exact ⟨rfl, by first | exact HB5.out.trans (HBt.out.mono HB5.out.size) | (rw [← hN]; exact HB5.out.trans (HBt.out.mono HB5.out.size))⟩
end Go.Proofs.Ytenbkljgmgdegaa.PO
end
section
namespace Go.Proofs.Ytenbkljgmgdegaa.PO
open Go.RowKit Go.Proofs.YtenbkljgmgdegaaW.PrintWords Go.Proofs.YtenbkljgmgdegaaW.PrintLast Go.Proofs.YtenbkljgmgdegaaW.PrintMore Go.Proofs.Ytenbkljgmgdegaa.XW
open Go.Proofs.Ytenbkljgmgdegaa.XRange
set_option linter.unusedVariables false
set_option linter.unusedSimpArgs false
theorem refLayV_app (b : List Int) (hb : b.length ≤ 100000) (l : List S34) (h : rightS l = true) : pannierref07_Lay.f 400 b l = some (b ++ (layS [] l).1, 0) := by
 have h64 := (rightS_le h).1
 rw [refLay_f b (by omega) l 64 (by omega) (rightS_le h).1 (fun y hy => by have := (right_fine h y hy).1; omega) 400 (by omega)]
 unfold layS
 rw [if_pos h, if_pos h]
 show some (layL _ _, (0 : Int)) = some (_ ++ layL _ _, 0)
 rw [lay_app l (b ++ encN (l.length : Int)), lay_app l ([] ++ encN (l.length : Int))]
 simp
set_option maxHeartbeats 8000000 in
set_option maxRecDepth 100000 in
theorem refLayF_calls (f : Fr) (A7 : Option Addr) (c7 : Nat) (A8 : Option Addr) (c8 : Nat) (w : World) (l7 : f.kn.length ≤ c7) (g7 : Kd.C k34 w A7 f.kn.length f.kn) (l8 : f.op.length ≤ c8) (g8 : Kd.C k36 w A8 f.op.length f.op) (m : Nat) (hz : WfF m f) :
 Calls Try.prog 36 #[.agg #[.int .i64 f.k, .string f.fa, .string f.fb, .string f.ct, .int .i64 f.se, .int .i64 f.ix, .int .i64 f.mn, .slice A7 f.kn.length c7, .slice A8 f.op.length c8]] w fun e w' => e = .returned (.tuple #[.string (layFr f).1, .int .i64 (layFr f).2]) ∧ Below w.heap.size w w' := by
 have HG7 := Aside0.mk g7
 have HG8 := Aside0.mk g8
 have HL7 := Aside0.mk l7
 have HL8 := Aside0.mk l8
 have HZ := Aside0.mk hz
 clear l7 g7 l8 g8 hz
 obtain ⟨N, hN⟩ : ∃ N, w.heap.size = N := ⟨_, rfl⟩
 go_enter Try.func36, Try.ntmps36
 go_upto_region 1 with fail
 obtain ⟨w0, hw0⟩ : ∃ w0, w.alloc (.cells #[.int .i64 f.k, .string f.fa, .string f.fb, .string f.ct, .int .i64 f.se, .int .i64 f.ix, .int .i64 f.mn, .slice A7 f.kn.length c7, .slice A8 f.op.length c8] 54) = w0 := ⟨_, rfl⟩
 have HB0 := Aside0.mk (show Below w.heap.size w w0 from by rw [← hw0]; exact (Below.refl _ w).alloc (Nat.le_refl _) _)
 have HK0 := Aside0.mk (show w0.heap[N]? = some (.cells #[.int .i64 f.k, .string f.fa, .string f.fb, .string f.ct, .int .i64 f.se, .int .i64 f.ix, .int .i64 f.mn, .slice A7 f.kn.length c7, .slice A8 f.op.length c8] 54 (0, 0)) from by rw [← hw0, ← hN]; exact World.alloc_heap_new w _)
 try rw [hw0]
 try rw [hN]
 clear hw0
 obtain ⟨k0, k1, k2, k3, k4, k5, k6, k7, k8⟩ := cells9 HK0.out
 go_wp2_with fail
 refine (refRightF_calls f A7 c7 A8 c8 w0 HL7.out (Kd.C_below HG7.out HB0.out) HL8.out (Kd.C_below HG8.out HB0.out) m HZ.out).mono ?_
 obtain ⟨br, hbr⟩ : ∃ b, rightF f = b := ⟨_, rfl⟩
 have HBR := Aside0.mk hbr
 rw [hbr]
 rintro e w1 ⟨rfl, hb⟩
 have HB1 := Aside0.mk (HB0.out.trans (hb.mono HB0.out.size))
 have HK1 := Aside0.mk (blk_below HK0.out hb)
 clear hbr hb HB0 HK0 k0 k1 k2 k3 k4 k5 k6 k7 k8
 cases br with
 | false =>
   have hlf : layFr f = (⟨#[]⟩, 2) := by unfold layFr; rw [if_neg (by rw [HBR.out]; simp)]
   go_wp2
   go_ret2
   rw [hlf]
   exact ⟨rfl, by first | exact HB1.out | (rw [← hN]; exact HB1.out)⟩
 | true =>
   have hlf : layFr f = (strOfNums (sealT f.k (bodyB f)), 0) := by unfold layFr; rw [if_pos HBR.out]
   have HLF := Aside0.mk hlf
   clear hlf
   obtain ⟨s1, s2, s3, s4, s5, s6, s7⟩ := rightF_sizes HBR.out
   have hix : f.ix ≤ 1152921504606846976 := by
    unfold bodyF at s7
    by_cases k1 : f.k = 1
    · rw [if_pos k1] at s7
      simp only [Bool.and_eq_true, decide_eq_true_eq] at s7
      omega
    · rw [if_neg k1] at s7
      by_cases k2 : f.k = 2
      · rw [if_pos k2] at s7
        simp only [Bool.and_eq_true, decide_eq_true_eq] at s7
        omega
      · rw [if_neg k2] at s7
        simp only [Bool.and_eq_true, decide_eq_true_eq] at s7
        omega
   have H1 := Aside0.mk (refTextBig_f [] f.fa (by omega) (by simp) 400 (by omega))
   obtain ⟨b1, hb1⟩ : ∃ b, textS [] f.fa = b := ⟨_, rfl⟩
   have hl1 : b1.length ≤ 100 := by have h := textB_len f.fa; rw [← hb1, textS_app]; simp; omega
   rw [hb1] at H1
   have H2 := Aside0.mk (refTextBig_f b1 f.fb (by omega) (by omega) 400 (by omega))
   obtain ⟨b2, hb2⟩ : ∃ b, textS b1 f.fb = b := ⟨_, rfl⟩
   have hl2 : b2.length ≤ 200 := by have h := textB_len f.fb; rw [← hb2, textS_app]; simp; omega
   rw [hb2] at H2
   have H3 := Aside0.mk (refTextBig_f b2 f.ct (by omega) (by omega) 400 (by omega))
   obtain ⟨b3, hb3⟩ : ∃ b, textS b2 f.ct = b := ⟨_, rfl⟩
   have hl3 : b3.length ≤ 300 := by have h := textB_len f.ct; rw [← hb3, textS_app]; simp; omega
   rw [hb3] at H3
   have H4 := Aside0.mk (show pannierref02_Number.f 400 b3 (IntKind.u64.wrap f.se) = some (b3 ++ encN f.se) from by
    rw [u_id (by omega) (by omega)]
    exact refNumber_f f.se (by omega) _ (by omega) 400 (by omega))
   obtain ⟨b4, hb4⟩ : ∃ b, b3 ++ encN f.se = b := ⟨_, rfl⟩
   have hl4 : b4.length ≤ 310 := by have := encN_len f.se; rw [← hb4, List.length_append]; omega
   rw [hb4] at H4
   have H5 := Aside0.mk (show pannierref02_Number.f 400 b4 (IntKind.u64.wrap f.ix) = some (b4 ++ encN f.ix) from by
    rw [u_id (by omega) (by omega)]
    exact refNumber_f f.ix (by omega) _ (by omega) 400 (by omega))
   obtain ⟨b5, hb5⟩ : ∃ b, b4 ++ encN f.ix = b := ⟨_, rfl⟩
   have HL5 := Aside0.mk (show b5.length ≤ 320 from by have := encN_len f.ix; rw [← hb5, List.length_append]; omega)
   rw [hb5] at H5
   have HH := Aside0.mk (show headB f = b5 from by unfold headB; rw [hb1, hb2, hb3, hb4, hb5])
   have HS7 := Aside0.mk s7
   clear hb1 hb2 hb3 hb4 hb5 hl1 hl2 hl3 hl4 s1 s2 s3 s4 s5 s6 s7 hix
   go_wp2
   refine start_ (n := 10) (ds := []) (S := fun w' => w'.cell? ⟨N, 1, none⟩ = some (.string f.fa) ∧ w'.cell? ⟨N, 2, none⟩ = some (.string f.fb) ∧ w'.cell? ⟨N, 3, none⟩ = some (.string f.ct)) _ (by kernel_rfl) rfl rfl
    ⟨(blk_cell (blk_drew HK1.out) 1).trans rfl, (blk_cell (blk_drew HK1.out) 2).trans rfl, (blk_cell (blk_drew HK1.out) 3).trans rfl⟩ (fun hH => ?_)
   refine XReg.pu 0 13 (h := ?_)
   refine XReg.tk 1 14 (h := ?_)
   refine XReg.pu 3 16 (h := ?_)
   refine XReg.tk 4 17 (h := ?_)
   refine XReg.pu 6 19 (h := ?_)
   refine XReg.tk 7 20 (h := ?_)
   have HD0 := Aside0.mk (show Below w1.heap.size w1 w1.drew from below_drew1 (Below.refl _ w1))
   refine XReg.one (i := 2) (some 15) rfl rfl (by kernel_rfl) (by decide) (fun Kc hKc => ?_)
   refine goes_ Try.func83 (by kernel_rfl) rfl #[.slice none 0 0, .string f.fa] (by rfl) rfl rfl (by (try simp only [List.map_toArray, List.map_cons, List.map_nil]); first | done | rfl) ?_
   refine (pannierref02_Text.calls 400 none 0 [] f.fa b1 _ (Kd.C_nil _ _) (by simp) H1.out).mono ?_
   rintro e wa ⟨vv, rfl, hrr, hbb⟩
   refine ⟨_, rfl, ?_⟩
   have HDa := Aside0.mk (show Below w1.heap.size w1 wa from HD0.out.trans (hbb.mono HD0.out.size))
   obtain ⟨Aa, ca, rfl, ll, CC⟩ := Kd.R_reads hrr
   have HLAa := Aside0.mk ll
   have HCAa := Aside0.mk CC
   refine hKc.out _ _ ⟨(blk_cell (blk_below HK1.out HDa.out) 1).trans rfl, (blk_cell (blk_below HK1.out HDa.out) 2).trans rfl, (blk_cell (blk_below HK1.out HDa.out) 3).trans rfl⟩ (fun hHH => ?_)
   clear hKc Kc hbb ll CC
   clear hrr hHH hH HD0 H1
   refine XReg.one (i := 5) (some 18) rfl rfl (by kernel_rfl) (by decide) (fun Kc hKc => ?_)
   refine goes_ Try.func83 (by kernel_rfl) rfl #[.slice Aa b1.length ca, .string f.fb] (by rfl) rfl rfl (by (try simp only [List.map_toArray, List.map_cons, List.map_nil]); first | done | rfl) ?_
   refine (pannierref02_Text.calls 400 Aa ca b1 f.fb b2 _ HCAa.out HLAa.out H2.out).mono ?_
   rintro e wb ⟨vv, rfl, hrr, hbb⟩
   refine ⟨_, rfl, ?_⟩
   have HDb := Aside0.mk (show Below w1.heap.size w1 wb from HDa.out.trans (hbb.mono HDa.out.size))
   obtain ⟨Ab, cb, rfl, ll, CC⟩ := Kd.R_reads hrr
   have HLAb := Aside0.mk ll
   have HCAb := Aside0.mk CC
   refine hKc.out _ _ ⟨(blk_cell (blk_below HK1.out HDb.out) 1).trans rfl, (blk_cell (blk_below HK1.out HDb.out) 2).trans rfl, (blk_cell (blk_below HK1.out HDb.out) 3).trans rfl⟩ (fun hHH => ?_)
   clear hKc Kc hbb ll CC
   clear hrr hHH HDa H2 HCAa HLAa
   refine XReg.one (i := 8) (some 21) rfl rfl (by kernel_rfl) (by decide) (fun Kc hKc => ?_)
   refine goes_ Try.func83 (by kernel_rfl) rfl #[.slice Ab b2.length cb, .string f.ct] (by rfl) rfl rfl (by (try simp only [List.map_toArray, List.map_cons, List.map_nil]); first | done | rfl) ?_
   refine (pannierref02_Text.calls 400 Ab cb b2 f.ct b3 _ HCAb.out HLAb.out H3.out).mono ?_
   rintro e wc ⟨vv, rfl, hrr, hbb⟩
   refine ⟨_, rfl, ?_⟩
   have HDc := Aside0.mk (show Below w1.heap.size w1 wc from HDb.out.trans (hbb.mono HDb.out.size))
   obtain ⟨Ac, cc, rfl, ll, CC⟩ := Kd.R_reads hrr
   have HLAc := Aside0.mk ll
   have HCAc := Aside0.mk CC
   refine hKc.out _ _ ⟨(blk_cell (blk_below HK1.out HDc.out) 1).trans rfl, (blk_cell (blk_below HK1.out HDc.out) 2).trans rfl, (blk_cell (blk_below HK1.out HDc.out) 3).trans rfl⟩ (fun hHH => ?_)
   clear hKc Kc hbb ll CC
   clear hrr hHH H3 HCAb HLAb HDb
   refine XReg.pu 9 5 (h := ?_)
   refine done_ (by kernel_rfl) ?_
   have HK2 := Aside0.mk (blk_below HK1.out HDc.out)
   have HB2 := Aside0.mk (HB1.out.trans (HDc.out.mono HB1.out.size))
   clear HDc HK1 HB1
   go_wp2
   refine start_ (n := 10) (ds := []) (S := fun w' => w'.cell? ⟨N, 4, none⟩ = some (.int .i64 f.se) ∧ w'.cell? ⟨N, 5, none⟩ = some (.int .i64 f.ix)) _ (by kernel_rfl) rfl rfl
    ⟨(blk_cell (blk_drew HK2.out) 4).trans rfl, (blk_cell (blk_drew HK2.out) 5).trans rfl⟩ (fun hH => ?_)
   refine XReg.pu 0 22 (h := ?_)
   refine XReg.pu 1 23 (h := ?_)
   refine XReg.tk 2 24 (h := ?_)
   refine XReg.pu 3 25 (h := ?_)
   refine XReg.pu 5 27 (h := ?_)
   refine XReg.tk 6 28 (h := ?_)
   refine XReg.pu 7 29 (h := ?_)
   have HD0 := Aside0.mk (show Below wc.heap.size wc wc.drew from below_drew1 (Below.refl _ wc))
   refine XReg.one (i := 4) (some 26) rfl rfl (by kernel_rfl) (by decide) (fun Kc hKc => ?_)
   refine goes_ Try.func84 (by kernel_rfl) rfl #[.slice Ac b3.length cc, .int .u64 (IntKind.u64.wrap f.se)] (by rfl) rfl rfl (by (try simp only [List.map_toArray, List.map_cons, List.map_nil]); first | done | rfl) ?_
   refine (pannierref02_Number.calls 400 Ac cc b3 _ b4 _ (Kd.C_drew HCAc.out) HLAc.out H4.out).mono ?_
   rintro e wd ⟨vv, rfl, hrr, hbb⟩
   refine ⟨_, rfl, ?_⟩
   have HDd := Aside0.mk (show Below wc.heap.size wc wd from HD0.out.trans (hbb.mono HD0.out.size))
   obtain ⟨Ad, cd, rfl, ll, CC⟩ := Kd.R_reads hrr
   have HLAd := Aside0.mk ll
   have HCAd := Aside0.mk CC
   refine hKc.out _ _ ⟨(blk_cell (blk_below HK2.out HDd.out) 4).trans rfl, (blk_cell (blk_below HK2.out HDd.out) 5).trans rfl⟩ (fun hHH => ?_)
   clear hKc Kc hbb ll CC
   clear hrr hHH hH HD0 H4 HCAc HLAc
   refine XReg.one (i := 8) (some 30) rfl rfl (by kernel_rfl) (by decide) (fun Kc hKc => ?_)
   refine goes_ Try.func84 (by kernel_rfl) rfl #[.slice Ad b4.length cd, .int .u64 (IntKind.u64.wrap f.ix)] (by rfl) rfl rfl (by (try simp only [List.map_toArray, List.map_cons, List.map_nil]); first | done | rfl) ?_
   refine (pannierref02_Number.calls 400 Ad cd b4 _ b5 _ HCAd.out HLAd.out H5.out).mono ?_
   rintro e we ⟨vv, rfl, hrr, hbb⟩
   refine ⟨_, rfl, ?_⟩
   have HDe := Aside0.mk (show Below wc.heap.size wc we from HDd.out.trans (hbb.mono HDd.out.size))
   obtain ⟨Ae, ce, rfl, ll, CC⟩ := Kd.R_reads hrr
   have HLAe := Aside0.mk ll
   have HCAe := Aside0.mk CC
   refine hKc.out _ _ ⟨(blk_cell (blk_below HK2.out HDe.out) 4).trans rfl, (blk_cell (blk_below HK2.out HDe.out) 5).trans rfl⟩ (fun hHH => ?_)
   clear hKc Kc hbb ll CC
   have HSD := Aside0.mk (show w.heap.size ≤ wd.heap.size from Nat.le_trans HB2.out.size HDd.out.size)
   have HV5 := Aside0.mk (Kd.R_lower (base' := w.heap.size) hrr HSD.out)
   clear hrr hHH H5 HCAd HLAd HDd HSD
   refine XReg.pu 9 5 (h := ?_)
   refine done_ (by kernel_rfl) ?_
   have HK3 := Aside0.mk (blk_below HK2.out HDe.out)
   have HB3 := Aside0.mk (HB2.out.trans (HDe.out.mono HB2.out.size))
   clear HDe HK2 HB2
   obtain ⟨k0, k1, k2, k3, k4, k5, k6, k7, k8⟩ := cells9 HK3.out
   go_upto_block 0 with fail
   clear k0 k1 k2 k3 k4 k5 k6 k7 k8
   go_cut [5, 6, 7, 8] (fun s5 s6 s7 s8 wx => Aside0 (wx.heap[N]? = some (.cells #[.int .i64 f.k, .string f.fa, .string f.fb, .string f.ct, .int .i64 f.se, .int .i64 f.ix, .int .i64 f.mn, .slice A7 f.kn.length c7, .slice A8 f.op.length c8] 54 (0, 0)) ∧ Below w.heap.size w wx ∧ Kd.R (Kd.int .u8) 5 wx w.heap.size (fun _ => True) s5 (bodyB f)))
   case first =>
    by_cases hk1 : f.k = 1
    · have q1 : (f.k == 1) = true := by simp [hk1]
      have hv : rightS f.kn = true := by
       have h := HS7.out
       unfold bodyF at h
       rw [if_pos hk1] at h
       simp only [Bool.and_eq_true, decide_eq_true_eq] at h
       exact h.1.2
      have HBO := Aside0.mk (show bodyB f = b5 ++ (layS [] f.kn).1 from by unfold bodyB; rw [if_pos hk1, HH.out])
      have H6 := Aside0.mk (refLayV_app b5 (by have := HL5.out; omega) f.kn hv)
      obtain ⟨k0, k1, k2, k3, k4, k5, k6, k7, k8⟩ := cells9 HK3.out
      clear hk1 hv
      go_wp2_with fail
      refine (pannierref07_Lay.calls 400 Ae ce b5 A7 c7 f.kn (b5 ++ (layS [] f.kn).1) 0 _ HCAe.out HLAe.out (Kd.C_below HG7.out HB3.out) HL7.out H6.out).mono ?_
      rintro e wg ⟨vg, rfl, hrg, hbg⟩
      have HK4 := Aside0.mk (blk_below HK3.out hbg)
      have HB4 := Aside0.mk (HB3.out.trans (hbg.mono HB3.out.size))
      have HVg := Aside0.mk (Kd.R_lower (base' := w.heap.size) hrg HB3.out.size)
      clear hrg hbg k0 k1 k2 k3 k4 k5 k6 k7 k8
      go_wp2
      go_meet
      exact ⟨⟨HK4.out, HB4.out, by rw [HBO.out]; exact HVg.out⟩⟩
    have q1 : (f.k == 1) = false := by simpa using hk1
    by_cases hk2 : f.k = 2
    · have q2 : (f.k == 2) = true := by simp [hk2]
      have hv : 0 ≤ f.mn ∧ f.mn ≤ 512 ∧ f.op.length ≤ 8 := by
       have h := HS7.out
       have h6 := (rightF_sizes HBR.out).2.2.2.2.2.1
       unfold bodyF at h
       rw [if_neg hk1, if_pos hk2] at h
       simp only [Bool.and_eq_true, decide_eq_true_eq] at h
       omega
      have H6 := Aside0.mk (show pannierref02_Number.f 400 b5 (IntKind.u64.wrap f.mn) = some (b5 ++ encN f.mn) from by
       rw [u_id (by omega) (by omega)]
       exact refNumber_f f.mn (by omega) _ (by have := HL5.out; omega) 400 (by omega))
      obtain ⟨b6, hb6⟩ : ∃ b, b5 ++ encN f.mn = b := ⟨_, rfl⟩
      have hl6 : b6.length ≤ 330 := by have := encN_len f.mn; have := HL5.out; rw [← hb6, List.length_append]; omega
      rw [hb6] at H6
      have H7 := Aside0.mk (show pannierref02_Number.f 400 b6 (IntKind.u64.wrap (f.op.length : Int)) = some (b6 ++ encN (f.op.length : Int)) from by
       rw [u_id (by omega) (by omega)]
       exact refNumber_f (f.op.length : Int) (by omega) _ (by omega) 400 (by omega))
      obtain ⟨b7, hb7⟩ : ∃ b, b6 ++ encN (f.op.length : Int) = b := ⟨_, rfl⟩
      have HL7B := Aside0.mk (show b7.length ≤ 340 from by have := encN_len (f.op.length : Int); rw [← hb7, List.length_append]; omega)
      rw [hb7] at H7
      have HBO := Aside0.mk (show bodyB f = b7 ++ layOps [] f.op from by unfold bodyB; rw [if_neg hk1, if_pos hk2, HH.out, hb6, hb7, layOps_app])
      have HO8 := Aside0.mk hv.2.2
      clear hk1 hk2 hv hb6 hb7 hl6
      obtain ⟨k0, k1, k2, k3, k4, k5, k6, k7, k8⟩ := cells9 HK3.out
      go_wp2
      clear k0 k1 k2 k3 k4 k5 k6 k7 k8
      refine start_ (n := 11) (ds := []) (S := fun w' => w'.cell? ⟨N, 6, none⟩ = some (.int .i64 f.mn) ∧ w'.cell? ⟨N, 8, none⟩ = some (.slice A8 f.op.length c8)) _ (by kernel_rfl) rfl rfl
       ⟨(blk_cell (blk_drew HK3.out) 6).trans rfl, (blk_cell (blk_drew HK3.out) 8).trans rfl⟩ (fun hH => ?_)
      refine XReg.pu 0 44 (h := ?_)
      refine XReg.pu 1 45 (h := ?_)
      refine XReg.tk 2 46 (h := ?_)
      refine XReg.pu 3 47 (h := ?_)
      refine XReg.pu 5 49 (h := ?_)
      refine XReg.tk 6 50 (h := ?_)
      refine XReg.pu 7 51 (h := ?_)
      refine XReg.pu 8 52 (h := ?_)
      have HD0 := Aside0.mk (show Below we.heap.size we we.drew from below_drew1 (Below.refl _ we))
      refine XReg.one (i := 4) (some 48) rfl rfl (by kernel_rfl) (by decide) (fun Kc hKc => ?_)
      refine goes_ Try.func84 (by kernel_rfl) rfl #[.slice Ae b5.length ce, .int .u64 (IntKind.u64.wrap f.mn)] (by rfl) rfl rfl (by (try simp only [List.map_toArray, List.map_cons, List.map_nil]); first | done | rfl) ?_
      refine (pannierref02_Number.calls 400 Ae ce b5 _ b6 _ (Kd.C_drew HCAe.out) HLAe.out H6.out).mono ?_
      rintro e wf ⟨vv, rfl, hrr, hbb⟩
      refine ⟨_, rfl, ?_⟩
      have HDf := Aside0.mk (show Below we.heap.size we wf from HD0.out.trans (hbb.mono HD0.out.size))
      obtain ⟨Af, cf, rfl, ll, CC⟩ := Kd.R_reads hrr
      have HLAf := Aside0.mk ll
      have HCAf := Aside0.mk CC
      refine hKc.out _ _ ⟨(blk_cell (blk_below HK3.out HDf.out) 6).trans rfl, (blk_cell (blk_below HK3.out HDf.out) 8).trans rfl⟩ (fun hHH => ?_)
      clear hKc Kc hbb ll CC
      clear hrr hHH hH HD0 H6
      refine XReg.one (i := 9) (some 53) rfl rfl (by kernel_rfl) (by decide) (fun Kc hKc => ?_)
      refine goes_ Try.func84 (by kernel_rfl) rfl #[.slice Af b6.length cf, .int .u64 (IntKind.u64.wrap (f.op.length : Int))] (by rfl) rfl rfl (by (try simp only [List.map_toArray, List.map_cons, List.map_nil]); first | done | rfl) ?_
      refine (pannierref02_Number.calls 400 Af cf b6 _ b7 _ HCAf.out HLAf.out H7.out).mono ?_
      rintro e wg ⟨vv, rfl, hrr, hbb⟩
      refine ⟨_, rfl, ?_⟩
      have HDg := Aside0.mk (show Below we.heap.size we wg from HDf.out.trans (hbb.mono HDf.out.size))
      obtain ⟨Ag, cg, rfl, ll, CC⟩ := Kd.R_reads hrr
      have HLAg := Aside0.mk ll
      have HCAg := Aside0.mk CC
      refine hKc.out _ _ ⟨(blk_cell (blk_below HK3.out HDg.out) 6).trans rfl, (blk_cell (blk_below HK3.out HDg.out) 8).trans rfl⟩ (fun hHH => ?_)
      clear hKc Kc hbb ll CC
      have HSD := Aside0.mk (show w.heap.size ≤ wf.heap.size from Nat.le_trans HB3.out.size HDf.out.size)
      have HV7 := Aside0.mk (Kd.R_lower (base' := w.heap.size) hrr HSD.out)
      clear hrr hHH H7 HCAf HLAf HDf HSD
      refine XReg.pu 10 5 (h := ?_)
      refine done_ (by kernel_rfl) ?_
      have HK4 := Aside0.mk (blk_below HK3.out HDg.out)
      have HB4 := Aside0.mk (HB3.out.trans (HDg.out.mono HB3.out.size))
      have HW4 := Aside0.mk (Below.refl wg.heap.size wg)
      clear HDg
      go_wp2
      go_loopw [5, 6, 7, 8] (fun v5 v6 v7 v8 wr => ∃ (i : Nat) (T : List Int), v6 = .int .i64 i ∧ i ≤ f.op.length ∧ Aside0 (T ++ layOps [] (f.op.drop i) = b7 ++ layOps [] f.op) ∧ Aside0 (T.length ≤ 1000 + 20100 * i) ∧ Aside0 (Kd.R (Kd.int .u8) 5 wr w.heap.size (fun _ => True) v5 T) ∧ Aside0 (Below wg.heap.size wg wr)) (fun _ v6 _ _ _ => f.op.length - (intOf v6).toNat)
      case atStart => exact ⟨0, b7, rfl, by omega, ⟨rfl⟩, ⟨by have := HL7B.out; omega⟩, HV7, HW4⟩
      case round =>
       clear HV7 HW4
       obtain ⟨i, T, rfl, hi6, HQT, HLT, HVt, HBt⟩ := hrel
       have hO := HO8.out
       obtain ⟨At, ct, rfl, lt, Ct⟩ := Kd.R_reads HVt.out
       have HCt := Aside0.mk Ct
       have HLt := Aside0.mk lt
       have e8 : wr.cell? ⟨N, 8, none⟩ = some (.slice A8 f.op.length c8) := (blk_cell (blk_below HK4.out HBt.out) 8).trans rfl
       clear Ct lt
       by_cases h6 : i < f.op.length
       · obtain ⟨ad, A2, c2, A7', c7', had, f0, f1, f2, f3, f4, f5, f6, f7, l2, g2, l7, g7⟩ := at_T36 (Kd.C_below HG8.out (HB4.out.trans (HBt.out.mono HB4.out.size))) (i : Int) (by omega) (by omega)
         simp only [Int.toNat_natCast] at f0 f1 f2 f3 f4 f5 f6 f7
         have HW := Aside0.mk (HZ.out.op _ (rd_memF f.op i h6))
         have HRO := Aside0.mk (rightF_ops HBR.out _ (rd_memF f.op i h6))
         obtain ⟨x, hx⟩ : ∃ x, rd_T36 f.op (i : Int) = x := ⟨_, rfl⟩
         rw [hx] at f0 f1 f2 f3 f4 f5 f6 f7 l2 g2 l7 g7 HW HRO
         have HD := Aside0.mk (show f.op.drop i = x :: f.op.drop (i + 1) from by rw [← hx]; exact rd_drop36' f.op i h6)
         subst had
         have HL2 := Aside0.mk l2
         have HG2 := Aside0.mk g2
         have HL7' := Aside0.mk l7
         have HG7' := Aside0.mk g7
         have hb3 : 0 ≤ (i : Int) ∧ (i : Int) < (f.op.length : Int) := by omega
         have q3 : decide ((i : Int) < (f.op.length : Int)) = true := by simp; omega
         clear l2 g2 l7 g7 hx
         go_wp2_with fail
         refine (refLayO_calls x A2 c2 A7' c7' _ HL2.out HG2.out HL7'.out HG7'.out m HZ.out.m HW.out.1 HW.out.2.1 HW.out.2.2).mono ?_
         obtain ⟨⟨tx', ex⟩, hlx⟩ : ∃ r, layF x = r := ⟨_, rfl⟩
         have hsz := layF_size x
         rw [hlx] at hsz ⊢
         dsimp only at hsz ⊢
         have HLX := Aside0.mk hlx
         have HSZ := Aside0.mk hsz
         rintro e ws ⟨rfl, hbs⟩
         have HBs := Aside0.mk (HBt.out.trans (hbs.mono HBt.out.size))
         have HCs := Aside0.mk (Kd.C_below HCt.out hbs)
         clear hbs hlx hsz f0 f1 f2 f3 f4 f5 f6 f7 e8
         go_wp2_with fail
         refine (pannierref02_Text.calls 400 At ct T tx' _ _ HCs.out HLt.out (refTextBig_f T tx' (by have := HSZ.out; omega) (by have := HLT.out; have := HO8.out; omega) 400 (by omega))).mono ?_
         rintro e wu ⟨vu, rfl, hru, hbu⟩
         have HVu := Aside0.mk (Kd.R_lower (base' := w.heap.size) hru (Nat.le_trans HB4.out.size HBs.out.size))
         have HBu := Aside0.mk (HBs.out.trans (hbu.mono HBs.out.size))
         clear hru hbu
         go_wp2
         go_round
         case measure => simp [intOf]; omega
         case rel => exact ⟨i + 1, _, by go_num, by omega, ⟨by
          have h := HQT.out
          rw [HD.out, layOps_cons, HLX.out] at h
          rw [← h, textS_app]
          simp⟩, ⟨by
          have h1 := textB_len tx'
          have h3 := HLT.out
          have h4 := HSZ.out
          rw [textS_app, List.length_append]
          omega⟩, HVu, HBu⟩
       · have hi : i = f.op.length := by omega
         subst hi
         have q3 : decide ((f.op.length : Int) < (f.op.length : Int)) = false := by simp
         have HT := Aside0.mk (show T = bodyB f from by
          have h := HQT.out
          rw [List.drop_length] at h
          rw [HBO.out, ← h]
          simp [layOps])
         go_wp2
         go_meet
         exact ⟨⟨blk_below HK4.out HBt.out, HB4.out.trans (HBt.out.mono HB4.out.size), by rw [← HT.out]; exact HVt.out⟩⟩
    · have q2 : (f.k == 2) = false := by simpa using hk2
      have HBO := Aside0.mk (show bodyB f = b5 from by unfold bodyB; rw [if_neg hk1, if_neg hk2, HH.out])
      clear hk1 hk2
      go_wp2
      go_meet
      exact ⟨⟨HK3.out, HB3.out, by rw [HBO.out]; exact HV5.out⟩⟩
   case rest =>
    obtain ⟨⟨hk, hb, hr⟩⟩ := hcut
    have HK4 := Aside0.mk hk
    have HB4 := Aside0.mk hb
    have HVc := Aside0.mk hr
    clear hk hb hr HK3 HB3 HV5 HCAe HLAe
    obtain ⟨At, ct, e5, lt, Ct⟩ := Kd.R_reads HVc.out
    subst e5
    have hcv := own_string (P := Try.prog) Try.underlying63 Try.underlying5 Try.underlying9 (Kd.own_of_R HVc.out)
    have HBY := Aside0.mk (show bytesOf (strOfNums (bodyB f)) = bodyB f from bytes_nums (bodyB_B HBR.out))
    have HSZ := Aside0.mk (show (strOfNums (bodyB f)).size ≤ 1000000 from by
     have h1 := bytesOf_length (strOfNums (bodyB f))
     have h2 := bodyB_len HBR.out
     rw [HBY.out] at h1
     omega)
    have hk : f.k % 256 = f.k := by have := rightF_k HBR.out; omega
    have x0 := (cells9 HK4.out).e0
    clear lt Ct
    go_wp2_with fail
    try rw [hk]
    refine (refSeal_calls f.k (strOfNums (bodyB f)) HSZ.out _).mono ?_
    rw [HBY.out]
    rintro e w9 ⟨rfl, hb⟩
    have HB9 := Aside0.mk (HB4.out.trans (hb.mono HB4.out.size))
    clear hb hcv x0
    go_wp2
    go_ret2
    rw [HLF.out]
    exact ⟨rfl, by first | exact HB9.out | (rw [← hN]; exact HB9.out)⟩
end Go.Proofs.Ytenbkljgmgdegaa.PO
end
section
namespace Go.Proofs.Ytenbkljgmgdegaa.PO
open Go.RowKit Go.Proofs.YtenbkljgmgdegaaW.PrintWords Go.Proofs.YtenbkljgmgdegaaW.PrintLast Go.Proofs.YtenbkljgmgdegaaW.PrintMore Go.Proofs.Ytenbkljgmgdegaa.XW
open Go.Proofs.Ytenbkljgmgdegaa.XRange
set_option linter.unusedVariables false
set_option linter.unusedSimpArgs false
def sB : ByteArray := ⟨#[98]⟩
def f0 : Fr := ⟨3, sA, sB, sC, 1, 2, 0, [], []⟩
theorem f0_ok : rightF f0 = true := by
 unfold rightF headF bodyF f0
 rw [show isNameB sA = true by decide, show isNameB sB = true by decide]
 decide
theorem lay0 : ∃ s, layFr f0 = (s, 0) ∧ s.size = 14 ∧ (s.extract 0 10).toList = [3, 8, 1, 97, 1, 98, 1, 99, 1, 2] := by
 refine ⟨strOfNums (sealT 3 (bodyB f0)), ?_, ?_, ?_⟩
 · unfold layFr
   rw [if_pos f0_ok]
   rfl
 · decide +kernel
 · rw [ByteArray.toList_eq]
   decide +kernel
theorem lay0_calls (w : World) (s : ByteArray) (h1 : layFr f0 = (s, 0)) : Calls Try.prog 35 #[.agg #[.int .i64 3, .string ⟨#[97]⟩, .string ⟨#[98]⟩, .string ⟨#[99]⟩, .int .i64 1, .int .i64 2, .int .i64 0, .slice none 0 0, .slice none 0 0]] w fun e w' => e = .returned (.tuple #[.string s, .int .i64 0]) ∧ Below w.heap.size w w' := by
 have h := frLay_calls f0 none 0 none 0 w (Nat.le_refl _) (Kd.C_nil _ _) (Nat.le_refl _) (Kd.C_nil _ _)
 rw [h1] at h
 exact h
theorem read0_calls (w : World) (s : ByteArray) (h1 : layFr f0 = (s, 0)) (h2 : s.size = 14) :
 Calls Try.prog 32 #[.string s] w fun e w' => ∃ A7 c7 A8 c8, e = .returned (.tuple #[.agg #[.int .i64 3, .string ⟨#[97]⟩, .string ⟨#[98]⟩, .string ⟨#[99]⟩, .int .i64 1, .int .i64 2, .int .i64 0, .slice A7 0 c7, .slice A8 0 c8], .int .i64 0]) ∧
  Kd.C k34 w' A7 0 [] ∧ Kd.C k36 w' A8 0 [] ∧ Below w.heap.size w w' := by
 have hr := readF_back f0_ok
 rw [h1] at hr
 dsimp only at hr
 have h := frRead_calls w s (by omega)
 rw [hr] at h
 refine h.mono ?_
 rintro e w' ⟨v7, v8, rfl, hr7, hr8, hb⟩
 obtain ⟨A7, c7, rfl⟩ := Kd.R_slice hr7
 obtain ⟨A8, c8, rfl⟩ := Kd.R_slice hr8
 exact ⟨A7, c7, A8, c8, rfl, (Kd.R_reads' hr7).2.2, (Kd.R_reads' hr8).2.2, hb⟩
set_option maxHeartbeats 8000000 in
set_option maxRecDepth 100000 in
theorem shown14_calls (w : World) : Calls Try.prog 31 #[] w fun e w' => e = .returned (.bool true) ∧ Below w.heap.size w w' := by
 obtain ⟨s0, h1, h2, h3⟩ := lay0
 have H1 := Aside0.mk h1
 have H2 := Aside0.mk h2
 have H3 := Aside0.mk h3
 clear h1 h2 h3
 go_enter Try.func31, Try.ntmps31
 go_wp2_with fail
 obtain ⟨w0, hw0⟩ : ∃ w0, w.alloc (.cells #[.int .i64 3, .string ⟨#[97]⟩, .string ⟨#[98]⟩, .string ⟨#[99]⟩, .int .i64 1, .int .i64 2, .int .i64 0, .slice none 0 0, .slice none 0 0] 54) = w0 := ⟨_, rfl⟩
 obtain ⟨N, hN⟩ : ∃ N, w.heap.size = N := ⟨_, rfl⟩
 have HB0 := Aside0.mk (show Below w.heap.size w w0 from by rw [← hw0]; exact (Below.refl _ w).alloc (Nat.le_refl _) _)
 have HK0 := Aside0.mk (show w0.heap[N]? = some (.cells #[.int .i64 3, .string ⟨#[97]⟩, .string ⟨#[98]⟩, .string ⟨#[99]⟩, .int .i64 1, .int .i64 2, .int .i64 0, .slice none 0 0, .slice none 0 0] 54 (0, 0)) from by rw [← hw0, ← hN]; exact World.alloc_heap_new w _)
 try rw [hw0]
 refine (lay0_calls _ s0 H1.out).mono ?_
 rintro e w1 ⟨rfl, hb1⟩
 have HB1 := Aside0.mk (HB0.out.trans (hb1.mono HB0.out.size))
 have HK1 := Aside0.mk (blk_below HK0.out hb1)
 clear hb1 HB0 HK0 hw0
 go_wp2_with fail
 refine (read0_calls _ s0 H1.out H2.out).mono ?_
 rintro e w2 ⟨A7, c7, A8, c8, rfl, hr7, hr8, hb2⟩
 have HB2 := Aside0.mk (HB1.out.trans (hb2.mono HB1.out.size))
 have HK2 := Aside0.mk (blk_below HK1.out hb2)
 have HR7 := Aside0.mk hr7
 have HR8 := Aside0.mk hr8
 clear hb2 hr7 hr8 HB1 HK1
 go_upto_region 4 with fail
 obtain ⟨M, hM⟩ : ∃ M, w2.heap.size = M := ⟨_, rfl⟩
 obtain ⟨w3, hw3⟩ : ∃ w3, w2.alloc (.cells #[.int .i64 3, .string ⟨#[97]⟩, .string ⟨#[98]⟩, .string ⟨#[99]⟩, .int .i64 1, .int .i64 2, .int .i64 0, .slice A7 0 c7, .slice A8 0 c8] 54) = w3 := ⟨_, rfl⟩
 have hb3 : Below w2.heap.size w2 w3 := by rw [← hw3]; exact (Below.refl _ w2).alloc (Nat.le_refl _) _
 have HB3 := Aside0.mk (HB2.out.trans (hb3.mono HB2.out.size))
 have hk3 := blk_below HK2.out hb3
 have HR7' := Aside0.mk (Kd.C_below HR7.out hb3)
 have HR8' := Aside0.mk (Kd.C_below HR8.out hb3)
 obtain ⟨n0, n1, n2, n3, n4, n5, n6, n7, n8⟩ := cells9 hk3
 obtain ⟨m0, m1, m2, m3, m4, m5, m6, m7, m8⟩ := cells9 (show w3.heap[M]? = some (.cells #[.int .i64 3, .string ⟨#[97]⟩, .string ⟨#[98]⟩, .string ⟨#[99]⟩, .int .i64 1, .int .i64 2, .int .i64 0, .slice A7 0 c7, .slice A8 0 c8] 54 (0, 0)) from by rw [← hw3, ← hM]; exact World.alloc_heap_new w2 _)
 try rw [hw3]
 try rw [hM]
 clear hw3 hb3 hk3 HR7 HR8 HB2 HK2
 have q1 : s0.size = 14 := H2.out
 have q2 : (s0.extract 0 10).toList = [3, 8, 1, 97, 1, 98, 1, 99, 1, 2] := H3.out
 have q3 : (⟨#[3, 8, 1, 97, 1, 98, 1, 99, 1, 2]⟩ : ByteArray).toList = [3, 8, 1, 97, 1, 98, 1, 99, 1, 2] := by rw [ByteArray.toList_eq]
 go_wp2_with fail
 refine (show Calls Try.prog 34 _ w3 _ from refEqualF_calls f0 none 0 none 0 f0 A7 c7 A8 c8 w3 (Nat.le_refl _) (Kd.C_nil _ _) (Nat.le_refl _) (Kd.C_nil _ _) (Nat.zero_le _) HR7'.out (Nat.zero_le _) HR8'.out).mono ?_
 rw [eqR_iff.2 rfl]
 rintro e w4 ⟨rfl, hb4⟩
 have HB4 := Aside0.mk (HB3.out.trans (hb4.mono HB3.out.size))
 clear n0 n1 n2 n3 n4 n5 n6 n7 n8 m0 m1 m2 m3 m4 m5 m6 m7 m8 hb4 HB3
 go_wp2
 go_ret
 exact ⟨rfl, by first | exact HB4.out | (rw [← hN]; exact HB4.out)⟩
end Go.Proofs.Ytenbkljgmgdegaa.PO
end
section
namespace Go.Proofs.Ytenbkljgmgdegaa.PO
open Go.RowKit Go.Proofs.YtenbkljgmgdegaaW.PrintWords Go.Proofs.YtenbkljgmgdegaaW.PrintLast Go.Proofs.YtenbkljgmgdegaaW.PrintMore Go.Proofs.Ytenbkljgmgdegaa.XW
open Go.Proofs.Ytenbkljgmgdegaa.XRange
set_option linter.unusedVariables false
set_option linter.unusedSimpArgs false
set_option maxHeartbeats 8000000 in
set_option maxRecDepth 100000 in
theorem frameWords_calls (w : World) (f : Fr) (A7 : Option Addr) (c7 : Nat) (A8 : Option Addr) (c8 : Nat) (g : Fr) (B7 : Option Addr) (d7 : Nat) (B8 : Option Addr) (d8 : Nat)
 (l7 : f.kn.length ≤ c7) (g7 : Kd.C k34 w A7 f.kn.length f.kn) (l8 : f.op.length ≤ c8) (g8 : Kd.C k36 w A8 f.op.length f.op) (hf : WfF maxLen f)
 (m7 : g.kn.length ≤ d7) (h7 : Kd.C k34 w B7 g.kn.length g.kn) (m8 : g.op.length ≤ d8) (h8 : Kd.C k36 w B8 g.op.length g.op) (hg : WfF maxLen g) :
 Calls Try.prog 10 #[.agg #[.int .i64 f.k, .string f.fa, .string f.fb, .string f.ct, .int .i64 f.se, .int .i64 f.ix, .int .i64 f.mn, .slice A7 f.kn.length c7, .slice A8 f.op.length c8], .agg #[.int .i64 g.k, .string g.fa, .string g.fb, .string g.ct, .int .i64 g.se, .int .i64 g.ix, .int .i64 g.mn, .slice B7 g.kn.length d7, .slice B8 g.op.length d8]] w fun e w' => e = .returned (.bool true) ∧ Below w.heap.size w w' := by
 have HG7 := Aside0.mk g7
 have HG8 := Aside0.mk g8
 have HL7 := Aside0.mk l7
 have HL8 := Aside0.mk l8
 have HH7 := Aside0.mk h7
 have HH8 := Aside0.mk h8
 have HM7 := Aside0.mk m7
 have HM8 := Aside0.mk m8
 have HF := Aside0.mk hf
 have HG := Aside0.mk hg
 obtain ⟨⟨lu, le⟩, hlf⟩ : ∃ r, layFr f = r := ⟨_, rfl⟩
 have HLF := Aside0.mk hlf
 obtain ⟨br, hbr⟩ : ∃ b, rightF f = b := ⟨_, rfl⟩
 have HBR := Aside0.mk hbr
 obtain ⟨bs, hbs⟩ : ∃ b, sameF f g = b := ⟨_, rfl⟩
 have HBS := Aside0.mk hbs
 clear l7 g7 l8 g8 m7 h7 m8 h8 hf hg hlf hbr hbs
 obtain ⟨N, hN⟩ : ∃ N, w.heap.size = N := ⟨_, rfl⟩
 go_enter Try.func10, Try.ntmps10
 go_upto_region 1 with fail
 obtain ⟨w0, hw0⟩ : ∃ w0, (w.alloc (.cells #[.int .i64 f.k, .string f.fa, .string f.fb, .string f.ct, .int .i64 f.se, .int .i64 f.ix, .int .i64 f.mn, .slice A7 f.kn.length c7, .slice A8 f.op.length c8] 54)).alloc (.cells #[.int .i64 g.k, .string g.fa, .string g.fb, .string g.ct, .int .i64 g.se, .int .i64 g.ix, .int .i64 g.mn, .slice B7 g.kn.length d7, .slice B8 g.op.length d8] 54) = w0 := ⟨_, rfl⟩
 have HB0 := Aside0.mk (show Below w.heap.size w w0 from by rw [← hw0]; exact ((Below.refl _ w).alloc (Nat.le_refl _) _).alloc (by simp) _)
 have HK0 := Aside0.mk (show w0.heap[N]? = some (.cells #[.int .i64 f.k, .string f.fa, .string f.fb, .string f.ct, .int .i64 f.se, .int .i64 f.ix, .int .i64 f.mn, .slice A7 f.kn.length c7, .slice A8 f.op.length c8] 54 (0, 0)) from by rw [← hw0, ← hN]; exact blk_alloc (World.alloc_heap_new w _) _)
 have HJ0 := Aside0.mk (show w0.heap[N + 1]? = some (.cells #[.int .i64 g.k, .string g.fa, .string g.fb, .string g.ct, .int .i64 g.se, .int .i64 g.ix, .int .i64 g.mn, .slice B7 g.kn.length d7, .slice B8 g.op.length d8] 54 (0, 0)) from by
  rw [← hw0, ← hN]
  have h := World.alloc_heap_new (w.alloc (.cells #[.int .i64 f.k, .string f.fa, .string f.fb, .string f.ct, .int .i64 f.se, .int .i64 f.ix, .int .i64 f.mn, .slice A7 f.kn.length c7, .slice A8 f.op.length c8] 54)) (.cells #[.int .i64 g.k, .string g.fa, .string g.fb, .string g.ct, .int .i64 g.se, .int .i64 g.ix, .int .i64 g.mn, .slice B7 g.kn.length d7, .slice B8 g.op.length d8] 54)
  simpa using h)
 try rw [hw0]
 try rw [hN]
 clear hw0
 go_wp2_with fail
 refine (shown14_calls _).mono ?_
 rintro e w1 ⟨rfl, hb⟩
 have HB1 := Aside0.mk (HB0.out.trans (hb.mono HB0.out.size))
 have HK1 := Aside0.mk (blk_below HK0.out hb)
 have HJ1 := Aside0.mk (blk_below HJ0.out hb)
 clear hb HB0 HK0 HJ0
 obtain ⟨k0, k1, k2, k3, k4, k5, k6, k7, k8⟩ := cells9 HK1.out
 go_wp2_with fail
 refine (frLay_calls f A7 c7 A8 c8 w1 HL7.out (Kd.C_below HG7.out HB1.out) HL8.out (Kd.C_below HG8.out HB1.out)).mono ?_
 rw [HLF.out]
 rintro e w2 ⟨rfl, hb⟩
 have HB2 := Aside0.mk (HB1.out.trans (hb.mono HB1.out.size))
 have HK2 := Aside0.mk (blk_below HK1.out hb)
 have HJ2 := Aside0.mk (blk_below HJ1.out hb)
 clear hb HB1 HK1 HJ1 k0 k1 k2 k3 k4 k5 k6 k7 k8
 obtain ⟨k0, k1, k2, k3, k4, k5, k6, k7, k8⟩ := cells9 HK2.out
 go_wp2_with fail
 refine (refLayF_calls f A7 c7 A8 c8 w2 HL7.out (Kd.C_below HG7.out HB2.out) HL8.out (Kd.C_below HG8.out HB2.out) maxLen HF.out).mono ?_
 rw [HLF.out]
 rintro e w3 ⟨rfl, hb⟩
 have HB3 := Aside0.mk (HB2.out.trans (hb.mono HB2.out.size))
 have HK3 := Aside0.mk (blk_below HK2.out hb)
 have HJ3 := Aside0.mk (blk_below HJ2.out hb)
 clear hb HB2 HK2 HJ2 k0 k1 k2 k3 k4 k5 k6 k7 k8
 go_wp2
 refine start_ (n := 28) (ds := []) (S := fun w' => Cells9 w' N (.int .i64 f.k) (.string f.fa) (.string f.fb) (.string f.ct) (.int .i64 f.se) (.int .i64 f.ix) (.int .i64 f.mn) (.slice A7 f.kn.length c7) (.slice A8 f.op.length c8) ∧ Cells9 w' (N + 1) (.int .i64 g.k) (.string g.fa) (.string g.fb) (.string g.ct) (.int .i64 g.se) (.int .i64 g.ix) (.int .i64 g.mn) (.slice B7 g.kn.length d7) (.slice B8 g.op.length d8)) _ (by kernel_rfl) rfl rfl ⟨cells9 (blk_drew HK3.out), cells9 (blk_drew HJ3.out)⟩ (fun hH => ?_)
 have HD0 := Aside0.mk (show Below w3.heap.size w3 w3.drew from below_drew1 (Below.refl _ w3))
 refine XReg.pu 0 21 (h := ?_)
 refine XReg.pu 1 22 (h := ?_)
 refine XReg.tk 2 23 (hy := by (intro w' hS_; obtain ⟨⟨s0, s1, s2, s3, s4, s5, s6, s7, s8⟩, _⟩ := hS_; go_simp; with_reducible rfl)) (h := ?_)
 refine XReg.tk 4 25 (hy := by (intro w' hS_; obtain ⟨⟨s0, s1, s2, s3, s4, s5, s6, s7, s8⟩, _⟩ := hS_; go_simp; with_reducible rfl)) (h := ?_)
 refine XReg.one (i := 3) (some 24) rfl rfl (by kernel_rfl) (by decide) (fun Kc hKc => ?_)
 refine goes_ Try.func37 (by kernel_rfl) rfl #[.agg #[.int .i64 f.k, .string f.fa, .string f.fb, .string f.ct, .int .i64 f.se, .int .i64 f.ix, .int .i64 f.mn, .slice A7 f.kn.length c7, .slice A8 f.op.length c8]] (by rfl) rfl rfl (by (try simp only [List.map_toArray, List.map_cons, List.map_nil]); first | done | rfl) ?_
 refine (frRight_calls f A7 c7 A8 c8 _ HL7.out (Kd.C_below HG7.out (HB3.out.trans (HD0.out.mono HB3.out.size))) HL8.out (Kd.C_below HG8.out (HB3.out.trans (HD0.out.mono HB3.out.size)))).mono ?_
 rw [HBR.out]
 rintro e wc1 ⟨rfl, hb⟩
 refine ⟨_, rfl, ?_⟩
 have HD1 := Aside0.mk (show Below w3.heap.size w3 wc1 from HD0.out.trans (hb.mono HD0.out.size))
 refine hKc.out _ _ ⟨cells9 (blk_below HK3.out HD1.out), cells9 (blk_below HJ3.out HD1.out)⟩ (fun hH1 => ?_)
 clear hKc Kc hb HD0 hH
 refine XReg.one (i := 5) (some 26) rfl rfl (by kernel_rfl) (by decide) (fun Kc hKc => ?_)
 refine goes_ Try.func38 (by kernel_rfl) rfl #[.agg #[.int .i64 f.k, .string f.fa, .string f.fb, .string f.ct, .int .i64 f.se, .int .i64 f.ix, .int .i64 f.mn, .slice A7 f.kn.length c7, .slice A8 f.op.length c8]] (by rfl) rfl rfl (by (try simp only [List.map_toArray, List.map_cons, List.map_nil]); first | done | rfl) ?_
 refine (refRightF_calls f A7 c7 A8 c8 _ HL7.out (Kd.C_below HG7.out (HB3.out.trans (HD1.out.mono HB3.out.size))) HL8.out (Kd.C_below HG8.out (HB3.out.trans (HD1.out.mono HB3.out.size))) maxLen HF.out).mono ?_
 rw [HBR.out]
 rintro e wc2 ⟨rfl, hb⟩
 refine ⟨_, rfl, ?_⟩
 have HD2 := Aside0.mk (show Below w3.heap.size w3 wc2 from HD1.out.trans (hb.mono HD1.out.size))
 refine hKc.out _ _ ⟨cells9 (blk_below HK3.out HD2.out), cells9 (blk_below HJ3.out HD2.out)⟩ (fun hH2 => ?_)
 clear hKc Kc hb HD1 hH1
 refine XReg.pu 6 27 (h := ?_)
 refine XReg.pu 7 28 (h := ?_)
 refine XReg.pu 8 29 (h := ?_)
 refine XReg.tk 9 30 (hy := by (intro w' hS_; obtain ⟨⟨s0, s1, s2, s3, s4, s5, s6, s7, s8⟩, _⟩ := hS_; go_simp; with_reducible rfl)) (h := ?_)
 refine XReg.tk 10 31 (hy := by (intro w' hS_; obtain ⟨_, ⟨s0, s1, s2, s3, s4, s5, s6, s7, s8⟩⟩ := hS_; go_simp; with_reducible rfl)) (h := ?_)
 refine XReg.tk 12 33 (hy := by (intro w' hS_; obtain ⟨⟨s0, s1, s2, s3, s4, s5, s6, s7, s8⟩, _⟩ := hS_; go_simp; with_reducible rfl)) (h := ?_)
 refine XReg.tk 13 34 (hy := by (intro w' hS_; obtain ⟨_, ⟨s0, s1, s2, s3, s4, s5, s6, s7, s8⟩⟩ := hS_; go_simp; with_reducible rfl)) (h := ?_)
 refine XReg.one (i := 11) (some 32) rfl rfl (by kernel_rfl) (by decide) (fun Kc hKc => ?_)
 refine goes_ Try.func39 (by kernel_rfl) rfl #[.agg #[.int .i64 f.k, .string f.fa, .string f.fb, .string f.ct, .int .i64 f.se, .int .i64 f.ix, .int .i64 f.mn, .slice A7 f.kn.length c7, .slice A8 f.op.length c8], .agg #[.int .i64 g.k, .string g.fa, .string g.fb, .string g.ct, .int .i64 g.se, .int .i64 g.ix, .int .i64 g.mn, .slice B7 g.kn.length d7, .slice B8 g.op.length d8]] (by rfl) rfl rfl (by (try simp only [List.map_toArray, List.map_cons, List.map_nil]); first | done | rfl) ?_
 refine (frSame_calls f A7 c7 A8 c8 g B7 d7 B8 d8 _ HL7.out (Kd.C_below HG7.out (HB3.out.trans (HD2.out.mono HB3.out.size))) HL8.out (Kd.C_below HG8.out (HB3.out.trans (HD2.out.mono HB3.out.size))) HM7.out (Kd.C_below HH7.out (HB3.out.trans (HD2.out.mono HB3.out.size))) HM8.out (Kd.C_below HH8.out (HB3.out.trans (HD2.out.mono HB3.out.size)))).mono ?_
 rw [HBS.out]
 rintro e wc3 ⟨rfl, hb⟩
 refine ⟨_, rfl, ?_⟩
 have HD3 := Aside0.mk (show Below w3.heap.size w3 wc3 from HD2.out.trans (hb.mono HD2.out.size))
 refine hKc.out _ _ ⟨cells9 (blk_below HK3.out HD3.out), cells9 (blk_below HJ3.out HD3.out)⟩ (fun hH3 => ?_)
 clear hKc Kc hb HD2 hH2
 refine XReg.one (i := 14) (some 35) rfl rfl (by kernel_rfl) (by decide) (fun Kc hKc => ?_)
 refine goes_ Try.func40 (by kernel_rfl) rfl #[.agg #[.int .i64 f.k, .string f.fa, .string f.fb, .string f.ct, .int .i64 f.se, .int .i64 f.ix, .int .i64 f.mn, .slice A7 f.kn.length c7, .slice A8 f.op.length c8], .agg #[.int .i64 g.k, .string g.fa, .string g.fb, .string g.ct, .int .i64 g.se, .int .i64 g.ix, .int .i64 g.mn, .slice B7 g.kn.length d7, .slice B8 g.op.length d8]] (by rfl) rfl rfl (by (try simp only [List.map_toArray, List.map_cons, List.map_nil]); first | done | rfl) ?_
 refine (refSameF_calls f A7 c7 A8 c8 g B7 d7 B8 d8 _ HL7.out (Kd.C_below HG7.out (HB3.out.trans (HD3.out.mono HB3.out.size))) HL8.out (Kd.C_below HG8.out (HB3.out.trans (HD3.out.mono HB3.out.size))) HM7.out (Kd.C_below HH7.out (HB3.out.trans (HD3.out.mono HB3.out.size))) HM8.out (Kd.C_below HH8.out (HB3.out.trans (HD3.out.mono HB3.out.size))) maxLen HF.out HG.out).mono ?_
 rw [HBS.out]
 rintro e wc4 ⟨rfl, hb⟩
 refine ⟨_, rfl, ?_⟩
 have HD4 := Aside0.mk (show Below w3.heap.size w3 wc4 from HD3.out.trans (hb.mono HD3.out.size))
 refine hKc.out _ _ ⟨cells9 (blk_below HK3.out HD4.out), cells9 (blk_below HJ3.out HD4.out)⟩ (fun hH4 => ?_)
 clear hKc Kc hb HD3 hH3
 refine XReg.pu 15 36 (h := ?_)
 refine XReg.pu 16 37 (h := ?_)
 refine XReg.pu 17 38 (h := ?_)
 refine XReg.pu 18 39 (h := ?_)
 refine XReg.pu 19 40 (h := ?_)
 refine XReg.pu 20 41 (h := ?_)
 refine XReg.pu 21 42 (h := ?_)
 refine XReg.pu 22 43 (h := ?_)
 refine XReg.pu 23 44 (h := ?_)
 refine XReg.pu 24 45 (h := ?_)
 refine XReg.pu 25 46 (h := ?_)
 refine XReg.pu 26 47 (h := ?_)
 refine XReg.pu 27 4 (h := ?_)
 refine done_ (by kernel_rfl) ?_
 have HE := Aside0.mk (HB3.out.trans (HD4.out.mono HB3.out.size))
 go_wp2
 go_ret
 exact ⟨by first | rfl | simp, by first | exact HE.out | (rw [← hN]; exact HE.out)⟩
end Go.Proofs.Ytenbkljgmgdegaa.PO
end
