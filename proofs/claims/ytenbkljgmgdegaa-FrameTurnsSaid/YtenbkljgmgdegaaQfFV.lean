/- What the rows of this claim use, out of the texts of this work (FV, FW). No condition beyond those that each statement names. -/
import Derived.Deep.DeepCutAuto
import Derived.Deep.CutBlock
import Derived.Test.YtenbkljgmgdegaaQfFT
import Derived.Test.YtenbkljgmgdegaaQfPOx14
section
namespace Go.Proofs.Ytenbkljgmgdegaa.PO
open Go.RowKit Go.Proofs.YtenbkljgmgdegaaW.PrintWords Go.Proofs.YtenbkljgmgdegaaW.PrintLast Go.Proofs.YtenbkljgmgdegaaW.PrintMore Go.Proofs.Ytenbkljgmgdegaa.XW
open Go.Proofs.Ytenbkljgmgdegaa.XRange
set_option linter.unusedVariables false
set_option linter.unusedSimpArgs false
def sB : ByteArray := ⟨#[98]⟩
def f0 : Fr := ⟨3, sA, sB, sC, 1, 2, 0, [], []⟩
theorem f0_ok : rightF f0 = true := by
 unfold rightF headF bodyF f0
 rw [show isNameB sA = true by decide, show isNameB sB = true by decide]
 decide
theorem lay0 : ∃ s, layFr f0 = (s, 0) ∧ s.size = 14 ∧ (s.extract 0 10).toList = [3, 8, 1, 97, 1, 98, 1, 99, 1, 2] := by
 refine ⟨strOfNums (sealT 3 (bodyB f0)), ?_, ?_, ?_⟩
 · unfold layFr
   rw [if_pos f0_ok]
   rfl
 · decide +kernel
 · rw [ByteArray.toList_eq]
   decide +kernel
theorem lay0_calls (w : World) (s : ByteArray) (h1 : layFr f0 = (s, 0)) : Calls Try.prog 35 #[.agg #[.int .i64 3, .string ⟨#[97]⟩, .string ⟨#[98]⟩, .string ⟨#[99]⟩, .int .i64 1, .int .i64 2, .int .i64 0, .slice none 0 0, .slice none 0 0]] w fun e w' => e = .returned (.tuple #[.string s, .int .i64 0]) ∧ Below w.heap.size w w' := by
 have h := frLay_calls f0 none 0 none 0 w (Nat.le_refl _) (Kd.C_nil _ _) (Nat.le_refl _) (Kd.C_nil _ _)
 rw [h1] at h
 exact h
theorem read0_calls (w : World) (s : ByteArray) (h1 : layFr f0 = (s, 0)) (h2 : s.size = 14) :
 Calls Try.prog 32 #[.string s] w fun e w' => ∃ A7 c7 A8 c8, e = .returned (.tuple #[.agg #[.int .i64 3, .string ⟨#[97]⟩, .string ⟨#[98]⟩, .string ⟨#[99]⟩, .int .i64 1, .int .i64 2, .int .i64 0, .slice A7 0 c7, .slice A8 0 c8], .int .i64 0]) ∧
  Kd.C k34 w' A7 0 [] ∧ Kd.C k36 w' A8 0 [] ∧ Below w.heap.size w w' := by
 have hr := readF_back f0_ok
 rw [h1] at hr
 dsimp only at hr
 have h := frRead_calls w s (by omega)
 rw [hr] at h
 refine h.mono ?_
 rintro e w' ⟨v7, v8, rfl, hr7, hr8, hb⟩
 obtain ⟨A7, c7, rfl⟩ := Kd.R_slice hr7
 obtain ⟨A8, c8, rfl⟩ := Kd.R_slice hr8
 exact ⟨A7, c7, A8, c8, rfl, (Kd.R_reads' hr7).2.2, (Kd.R_reads' hr8).2.2, hb⟩
theorem equal0_f : ∃ k, pannierref14_Equal.f k 3 ⟨#[97]⟩ ⟨#[98]⟩ ⟨#[99]⟩ 1 2 0 [] [] 3 ⟨#[97]⟩ ⟨#[98]⟩ ⟨#[99]⟩ 1 2 0 [] [] = some true := ⟨20, by decide +kernel⟩
set_option maxHeartbeats 8000000 in
set_option maxRecDepth 100000 in
theorem shown14_calls (w : World) : Calls Try.prog 31 #[] w fun e w' => e = .returned (.bool true) ∧ Below w.heap.size w w' := by
 obtain ⟨s0, h1, h2, h3⟩ := lay0
 obtain ⟨ke, hke⟩ := equal0_f
 have H1 := Aside0.mk h1
 have H2 := Aside0.mk h2
 have H3 := Aside0.mk h3
 have HKE := Aside0.mk hke
 clear h1 h2 h3 hke
 go_enter Try.func31, Try.ntmps31
 go_wp2_with fail
 obtain ⟨w0, hw0⟩ : ∃ w0, w.alloc (.cells #[.int .i64 3, .string ⟨#[97]⟩, .string ⟨#[98]⟩, .string ⟨#[99]⟩, .int .i64 1, .int .i64 2, .int .i64 0, .slice none 0 0, .slice none 0 0] 54) = w0 := ⟨_, rfl⟩
 obtain ⟨N, hN⟩ : ∃ N, w.heap.size = N := ⟨_, rfl⟩
 have HB0 := Aside0.mk (show Below w.heap.size w w0 from by rw [← hw0]; exact (Below.refl _ w).alloc (Nat.le_refl _) _)
 have HK0 := Aside0.mk (show w0.heap[N]? = some (.cells #[.int .i64 3, .string ⟨#[97]⟩, .string ⟨#[98]⟩, .string ⟨#[99]⟩, .int .i64 1, .int .i64 2, .int .i64 0, .slice none 0 0, .slice none 0 0] 54 (0, 0)) from by rw [← hw0, ← hN]; exact World.alloc_heap_new w _)
 try rw [hw0]
 refine (lay0_calls _ s0 H1.out).mono ?_
 rintro e w1 ⟨rfl, hb1⟩
 have HB1 := Aside0.mk (HB0.out.trans (hb1.mono HB0.out.size))
 have HK1 := Aside0.mk (blk_below HK0.out hb1)
 clear hb1 HB0 HK0 hw0
 go_wp2_with fail
 refine (read0_calls _ s0 H1.out H2.out).mono ?_
 rintro e w2 ⟨A7, c7, A8, c8, rfl, hr7, hr8, hb2⟩
 have HB2 := Aside0.mk (HB1.out.trans (hb2.mono HB1.out.size))
 have HK2 := Aside0.mk (blk_below HK1.out hb2)
 have HR7 := Aside0.mk hr7
 have HR8 := Aside0.mk hr8
 clear hb2 hr7 hr8 HB1 HK1
 go_upto_region 4 with fail
 obtain ⟨M, hM⟩ : ∃ M, w2.heap.size = M := ⟨_, rfl⟩
 obtain ⟨w3, hw3⟩ : ∃ w3, w2.alloc (.cells #[.int .i64 3, .string ⟨#[97]⟩, .string ⟨#[98]⟩, .string ⟨#[99]⟩, .int .i64 1, .int .i64 2, .int .i64 0, .slice A7 0 c7, .slice A8 0 c8] 54) = w3 := ⟨_, rfl⟩
 have hb3 : Below w2.heap.size w2 w3 := by rw [← hw3]; exact (Below.refl _ w2).alloc (Nat.le_refl _) _
 have HB3 := Aside0.mk (HB2.out.trans (hb3.mono HB2.out.size))
 have hk3 := blk_below HK2.out hb3
 have HR7' := Aside0.mk (Kd.C_below HR7.out hb3)
 have HR8' := Aside0.mk (Kd.C_below HR8.out hb3)
 obtain ⟨n0, n1, n2, n3, n4, n5, n6, n7, n8⟩ := cells9 hk3
 obtain ⟨m0, m1, m2, m3, m4, m5, m6, m7, m8⟩ := cells9 (show w3.heap[M]? = some (.cells #[.int .i64 3, .string ⟨#[97]⟩, .string ⟨#[98]⟩, .string ⟨#[99]⟩, .int .i64 1, .int .i64 2, .int .i64 0, .slice A7 0 c7, .slice A8 0 c8] 54 (0, 0)) from by rw [← hw3, ← hM]; exact World.alloc_heap_new w2 _)
 try rw [hw3]
 try rw [hM]
 clear hw3 hb3 hk3 HR7 HR8 HB2 HK2
 have q1 : s0.size = 14 := H2.out
 have q2 : (s0.extract 0 10).toList = [3, 8, 1, 97, 1, 98, 1, 99, 1, 2] := H3.out
 have q3 : (⟨#[3, 8, 1, 97, 1, 98, 1, 99, 1, 2]⟩ : ByteArray).toList = [3, 8, 1, 97, 1, 98, 1, 99, 1, 2] := by rw [ByteArray.toList_eq]
 go_wp2_with fail
 refine (pannierref14_Equal.calls ke 3 ⟨#[97]⟩ ⟨#[98]⟩ ⟨#[99]⟩ 1 2 0 none 0 [] none 0 [] 3 ⟨#[97]⟩ ⟨#[98]⟩ ⟨#[99]⟩ 1 2 0 A7 c7 [] A8 c8 [] true w3 (Kd.C_nil _ _) (Nat.le_refl _) (Kd.C_nil _ _) (Nat.le_refl _) HR7'.out (Nat.zero_le _) HR8'.out (Nat.zero_le _) HKE.out).mono ?_
 rintro e w4 ⟨rfl, hb4⟩
 have HB4 := Aside0.mk (HB3.out.trans (hb4.mono HB3.out.size))
 clear n0 n1 n2 n3 n4 n5 n6 n7 n8 m0 m1 m2 m3 m4 m5 m6 m7 m8 hb4 HB3
 go_wp2
 go_ret
 exact ⟨rfl, by first | exact HB4.out | (rw [← hN]; exact HB4.out)⟩
set_option maxHeartbeats 8000000 in
set_option maxRecDepth 100000 in
theorem frameBack_calls (w : World) (f : Fr) (A7 : Option Addr) (c7 : Nat) (A8 : Option Addr) (c8 : Nat) (t : ByteArray) (l7 : f.kn.length ≤ c7) (g7 : Kd.C k34 w A7 f.kn.length f.kn) (l8 : f.op.length ≤ c8) (g8 : Kd.C k36 w A8 f.op.length f.op) (ht : t.size ≤ 140737488351232) :
 Calls Try.prog 11 #[.agg #[.int .i64 f.k, .string f.fa, .string f.fb, .string f.ct, .int .i64 f.se, .int .i64 f.ix, .int .i64 f.mn, .slice A7 f.kn.length c7, .slice A8 f.op.length c8], .string t] w fun e w' => e = .returned (.bool true) ∧ Below w.heap.size w w' := by
 have HG7 := Aside0.mk g7
 have HG8 := Aside0.mk g8
 have HL7 := Aside0.mk l7
 have HL8 := Aside0.mk l8
 clear l7 g7 l8 g8
 obtain ⟨N, hN⟩ : ∃ N, w.heap.size = N := ⟨_, rfl⟩
 go_enter Try.func11, Try.ntmps11
 go_upto_region 1 with fail
 obtain ⟨w0, hw0⟩ : ∃ w0, w.alloc (.cells #[.int .i64 f.k, .string f.fa, .string f.fb, .string f.ct, .int .i64 f.se, .int .i64 f.ix, .int .i64 f.mn, .slice A7 f.kn.length c7, .slice A8 f.op.length c8] 54) = w0 := ⟨_, rfl⟩
 have HB0 := Aside0.mk (show Below w.heap.size w w0 from by rw [← hw0]; exact (Below.refl _ w).alloc (Nat.le_refl _) _)
 have HK0 := Aside0.mk (show w0.heap[N]? = some (.cells #[.int .i64 f.k, .string f.fa, .string f.fb, .string f.ct, .int .i64 f.se, .int .i64 f.ix, .int .i64 f.mn, .slice A7 f.kn.length c7, .slice A8 f.op.length c8] 54 (0, 0)) from by rw [← hw0, ← hN]; exact World.alloc_heap_new w _)
 try rw [hw0]
 try rw [hN]
 clear hw0
 go_wp2_with fail
 refine (shown14_calls _).mono ?_
 rintro e w1 ⟨rfl, hb1⟩
 have HB1 := Aside0.mk (HB0.out.trans (hb1.mono HB0.out.size))
 have HK1 := Aside0.mk (blk_below HK0.out hb1)
 clear hb1 HB0 HK0
 obtain ⟨u, hu⟩ : ∃ u, t.extract 0 (min (t.size : Int) 100000).toNat = u := ⟨_, rfl⟩
 have HU := Aside0.mk (show u.size ≤ 100000 from by rw [← hu]; simp; omega)
 have ht1 : t.size ≤ 9223372036854775807 := by omega
 go_wp2_with fail
 try rw [hu]
 clear hu ht1 ht
 refine (frRead_calls w1 u (by have := HU.out; omega)).mono ?_
 rintro e w2 ⟨v7, v8, rfl, hr7, hr8, hb2⟩
 have his := @readF_is (bytesOf u) (bytes_B u)
 rw [nums_bytes] at his
 have her := readF_err (bytesOf u)
 obtain ⟨⟨y, er⟩, hy⟩ : ∃ r, readF (bytesOf u) = r := ⟨_, rfl⟩
 rw [hy] at hr7 hr8 his her ⊢
 dsimp only at hr7 hr8 his her ⊢
 obtain ⟨B7, d7, rfl⟩ := Kd.R_slice hr7
 obtain ⟨B8, d8, rfl⟩ := Kd.R_slice hr8
 have HIS := Aside0.mk his
 have HR7 := Aside0.mk hr7
 have HR8 := Aside0.mk hr8
 have HB2 := Aside0.mk (HB1.out.trans (hb2.mono HB1.out.size))
 have HK2 := Aside0.mk (blk_below HK1.out hb2)
 clear hb2 hr7 hr8 his hy HB1 HK1
 go_upto_region 4 with fail
 obtain ⟨M, hM⟩ : ∃ M, w2.heap.size = M := ⟨_, rfl⟩
 obtain ⟨w3, hw3⟩ : ∃ w3, w2.alloc (.cells #[.int .i64 y.k, .string y.fa, .string y.fb, .string y.ct, .int .i64 y.se, .int .i64 y.ix, .int .i64 y.mn, .slice B7 y.kn.length d7, .slice B8 y.op.length d8] 54) = w3 := ⟨_, rfl⟩
 have hb3 : Below w2.heap.size w2 w3 := by rw [← hw3]; exact (Below.refl _ w2).alloc (Nat.le_refl _) _
 have HB3 := Aside0.mk (HB2.out.trans (hb3.mono HB2.out.size))
 have HK3 := Aside0.mk (blk_below HK2.out hb3)
 have HM3 := Aside0.mk (show w3.heap[M]? = some (.cells #[.int .i64 y.k, .string y.fa, .string y.fb, .string y.ct, .int .i64 y.se, .int .i64 y.ix, .int .i64 y.mn, .slice B7 y.kn.length d7, .slice B8 y.op.length d8] 54 (0, 0)) from by rw [← hw3, ← hM]; exact World.alloc_heap_new w2 _)
 have HC7 := Aside0.mk (Kd.C_below (Kd.R_reads' HR7.out).2.2 hb3)
 have HC8 := Aside0.mk (Kd.C_below (Kd.R_reads' HR8.out).2.2 hb3)
 have HD7 := Aside0.mk (Kd.R_reads' HR7.out).2.1
 have HD8 := Aside0.mk (Kd.R_reads' HR8.out).2.1
 try rw [hw3]
 try rw [hM]
 clear hw3 hM hb3 HR7 HR8 HB2 HK2
 go_upto_if 26 with fail
 go_cut [8, 9] (fun s8 s9 wx => Aside0 (Below w.heap.size w wx ∧ wx.heap[N]? = some (.cells #[.int .i64 f.k, .string f.fa, .string f.fb, .string f.ct, .int .i64 f.se, .int .i64 f.ix, .int .i64 f.mn, .slice A7 f.kn.length c7, .slice A8 f.op.length c8] 54 (0, 0))))
 case first =>
  rcases her with rfl | rfl
  · obtain ⟨k0, k1, k2, k3, k4, k5, k6, k7, k8⟩ := cells9 HM3.out
    go_wp2_with fail
    refine (frLay_calls y B7 d7 B8 d8 w3 HD7.out HC7.out HD8.out HC8.out).mono ?_
    rw [(HIS.out (by first | trivial | rfl)).2]
    rintro e w4 ⟨rfl, hb4⟩
    have HB4 := Aside0.mk (HB3.out.trans (hb4.mono HB3.out.size))
    have HK4 := Aside0.mk (blk_below HK3.out hb4)
    clear hb4 k0 k1 k2 k3 k4 k5 k6 k7 k8
    go_wp2
    go_meet
    exact ⟨⟨HB4.out, HK4.out⟩⟩
  · go_wp2
    go_meet
    exact ⟨⟨HB3.out, HK3.out⟩⟩
 case rest =>
  obtain ⟨⟨hb, hk⟩⟩ := hcut
  have HB4 := Aside0.mk hb
  have HK4 := Aside0.mk hk
  clear hb hk HB3 HK3 HM3 HC7 HC8 HD7 HD8 HIS HU her
  obtain ⟨k0, k1, k2, k3, k4, k5, k6, k7, k8⟩ := cells9 HK4.out
  go_wp2_with fail
  refine (frLay_calls f A7 c7 A8 c8 wc HL7.out (Kd.C_below HG7.out HB4.out) HL8.out (Kd.C_below HG8.out HB4.out)).mono ?_
  obtain ⟨br, hbr⟩ : ∃ br, rightF f = br := ⟨_, rfl⟩
  have HBR := Aside0.mk hbr
  clear hbr k0 k1 k2 k3 k4 k5 k6 k7 k8
  cases br with
  | false =>
    have hlf : layFr f = (⟨#[]⟩, 2) := by unfold layFr; rw [if_neg (by rw [HBR.out]; simp)]
    rw [hlf]
    rintro e w5 ⟨rfl, hb5⟩
    have HB5 := Aside0.mk (HB4.out.trans (hb5.mono HB4.out.size))
    have hk5 := blk_below HK4.out hb5
    obtain ⟨k0, k1, k2, k3, k4, k5, k6, k7, k8⟩ := cells9 hk5
    clear hb5 hk5 HB4 HK4 hlf
    go_wp2_with fail
    refine (frRight_calls f A7 c7 A8 c8 w5 HL7.out (Kd.C_below HG7.out HB5.out) HL8.out (Kd.C_below HG8.out HB5.out)).mono ?_
    rw [HBR.out]
    rintro e w6 ⟨rfl, hb6⟩
    have HB6 := Aside0.mk (HB5.out.trans (hb6.mono HB5.out.size))
    clear hb6 k0 k1 k2 k3 k4 k5 k6 k7 k8
    go_wp2
    go_ret
    exact ⟨rfl, HB6.out⟩
  | true =>
    obtain ⟨v, hv⟩ : ∃ v, strOfNums (sealT f.k (bodyB f)) = v := ⟨_, rfl⟩
    have hlf : layFr f = (v, 0) := by unfold layFr; rw [if_pos HBR.out, hv]
    have hrd := readF_back HBR.out
    rw [hlf] at hrd ⊢
    dsimp only at hrd
    have hvs : v.size ≤ 1000000 := by
     have h1 := bodyB_len HBR.out
     have h2 : (sealT f.k (bodyB f)).length = v.size := by rw [← bytesOf_length v, ← hv, bytes_nums (sealT_B HBR.out)]
     have h3 := encN_len ((bodyB f).length : Int)
     have h4 : (sumB (f.k :: encN ((bodyB f).length : Int) ++ bodyB f)).length = 4 := rfl
     unfold sealT at h2
     simp only [List.length_append, List.length_cons] at h2 h4
     omega
    have HVS := Aside0.mk hvs
    have HRD := Aside0.mk hrd
    rintro e w5 ⟨rfl, hb5⟩
    have HB5 := Aside0.mk (HB4.out.trans (hb5.mono HB4.out.size))
    have HK5 := Aside0.mk (blk_below HK4.out hb5)
    clear hb5 HB4 HK4 hlf hv hvs hrd
    go_wp2_with fail
    refine (frRead_calls w5 v HVS.out).mono ?_
    rw [HRD.out]
    rintro e w6 ⟨v7, v8, rfl, hr7, hr8, hb6⟩
    dsimp only at hr7 hr8
    obtain ⟨B7', d7', rfl⟩ := Kd.R_slice hr7
    obtain ⟨B8', d8', rfl⟩ := Kd.R_slice hr8
    have HR7 := Aside0.mk hr7
    have HR8 := Aside0.mk hr8
    have HB6 := Aside0.mk (HB5.out.trans (hb6.mono HB5.out.size))
    have HK6 := Aside0.mk (blk_below HK5.out hb6)
    clear hb6 hr7 hr8 HB5 HK5
    go_upto_region 12 with fail
    obtain ⟨M', hM⟩ : ∃ M, w6.heap.size = M := ⟨_, rfl⟩
    obtain ⟨w7, hw7⟩ : ∃ w7, w6.alloc (.cells #[.int .i64 f.k, .string f.fa, .string f.fb, .string f.ct, .int .i64 f.se, .int .i64 f.ix, .int .i64 f.mn, .slice B7' f.kn.length d7', .slice B8' f.op.length d8'] 54) = w7 := ⟨_, rfl⟩
    have hb7 : Below w6.heap.size w6 w7 := by rw [← hw7]; exact (Below.refl _ w6).alloc (Nat.le_refl _) _
    have HB7 := Aside0.mk (HB6.out.trans (hb7.mono HB6.out.size))
    obtain ⟨k0, k1, k2, k3, k4, k5, k6, k7, k8⟩ := cells9 (blk_below HK6.out hb7)
    obtain ⟨m0, m1, m2, m3, m4, m5, m6, m7, m8⟩ := cells9 (show w7.heap[M']? = some (.cells #[.int .i64 f.k, .string f.fa, .string f.fb, .string f.ct, .int .i64 f.se, .int .i64 f.ix, .int .i64 f.mn, .slice B7' f.kn.length d7', .slice B8' f.op.length d8'] 54 (0, 0)) from by rw [← hw7, ← hM]; exact World.alloc_heap_new w6 _)
    have HC7 := Aside0.mk (Kd.C_below (Kd.R_reads' HR7.out).2.2 hb7)
    have HC8 := Aside0.mk (Kd.C_below (Kd.R_reads' HR8.out).2.2 hb7)
    have HD7 := Aside0.mk (Kd.R_reads' HR7.out).2.1
    have HD8 := Aside0.mk (Kd.R_reads' HR8.out).2.1
    try rw [hw7]
    try rw [hM]
    clear hw7 hM hb7 HR7 HR8 HB6 HK6
    go_wp2_with fail
    refine (frSame_calls f B7' d7' B8' d8' f A7 c7 A8 c8 w7 HD7.out HC7.out HD8.out HC8.out HL7.out (Kd.C_below HG7.out HB7.out) HL8.out (Kd.C_below HG8.out HB7.out)).mono ?_
    rw [sameF_refl HBR.out]
    rintro e w8 ⟨rfl, hb8⟩
    have HB8 := Aside0.mk (HB7.out.trans (hb8.mono HB7.out.size))
    clear k0 k1 k2 k3 k4 k5 k6 k7 k8 m0 m1 m2 m3 m4 m5 m6 m7 m8 hb8
    go_wp2
    go_ret
    exact ⟨rfl, HB8.out⟩
end Go.Proofs.Ytenbkljgmgdegaa.PO
end
section
namespace Go.Proofs.Ytenbkljgmgdegaa.PO
open Go.RowKit Go.Proofs.YtenbkljgmgdegaaW.PrintWords Go.Proofs.YtenbkljgmgdegaaW.PrintLast Go.Proofs.YtenbkljgmgdegaaW.PrintMore Go.Proofs.Ytenbkljgmgdegaa.XW
open Go.Proofs.Ytenbkljgmgdegaa.XRange
set_option linter.unusedVariables false
set_option linter.unusedSimpArgs false
theorem reads_set {w : World} {K n i : Nat} {xs : List Int} {c : Int} (h : ReadsInt w .u8 (some ⟨K, 0, none⟩) n xs) (ha : i < n) : ReadsInt (w.setCell ⟨K, i, none⟩ (.int .u8 c)) .u8 (some ⟨K, 0, none⟩) n (xs.set i c) := by
 obtain ⟨q1, q2, q3⟩ := h
 refine ⟨by simpa using q1, q2, fun hn => ?_⟩
 obtain ⟨ad, e1, hc⟩ := q3 hn
 cases e1
 refine ⟨_, rfl, fun j hj => ?_⟩
 have hcj := hc j hj
 have hca := hc i ha
 rw [add_plain] at hcj hca ⊢
 by_cases e : j = i
 · subst e
   rw [World.cell?_setCell_same (h := hca)]
   simp [List.getD, q1, hj]
 · rw [World.cell?_setCell_other (h := by intro h; cases h; exact e rfl), hcj]
   simp [List.getD, List.getElem?_set, Ne.symm e]
theorem bytes_froz (W : World) (e : TypeId) (s : ByteArray) (i : Nat) (hi : i < s.size) : (Lib.bytesWorld W e s).frozen? ⟨W.heap.size, i, none⟩ = false := by
 unfold World.frozen?
 rw [Lib.bytesWorld_at_new]
 have : s.size ≤ (Lib.bytesCells W e s).size := by simp [Lib.bytesCells]
 simp
 omega
theorem u8_range {c : Int} (h : (Lit.int .u8 c).wf = true) : 0 ≤ c ∧ c ≤ 255 := by
 simp [Lit.wf, IntKind.min, IntKind.max, IntKind.bits, IntKind.signed] at h
 omega
set_option maxHeartbeats 8000000 in
set_option maxRecDepth 100000 in
theorem frameTurns_calls (w : World) (f : Fr) (A7 : Option Addr) (c7 : Nat) (A8 : Option Addr) (c8 : Nat) (n : Int) (c : Int) (l7 : f.kn.length ≤ c7) (g7 : Kd.C k34 w A7 f.kn.length f.kn) (l8 : f.op.length ≤ c8) (g8 : Kd.C k36 w A8 f.op.length f.op) (hn : (Lit.int .i64 n).wf = true) (hc : (Lit.int .u8 c).wf = true) :
 Calls Try.prog 12 #[.agg #[.int .i64 f.k, .string f.fa, .string f.fb, .string f.ct, .int .i64 f.se, .int .i64 f.ix, .int .i64 f.mn, .slice A7 f.kn.length c7, .slice A8 f.op.length c8], .int .i64 n, .int .u8 c] w fun e w' => e = .returned (.bool true) ∧ Below w.heap.size w w' := by
 have HG7 := Aside0.mk g7
 have HG8 := Aside0.mk g8
 have HL7 := Aside0.mk l7
 have HL8 := Aside0.mk l8
 have HC := Aside0.mk (u8_range hc)
 clear l7 g7 l8 g8 hc hn
 obtain ⟨N, hN⟩ : ∃ N, w.heap.size = N := ⟨_, rfl⟩
 go_enter Try.func12, Try.ntmps12
 go_upto_region 1 with fail
 obtain ⟨w0, hw0⟩ : ∃ w0, w.alloc (.cells #[.int .i64 f.k, .string f.fa, .string f.fb, .string f.ct, .int .i64 f.se, .int .i64 f.ix, .int .i64 f.mn, .slice A7 f.kn.length c7, .slice A8 f.op.length c8] 54) = w0 := ⟨_, rfl⟩
 have HB0 := Aside0.mk (show Below w.heap.size w w0 from by rw [← hw0]; exact (Below.refl _ w).alloc (Nat.le_refl _) _)
 have HK0 := Aside0.mk (show w0.heap[N]? = some (.cells #[.int .i64 f.k, .string f.fa, .string f.fb, .string f.ct, .int .i64 f.se, .int .i64 f.ix, .int .i64 f.mn, .slice A7 f.kn.length c7, .slice A8 f.op.length c8] 54 (0, 0)) from by rw [← hw0, ← hN]; exact World.alloc_heap_new w _)
 try rw [hw0]
 try rw [hN]
 clear hw0
 go_wp2_with fail
 refine (shown14_calls _).mono ?_
 rintro e w1 ⟨rfl, hb1⟩
 have HB1 := Aside0.mk (HB0.out.trans (hb1.mono HB0.out.size))
 have HK1 := Aside0.mk (blk_below HK0.out hb1)
 clear hb1 HB0 HK0
 obtain ⟨k0, k1, k2, k3, k4, k5, k6, k7, k8⟩ := cells9 HK1.out
 go_wp2_with fail
 refine (frLay_calls f A7 c7 A8 c8 w1 HL7.out (Kd.C_below HG7.out HB1.out) HL8.out (Kd.C_below HG8.out HB1.out)).mono ?_
 obtain ⟨br, hbr⟩ : ∃ br, rightF f = br := ⟨_, rfl⟩
 have HBR := Aside0.mk hbr
 clear hbr k0 k1 k2 k3 k4 k5 k6 k7 k8
 cases br with
 | false =>
   have hlf : layFr f = (⟨#[]⟩, 2) := by unfold layFr; rw [if_neg (by rw [HBR.out]; simp)]
   rw [hlf]
   rintro e w5 ⟨rfl, hb5⟩
   have HB5 := Aside0.mk (HB1.out.trans (hb5.mono HB1.out.size))
   clear hb5 HB1 HK1 hlf
   go_wp2
   go_ret
   exact ⟨rfl, HB5.out⟩
 | true =>
   obtain ⟨v, hv⟩ : ∃ v, strOfNums (sealT f.k (bodyB f)) = v := ⟨_, rfl⟩
   have hlf : layFr f = (v, 0) := by unfold layFr; rw [if_pos HBR.out, hv]
   have hvs : v.size ≤ 1000000 := by
    have h1 := bodyB_len HBR.out
    have h2 : (sealT f.k (bodyB f)).length = v.size := by rw [← bytesOf_length v, ← hv, bytes_nums (sealT_B HBR.out)]
    have h3 := encN_len ((bodyB f).length : Int)
    have h4 : (sumB (f.k :: encN ((bodyB f).length : Int) ++ bodyB f)).length = 4 := rfl
    unfold sealT at h2
    simp only [List.length_append, List.length_cons] at h2 h4
    omega
   rw [hlf]
   have HVS := Aside0.mk hvs
   have HLF := Aside0.mk hlf
   rintro e w5 ⟨rfl, hb5⟩
   have HB5 := Aside0.mk (HB1.out.trans (hb5.mono HB1.out.size))
   have HK5 := Aside0.mk (blk_below HK1.out hb5)
   clear hb5 HB1 HK1 hlf hv
   by_cases h0 : n < 0
   · go_wp2
     go_ret
     exact ⟨rfl, HB5.out⟩
   by_cases h1 : (v.size : Int) ≤ n
   · go_wp2
     go_ret
     exact ⟨rfl, HB5.out⟩
   obtain ⟨i, rfl⟩ : ∃ i : Nat, n = (i : Int) := ⟨n.toNat, by omega⟩
   have hi : i < v.size := by omega
   clear h0 h1
   have q1 : ¬ ((i : Int) < 0) := by omega
   have q2 : ¬ v.size ≤ i := by omega
   by_cases hq : ((v[i]'hi).toNat : Int) = c
   · have q3 : (((v[i]'hi).toNat : Int) == c) = true := by simpa using hq
     go_wp2
     all_goals (go_ret; exact ⟨rfl, HB5.out⟩)
   have q3 : (((v[i]'hi).toNat : Int) == c) = false := by simpa using hq
   have HQ := Aside0.mk hq
   clear hq
   go_upto_region 5 with fail
   have hcv := Lib.run_convert_string_bytes (P := Try.prog) w5 9 63 5 v Try.underlying9 Try.underlying63 Try.underlying5
   go_upto_region 6 with fail
   obtain ⟨K, hK⟩ : ∃ K, w5.heap.size = K := ⟨_, rfl⟩
   obtain ⟨cp, hcp⟩ : ∃ x, grownCap w5 v.size 0 5 = x := ⟨_, rfl⟩
   obtain ⟨w6, hw6⟩ : ∃ x, Lib.bytesWorld w5 5 v = x := ⟨_, rfl⟩
   have hb6 : Below w5.heap.size w5 w6 := by rw [← hw6]; exact Kd.conv_below (W := w5) (w0 := w5) (base := w5.heap.size) 5 v (Below.refl _ _) (Nat.le_refl _)
   have hr6 : ReadsInt w6 .u8 (some ⟨K, 0, none⟩) v.size (bytesOf v) := by rw [← hw6, ← hK]; exact bytes_reads w5 5 v (by omega)
   have f6 : w6.frozen? ⟨K, i, none⟩ = false := by rw [← hw6, ← hK]; exact bytes_froz w5 5 v i hi
   have c6 : w6.cell? ⟨K, i, none⟩ = some (.int .u8 ((bytesOf v).getD i 0)) := by
    obtain ⟨_, _, q⟩ := hr6
    obtain ⟨ad, e1, hc⟩ := q (by omega)
    cases e1
    have := hc i hi
    rwa [add_plain] at this
   have HB6 := Aside0.mk (HB5.out.trans (hb6.mono HB5.out.size))
   have HK6 := Aside0.mk (blk_below HK5.out hb6)
   have HWK := Aside0.mk (show w.heap.size ≤ K from by rw [← hK]; exact HB5.out.size)
   have HNK := Aside0.mk (show N < K from by rw [← hK]; exact blk_lt HK5.out)
   try rw [hw6]
   try rw [hK]
   try rw [hcp]
   have HR6 := Aside0.mk hr6
   clear hw6 hK hcp hb6 hr6 hcv HB5 HK5
   go_upto_region 7 with fail
   obtain ⟨w7, hw7⟩ : ∃ x, w6.setCell ⟨K, i, none⟩ (.int .u8 c) = x := ⟨_, rfl⟩
   obtain ⟨t, ht⟩ : ∃ t, strOfNums ((bytesOf v).set i c) = t := ⟨_, rfl⟩
   have hlB : isB ((bytesOf v).set i c) := fun x hx => by
    rcases List.mem_or_eq_of_mem_set hx with h | h
    · exact bytes_B v x h
    · rw [h]; exact HC.out
   have hbt : bytesOf t = (bytesOf v).set i c := by rw [← ht]; exact bytes_nums hlB
   have hts : t.size ≤ 1000000 := by
    have h1 := bytesOf_length t
    have h2 := bytesOf_length v
    rw [hbt, List.length_set] at h1
    omega
   have HNE := Aside0.mk (show v ≠ t from fun h => by
    have h1 : (bytesOf v)[i]? = ((bytesOf v).set i c)[i]? := by rw [← hbt, h]
    have h2 := bytesOf_length v
    rw [List.getElem?_set_self (by omega)] at h1
    apply HQ.out
    have h3 : (bytesOf v)[i]? = some ((v[i]'hi).toNat : Int) := by
     have h4 : i < v.data.size := hi
     simp [bytesOf, hi, h4]
     rfl
    rw [h3] at h1
    exact Option.some.inj h1)
   have hcv := string_of_reads (P := Try.prog) (dst := 9) (c := cp) Try.underlying63 Try.underlying5 Try.underlying9 (show ReadsInt w7 .u8 (some ⟨K, 0, none⟩) v.size ((bytesOf v).set i c) from by rw [← hw7]; exact reads_set HR6.out hi)
   have HB7 := Aside0.mk (show Below w.heap.size w w7 from by rw [← hw7]; exact below_set HB6.out HWK.out)
   have HK7 := Aside0.mk (show w7.heap[N]? = some (.cells #[.int .i64 f.k, .string f.fa, .string f.fb, .string f.ct, .int .i64 f.se, .int .i64 f.ix, .int .i64 f.mn, .slice A7 f.kn.length c7, .slice A8 f.op.length c8] 54 (0, 0)) from by rw [← hw7]; exact blk_far (p := ⟨K, i, none⟩) HK6.out (Nat.ne_of_lt HNK.out) _)
   rw [ht] at hcv
   try rw [hw7]
   have HTS := Aside0.mk hts
   clear hw7 ht hlB hbt hts HB6 HK6 HR6 f6 c6 HWK HNK HQ
   go_wp2_with fail
   clear hcv
   refine (frRead_calls w7 t HTS.out).mono ?_
   rintro e w8 ⟨v7, v8, rfl, hr7, hr8, hb8⟩
   have her := readF_err (bytesOf t)
   have hone := fun g => @readF_one v t f g
   obtain ⟨⟨y, er⟩, hy⟩ : ∃ r, readF (bytesOf t) = r := ⟨_, rfl⟩
   rw [hy] at hr7 hr8 her hone ⊢
   dsimp only at hr7 hr8 her ⊢
   obtain ⟨B7, d7, rfl⟩ := Kd.R_slice hr7
   obtain ⟨B8, d8, rfl⟩ := Kd.R_slice hr8
   have HR7 := Aside0.mk hr7
   have HR8 := Aside0.mk hr8
   have HONE := Aside0.mk hone
   have HB8 := Aside0.mk (HB7.out.trans (hb8.mono HB7.out.size))
   have HK8 := Aside0.mk (blk_below HK7.out hb8)
   clear hb8 hr7 hr8 hone hy HB7 HK7
   go_upto_region 8 with fail
   obtain ⟨M, hM⟩ : ∃ M, w8.heap.size = M := ⟨_, rfl⟩
   obtain ⟨w9, hw9⟩ : ∃ w9, w8.alloc (.cells #[.int .i64 y.k, .string y.fa, .string y.fb, .string y.ct, .int .i64 y.se, .int .i64 y.ix, .int .i64 y.mn, .slice B7 y.kn.length d7, .slice B8 y.op.length d8] 54) = w9 := ⟨_, rfl⟩
   have hb9 : Below w8.heap.size w8 w9 := by rw [← hw9]; exact (Below.refl _ w8).alloc (Nat.le_refl _) _
   have HB9 := Aside0.mk (HB8.out.trans (hb9.mono HB8.out.size))
   obtain ⟨k0, k1, k2, k3, k4, k5, k6, k7, k8⟩ := cells9 (blk_below HK8.out hb9)
   obtain ⟨m0, m1, m2, m3, m4, m5, m6, m7, m8⟩ := cells9 (show w9.heap[M]? = some (.cells #[.int .i64 y.k, .string y.fa, .string y.fb, .string y.ct, .int .i64 y.se, .int .i64 y.ix, .int .i64 y.mn, .slice B7 y.kn.length d7, .slice B8 y.op.length d8] 54 (0, 0)) from by rw [← hw9, ← hM]; exact World.alloc_heap_new w8 _)
   have HC7 := Aside0.mk (Kd.C_below (Kd.R_reads' HR7.out).2.2 hb9)
   have HC8 := Aside0.mk (Kd.C_below (Kd.R_reads' HR8.out).2.2 hb9)
   have HD7 := Aside0.mk (Kd.R_reads' HR7.out).2.1
   have HD8 := Aside0.mk (Kd.R_reads' HR8.out).2.1
   try rw [hw9]
   try rw [hM]
   clear hw9 hM hb9 HR7 HR8 HB8 HK8
   rcases her with rfl | rfl
   · have hs : sameF f y = false := by
      cases h : sameF f y with
      | false => rfl
      | true => exact absurd (HONE.out y HLF.out (by first | trivial | rfl) h) HNE.out
     have HS := Aside0.mk hs
     clear hs
     go_wp2_with fail
     refine (frSame_calls f A7 c7 A8 c8 y B7 d7 B8 d8 w9 HL7.out (Kd.C_below HG7.out HB9.out) HL8.out (Kd.C_below HG8.out HB9.out) HD7.out HC7.out HD8.out HC8.out).mono ?_
     rw [HS.out]
     rintro e wz ⟨rfl, hbz⟩
     have HBz := Aside0.mk (HB9.out.trans (hbz.mono HB9.out.size))
     clear k0 k1 k2 k3 k4 k5 k6 k7 k8 m0 m1 m2 m3 m4 m5 m6 m7 m8 hbz
     go_wp2
     go_ret
     exact ⟨rfl, HBz.out⟩
   · go_wp2
     go_ret
     exact ⟨rfl, HB9.out⟩
end Go.Proofs.Ytenbkljgmgdegaa.PO
end
