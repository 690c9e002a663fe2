/- What the rows of this claim use, out of the texts of this work (UFY, VA, SD). No condition beyond those that each statement names. -/
import Derived.Laws.BitsAllLaws
import Derived.Deep.DeepCutAuto
import Derived.Deep.CutBlock
import Derived.Test.YtjejhgjdmbodiaaZdUTS
import Derived.Test.YtjejhgjdmbodiaaZdUOV
import Derived.Test.YtjejhgjdmbodiaaZdUPOx0
import Derived.Test.YtjejhgjdmbodiaaZdUPD10
import Derived.Test.YtjejhgjdmbodiaaZdUPOx10
import Derived.Test.YtjejhgjdmbodiaaZdUOJ
import Derived.Test.YtjejhgjdmbodiaaZdUPOx3
import Derived.Test.YtjejhgjdmbodiaaZdSZ
import Derived.Test.YtjejhgjdmbodiaaZdSV
import Derived.Test.YtjejhgjdmbodiaaZdPQ3
section
section
namespace Go.Proofs.Ytjejhgjdmbodiaa.PO
open Go.RowKit Go.Proofs.YtjejhgjdmbodiaaW.PrintWords Go.Proofs.YtjejhgjdmbodiaaW.PrintLast Go.Proofs.YtjejhgjdmbodiaaW.PrintMore Go.Proofs.Ytjejhgjdmbodiaa.XW
open Go.Proofs.Ytjejhgjdmbodiaa.XRange
set_option linter.unusedVariables false
set_option linter.unusedSimpArgs false
set_option maxHeartbeats 8000000 in
set_option maxRecDepth 100000 in
theorem refSameOps_calls (l m : List S74) (A : Option Addr) (c : Nat) (B : Option Addr) (d : Nat) (w : World) (hc : l.length ≤ c) (hC : Kd.C k74 w A l.length l) (hd : m.length ≤ d) (hD : Kd.C k74 w B m.length m) :
 Calls Try.prog 20 #[.slice A l.length c, .slice B m.length d] w fun e w' => e = .returned (.bool (decide (l = m))) ∧ Below w.heap.size w w' := by
 have HC := Aside0.mk hC
 have HD := Aside0.mk hD
 have hm : l.length ≤ 9223372036854775807 := hC.2.1
 clear hC hD
 go_enter Try.func20, Try.ntmps20
 by_cases hlen : l.length = m.length
 case neg =>
  have q0 : ((l.length : Int) != (m.length : Int)) = true := by simp; omega
  have HF := Aside0.mk (show decide (l = m) = false from decide_eq_false (fun h => hlen (by rw [h])))
  go_wp2
  go_ret
  exact ⟨by rw [HF.out]; rfl, Below.refl _ _⟩
 have q0 : ((l.length : Int) != (m.length : Int)) = false := by simp; omega
 have HLEN := Aside0.mk hlen
 clear hlen
 go_wp2
 go_loopw [5, 6] (fun v5 _ wr => ∃ j : Nat, j ≤ l.length ∧ v5 = .int .i64 j ∧ Aside0 (l = m ↔ l.drop j = m.drop j) ∧ Aside0 (Below w.heap.size w wr)) (fun v5 _ _ => l.length - (intOf v5).toNat)
 case atStart => exact ⟨0, Nat.zero_le _, rfl, ⟨by simp⟩, ⟨Below.refl _ _⟩⟩
 case round =>
  obtain ⟨j, hj, rfl, HJ, HB⟩ := hrel
  by_cases hlt : j < l.length
  · have hlt' : j < m.length := by have := HLEN.out; omega
    obtain ⟨ad, A2, c2, A7, c7, hA, hop⟩ := opAt (Kd.C_below HC.out HB.out) j hlt
    obtain ⟨bd, B2, d2, B7, d7, hBq, hoq⟩ := opAt (Kd.C_below HD.out HB.out) j hlt'
    cases hA
    cases hBq
    obtain ⟨x, hx⟩ : ∃ x, rd_T74 l (j : Int) = x := ⟨_, rfl⟩
    obtain ⟨y, hy⟩ : ∃ y, rd_T74 m (j : Int) = y := ⟨_, rfl⟩
    rw [hx] at hop
    rw [hy] at hoq
    have HX := Aside0.mk (show l.drop j = x :: l.drop (j + 1) from by rw [← hx]; exact rd_drop36' l j hlt)
    have HY := Aside0.mk (show m.drop j = y :: m.drop (j + 1) from by rw [← hy]; exact rd_drop36' m j hlt')
    have HOP := Aside0.mk hop
    have HOQ := Aside0.mk hoq
    have hb3 : 0 ≤ (j : Int) ∧ (j : Int) < (l.length : Int) := by omega
    have hb4 : 0 ≤ (j : Int) ∧ (j : Int) < (m.length : Int) := by omega
    have q1 : decide ((j : Int) < (l.length : Int)) = true := by simp; omega
    clear hx hy hop hoq
    go_wp2
    rename World => wq
    have hdr : Below wq.heap.size wq wq.drew := below_drew1 (Below.refl _ wq)
    refine start_ (n := 10) (ds := []) (S := fun w' => OpAt w' (ad.add (j * 8)) x A2 c2 A7 c7 ∧ OpAt w' (bd.add (j * 8)) y B2 d2 B7 d7) _ (by kernel_rfl) rfl rfl ⟨HOP.out.below hdr, HOQ.out.below hdr⟩ (fun hH => ?_)
    refine XReg.pu 0 18 (h := ?_)
    refine XReg.pu 1 19 (h := ?_)
    refine XReg.pu 2 20 (h := ?_)
    refine XReg.tk 3 21 (hy := by (intro w' hS_; obtain ⟨⟨s0, s1, s2, s3, s4, s5, s6, s7, _, _, _, _⟩, _⟩ := hS_; go_simp; with_reducible rfl)) (h := ?_)
    refine XReg.pu 4 22 (h := ?_)
    refine XReg.pu 5 23 (h := ?_)
    refine XReg.pu 6 24 (h := ?_)
    refine XReg.tk 7 25 (hy := by (intro w' hS_; obtain ⟨_, ⟨s0, s1, s2, s3, s4, s5, s6, s7, _, _, _, _⟩⟩ := hS_; go_simp; with_reducible rfl)) (h := ?_)
    refine oneL (i := 8) (some 26) rfl rfl (by kernel_rfl) (by decide) (fun Kc hKc => ?_)
    refine goes_ Try.func49 (by kernel_rfl) rfl #[.agg #[.string x.f0.f0, .int .i64 x.f0.f1, .slice A2 x.f1.length c2, .string x.f2, .int .i64 x.f3, .string x.f4, .int .i64 x.f5, .slice A7 x.f6.length c7], .agg #[.string y.f0.f0, .int .i64 y.f0.f1, .slice B2 y.f1.length d2, .string y.f2, .int .i64 y.f3, .string y.f4, .int .i64 y.f5, .slice B7 y.f6.length d7]] (by rfl) rfl rfl (by (try simp only [List.map_toArray, List.map_cons, List.map_nil]); first | done | rfl) ?_
    refine (refEqualO_calls x y A2 c2 A7 c7 B2 d2 B7 d7 _ HOP.out.l2 (Kd.C_drew HOP.out.g2) HOP.out.l7 (Kd.C_drew HOP.out.g7) HOQ.out.l2 (Kd.C_drew HOQ.out.g2) HOQ.out.l7 (Kd.C_drew HOQ.out.g7)).mono ?_
    obtain ⟨b, hb⟩ : ∃ b, decide (x = y) = b := ⟨_, rfl⟩
    have HBX := Aside0.mk hb
    rw [hb]
    rintro e w10 ⟨rfl, hb10⟩
    refine ⟨_, rfl, ?_⟩
    have hb10' : Below wq.heap.size wq w10 := ⟨hb10.os, hb10.tape, hb10.output, hb10.size, hb10.block⟩
    refine hKc.out _ _ ⟨HOP.out.below hb10', HOQ.out.below hb10'⟩ (fun hH2 => ?_)
    have HB1 := Aside0.mk (show Below w.heap.size w w10 from HB.out.trans (hb10'.mono HB.out.size))
    clear hKc Kc hH hH2 hb10 hb10' hdr hb
    refine XReg.pu 9 6 (h := ?_)
    refine done_ (by kernel_rfl) ?_
    cases b with
    | false =>
      go_wp2
      go_ret
      refine ⟨?_, HB1.out⟩
      rw [show decide (l = m) = false from decide_eq_false (fun h => by
       have h1 := HJ.out.1 h
       rw [HX.out, HY.out, List.cons.injEq] at h1
       exact (of_decide_eq_false HBX.out) h1.1)]
      rfl
    | true =>
      go_wp2
      go_round
      case rel => exact ⟨j + 1, by omega, by go_num, ⟨by rw [HJ.out, HX.out, HY.out, List.cons.injEq, of_decide_eq_true HBX.out]; simp⟩, HB1⟩
      case measure => simp [intOf]; omega
  · have q1 : decide ((j : Int) < (l.length : Int)) = false := by simp; omega
    go_wp2
    go_ret
    refine ⟨?_, HB.out⟩
    rw [show decide (l = m) = true from decide_eq_true (HJ.out.2 (by rw [List.drop_eq_nil_of_le (by omega), List.drop_eq_nil_of_le (by have := HLEN.out; omega)]))]
    rfl
theorem refSameS_calls (l m : List S72) (A : Option Addr) (c : Nat) (B : Option Addr) (d : Nat) (w : World) (hc : l.length ≤ c) (hC : Kd.C k72 w A l.length l) (hd : m.length ≤ d) (hD : Kd.C k72 w B m.length m) :
 Calls Try.prog 45 #[.slice A l.length c, .slice B m.length d] w fun e w' => e = .returned (.bool (decide (l = m))) ∧ Below w.heap.size w w' :=
 (pannierref07_Same.calls (l.length + 1) A c l B d m (decide (l = m)) w hC hc hD hd (refSame_f l m hC.2.1 _ (by omega))).mono (fun e w' h => ⟨h.1, h.2.below⟩)
def eqR (f g : Fr) : Bool := decide (f.kn = g.kn) && decide (f.op = g.op) && decide (f.k = g.k) && decide (f.fa = g.fa) && decide (f.fb = g.fb) && decide (f.ct = g.ct) && decide (f.se = g.se) && decide (f.ix = g.ix) && decide (f.mn = g.mn)
theorem eqR_iff {f g : Fr} : eqR f g = true ↔ f = g := by
 unfold eqR
 simp only [Bool.and_eq_true, decide_eq_true_eq]
 constructor
 · rintro ⟨⟨⟨⟨⟨⟨⟨⟨a, b⟩, c⟩, d⟩, e⟩, i⟩, m⟩, n⟩, o⟩
   cases f
   cases g
   dsimp only at *
   subst a b c d e i m n o
   rfl
 · rintro rfl
   simp
set_option maxHeartbeats 8000000 in
set_option maxRecDepth 100000 in
theorem refEqualF_calls (f : Fr) (A7 : Option Addr) (c7 : Nat) (A8 : Option Addr) (c8 : Nat) (g : Fr) (B7 : Option Addr) (d7 : Nat) (B8 : Option Addr) (d8 : Nat) (w : World) (l7 : f.kn.length ≤ c7) (g7 : Kd.C k72 w A7 f.kn.length f.kn) (l8 : f.op.length ≤ c8) (g8 : Kd.C k74 w A8 f.op.length f.op)
 (m7 : g.kn.length ≤ d7) (h7 : Kd.C k72 w B7 g.kn.length g.kn) (m8 : g.op.length ≤ d8) (h8 : Kd.C k74 w B8 g.op.length g.op) :
 Calls Try.prog 15 #[.agg #[.int .i64 f.k, .string f.fa, .string f.fb, .string f.ct, .int .i64 f.se, .int .i64 f.ix, .int .i64 f.mn, .slice A7 f.kn.length c7, .slice A8 f.op.length c8], .agg #[.int .i64 g.k, .string g.fa, .string g.fb, .string g.ct, .int .i64 g.se, .int .i64 g.ix, .int .i64 g.mn, .slice B7 g.kn.length d7, .slice B8 g.op.length d8]] w
  fun e w' => e = .returned (.bool (eqR f g)) ∧ Below w.heap.size w w' := by
 have HG7 := Aside0.mk g7
 have HG8 := Aside0.mk g8
 have HL7 := Aside0.mk l7
 have HL8 := Aside0.mk l8
 have HH7 := Aside0.mk h7
 have HH8 := Aside0.mk h8
 have HM7 := Aside0.mk m7
 have HM8 := Aside0.mk m8
 clear l7 g7 l8 g8 m7 h7 m8 h8
 obtain ⟨N, hN⟩ : ∃ N, w.heap.size = N := ⟨_, rfl⟩
 go_enter Try.func15, Try.ntmps15
 go_upto_region 1 with fail
 obtain ⟨w0, hw0⟩ : ∃ w0, (w.alloc (.cells #[.int .i64 f.k, .string f.fa, .string f.fb, .string f.ct, .int .i64 f.se, .int .i64 f.ix, .int .i64 f.mn, .slice A7 f.kn.length c7, .slice A8 f.op.length c8] 34)).alloc (.cells #[.int .i64 g.k, .string g.fa, .string g.fb, .string g.ct, .int .i64 g.se, .int .i64 g.ix, .int .i64 g.mn, .slice B7 g.kn.length d7, .slice B8 g.op.length d8] 34) = w0 := ⟨_, rfl⟩
 have HB0 := Aside0.mk (show Below w.heap.size w w0 from by rw [← hw0]; exact ((Below.refl _ w).alloc (Nat.le_refl _) _).alloc (by simp) _)
 have HK0 := Aside0.mk (show w0.heap[N]? = some (.cells #[.int .i64 f.k, .string f.fa, .string f.fb, .string f.ct, .int .i64 f.se, .int .i64 f.ix, .int .i64 f.mn, .slice A7 f.kn.length c7, .slice A8 f.op.length c8] 34 (0, 0)) from by rw [← hw0, ← hN]; exact blk_alloc (World.alloc_heap_new w _) _)
 have HJ0 := Aside0.mk (show w0.heap[N + 1]? = some (.cells #[.int .i64 g.k, .string g.fa, .string g.fb, .string g.ct, .int .i64 g.se, .int .i64 g.ix, .int .i64 g.mn, .slice B7 g.kn.length d7, .slice B8 g.op.length d8] 34 (0, 0)) from by
  rw [← hw0, ← hN]
  have h := World.alloc_heap_new (w.alloc (.cells #[.int .i64 f.k, .string f.fa, .string f.fb, .string f.ct, .int .i64 f.se, .int .i64 f.ix, .int .i64 f.mn, .slice A7 f.kn.length c7, .slice A8 f.op.length c8] 34)) (.cells #[.int .i64 g.k, .string g.fa, .string g.fb, .string g.ct, .int .i64 g.se, .int .i64 g.ix, .int .i64 g.mn, .slice B7 g.kn.length d7, .slice B8 g.op.length d8] 34)
  simpa using h)
 try rw [hw0]
 try rw [hN]
 clear hw0
 obtain ⟨k0, k1, k2, k3, k4, k5, k6, k7, k8⟩ := cells9 HK0.out
 obtain ⟨j0, j1, j2, j3, j4, j5, j6, j7, j8⟩ := cells9 HJ0.out
 go_wp2_with fail
 refine (refSameS_calls f.kn g.kn A7 c7 B7 d7 w0 HL7.out (Kd.C_below HG7.out HB0.out) HM7.out (Kd.C_below HH7.out HB0.out)).mono ?_
 obtain ⟨b1, hb1⟩ : ∃ b, decide (f.kn = g.kn) = b := ⟨_, rfl⟩
 have HE1 := Aside0.mk hb1
 rw [hb1]
 rintro e w1 ⟨rfl, hb⟩
 have HB1 := Aside0.mk (HB0.out.trans (hb.mono HB0.out.size))
 have HK1 := Aside0.mk (blk_below HK0.out hb)
 have HJ1 := Aside0.mk (blk_below HJ0.out hb)
 clear hb hb1 HB0 HK0 HJ0 k0 k1 k2 k3 k4 k5 k6 k7 k8 j0 j1 j2 j3 j4 j5 j6 j7 j8
 obtain ⟨k0, k1, k2, k3, k4, k5, k6, k7, k8⟩ := cells9 HK1.out
 obtain ⟨j0, j1, j2, j3, j4, j5, j6, j7, j8⟩ := cells9 HJ1.out
 go_wp2_with fail
 refine (refSameOps_calls f.op g.op A8 c8 B8 d8 w1 HL8.out (Kd.C_below HG8.out HB1.out) HM8.out (Kd.C_below HH8.out HB1.out)).mono ?_
 obtain ⟨b2, hb2⟩ : ∃ b, decide (f.op = g.op) = b := ⟨_, rfl⟩
 have HE2 := Aside0.mk hb2
 rw [hb2]
 rintro e w4 ⟨rfl, hb⟩
 have HB4 := Aside0.mk (HB1.out.trans (hb.mono HB1.out.size))
 have HK4 := Aside0.mk (blk_below HK1.out hb)
 have HJ4 := Aside0.mk (blk_below HJ1.out hb)
 clear hb hb2 HB1 HK1 HJ1 k0 k1 k2 k3 k4 k5 k6 k7 k8 j0 j1 j2 j3 j4 j5 j6 j7 j8
 obtain ⟨k0, k1, k2, k3, k4, k5, k6, k7, k8⟩ := cells9 HK4.out
 obtain ⟨j0, j1, j2, j3, j4, j5, j6, j7, j8⟩ := cells9 HJ4.out
 -- CHAIN
 cases b1 with
 | false =>
   go_wp2
   go_ret
   refine ⟨?_, by first | exact HB4.out | (rw [← hN]; exact HB4.out)⟩
   rw [show eqR f g = false from by unfold eqR; simp [HE1.out]]
   rfl
 | true =>
 cases b2 with
 | false =>
   go_wp2
   go_ret
   refine ⟨?_, by first | exact HB4.out | (rw [← hN]; exact HB4.out)⟩
   rw [show eqR f g = false from by unfold eqR; simp [HE1.out, HE2.out]]
   rfl
 | true =>
 by_cases c2 : f.k = g.k
 case neg =>
  have d : (f.k == g.k) = false := by simpa using c2
  go_wp2
  go_ret
  refine ⟨?_, by first | exact HB4.out | (rw [← hN]; exact HB4.out)⟩
  rw [show eqR f g = false from by unfold eqR; simp [HE1.out, HE2.out, c2]]
  rfl
 have e2 : (f.k == g.k) = true := by simp [c2]
 by_cases c3 : f.fa = g.fa
 case neg =>
  have d : (f.fa.toList == g.fa.toList) = false := by simpa using (fun h => c3 (bytes_inj h))
  go_wp2
  go_ret
  refine ⟨?_, by first | exact HB4.out | (rw [← hN]; exact HB4.out)⟩
  rw [show eqR f g = false from by unfold eqR; simp [HE1.out, HE2.out, c2, c3]]
  rfl
 have e3 : (f.fa.toList == g.fa.toList) = true := by simp [c3]
 by_cases c4 : f.fb = g.fb
 case neg =>
  have d : (f.fb.toList == g.fb.toList) = false := by simpa using (fun h => c4 (bytes_inj h))
  go_wp2
  go_ret
  refine ⟨?_, by first | exact HB4.out | (rw [← hN]; exact HB4.out)⟩
  rw [show eqR f g = false from by unfold eqR; simp [HE1.out, HE2.out, c2, c3, c4]]
  rfl
 have e4 : (f.fb.toList == g.fb.toList) = true := by simp [c4]
 by_cases c5 : f.ct = g.ct
 case neg =>
  have d : (f.ct.toList == g.ct.toList) = false := by simpa using (fun h => c5 (bytes_inj h))
  go_wp2
  go_ret
  refine ⟨?_, by first | exact HB4.out | (rw [← hN]; exact HB4.out)⟩
  rw [show eqR f g = false from by unfold eqR; simp [HE1.out, HE2.out, c2, c3, c4, c5]]
  rfl
 have e5 : (f.ct.toList == g.ct.toList) = true := by simp [c5]
 by_cases c6 : f.se = g.se
 case neg =>
  have d : (f.se == g.se) = false := by simpa using c6
  go_wp2
  go_ret
  refine ⟨?_, by first | exact HB4.out | (rw [← hN]; exact HB4.out)⟩
  rw [show eqR f g = false from by unfold eqR; simp [HE1.out, HE2.out, c2, c3, c4, c5, c6]]
  rfl
 have e6 : (f.se == g.se) = true := by simp [c6]
 by_cases c7 : f.ix = g.ix
 case neg =>
  have d : (f.ix == g.ix) = false := by simpa using c7
  go_wp2
  go_ret
  refine ⟨?_, by first | exact HB4.out | (rw [← hN]; exact HB4.out)⟩
  rw [show eqR f g = false from by unfold eqR; simp [HE1.out, HE2.out, c2, c3, c4, c5, c6, c7]]
  rfl
 have e7 : (f.ix == g.ix) = true := by simp [c7]
 by_cases c8 : f.mn = g.mn
 case neg =>
  have d : (f.mn == g.mn) = false := by simpa using c8
  go_wp2
  go_ret
  refine ⟨?_, by first | exact HB4.out | (rw [← hN]; exact HB4.out)⟩
  rw [show eqR f g = false from by unfold eqR; simp [HE1.out, HE2.out, c2, c3, c4, c5, c6, c7, c8]]
  rfl
 have e8 : (f.mn == g.mn) = true := by simp [c8]
 go_wp2
 go_ret
 refine ⟨?_, by first | exact HB4.out | (rw [← hN]; exact HB4.out)⟩
 rw [show eqR f g = true from by unfold eqR; simp [HE1.out, HE2.out, c2, c3, c4, c5, c6, c7, c8]]
 rfl
 -- END
end Go.Proofs.Ytjejhgjdmbodiaa.PO
end
section
namespace Go.Proofs.Ytjejhgjdmbodiaa.PO
open Go.RowKit Go.Proofs.YtjejhgjdmbodiaaW.PrintWords Go.Proofs.YtjejhgjdmbodiaaW.PrintLast Go.Proofs.YtjejhgjdmbodiaaW.PrintMore
attribute [local go_sem] max2_int min2_int max_two min_two max_three min_three max_four min_four   -- for this text's walks alone
set_option linter.unusedVariables false
set_option linter.unusedSimpArgs false
end Go.Proofs.Ytjejhgjdmbodiaa.PO
end
section
namespace Go.Proofs.Ytjejhgjdmbodiaa.PO
open Go.RowKit Go.Proofs.YtjejhgjdmbodiaaW.PrintWords Go.Proofs.YtjejhgjdmbodiaaW.PrintLast Go.Proofs.YtjejhgjdmbodiaaW.PrintMore Go.Proofs.Ytjejhgjdmbodiaa.XW
set_option linter.unusedVariables false
set_option linter.unusedSimpArgs false
end Go.Proofs.Ytjejhgjdmbodiaa.PO
end
section
namespace Go.Proofs.Ytjejhgjdmbodiaa.PO
open Go.RowKit Go.Proofs.YtjejhgjdmbodiaaW.PrintWords Go.Proofs.YtjejhgjdmbodiaaW.PrintLast Go.Proofs.YtjejhgjdmbodiaaW.PrintMore Go.Proofs.Ytjejhgjdmbodiaa.XW
open Go.Proofs.Ytjejhgjdmbodiaa.XRange Go.Proofs.Ytjejhgjdmbodiaa.XMap Go.Proofs.Ytjejhgjdmbodiaa.XSeq
set_option linter.unusedVariables false
set_option linter.unusedSimpArgs false
theorem refText32_f (b : List Int) (s : ByteArray) (hs : s.size ≤ 32) (hb : b.length ≤ 140737488355200) (k : Nat) (hk : 40 ≤ k) : pannierref02_Text.f k b s = some (textS b s) := by
 have := encN_len (s.size : Int)
 unfold pannierref02_Text.f
 rw [u_id (by omega) (by omega), refNumber_f _ (by omega) b (by omega) k hk, Option.bind_some, if_pos (by rw [List.length_append]; omega)]
 rfl
end Go.Proofs.Ytjejhgjdmbodiaa.PO
end
section
namespace Go.Proofs.Ytjejhgjdmbodiaa.PO
open Go.RowKit Go.Proofs.YtjejhgjdmbodiaaW.PrintWords Go.Proofs.YtjejhgjdmbodiaaW.PrintLast Go.Proofs.YtjejhgjdmbodiaaW.PrintMore Go.Proofs.Ytjejhgjdmbodiaa.XW
open Go.Proofs.Ytjejhgjdmbodiaa.XRange
set_option linter.unusedVariables false
set_option linter.unusedSimpArgs false
end Go.Proofs.Ytjejhgjdmbodiaa.PO
end
section
namespace Go.Proofs.Ytjejhgjdmbodiaa.PO
open Go.RowKit Go.Proofs.YtjejhgjdmbodiaaW.PrintWords Go.Proofs.YtjejhgjdmbodiaaW.PrintLast Go.Proofs.YtjejhgjdmbodiaaW.PrintMore Go.Proofs.Ytjejhgjdmbodiaa.XW
open Go.Proofs.Ytjejhgjdmbodiaa.XRange
set_option linter.unusedVariables false
set_option linter.unusedSimpArgs false
def sB : ByteArray := ⟨#[98]⟩
def f0 : Fr := ⟨3, sA, sB, sC, 1, 2, 0, [], []⟩
end Go.Proofs.Ytjejhgjdmbodiaa.PO
end
section
namespace Go.Proofs.Ytjejhgjdmbodiaa.PO
open Go.RowKit Go.Proofs.YtjejhgjdmbodiaaW.PrintWords Go.Proofs.YtjejhgjdmbodiaaW.PrintLast Go.Proofs.YtjejhgjdmbodiaaW.PrintMore Go.Proofs.Ytjejhgjdmbodiaa.XW
open Go.Proofs.Ytjejhgjdmbodiaa.XRange
set_option linter.unusedVariables false
set_option linter.unusedSimpArgs false
end Go.Proofs.Ytjejhgjdmbodiaa.PO
end
section
namespace Go.Proofs.Ytjejhgjdmbodiaa.PO
open Go.RowKit Go.Proofs.YtjejhgjdmbodiaaW.PrintWords Go.Proofs.YtjejhgjdmbodiaaW.PrintLast Go.Proofs.YtjejhgjdmbodiaaW.PrintMore
open Go.Proofs.Ytjejhgjdmbodiaa.XRange
set_option linter.unusedVariables false
set_option linter.unusedSimpArgs false
end Go.Proofs.Ytjejhgjdmbodiaa.PO
end
end
section
namespace Go.Proofs.Ytjejhgjdmbodiaa.PO
open Go.RowKit Go.Proofs.YtjejhgjdmbodiaaW.PrintWords Go.Proofs.YtjejhgjdmbodiaaW.PrintLast Go.Proofs.YtjejhgjdmbodiaaW.PrintMore Go.Proofs.Ytjejhgjdmbodiaa.XW
open Go.Proofs.Ytjejhgjdmbodiaa.XRange Go.Proofs.Ytjejhgjdmbodiaa.XMap
set_option linter.unusedVariables false
set_option linter.unusedSimpArgs false
theorem rnum_f {b : List Int} {n : Int} (h0 : 0 ≤ n) (h1 : n ≤ 1152921504606846976) (hb : b.length ≤ 200000000) : pannierref02_Number.f 200 b (IntKind.u64.wrap n) = some (b ++ encN n) := by
 rw [u_id h0 (by omega)]
 exact refNumber_f _ h0 _ (by omega) 200 (by omega)
set_option maxHeartbeats 8000000 in
set_option maxRecDepth 100000 in
theorem refLayI_calls (g : Nat) (who : ByteArray) (E : List (Whose × Curs)) (A : Option Addr) (c : Nat) (w : World) (hg : w.heap[g]? = some (.cells #[.string who, .slice A (E.map toC).length c] 91 (0, 0))) (hC : Kd.C k99 w A (E.map toC).length (E.map toC)) (hwho : who.size ≤ 32) (hL : E.length ≤ 1000000) (hz : ∀ p, p ∈ E → SzC p) :
 Calls Try.prog 28 #[.pointer (some ⟨g, 0, none⟩)] w fun e w' => e = .returned (.string (strOfNums (layI who E.length E))) ∧ Below w.heap.size w w' := by
 have hlen : (E.map toC).length = E.length := List.length_map ..
 have HC := Aside0.mk hC
 have HG := Aside0.mk (show w.heap[g]? = some (.cells #[.string who, .slice A E.length c] 91 (0, 0)) from by rw [← hlen]; exact hg)
 have HZ := Aside0.mk hz
 have HL := Aside0.mk hL
 have HWH := Aside0.mk hwho
 have hlm : E.length ≤ 9223372036854775807 := by omega
 obtain ⟨L0, hL0⟩ : ∃ L, textS [] who = L := ⟨_, rfl⟩
 have hl0 : L0.length ≤ 50 := by rw [← hL0]; have h1 := textS_len [] who; simp only [List.length_nil] at h1; omega
 have HT := Aside0.mk (show pannierref02_Text.f 200 [] who = some L0 from by rw [← hL0]; exact refText32_f [] who hwho (by simp) 200 (by omega))
 obtain ⟨LH, hLH⟩ : ∃ L, headI who E.length = L := ⟨_, rfl⟩
 have HN := Aside0.mk (show pannierref02_Number.f 200 L0 (IntKind.u64.wrap (E.length : Int)) = some LH from by
  rw [← hLH]
  unfold headI
  rw [hL0]
  exact rnum_f (by omega) (by omega) (by omega))
 have HLH := Aside0.mk hLH
 clear hL0 hl0 hLH hg hC hz hL hwho
 go_enter Try.func28, Try.ntmps28
 go_wp2
 refine start_ (n := 13) (ds := []) (S := fun w' => w'.cell? ⟨g, 0, none⟩ = some (.string who) ∧ w'.cell? ⟨g, 1, none⟩ = some (.slice A E.length c)) _ (by kernel_rfl) rfl rfl ⟨(blk_cell (blk_drew HG.out) 0).trans rfl, (blk_cell (blk_drew HG.out) 1).trans rfl⟩ (fun hH => ?_)
 obtain ⟨w1, hw1⟩ : ∃ w1, w.drew = w1 := ⟨_, rfl⟩
 have HBw1 := Aside0.mk (show Below w.heap.size w w1 from by rw [← hw1]; exact below_drew1 (Below.refl _ w))
 rw [hw1] at hH ⊢
 clear hw1
 refine XReg.pu 0 6 (h := ?_)
 refine XReg.pu 1 7 (h := ?_)
 refine XReg.pu 2 8 (h := ?_)
 refine XReg.tk 3 9 (h := ?_)
 refine XReg.pu 5 11 (h := ?_)
 refine XReg.pu 6 12 (h := ?_)
 refine XReg.pu 7 13 (h := ?_)
 refine XReg.tk 8 14 (h := ?_)
 refine XReg.pu 9 15 (h := ?_)
 refine XReg.pu 10 16 (h := ?_)
 clear hH
 refine XReg.one (i := 4) (some 10) rfl rfl (by kernel_rfl) (by decide) (fun Kc hKc => ?_)
 refine goes_ Try.func55 (by kernel_rfl) rfl #[.slice none ([] : List Int).length 0, .string who] (by rfl) rfl rfl (by (try simp only [List.map_toArray, List.map_cons, List.map_nil]); first | done | rfl) ?_
 refine (pannierref02_Text.calls 200 none 0 ([] : List Int) _ L0 _ (Kd.C_nil _ _) (Nat.le_refl _) HT.out).mono ?_
 rintro e w2 ⟨v_, rfl, hr_, hb_⟩
 refine ⟨_, rfl, ?_⟩
 have HBw2 := Aside0.mk (HBw1.out.trans (hb_.mono HBw1.out.size))
 obtain ⟨Aw2, cw2, rfl⟩ := Kd.R_slice hr_
 have HRw2 := Aside0.mk (Kd.R_reads' hr_).2
 refine hKc.out _ _ ⟨(blk_cell (blk_below HG.out HBw2.out) 0).trans rfl, (blk_cell (blk_below HG.out HBw2.out) 1).trans rfl⟩ (fun hH2 => ?_)
 clear hKc Kc hH2 hr_ hb_
 refine norm_ (a' := ?_) ?_ ?_
 rotate_left
 · show Act.put _ (some 10) _ = _
   simp only [Act.put, List.setIfInBounds_toArray, List.set_cons_zero, List.set_cons_succ, i64_w, i32_w]
   rfl
 refine XReg.one (i := 11) (some 17) rfl rfl (by kernel_rfl) (by decide) (fun Kc hKc => ?_)
 refine goes_ Try.func54 (by kernel_rfl) rfl #[.slice Aw2 L0.length cw2, .int .u64 (IntKind.u64.wrap (E.length : Int))] (by rfl) rfl rfl (by (try simp only [List.map_toArray, List.map_cons, List.map_nil]); first | done | rfl) ?_
 refine (pannierref02_Number.calls 200 Aw2 cw2 L0 _ LH _ HRw2.out.2 HRw2.out.1 HN.out).mono ?_
 rintro e w3 ⟨v_, rfl, hr_, hb_⟩
 refine ⟨_, rfl, ?_⟩
 have HBw3 := Aside0.mk (HBw2.out.trans (hb_.mono HBw2.out.size))
 obtain ⟨Aw3, cw3, rfl⟩ := Kd.R_slice hr_
 have HRw3 := Aside0.mk (Kd.R_reads' hr_).2
 refine hKc.out _ _ ⟨(blk_cell (blk_below HG.out HBw3.out) 0).trans rfl, (blk_cell (blk_below HG.out HBw3.out) 1).trans rfl⟩ (fun hH2 => ?_)
 clear hKc Kc hH2 hr_ hb_
 refine norm_ (a' := ?_) ?_ ?_
 rotate_left
 · show Act.put _ (some 17) _ = _
   simp only [Act.put, List.setIfInBounds_toArray, List.set_cons_zero, List.set_cons_succ, i64_w, i32_w]
   rfl
 refine XReg.pu 12 3 (h := ?_)
 refine done_ (by kernel_rfl) ?_
 clear HRw2 HBw1 HBw2 HT HN
 go_wp2
 go_loopw [3, 4, 5] (fun v3 v4 _ wr => ∃ j : Nat, j ≤ E.length ∧ v4 = .int .i64 j ∧ Aside0 (Below w.heap.size w wr) ∧ ∃ (Ab : Option Addr) (cb : Nat) (L : List Int), v3 = .slice Ab L.length cb ∧ Aside0 (L = (E.take j).foldl curI LH ∧ L.length ≤ cb ∧ Kd.C (Kd.int .u8) wr Ab L.length L)) (fun _ v4 _ _ => E.length - (intOf v4).toNat)
 case atStart => exact ⟨0, Nat.zero_le _, rfl, HBw3, Aw3, cw3, LH, rfl, ⟨rfl, HRw3.out⟩⟩
 case round =>
  obtain ⟨j, hj, rfl, HB, Ab, cb, L, rfl, HX0⟩ := hrel
  have HGr := Aside0.mk (blk_below HG.out HB.out)
  have m1 : wr.cell? ⟨g, 1, none⟩ = some (.slice A E.length c) := (blk_cell HGr.out 1).trans rfl
  by_cases hlt : j < E.length
  · obtain ⟨hb3, q1⟩ := j_facts hlt
    obtain ⟨ad, hA1, f0, f1, f2, f3⟩ := at_T99 (Kd.C_below HC.out HB.out) (j : Int) hb3.1 (by rw [hlen]; exact hb3.2)
    subst hA1
    obtain ⟨x, hx⟩ : ∃ x, E[j] = x := ⟨_, rfl⟩
    have hxe : E[j]? = some (x.1, x.2) := by rw [List.getElem?_eq_getElem hlt, hx]
    rw [rd_toC hxe] at f0 f1 f2 f3
    simp only [Int.toNat_natCast] at f0 f1 f2 f3
    have HZX := Aside0.mk (HZ.out x (hx ▸ List.getElem_mem hlt))
    have hll : L.length ≤ 150000000 := by
     rw [HX0.out.1]
     have h1 := layI_len (n := 0) HWH.out (xs := E.take j) (b := LH) (fun q hq => HZ.out q (List.mem_of_mem_take hq))
     have h2 : LH.length ≤ 50 := by rw [← HLH.out]; exact headI_len HWH.out
     have := HL.out
     rw [List.length_take] at h1
     omega
    obtain ⟨z1, z2, z3, z4, z5, z6⟩ := HZX.out
    obtain ⟨L1, hL1⟩ : ∃ L1, textS L x.1.1 = L1 := ⟨_, rfl⟩
    obtain ⟨L2, hL2⟩ : ∃ L2, textS L1 x.1.2 = L2 := ⟨_, rfl⟩
    obtain ⟨L3, hL3⟩ : ∃ L3, L2 ++ encN x.2.1 = L3 := ⟨_, rfl⟩
    obtain ⟨L4, hL4⟩ : ∃ L4, L3 ++ encN x.2.2 = L4 := ⟨_, rfl⟩
    have hl1 : L1.length ≤ 150000050 := by rw [← hL1]; have := textS_len L x.1.1; omega
    have hl2 : L2.length ≤ 150000100 := by rw [← hL2]; have := textS_len L1 x.1.2; omega
    have hl3 : L3.length ≤ 150000150 := by rw [← hL3, List.length_append]; have := encN_len x.2.1; omega
    have HT1 := Aside0.mk (show pannierref02_Text.f 200 L x.1.1 = some L1 from by rw [← hL1]; exact refText32_f L _ z1 (by omega) 200 (by omega))
    have HT2 := Aside0.mk (show pannierref02_Text.f 200 L1 x.1.2 = some L2 from by rw [← hL2]; exact refText32_f L1 _ z2 (by omega) 200 (by omega))
    have HT3 := Aside0.mk (show pannierref02_Number.f 200 L2 (IntKind.u64.wrap x.2.1) = some L3 from by rw [← hL3]; exact rnum_f z3 z4 (by omega))
    have HT4 := Aside0.mk (show pannierref02_Number.f 200 L3 (IntKind.u64.wrap x.2.2) = some L4 from by rw [← hL4]; exact rnum_f z5 (by omega) (by omega))
    have HLE := Aside0.mk (show L4 = (E.take (j + 1)).foldl curI LH from by
     rw [List.take_succ_eq_append_getElem hlt, List.foldl_append, ← HX0.out.1, hx]
     show _ = curI L x
     unfold curI txtI
     rw [hL1, hL2, hL3, hL4])
    clear hx hxe hll hL1 hL2 hL3 hL4 hl1 hl2 hl3 z1 z2 z3 z4 z5 z6
    obtain ⟨w2, hw2⟩ : ∃ w2, wr.alloc (.cells #[.string x.1.1, .string x.1.2, .int .i64 x.2.1, .int .i64 x.2.2] 99) = w2 := ⟨_, rfl⟩
    obtain ⟨K1, hK1⟩ : ∃ K1, wr.heap.size = K1 := ⟨_, rfl⟩
    have hb2 : Below wr.heap.size wr w2 := by rw [← hw2]; exact (Below.refl _ wr).alloc (Nat.le_refl _) _
    have HX := Aside0.mk (show w2.heap[K1]? = some (.cells #[.string x.1.1, .string x.1.2, .int .i64 x.2.1, .int .i64 x.2.2] 99 (0, 0)) from by rw [← hw2, ← hK1]; exact World.alloc_heap_new wr _)
    have HB2 := Aside0.mk (HB.out.trans (hb2.mono HB.out.size))
    have HC2 := Aside0.mk (Kd.C_below HX0.out.2.2 hb2)
    have HCL := Aside0.mk HX0.out.2.1
    clear hb2 HB HX0 HGr
    go_wp2
    try rw [hw2]
    try rw [hK1]
    clear hw2 hK1 f0 f1 f2 f3 m1
    refine start_ (n := 8) (ds := []) (S := fun w' => w'.cell? ⟨K1, 0, none⟩ = some (.string x.1.1) ∧ w'.cell? ⟨K1, 1, none⟩ = some (.string x.1.2) ∧ w'.cell? ⟨K1, 2, none⟩ = some (.int .i64 x.2.1) ∧ w'.cell? ⟨K1, 3, none⟩ = some (.int .i64 x.2.2)) _ (by kernel_rfl) rfl rfl ⟨(blk_cell (blk_drew HX.out) 0).trans rfl, (blk_cell (blk_drew HX.out) 1).trans rfl, (blk_cell (blk_drew HX.out) 2).trans rfl, (blk_cell (blk_drew HX.out) 3).trans rfl⟩ (fun hH => ?_)
    obtain ⟨wa, hwa⟩ : ∃ wa, w2.drew = wa := ⟨_, rfl⟩
    have HBwa := Aside0.mk (show Below w2.heap.size w2 wa from by rw [← hwa]; exact below_drew1 (Below.refl _ w2))
    have HCa := Aside0.mk (Kd.C_below HC2.out HBwa.out)
    rw [hwa] at hH ⊢
    clear hwa
    refine XReg.pu 0 34 (h := ?_)
    refine XReg.pu 1 35 (h := ?_)
    refine XReg.tk 2 36 (h := ?_)
    refine XReg.pu 4 38 (h := ?_)
    refine XReg.tk 5 39 (h := ?_)
    clear hH
    refine XReg.one (i := 3) (some 37) rfl rfl (by kernel_rfl) (by decide) (fun Kc hKc => ?_)
    refine goes_ Try.func55 (by kernel_rfl) rfl #[.slice Ab L.length cb, .string x.1.1] (by rfl) rfl rfl (by (try simp only [List.map_toArray, List.map_cons, List.map_nil]); first | done | rfl) ?_
    refine (pannierref02_Text.calls 200 Ab cb L _ L1 _ HCa.out HCL.out HT1.out).mono ?_
    rintro e wb ⟨v_, rfl, hr_, hb_⟩
    refine ⟨_, rfl, ?_⟩
    have HBwb := Aside0.mk (HBwa.out.trans (hb_.mono HBwa.out.size))
    obtain ⟨Awb, cwb, rfl⟩ := Kd.R_slice hr_
    have HRwb := Aside0.mk (Kd.R_reads' hr_).2
    refine hKc.out _ _ ⟨(blk_cell (blk_below HX.out HBwb.out) 0).trans rfl, (blk_cell (blk_below HX.out HBwb.out) 1).trans rfl, (blk_cell (blk_below HX.out HBwb.out) 2).trans rfl, (blk_cell (blk_below HX.out HBwb.out) 3).trans rfl⟩ (fun hH2 => ?_)
    clear hKc Kc hH2 hr_ hb_
    refine norm_ (a' := ?_) ?_ ?_
    rotate_left
    · show Act.put _ (some 37) _ = _
      simp only [Act.put, List.setIfInBounds_toArray, List.set_cons_zero, List.set_cons_succ, i64_w, i32_w]
      rfl
    refine XReg.one (i := 6) (some 40) rfl rfl (by kernel_rfl) (by decide) (fun Kc hKc => ?_)
    refine goes_ Try.func55 (by kernel_rfl) rfl #[.slice Awb L1.length cwb, .string x.1.2] (by rfl) rfl rfl (by (try simp only [List.map_toArray, List.map_cons, List.map_nil]); first | done | rfl) ?_
    refine (pannierref02_Text.calls 200 Awb cwb L1 _ L2 _ HRwb.out.2 HRwb.out.1 HT2.out).mono ?_
    rintro e wc ⟨v_, rfl, hr_, hb_⟩
    refine ⟨_, rfl, ?_⟩
    have HBwc := Aside0.mk (HBwb.out.trans (hb_.mono HBwb.out.size))
    obtain ⟨Awc, cwc, rfl⟩ := Kd.R_slice hr_
    have HRwc := Aside0.mk (Kd.R_reads' hr_).2
    refine hKc.out _ _ ⟨(blk_cell (blk_below HX.out HBwc.out) 0).trans rfl, (blk_cell (blk_below HX.out HBwc.out) 1).trans rfl, (blk_cell (blk_below HX.out HBwc.out) 2).trans rfl, (blk_cell (blk_below HX.out HBwc.out) 3).trans rfl⟩ (fun hH2 => ?_)
    clear hKc Kc hH2 hr_ hb_
    refine norm_ (a' := ?_) ?_ ?_
    rotate_left
    · show Act.put _ (some 40) _ = _
      simp only [Act.put, List.setIfInBounds_toArray, List.set_cons_zero, List.set_cons_succ, i64_w, i32_w]
      rfl
    refine XReg.pu 7 3 (h := ?_)
    refine done_ (by kernel_rfl) ?_
    clear HRwb HBwa HBwb HCa HC2 HCL HT1 HT2
    go_wp2
    refine start_ (n := 10) (ds := []) (S := fun w' => w'.cell? ⟨K1, 0, none⟩ = some (.string x.1.1) ∧ w'.cell? ⟨K1, 1, none⟩ = some (.string x.1.2) ∧ w'.cell? ⟨K1, 2, none⟩ = some (.int .i64 x.2.1) ∧ w'.cell? ⟨K1, 3, none⟩ = some (.int .i64 x.2.2)) _ (by kernel_rfl) rfl rfl ⟨(blk_cell (blk_drew (blk_below HX.out HBwc.out)) 0).trans rfl, (blk_cell (blk_drew (blk_below HX.out HBwc.out)) 1).trans rfl, (blk_cell (blk_drew (blk_below HX.out HBwc.out)) 2).trans rfl, (blk_cell (blk_drew (blk_below HX.out HBwc.out)) 3).trans rfl⟩ (fun hH => ?_)
    obtain ⟨wd, hwd⟩ : ∃ wd, wc.drew = wd := ⟨_, rfl⟩
    have hbd : Below wc.heap.size wc wd := by rw [← hwd]; exact below_drew1 (Below.refl _ wc)
    have HBwd := Aside0.mk (HBwc.out.trans (hbd.mono HBwc.out.size))
    have HCd := Aside0.mk (Kd.C_below HRwc.out.2 hbd)
    rw [hwd] at hH ⊢
    clear hwd hbd
    refine XReg.pu 0 41 (h := ?_)
    refine XReg.pu 1 42 (h := ?_)
    refine XReg.tk 2 43 (h := ?_)
    refine XReg.pu 3 44 (h := ?_)
    refine XReg.pu 5 46 (h := ?_)
    refine XReg.tk 6 47 (h := ?_)
    refine XReg.pu 7 48 (h := ?_)
    clear hH
    refine XReg.one (i := 4) (some 45) rfl rfl (by kernel_rfl) (by decide) (fun Kc hKc => ?_)
    refine goes_ Try.func54 (by kernel_rfl) rfl #[.slice Awc L2.length cwc, .int .u64 (IntKind.u64.wrap x.2.1)] (by rfl) rfl rfl (by (try simp only [List.map_toArray, List.map_cons, List.map_nil]); first | done | rfl) ?_
    refine (pannierref02_Number.calls 200 Awc cwc L2 _ L3 _ HCd.out HRwc.out.1 HT3.out).mono ?_
    rintro e we ⟨v_, rfl, hr_, hb_⟩
    refine ⟨_, rfl, ?_⟩
    have HBwe := Aside0.mk (HBwd.out.trans (hb_.mono HBwd.out.size))
    obtain ⟨Awe, cwe, rfl⟩ := Kd.R_slice hr_
    have HRwe := Aside0.mk (Kd.R_reads' hr_).2
    refine hKc.out _ _ ⟨(blk_cell (blk_below HX.out HBwe.out) 0).trans rfl, (blk_cell (blk_below HX.out HBwe.out) 1).trans rfl, (blk_cell (blk_below HX.out HBwe.out) 2).trans rfl, (blk_cell (blk_below HX.out HBwe.out) 3).trans rfl⟩ (fun hH2 => ?_)
    clear hKc Kc hH2 hr_ hb_
    refine norm_ (a' := ?_) ?_ ?_
    rotate_left
    · show Act.put _ (some 45) _ = _
      simp only [Act.put, List.setIfInBounds_toArray, List.set_cons_zero, List.set_cons_succ, i64_w, i32_w]
      rfl
    refine XReg.one (i := 8) (some 49) rfl rfl (by kernel_rfl) (by decide) (fun Kc hKc => ?_)
    refine goes_ Try.func54 (by kernel_rfl) rfl #[.slice Awe L3.length cwe, .int .u64 (IntKind.u64.wrap x.2.2)] (by rfl) rfl rfl (by (try simp only [List.map_toArray, List.map_cons, List.map_nil]); first | done | rfl) ?_
    refine (pannierref02_Number.calls 200 Awe cwe L3 _ L4 _ HRwe.out.2 HRwe.out.1 HT4.out).mono ?_
    rintro e wf ⟨v_, rfl, hr_, hb_⟩
    refine ⟨_, rfl, ?_⟩
    have HBwf := Aside0.mk (HBwe.out.trans (hb_.mono HBwe.out.size))
    obtain ⟨Awf, cwf, rfl⟩ := Kd.R_slice hr_
    have HRwf := Aside0.mk (Kd.R_reads' hr_).2
    refine hKc.out _ _ ⟨(blk_cell (blk_below HX.out HBwf.out) 0).trans rfl, (blk_cell (blk_below HX.out HBwf.out) 1).trans rfl, (blk_cell (blk_below HX.out HBwf.out) 2).trans rfl, (blk_cell (blk_below HX.out HBwf.out) 3).trans rfl⟩ (fun hH2 => ?_)
    clear hKc Kc hH2 hr_ hb_
    refine norm_ (a' := ?_) ?_ ?_
    rotate_left
    · show Act.put _ (some 49) _ = _
      simp only [Act.put, List.setIfInBounds_toArray, List.set_cons_zero, List.set_cons_succ, i64_w, i32_w]
      rfl
    refine XReg.pu 9 3 (h := ?_)
    refine done_ (by kernel_rfl) ?_
    have HBf := Aside0.mk (HB2.out.trans (HBwf.out.mono HB2.out.size))
    clear HRwe HBwc HBwd HBwe HCd HRwc HT3 HT4
    go_wp2
    refine ⟨⟨j + 1, hlt, by go_num, HBf, Awf, cwf, L4, rfl, ⟨HLE.out, HRwf.out⟩⟩, ?_⟩
    simp [intOf]
    omega
  · have q1 : decide ((j : Int) < (E.length : Int)) = false := decide_eq_false (by omega)
    obtain rfl : j = E.length := by omega
    have HLL := Aside0.mk (show L = layI who E.length E from by rw [HX0.out.1, List.take_length]; unfold layI; rw [HLH.out])
    have hcv := Kd.C_string (P := Try.prog) (c := cb) (src := 100) (dst := 9) Try.underlying100 Try.underlying5 Try.underlying9 HX0.out.2.2
    go_wp2
    go_ret
    exact ⟨by rw [← HLL.out]; rfl, HB.out⟩
end Go.Proofs.Ytjejhgjdmbodiaa.PO
end
section
namespace Go.Proofs.Ytjejhgjdmbodiaa.PO
open Go.RowKit Go.Proofs.YtjejhgjdmbodiaaW.PrintWords Go.Proofs.YtjejhgjdmbodiaaW.PrintLast Go.Proofs.YtjejhgjdmbodiaaW.PrintMore Go.Proofs.Ytjejhgjdmbodiaa.XW
open Go.Proofs.Ytjejhgjdmbodiaa.XRange
set_option linter.unusedVariables false
set_option linter.unusedSimpArgs false
attribute [local go_sem] Oper.semAt_some
theorem cut_calls (A : Option Addr) (n c : Nat) (w : World) : Calls Try.prog 39 #[.slice A n c] w fun e w' => e = .returned (.func (.func 70) #[] #[.pointer (some ⟨w.heap.size, 0, none⟩)]) ∧ w' = w.alloc (.cells #[.slice A n c] 22) := by
 go_enter Try.func39, Try.ntmps39
 go_wp2
 go_ret
 exact ⟨rfl, rfl⟩
def PInv (w6 : World) (o B b D : Nat) (d : OutD) (pre : List Nat) (W : World) : Prop :=
 Keeps (fun k => k = o ∨ k = B) w6 W ∧ ∃ P c, W.heap[o]? = some (.cells (outCells d P pre.length c 0) 78 (0, 0)) ∧ Kd.R (Kd.raw 1) 22 W D (fun k => k ≠ D ∧ k ≠ D + 1) (.slice P pre.length c) (pcs b d.l.length pre)
theorem PInv.keeps {w6 : World} {o B b D : Nat} {d : OutD} {pre : List Nat} {A A' : World} {M : Nat → Prop} (hD : w6.heap.size = D) (h : PInv w6 o B b D d pre A) (ho : o < D) (hB : B < D) (hk : Keeps M A A')
 (h1 : ∀ k, M k → k < D → k = B) (h2 : ∀ k, M k → D ≤ k → k = D ∨ k = D + 1) (hoB : o ≠ B) : PInv w6 o B b D d pre A' := by
 obtain ⟨hK, P, c, hO, hR⟩ := h
 have hsz := hK.size
 refine ⟨⟨hk.os.trans hK.os, hk.tape.trans hK.tape, hk.output.trans hK.output, Nat.le_trans hK.size hk.size, fun k hlt hne => ?_⟩, P, c, ?_, ?_⟩
 · refine (hk.block k (by omega) (fun hm => ?_)).trans (hK.block k hlt hne)
   exact hne (.inr (h1 k hm (by omega)))
 · exact (hk.block o (blk_lt hO) (fun hm => hoB (h1 o hm ho))).trans hO
 · refine Kd.R_mono (Kd.R_step (Kd.R_bound hR) (fun k hok hlt => hk.block k hlt (fun hm => ?_))) (fun k hk => hk.1)
   have := hok.2.1
   rcases h2 k hm this with e | e
   · exact hok.1.1 e
   · exact hok.1.2 e
theorem info22 : (Try.prog.info? 22).map (fun i => (i.zero, i.size, i.bytes)) = some (some (.slice none 0 0), 1, 24) := by kernel_rfl
theorem lit_one {w : World} {v : Value} {t : TypeId} (h1 : v.oneCell' = true) : ReadsRow (fun y c => y = [v] ∧ c = [v]) 1 (w.alloc (.cells #[v] t)) (some ⟨w.heap.size, 0, none⟩) 1 [[v]] :=
 ⟨rfl, by decide, fun _ => ⟨_, rfl, fun j p hj => by
  cases j with
  | zero =>
    simp only [List.getElem?_cons_zero, Option.some.injEq] at hj
    subst hj
    refine ⟨[v], rfl, ⟨rfl, rfl⟩, fun i u hu => ?_⟩
    cases i with
    | zero =>
      simp only [List.getElem?_cons_zero, Option.some.injEq] at hu
      subst hu
      exact (blk_cell (World.alloc_heap_new w (.cells #[v] t)) 0).trans rfl
    | succ i => simp at hu
  | succ j => simp at hj⟩⟩
set_option maxHeartbeats 8000000 in
set_option maxRecDepth 100000 in
theorem newOut_calls (d : OutD) (A : Option Addr) (c : Nat) (w : World) (hc : d.l.length ≤ c) (hC : Kd.C k74 w A d.l.length d.l) (hk : okOut d = true) :
 Calls Try.prog 11 #[.string d.fr, .string d.tw, .string d.ct, .int .i64 d.se, .slice A d.l.length c] w fun e w' => ∃ o, e = .returned (.tuple #[.pointer (some ⟨o, 0, none⟩), .int .i64 0]) ∧ OutAt (fun k => w.heap.size ≤ k ∧ k < w'.heap.size ∧ k ≠ o) w' o d 0 ∧ w.heap.size ≤ o ∧ Below w.heap.size w w' := by
 have HC := Aside0.mk hC
 have HCL := Aside0.mk hc
 have hK2 := hk
 unfold okOut at hK2
 simp only [Bool.and_eq_true, Bool.not_eq_true'] at hK2
 obtain ⟨hH, hany⟩ := hK2
 obtain ⟨z1, z2, q3, q4, q5, q6, q7, q8⟩ := headO_parts hH
 have HANY := Aside0.mk hany
 have HZ := Aside0.mk (show ∀ x, x ∈ d.l → x.f1.length ≤ 1000000 ∧ x.f6.length ≤ 1000000 from by
  intro x hx
  have hb : badO d.ct x = false := by
   have := List.any_eq_false.1 hany x hx
   simpa using this
  obtain ⟨_, h1, _, _, h6, _⟩ := rightO_all (badO_right hb).2
  have h2 := (rightS_le h1).1
  omega)
 have H1 := Aside0.mk z1
 have H2 := Aside0.mk z2
 have p3 : (d.fr.toList == d.tw.toList) = false := by simp [q3]
 have p6 : decide (d.se < 1) = false := by simp; omega
 have p7 : decide ((1152921504606846976 : Int) < d.se) = false := by simp; omega
 have p8 : decide ((512 : Int) < (d.l.length : Int)) = false := by simp; omega
 have H4 := Aside0.mk (show sess_isCart.f d.ct = some true from by unfold sess_isCart.f; simp [q4, q5])
 have HL := Aside0.mk q8
 obtain ⟨N, hN⟩ : ∃ N, w.heap.size = N := ⟨_, rfl⟩
 clear hC hc hk hH hany z1 z2 q3 q4 q5 q6 q7
 obtain ⟨w0, hw0⟩ : ∃ w0, w.alloc (.cells #[.string d.ct] 9) = w0 := ⟨_, rfl⟩
 have HB := Aside0.mk (show Below w.heap.size w w0 from by rw [← hw0]; exact (Below.refl _ w).alloc (Nat.le_refl _) _)
 have KX := Aside0.mk (show w0.heap[N]? = some (.cells #[.string d.ct] 9 (0, 0)) from by rw [← hw0, ← hN]; exact World.alloc_heap_new w _)
 refine (callsIn_wide (n := 3)).1 ?_
 refine callsIn_of_wp_marks Try.func11 rfl trivial ?_ rfl
 simp only [Try.ntmps11, List.size_toArray, List.length_cons, List.length_nil, Nat.reduceAdd, Nat.reduceSub, Array.replicate_succ, Array.replicate_zero, List.push_toArray, List.append_toArray, List.nil_append, List.cons_append]
 gi_wp2_with fail
 try rw [hw0]
 try rw [hN]
 refine ⟨trivial, (callsIn_wide.2 (vector_IsName.calls d.fr true _ (congrArg some H1.out))).mono ?_⟩
 rintro e w1 ⟨rfl, hb1⟩
 have HB1 := Aside0.mk (HB.out.trans (hb1.mono HB.out.size))
 have KX1 := Aside0.mk (blk_below KX.out hb1)
 clear hb1 KX HB hw0
 gi_wp2_with fail
 refine ⟨trivial, (callsIn_wide.2 (vector_IsName.calls d.tw true _ (congrArg some H2.out))).mono ?_⟩
 rintro e w2 ⟨rfl, hb2⟩
 have HB2 := Aside0.mk (HB1.out.trans (hb2.mono HB1.out.size))
 have KX2 := Aside0.mk (blk_below KX1.out hb2)
 clear hb2 KX1 HB1
 have n0 : w2.cell? ⟨N, 0, none⟩ = some (.string d.ct) := (blk_cell KX2.out 0).trans rfl
 gi_wp2_with fail
 refine ⟨trivial, (callsIn_wide.2 (sess_isCart.calls d.ct true _ H4.out)).mono ?_⟩
 rintro e w3 ⟨rfl, hb3⟩
 have hb3 : Below w2.heap.size w2 w3 := hb3.below
 have HB3 := Aside0.mk (HB2.out.trans (hb3.mono HB2.out.size))
 have KX3 := Aside0.mk (blk_below KX2.out hb3)
 clear hb3 KX2 HB2 n0
 have n0 : w3.cell? ⟨N, 0, none⟩ = some (.string d.ct) := (blk_cell KX3.out 0).trans rfl
 gi_wp2_with fail
 refine ⟨trivial, (callsIn_wide.2 (hasBadN_calls N d.ct d.l A c _ HCL.out (Kd.C_below HC.out HB3.out) n0)).mono ?_⟩
 rw [HANY.out]
 rintro e w4 ⟨rfl, hb4⟩
 have HB4 := Aside0.mk (HB3.out.trans (hb4.mono HB3.out.size))
 have KX4 := Aside0.mk (blk_below KX3.out hb4)
 clear hb4 KX3 HB3 n0
 have n0 : w4.cell? ⟨N, 0, none⟩ = some (.string d.ct) := (blk_cell KX4.out 0).trans rfl
 obtain ⟨o, ho⟩ : ∃ o, w4.heap.size = o := ⟨_, rfl⟩
 obtain ⟨w5, hw5⟩ : ∃ w5, (w4.alloc (.cells (outCells d none 0 0 0) 78)).alloc (.cells #[.pointer (some ⟨o, 0, none⟩)] 25) = w5 := ⟨_, rfl⟩
 have HO5 := Aside0.mk (show w5.heap[o]? = some (.cells (outCells d none 0 0 0) 78 (0, 0)) from by rw [← hw5, ← ho]; exact blk_alloc (World.alloc_heap_new w4 _) _)
 have HP5 := Aside0.mk (show w5.heap[o + 1]? = some (.cells #[.pointer (some ⟨o, 0, none⟩)] 25 (0, 0)) from by
  rw [← hw5, ← ho]
  have h := World.alloc_heap_new (w4.alloc (.cells (outCells d none 0 0 0) 78)) (.cells #[.pointer (some ⟨w4.heap.size, 0, none⟩)] 25)
  simpa using h)
 have HS5 := Aside0.mk (show w5.heap.size = o + 2 from by rw [← hw5, ← ho]; simp)
 have hb45 : Below w4.heap.size w4 w5 := by rw [← hw5]; exact ((Below.refl _ w4).alloc (Nat.le_refl _) _).alloc (by simp) _
 have HB5 := Aside0.mk (HB4.out.trans (hb45.mono HB4.out.size))
 have HNO := Aside0.mk (show w.heap.size ≤ o from by rw [← ho]; exact HB4.out.size)
 clear hb45
 gi_wp2_with fail
 first | rw [hw5] | (rw [ho] at *; rw [hw5]) | skip
 clear hw5
 refine ⟨trivial, (callsIn_wide.2 (owns_calls d.l A c w5 (Kd.C_below HC.out HB5.out) HCL.out (by have := HL.out; omega) HZ.out)).mono ?_⟩
 rintro e w6 ⟨v0, rfl, hS, hb6⟩
 obtain ⟨A6, c6, b, rfl, hc6, hA6, hF6⟩ : ∃ A6 c6 b, v0 = .slice A6 d.l.length c6 ∧ d.l.length ≤ c6 ∧ (0 < d.l.length → A6 = some ⟨b, 0, none⟩) ∧ (0 < d.l.length → Kd.F k74 w6 (fun k => w5.heap.size ≤ k ∧ k < w6.heap.size) (some ⟨b, 0, none⟩) d.l.length d.l) := by
  rcases Nat.eq_zero_or_pos d.l.length with h0 | h0
  · obtain ⟨A6, c6, rfl, hc, _⟩ := Kd.S_reads hS
    exact ⟨A6, c6, 0, rfl, hc, fun h => by omega, fun h => by omega⟩
  · obtain ⟨g, cap, rfl, hg, _⟩ := Kd.S_form hS h0
    exact ⟨_, cap, g, rfl, (Kd.S_reads' hS).2.1, fun _ => rfl, fun _ => Kd.F_mono (Kd.S_F (Kd.S_bound hS)) (fun k hk => ⟨hk.2.1, hk.2.2.1⟩)⟩
 have HA6 := Aside0.mk hA6
 have HF6 := Aside0.mk hF6
 have HC6 := Aside0.mk hc6
 have HO6 := Aside0.mk (blk_below HO5.out hb6)
 have HP6 := Aside0.mk (blk_below HP5.out hb6)
 have HB6 := Aside0.mk (HB5.out.trans (hb6.mono HB5.out.size))
 have HSZ6 := Aside0.mk (show o + 2 ≤ w6.heap.size ∧ w5.heap.size = o + 2 from ⟨by have := hb6.size; have := HS5.out; omega, HS5.out⟩)
 clear hS hb6 hA6 hF6 hc6 HO5 HP5 HB5 n0
 gi_wp2_with fail
 refine ⟨trivial, (callsIn_wide.2 (cut_calls A6 d.l.length c6 _)).mono ?_⟩
 rintro e w7 ⟨rfl, hw7⟩
 obtain ⟨B, hBe⟩ : ∃ B, w6.heap.size = B := ⟨_, rfl⟩
 have hb67 : Below w6.heap.size w6 w7 := by rw [hw7]; exact (Below.refl _ w6).alloc (Nat.le_refl _) _
 have HBB := Aside0.mk (show w7.heap[B]? = some (.cells #[.slice A6 d.l.length c6] 22 (0, 0)) from by rw [hw7, ← hBe]; exact World.alloc_heap_new w6 _)
 have HO7 := Aside0.mk (blk_below HO6.out hb67)
 have HP7 := Aside0.mk (blk_below HP6.out hb67)
 have HB7 := Aside0.mk (HB6.out.trans (hb67.mono HB6.out.size))
 have HF7 := Aside0.mk (show 0 < d.l.length → Kd.F k74 w7 (fun k => o + 2 ≤ k ∧ k < B) (some ⟨b, 0, none⟩) d.l.length d.l from fun h => by
  have h1 := HF6.out h
  rw [HSZ6.out.2, hBe] at h1
  exact Kd.F_below h1 hb67)
 obtain ⟨D, hD⟩ : ∃ D, w7.heap.size = D := ⟨_, rfl⟩
 have HD := Aside0.mk (show D = B + 1 ∧ o + 2 ≤ B ∧ w7.heap.size = D from ⟨by rw [← hD, hw7, ← hBe]; simp, by rw [← hBe]; exact HSZ6.out.1, hD⟩)
 rw [hBe]
 clear hw7 hb67 hD HO6 HP6 HB6 HF6 HSZ6 HS5
 have hDD := HD.out
 have hno := HNO.out
 gi_wp2_with fail
 refine range_law (gf := 70) rfl (enters_of Try.func70 (by kernel_rfl) rfl)
  (cut1_seq 2 b B d.l.length c6 A6 w7 HBB.out HA6.out HC6.out (by have := HL.out; omega))
  (fun _ => rfl) (fun k hk => by omega) (fun k hk => by omega)
  (PInv w7 o B b D d) (fun _ _ _ => False)
  (fun s X X' h hk => PInv.keeps hDD.2.2 h (by omega) (by omega) hk (fun k hk _ => hk) (fun k hk h => by omega) (by omega)) (fun c s X X' h _ => h)
  (fun s X X' h hk => PInv.keeps hDD.2.2 h (by omega) (by omega) hk (fun k hk h => by omega) (fun k hk h => by omega) (by omega)) (fun c s X X' h _ => h)
  ⟨Keeps.refl _ _, none, 0, HO7.out, Kd.R_nil _ _ _ _ _⟩ ?round ?done ?stop
 case stop => exact fun c pre W _ h => h.elim
 case round =>
  rintro pre x W hI hlen hsz
  have HPL := Aside0.mk hlen
  have HSZ := Aside0.mk hsz
  clear hI hlen hsz
  gi_wp2_with fail
  refine ⟨Keeps.refl _ _, fun Wb hkb hib => ?_⟩
  have hsb := hkb.size
  have hsz := HSZ.out
  clear hkb
  obtain ⟨hK, P, cc, hO, hR⟩ := hib
  have hPP : Wb.heap[o + 1]? = some (.cells #[.pointer (some ⟨o, 0, none⟩)] 25 (0, 0)) := (hK.block (o + 1) (by omega) (by omega)).trans HP7.out
  have HK := Aside0.mk hK
  have HR := Aside0.mk hR
  have HOb := Aside0.mk hO
  have HPb := Aside0.mk hPP
  clear hK hR hO hPP
  try gi_wp2_with fail
  have e9 : ∀ w' : World, w'.heap[o]? = Wb.heap[o]? → w'.cell? ⟨o, 9, none⟩ = some (.slice P pre.length cc) := fun w' h => (blk_cell (h.trans HOb.out) 9).trans rfl
  have ep : ∀ w' : World, w'.heap[o + 1]? = Wb.heap[o + 1]? → w'.cell? ⟨o + 1, 0, none⟩ = some (.pointer (some ⟨o, 0, none⟩)) := fun w' h => (blk_cell (h.trans HPb.out) 0).trans rfl
  have EP := Aside0.mk ep
  have E9 := Aside0.mk e9
  have hoW : o + 1 < Wb.heap.size := by omega
  clear ep e9
  obtain ⟨AD, K1, hov⟩ : ∃ AD K1, offV b d.l.length x = .slice (some AD) K1 K1 := ⟨_, _, rfl⟩
  have HOV := Aside0.mk hov
  rw [hov]
  clear hov
  refine XRnd.startR_ (k := 11) (ds := [10]) (S := fun w' => w'.cell? ⟨o + 1, 0, none⟩ = some (.pointer (some ⟨o, 0, none⟩)) ∧ w'.cell? ⟨o, 9, none⟩ = some (.slice P pre.length cc)) _ (by kernel_rfl) rfl rfl (by kernel_rfl) (by rintro ⟨_, _, h⟩; exact h)
   ⟨EP.out _ rfl, E9.out _ rfl⟩ (fun hH => ?_)
  refine XReg.tk 0 59 (h := ?_)
  refine XReg.tk 1 60 (h := ?_)
  refine XReg.pu 2 61 (h := ?_)
  refine XReg.pu 3 62 (h := ?_)
  refine XReg.tk 4 63 (h := ?_)
  refine XReg.pu 5 64 (h := ?_)
  refine XReg.one (i := 6) (some 65) rfl rfl (by kernel_rfl) (by decide) (fun Kc hKc => ?_)
  go_simp
  refine hKc.out _ _ ⟨EP.out _ (((Below.refl _ Wb).alloc (Nat.le_refl _) _).block _ (by omega)), E9.out _ (((Below.refl _ Wb).alloc (Nat.le_refl _) _).block _ (by omega))⟩ (fun hH2 => ?_)
  clear hKc Kc hH hH2
  refine XReg.one (i := 7) (some 66) rfl rfl (by kernel_rfl) (by decide) (fun Kc hKc => ?_)
  obtain ⟨wa, hwa⟩ : ∃ wa, (Wb.alloc (.cells #[.slice (some AD) K1 K1] 22)).drew = wa := ⟨_, rfl⟩
  have hba : Below Wb.heap.size Wb wa := by rw [← hwa]; exact below_drew1 ((Below.refl _ Wb).alloc (Nat.le_refl _) _)
  have hla : ReadsRow (fun y c => y = [Value.slice (some AD) K1 K1] ∧ c = [Value.slice (some AD) K1 K1]) 1 wa (some ⟨Wb.heap.size, 0, none⟩) 1 [[.slice (some AD) K1 K1]] := by rw [← hwa]; exact lit_one rfl
  have hsa : wa.heap.size = Wb.heap.size + 1 := by rw [← hwa]; simp
  rw [hwa]
  clear hwa
  have hRa := Kd.R_below HR.out hba
  have hob : ∀ k, (Value.slice P pre.length cc).ownBlock = some k → D ≤ k := fun k hk => by
   rcases Kd.R_base2 HR.out with h | ⟨j, h, hj⟩
   · rw [h] at hk; cases hk
   · rw [h] at hk; cases hk; exact hj
  have hon : some o ≠ (Value.slice P pre.length cc).ownBlock ∧ some (o + 1) ≠ (Value.slice P pre.length cc).ownBlock ∧ some B ≠ (Value.slice P pre.length cc).ownBlock := ⟨fun h => by have := hob _ h.symm; omega, fun h => by have := hob _ h.symm; omega, fun h => by have := hob _ h.symm; omega⟩
  have hod : some D ≠ (Value.slice P pre.length cc).ownBlock ∧ some (D + 1) ≠ (Value.slice P pre.length cc).ownBlock := ⟨fun h => (HR.out.1 _ h.symm).1 rfl, fun h => (HR.out.1 _ h.symm).2 rfl⟩
  refine Kd.R_append_rows_step (Kd.raw 1) (Rr := fun y c => y = [Value.slice (some AD) K1 K1] ∧ c = [Value.slice (some AD) K1 K1]) (w0 := wa) D (by rfl) (.tmp 63) (.tmp 65) 76 22 (.slice none 0 0) 24 rfl Try.underlying76 info22 rfl (by show 0 < 1; omega) (by omega) _ (pcs b d.l.length pre) [[.slice (some AD) K1 K1]] (some ⟨Wb.heap.size, 0, none⟩) 1 1
   (fun k => k ≠ D ∧ k ≠ D + 1) (fun _ => False) rfl rfl hRa hla (fun y c hyc => by obtain ⟨rfl, rfl⟩ := hyc; exact ⟨rfl, rfl, fun u hu => by simp at hu; subst hu; rfl⟩) (fun _ h => h.elim) (fun k hk => ⟨by omega, by omega⟩) (Below.refl _ _) (by omega) (by
    have h1 : (pcs b d.l.length pre).length = pre.length := by simp [pcs]
    have h2 := HPL.out
    have h3 := HL.out
    unfold npc at h2
    omega) (fun v1 wc hr4 _ hg4 hat4 => ?_)
  change Kc (Act.put _ (some 66) v1) wc
  simp only [Act.put, List.setIfInBounds_toArray, List.set_cons_zero, List.set_cons_succ]
  have hkb : ∀ k, k < Wb.heap.size → some k ≠ (Value.slice P pre.length cc).ownBlock → wc.heap[k]? = Wb.heap[k]? := fun k h1 h2 => (hg4.block k (by omega) h2).trans (hba.block k h1)
  have hbo := hkb o (by omega) hon.1
  have HBO := Aside0.mk hbo
  have HKB := Aside0.mk hkb
  have HR4 := Aside0.mk hr4
  have hszc : Wb.heap.size ≤ wc.heap.size := Nat.le_trans hba.size hg4.size
  have HOS := Aside0.mk (show wc.os = Wb.os ∧ wc.tape = Wb.tape ∧ wc.output = Wb.output from ⟨hg4.os.trans hba.os, hg4.tape.trans hba.tape, hg4.output.trans hba.output⟩)
  refine hKc.out _ _ ⟨EP.out _ (hkb (o + 1) (by omega) hon.2.1), E9.out _ hbo⟩ (fun hH2 => ?_)
  obtain ⟨A1, c1, hv1⟩ := Kd.R_slice hr4
  have c9 : wc.cell? ⟨o, 9, none⟩ = some (.slice P pre.length cc) := E9.out _ hbo
  have f9 : wc.frozen? ⟨o, 9, none⟩ = false := blk_frozen (hbo.trans HOb.out) 9
  clear hKc Kc hH2 hla hRa hr4 hat4 hg4 hbo hkb hba
  refine XReg.pu 8 67 (h := ?_)
  refine XReg.pu 9 68 (h := ?_)
  refine XReg.last (i := 10) none rfl rfl (by kernel_rfl) (by decide) (fun Kc hKc => ?_)
  subst hv1
  refine store_last rfl rfl (by first | (go_simp; done) | (go_simp; rfl)) ?_
  refine hKc.out _ _ ?_
  clear hKc Kc
  refine done_ (by kernel_rfl) ?_
  gi_wp2_with fail
  have hB := HD.out
  have hll : (pcs b d.l.length pre).length + 1 = (pre ++ [x]).length := by simp [pcs]
  rw [hll]
  obtain ⟨w9, hw9⟩ : ∃ w9, wc.setCell ⟨o, 9, none⟩ (.slice A1 (pre ++ [x]).length c1) = w9 := ⟨_, rfl⟩
  have hset : ∀ k, k ≠ o → w9.heap[k]? = wc.heap[k]? := fun k hk => by rw [← hw9]; exact Below.heap_setCell wc ⟨o, 9, none⟩ _ k hk
  have hsz9 : Wb.heap.size ≤ w9.heap.size := by rw [← hw9]; simpa [World.setCell] using hszc
  have hos9 : w9.os = wc.os ∧ w9.tape = wc.tape ∧ w9.output = wc.output := by rw [← hw9]; exact ⟨rfl, rfl, rfl⟩
  have hblk9 : w9.heap[o]? = some (.cells (outCells d A1 (pre ++ [x]).length c1 0) 78 (0, 0)) := by rw [← hw9]; exact blk_set (HBO.out.trans HOb.out) 9 _
  have hR9 := Kd.R_far (p := ⟨o, 9, none⟩) (Kd.R_bound HR4.out) (fun k hk => by have := hk.2.1; show k ≠ o; omega) (.slice A1 (pre ++ [x]).length c1)
  rw [hw9] at hR9
  rw [hw9]
  have hkp : ∀ k, k < Wb.heap.size → k ≠ o → some k ≠ (Value.slice P pre.length cc).ownBlock → w9.heap[k]? = Wb.heap[k]? := fun k h1 h2 h3 => (hset k h2).trans (HKB.out k h1 h3)
  refine ⟨⟨hsz9, ?_⟩, ⟨hsz9, ?_⟩, ?_⟩
  · rintro k (rfl | rfl)
    · exact hkp _ (by omega) (by omega) (by rw [hB.2.2]; exact hod.2)
    · exact hkp _ (by omega) (by omega) (by rw [hB.2.2]; exact hod.1)
  · rintro k rfl
    exact hkp _ (by omega) (by omega) hon.2.2
  · refine ⟨⟨hos9.1.trans (HOS.out.1.trans HK.out.os), hos9.2.1.trans (HOS.out.2.1.trans HK.out.tape), hos9.2.2.trans (HOS.out.2.2.trans HK.out.output), Nat.le_trans HK.out.size hsz9, fun k hlt hne => ?_⟩, A1, c1, hblk9, ?_⟩
    · refine (hkp k (by have := HK.out.size; omega) (fun e => hne (.inl e)) (fun e => ?_)).trans (HK.out.block k hlt hne)
      have := hob k e.symm
      omega
    · have hp : pcs b d.l.length (pre ++ [x]) = pcs b d.l.length pre ++ [[.slice (some AD) K1 K1]] := by rw [← HOV.out]; simp [pcs]
      rw [hp]
      have hl2 : (pcs b d.l.length pre ++ [[Value.slice (some AD) K1 K1]]).length = (pre ++ [x]).length := by simp [pcs]
      rw [hl2] at hR9
      exact Kd.R_mono hR9 (fun k hk => hk.1)
 case done =>
  rintro xs W rfl hI hsz hdf
  obtain ⟨hK, P, cc, hO, hR⟩ := hI
  have hPP : W.heap[o + 1]? = some (.cells #[.pointer (some ⟨o, 0, none⟩)] 25 (0, 0)) := (hK.block (o + 1) (by omega) (by omega)).trans HP7.out
  have e0 : W.cell? ⟨o + 1, 0, none⟩ = some (.pointer (some ⟨o, 0, none⟩)) := (blk_cell hPP 0).trans rfl
  have HK := Aside0.mk hK
  have HR := Aside0.mk hR
  have HOb := Aside0.mk hO
  have HDF := Aside0.mk hdf
  have HSZ := Aside0.mk hsz
  clear hK hR hO hPP hdf hsz
  gi_wp2
  have hsz := HSZ.out
  have hk9 := keeps_putObj (fun k => k = w7.heap.size) W w7.heap.size (.deferred none) rfl
  obtain ⟨W9, hW9⟩ : ∃ W9, W.putObj w7.heap.size (.deferred none) = W9 := ⟨_, rfl⟩
  have hs9 : W9.heap.size = W.heap.size := by rw [← hW9]; simp
  refine leave_mark HDF.out ?_
  rw [hW9] at hk9 ⊢
  have hw7 : w.heap.size ≤ w7.heap.size := HB7.out.size
  refine ⟨.tuple #[.pointer (some ⟨o, 0, none⟩), .int .i64 0], by simp [results, Try.f11, go_sem], o, rfl, ⟨fun h => h.2.2 rfl, P, cc, b, ?_, ?_, ?_, fun h => ?_⟩, hno, ?_⟩
  · have h1 := HOb.out
    rw [List.length_range] at h1
    exact (hk9.block o (blk_lt h1) (by omega)).trans h1
  · have h1 := (Kd.R_reads' HR.out).2.1
    rwa [List.length_range] at h1
  · have h1 := Kd.R_F (Kd.R_bound HR.out)
    rw [List.length_range] at h1
    exact Kd.F_mono (Kd.F_step h1 (fun k hk hlt => hk9.block k hlt (by have := hk.1.1; omega))) (fun k hk => ⟨by have := hk.2.1; omega, by have := hk.2.2.1; omega, by have := hk.2.1; omega⟩)
  · have h1 := Kd.F_step (HF7.out h) (fun k hk hlt => HK.out.block k hlt (by omega))
    exact Kd.F_mono (Kd.F_step h1 (fun k hk hlt => hk9.block k hlt (by omega))) (fun k hk => ⟨by omega, by omega, by omega⟩)
  · exact below_keeps (below_keeps HB7.out (fun m hm => by omega) hw7 HK.out) (fun m hm => by omega) (by omega) hk9
end Go.Proofs.Ytjejhgjdmbodiaa.PO
end
