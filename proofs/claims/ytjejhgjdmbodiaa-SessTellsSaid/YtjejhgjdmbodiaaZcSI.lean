/- What the rows of this claim use, out of the texts of this work (SI, UFY, SL, SM, SN). No condition beyond those that each statement names. -/
import Derived.Laws.BitsAllLaws
import Derived.Deep.DeepCutAuto
import Derived.Deep.CutBlock
import Derived.Test.YtjejhgjdmbodiaaZcSE
import Derived.Test.YtjejhgjdmbodiaaZcSH
import Derived.Test.YtjejhgjdmbodiaaZcUTS
import Derived.Test.YtjejhgjdmbodiaaZcUOV
import Derived.Test.YtjejhgjdmbodiaaZcUPOx0
import Derived.Test.YtjejhgjdmbodiaaZcUPD10
import Derived.Test.YtjejhgjdmbodiaaZcUPOx10
import Derived.Test.YtjejhgjdmbodiaaZcUPOx3
section
namespace Go.Proofs.Ytjejhgjdmbodiaa.PO
open Go.RowKit Go.Proofs.YtjejhgjdmbodiaaW.PrintWords Go.Proofs.YtjejhgjdmbodiaaW.PrintLast Go.Proofs.YtjejhgjdmbodiaaW.PrintMore Go.Proofs.Ytjejhgjdmbodiaa.XW
open Go.Proofs.Ytjejhgjdmbodiaa.XRange Go.Proofs.Ytjejhgjdmbodiaa.XMap
set_option linter.unusedVariables false
set_option linter.unusedSimpArgs false
theorem inTake0_calls (i m : Nat) (who : ByteArray) (D : List (Whose × Curs)) (f : Fr) (A8 : Option Addr) (c8 : Nat) (w : World) (h : InAt w i m who D) (hD : D.length ≤ 1000000) (hW : WfD D) (hk : f.kn = []) (l8 : f.op.length ≤ c8) (g8 : Kd.C k74 w A8 f.op.length f.op) :
 Calls Try.prog 23 #[.pointer (some ⟨i, 0, none⟩), .agg #[.int .i64 f.k, .string f.fa, .string f.fb, .string f.ct, .int .i64 f.se, .int .i64 f.ix, .int .i64 f.mn, .slice none 0 0, .slice A8 f.op.length c8]] w (InAns w i m who D f) := by
 have h1 := inTake_calls i m who D f none 0 A8 c8 w h hD hW (by rw [hk]; exact Nat.le_refl _) (by rw [hk]; exact Kd.C_nil _ _) l8 g8
 have h2 : f.kn.length = 0 := by rw [hk]; rfl
 rw [h2] at h1
 exact h1
theorem outTake0_calls (G : Nat → Prop) (o : Nat) (d : OutD) (ack : Int) (f : Fr) (w : World) (h : OutAt G w o d ack) (hk : f.kn = []) (ho : f.op = []) :
 Calls Try.prog 17 #[.pointer (some ⟨o, 0, none⟩), .agg #[.int .i64 f.k, .string f.fa, .string f.fb, .string f.ct, .int .i64 f.se, .int .i64 f.ix, .int .i64 f.mn, .slice none 0 0, .slice none 0 0]] w fun e w' => e = .returned (.int .i64 (takeE d f)) ∧ OutAt G w' o d (takeK d ack f) ∧ Keeps (fun k => k = o) w w' := by
 have h1 := outTake_calls G o d ack f none 0 none 0 w h (by rw [hk]; exact Nat.le_refl _) (by rw [hk]; exact Kd.C_nil _ _) (by rw [ho]; exact Nat.le_refl _) (by rw [ho]; exact Kd.C_nil _ _)
 have h2 : f.kn.length = 0 := by rw [hk]; rfl
 have h3 : f.op.length = 0 := by rw [ho]; rfl
 rw [h2, h3] at h1
 exact h1
theorem OutAt.weak {G G' : Nat → Prop} {w : World} {o : Nat} {d : OutD} {ack : Int} (h : OutAt G w o d ack) (hG : ∀ k, G k → G' k) (hn : ¬ G' o) : OutAt G' w o d ack := by
 obtain ⟨ng, P, c, b, h1, h2, h3, h4⟩ := h
 exact ⟨hn, P, c, b, h1, h2, Kd.F_mono h3 hG, fun h => Kd.F_mono (h4 h) hG⟩
def d9 : OutD := ⟨⟨#[97]⟩, ⟨#[98]⟩, ⟨#[99]⟩, 1, listO 9⟩
theorem d9_ok : okOut d9 = true := by kernel_rfl
theorem d9_next : nextF d9 0 = ⟨2, ⟨#[97]⟩, ⟨#[98]⟩, ⟨#[99]⟩, 1, 0, 2, [], pieceOf (listO 9) 0⟩ := by kernel_rfl
theorem d9_next1 : nextF d9 1 = ⟨2, ⟨#[97]⟩, ⟨#[98]⟩, ⟨#[99]⟩, 1, 1, 2, [], pieceOf (listO 9) 1⟩ := by kernel_rfl
def f9 : Fr := ⟨3, ⟨#[98]⟩, ⟨#[97]⟩, ⟨#[99]⟩, 1, 1, 0, [], []⟩
theorem d9_right : rightF ⟨2, ⟨#[97]⟩, ⟨#[98]⟩, ⟨#[99]⟩, 1, 0, 2, [], pieceOf (listO 9) 0⟩ = true := by kernel_rfl
theorem d9_take : inTake ⟨#[98]⟩ [] ⟨2, ⟨#[97]⟩, ⟨#[98]⟩, ⟨#[99]⟩, 1, 0, 2, [], pieceOf (listO 9) 0⟩ = ⟨pieceOf (listO 9) 0, f9, 0, [((⟨#[97]⟩, ⟨#[99]⟩), (1, 1))]⟩ := by
 unfold inTake
 rw [d9_right]
 rfl
theorem d9_ack : takeE d9 f9 = 0 ∧ takeK d9 0 f9 = 1 := by
 have h : takeE d9 f9 = 0 := by
  unfold takeE
  have h1 : rightF f9 = true := by kernel_rfl
  rw [h1]
  rfl
 exact ⟨h, by unfold takeK; rw [if_pos h]; rfl⟩
theorem d9_len : (pieceOf (listO 9) 0).length = 8 ∧ (pieceOf (listO 9) 1).length = 1 := ⟨by rw [pieceOf_len, listO_len]; rfl, by rw [pieceOf_len, listO_len]; rfl⟩
theorem d9_sizes : ∀ x, x ∈ d9.l → x.f1.length ≤ 1000000 ∧ x.f6.length ≤ 1000000 := by
 intro x hx
 unfold d9 listO at hx
 simp only [List.mem_map, List.mem_range] at hx
 obtain ⟨i, _, rfl⟩ := hx
 unfold madeO
 constructor
 · show (if _ then _ else _ : List S72).length ≤ _
   split <;> simp
 · simp
set_option maxHeartbeats 8000000 in
set_option maxRecDepth 100000 in
theorem shown_calls (w : World) : Calls Try.prog 10 #[] w fun e w' => e = .returned (.bool true) ∧ Below w.heap.size w w' := by
 obtain ⟨N, hN⟩ : ∃ N, w.heap.size = N := ⟨_, rfl⟩
 go_enter Try.func10, Try.ntmps10
 go_wp2_with fail
 refine (list_calls 9 (by omega) w).mono ?_
 rintro e w1 ⟨v0, rfl, hS, hb⟩
 obtain ⟨A, c, rfl, hc, hC⟩ := Kd.S_reads hS
 have HB1 := Aside0.mk hb
 have HC := Aside0.mk hC
 have HCL := Aside0.mk hc
 clear hS hb hC hc
 go_wp2_with fail
 refine (newOut_calls d9 A c w1 HCL.out HC.out d9_ok).mono ?_
 rintro e w2 ⟨o, rfl, hO, hol, hb⟩
 have HO2 := Aside0.mk (hO.weak (G' := fun k => w1.heap.size ≤ k ∧ k < w2.heap.size ∧ k ≠ o) (fun k hk => hk) (fun h => h.2.2 rfl))
 have HB2 := Aside0.mk (HB1.out.trans (hb.mono HB1.out.size))
 have HOL := Aside0.mk (show w1.heap.size ≤ o ∧ w.heap.size ≤ w1.heap.size from ⟨hol, HB1.out.size⟩)
 clear hO hb hol
 go_wp2_with fail
 refine (newIn_calls ⟨#[98]⟩ _ (by kernel_rfl)).mono ?_
 rintro e w3 ⟨i, m, rfl, hI, hi, hm, hb⟩
 have HO3 := Aside0.mk (HO2.out.below hb)
 have HI3 := Aside0.mk hI
 have HIM := Aside0.mk (show w2.heap.size ≤ i ∧ w2.heap.size ≤ m from ⟨hi, hm⟩)
 have HB3 := Aside0.mk (HB2.out.trans (hb.mono HB2.out.size))
 clear hI hi hm hb
 go_wp2_with fail
 refine (outNext_calls _ o d9 0 _ HO3.out (by omega) (by show (listO 9).length ≤ 1000000; rw [listO_len]; omega) d9_sizes).mono ?_
 rw [d9_next]
 rintro e w4 ⟨A8, c8, rfl, _, h8, hC8, hb⟩
 dsimp only
 have HO4 := Aside0.mk (HO3.out.below hb)
 have HI4 := Aside0.mk (HI3.out.below hb)
 have HB4 := Aside0.mk (HB3.out.trans (hb.mono HB3.out.size))
 have HC4 := Aside0.mk (Kd.F_now hC8)
 have HL4 := Aside0.mk h8
 have HSZ := Aside0.mk (show o < w2.heap.size from HO2.out.lt)
 clear hb hC8 h8 HO3 HI3 HB3
 obtain ⟨w5, hw5⟩ : ∃ w5, w4.alloc (.cells #[.int .i64 2, .string ⟨#[97]⟩, .string ⟨#[98]⟩, .string ⟨#[99]⟩, .int .i64 1, .int .i64 0, .int .i64 2, .slice none 0 0, .slice A8 (pieceOf (listO 9) 0).length c8] 34) = w5 := ⟨_, rfl⟩
 have hb5 : Below w4.heap.size w4 w5 := by rw [← hw5]; exact (Below.refl _ w4).alloc (Nat.le_refl _) _
 have hF := World.alloc_heap_new w4 (.cells #[.int .i64 2, .string ⟨#[97]⟩, .string ⟨#[98]⟩, .string ⟨#[99]⟩, .int .i64 1, .int .i64 0, .int .i64 2, .slice none 0 0, .slice A8 (pieceOf (listO 9) 0).length c8] 34)
 rw [hw5] at hF
 obtain ⟨c0, c1, c2, c3, c4, c5, c6, c7, c8'⟩ := cells9 hF
 have h1 : decide ((0 : Int) < (npc d9.l.length : Int)) = true := by kernel_rfl
 simp only [h1]
 go_wp2_with fail
 first | rw [hw5] | skip
 refine (inTake0_calls i m ⟨#[98]⟩ [] ⟨2, ⟨#[97]⟩, ⟨#[98]⟩, ⟨#[99]⟩, 1, 0, 2, [], pieceOf (listO 9) 0⟩ A8 c8 w5 (HI4.out.below hb5) (by simp) (fun p hp => by cases hp) rfl HL4.out (Kd.C_below HC4.out hb5)).mono ?_
 unfold InAns
 rw [d9_take]
 rintro e w6 ⟨B8, e8, rfl, _, _, _, _, hI6, hk6⟩
 have HB6 := Aside0.mk (show Below w.heap.size w w6 from below_keeps (HB4.out.trans (hb5.mono HB4.out.size)) (M := fun k => k = m) (fun k hk => by have := HIM.out; have := HB2.out.size; omega) (by have := HB4.out.size; have := hb5.size; omega) hk6)
 have HO6 := Aside0.mk ((HO4.out.below hb5).step (hk6.block o (HO4.out.below hb5).lt (by have := HSZ.out; have := HIM.out; omega)) (fun k hk hlt => hk6.block k hlt (by have := HIM.out; omega)))
 clear hk6 hI6 hF hb5 hw5 HO4 HI4 HB4 HC4 HL4
 dsimp only [f9]
 go_wp2_with fail
 obtain ⟨M, hM⟩ : ∃ M, w6.heap.size = M := ⟨_, rfl⟩
 obtain ⟨w7, hw7⟩ : ∃ w7, w6.alloc (.cells #[.int .i64 3, .string ⟨#[98]⟩, .string ⟨#[97]⟩, .string ⟨#[99]⟩, .int .i64 1, .int .i64 1, .int .i64 0, .slice none 0 0, .slice none 0 0] 34) = w7 := ⟨_, rfl⟩
 have hb7 : Below w6.heap.size w6 w7 := by rw [← hw7]; exact (Below.refl _ w6).alloc (Nat.le_refl _) _
 have HM7 := Aside0.mk (show w7.heap[M]? = some (.cells #[.int .i64 3, .string ⟨#[98]⟩, .string ⟨#[97]⟩, .string ⟨#[99]⟩, .int .i64 1, .int .i64 1, .int .i64 0, .slice none 0 0, .slice none 0 0] 34 (0, 0)) from by rw [← hw7, ← hM]; exact World.alloc_heap_new w6 _)
 rw [hw7]
 try rw [hM]
 have HO7 := Aside0.mk (HO6.out.below hb7)
 have HB7 := Aside0.mk (HB6.out.trans (hb7.mono HB6.out.size))
 have HMO := Aside0.mk (show o < M ∧ w.heap.size ≤ o from ⟨by rw [← hM]; exact HO6.out.lt, by have := HOL.out; omega⟩)
 clear hw7 hb7 hM HO6 HB6
 refine (outTake0_calls _ o d9 0 f9 w7 HO7.out rfl rfl).mono ?_
 rw [d9_ack.1, d9_ack.2]
 rintro e w8 ⟨rfl, hO8, hk8⟩
 have HO8 := Aside0.mk hO8
 have HM8 := Aside0.mk ((hk8.block M (blk_lt HM7.out) (by have := HMO.out; omega)).trans HM7.out)
 have HB8 := Aside0.mk (below_keeps HB7.out (M := fun k => k = o) (fun k hk => by have := HMO.out; omega) HB7.out.size hk8)
 clear hO8 hk8 HO7 HM7 HB7
 go_wp2_with fail
 refine (outNext_calls _ o d9 1 _ HO8.out (by omega) (by show (listO 9).length ≤ 1000000; rw [listO_len]; omega) d9_sizes).mono ?_
 rw [d9_next1]
 rintro e w9 ⟨C8, g8, rfl, _, _, _, hb⟩
 dsimp only
 have HM9 := Aside0.mk (blk_below HM8.out hb)
 have HB9 := Aside0.mk (HB8.out.trans (hb.mono HB8.out.size))
 obtain ⟨K, hK⟩ : ∃ K, w9.heap.size = K := ⟨_, rfl⟩
 have h2 : decide ((1 : Int) < (npc d9.l.length : Int)) = true := by kernel_rfl
 simp only [h2, d9_len.1, d9_len.2]
 clear hb HO8 HM8 HB8
 obtain ⟨wa, hwa⟩ : ∃ wa, w9.alloc (.cells #[.int .i64 2, .string ⟨#[97]⟩, .string ⟨#[98]⟩, .string ⟨#[99]⟩, .int .i64 1, .int .i64 1, .int .i64 2, .slice none 0 0, .slice C8 1 g8] 34) = wa := ⟨_, rfl⟩
 have hba : Below w9.heap.size w9 wa := by rw [← hwa]; exact (Below.refl _ w9).alloc (Nat.le_refl _) _
 have HKa := Aside0.mk (show wa.heap[K]? = some (.cells #[.int .i64 2, .string ⟨#[97]⟩, .string ⟨#[98]⟩, .string ⟨#[99]⟩, .int .i64 1, .int .i64 1, .int .i64 2, .slice none 0 0, .slice C8 1 g8] 34 (0, 0)) from by rw [← hwa, ← hK]; exact World.alloc_heap_new w9 _)
 have HMa := Aside0.mk (blk_below HM9.out hba)
 have HBa := Aside0.mk (HB9.out.trans (hba.mono HB9.out.size))
 have m5 : wa.cell? ⟨M, 5, none⟩ = some (.int .i64 1) := (blk_cell HMa.out 5).trans rfl
 have k5 : wa.cell? ⟨K, 5, none⟩ = some (.int .i64 1) := (blk_cell HKa.out 5).trans rfl
 have k8 : wa.cell? ⟨K, 8, none⟩ = some (.slice C8 1 g8) := (blk_cell HKa.out 8).trans rfl
 clear hba HM9 HB9
 go_wp2
 go_ret
 exact ⟨rfl, by first | exact HBa.out | (rw [← hN]; exact HBa.out)⟩
end Go.Proofs.Ytjejhgjdmbodiaa.PO
end
section
section
namespace Go.Proofs.Ytjejhgjdmbodiaa.PO
open Go.RowKit Go.Proofs.YtjejhgjdmbodiaaW.PrintWords Go.Proofs.YtjejhgjdmbodiaaW.PrintLast Go.Proofs.YtjejhgjdmbodiaaW.PrintMore Go.Proofs.Ytjejhgjdmbodiaa.XW
open Go.Proofs.Ytjejhgjdmbodiaa.XRange
set_option linter.unusedVariables false
set_option linter.unusedSimpArgs false
set_option maxHeartbeats 8000000 in
set_option maxRecDepth 100000 in
theorem refSameOps_calls (l m : List S74) (A : Option Addr) (c : Nat) (B : Option Addr) (d : Nat) (w : World) (hc : l.length ≤ c) (hC : Kd.C k74 w A l.length l) (hd : m.length ≤ d) (hD : Kd.C k74 w B m.length m) :
 Calls Try.prog 20 #[.slice A l.length c, .slice B m.length d] w fun e w' => e = .returned (.bool (decide (l = m))) ∧ Below w.heap.size w w' := by
 have HC := Aside0.mk hC
 have HD := Aside0.mk hD
 have hm : l.length ≤ 9223372036854775807 := hC.2.1
 clear hC hD
 go_enter Try.func20, Try.ntmps20
 by_cases hlen : l.length = m.length
 case neg =>
  have q0 : ((l.length : Int) != (m.length : Int)) = true := by simp; omega
  have HF := Aside0.mk (show decide (l = m) = false from decide_eq_false (fun h => hlen (by rw [h])))
  go_wp2
  go_ret
  exact ⟨by rw [HF.out]; rfl, Below.refl _ _⟩
 have q0 : ((l.length : Int) != (m.length : Int)) = false := by simp; omega
 have HLEN := Aside0.mk hlen
 clear hlen
 go_wp2
 go_loopw [5, 6] (fun v5 _ wr => ∃ j : Nat, j ≤ l.length ∧ v5 = .int .i64 j ∧ Aside0 (l = m ↔ l.drop j = m.drop j) ∧ Aside0 (Below w.heap.size w wr)) (fun v5 _ _ => l.length - (intOf v5).toNat)
 case atStart => exact ⟨0, Nat.zero_le _, rfl, ⟨by simp⟩, ⟨Below.refl _ _⟩⟩
 case round =>
  obtain ⟨j, hj, rfl, HJ, HB⟩ := hrel
  by_cases hlt : j < l.length
  · have hlt' : j < m.length := by have := HLEN.out; omega
    obtain ⟨ad, A2, c2, A7, c7, hA, hop⟩ := opAt (Kd.C_below HC.out HB.out) j hlt
    obtain ⟨bd, B2, d2, B7, d7, hBq, hoq⟩ := opAt (Kd.C_below HD.out HB.out) j hlt'
    cases hA
    cases hBq
    obtain ⟨x, hx⟩ : ∃ x, rd_T74 l (j : Int) = x := ⟨_, rfl⟩
    obtain ⟨y, hy⟩ : ∃ y, rd_T74 m (j : Int) = y := ⟨_, rfl⟩
    rw [hx] at hop
    rw [hy] at hoq
    have HX := Aside0.mk (show l.drop j = x :: l.drop (j + 1) from by rw [← hx]; exact rd_drop36' l j hlt)
    have HY := Aside0.mk (show m.drop j = y :: m.drop (j + 1) from by rw [← hy]; exact rd_drop36' m j hlt')
    have HOP := Aside0.mk hop
    have HOQ := Aside0.mk hoq
    have hb3 : 0 ≤ (j : Int) ∧ (j : Int) < (l.length : Int) := by omega
    have hb4 : 0 ≤ (j : Int) ∧ (j : Int) < (m.length : Int) := by omega
    have q1 : decide ((j : Int) < (l.length : Int)) = true := by simp; omega
    clear hx hy hop hoq
    go_wp2
    rename World => wq
    have hdr : Below wq.heap.size wq wq.drew := below_drew1 (Below.refl _ wq)
    refine start_ (n := 10) (ds := []) (S := fun w' => OpAt w' (ad.add (j * 8)) x A2 c2 A7 c7 ∧ OpAt w' (bd.add (j * 8)) y B2 d2 B7 d7) _ (by kernel_rfl) rfl rfl ⟨HOP.out.below hdr, HOQ.out.below hdr⟩ (fun hH => ?_)
    refine XReg.pu 0 18 (h := ?_)
    refine XReg.pu 1 19 (h := ?_)
    refine XReg.pu 2 20 (h := ?_)
    refine XReg.tk 3 21 (hy := by (intro w' hS_; obtain ⟨⟨s0, s1, s2, s3, s4, s5, s6, s7, _, _, _, _⟩, _⟩ := hS_; go_simp; with_reducible rfl)) (h := ?_)
    refine XReg.pu 4 22 (h := ?_)
    refine XReg.pu 5 23 (h := ?_)
    refine XReg.pu 6 24 (h := ?_)
    refine XReg.tk 7 25 (hy := by (intro w' hS_; obtain ⟨_, ⟨s0, s1, s2, s3, s4, s5, s6, s7, _, _, _, _⟩⟩ := hS_; go_simp; with_reducible rfl)) (h := ?_)
    refine oneL (i := 8) (some 26) rfl rfl (by kernel_rfl) (by decide) (fun Kc hKc => ?_)
    refine goes_ Try.func49 (by kernel_rfl) rfl #[.agg #[.string x.f0.f0, .int .i64 x.f0.f1, .slice A2 x.f1.length c2, .string x.f2, .int .i64 x.f3, .string x.f4, .int .i64 x.f5, .slice A7 x.f6.length c7], .agg #[.string y.f0.f0, .int .i64 y.f0.f1, .slice B2 y.f1.length d2, .string y.f2, .int .i64 y.f3, .string y.f4, .int .i64 y.f5, .slice B7 y.f6.length d7]] (by rfl) rfl rfl (by (try simp only [List.map_toArray, List.map_cons, List.map_nil]); first | done | rfl) ?_
    refine (refEqualO_calls x y A2 c2 A7 c7 B2 d2 B7 d7 _ HOP.out.l2 (Kd.C_drew HOP.out.g2) HOP.out.l7 (Kd.C_drew HOP.out.g7) HOQ.out.l2 (Kd.C_drew HOQ.out.g2) HOQ.out.l7 (Kd.C_drew HOQ.out.g7)).mono ?_
    obtain ⟨b, hb⟩ : ∃ b, decide (x = y) = b := ⟨_, rfl⟩
    have HBX := Aside0.mk hb
    rw [hb]
    rintro e w10 ⟨rfl, hb10⟩
    refine ⟨_, rfl, ?_⟩
    have hb10' : Below wq.heap.size wq w10 := ⟨hb10.os, hb10.tape, hb10.output, hb10.size, hb10.block⟩
    refine hKc.out _ _ ⟨HOP.out.below hb10', HOQ.out.below hb10'⟩ (fun hH2 => ?_)
    have HB1 := Aside0.mk (show Below w.heap.size w w10 from HB.out.trans (hb10'.mono HB.out.size))
    clear hKc Kc hH hH2 hb10 hb10' hdr hb
    refine XReg.pu 9 6 (h := ?_)
    refine done_ (by kernel_rfl) ?_
    cases b with
    | false =>
      go_wp2
      go_ret
      refine ⟨?_, HB1.out⟩
      rw [show decide (l = m) = false from decide_eq_false (fun h => by
       have h1 := HJ.out.1 h
       rw [HX.out, HY.out, List.cons.injEq] at h1
       exact (of_decide_eq_false HBX.out) h1.1)]
      rfl
    | true =>
      go_wp2
      go_round
      case rel => exact ⟨j + 1, by omega, by go_num, ⟨by rw [HJ.out, HX.out, HY.out, List.cons.injEq, of_decide_eq_true HBX.out]; simp⟩, HB1⟩
      case measure => simp [intOf]; omega
  · have q1 : decide ((j : Int) < (l.length : Int)) = false := by simp; omega
    go_wp2
    go_ret
    refine ⟨?_, HB.out⟩
    rw [show decide (l = m) = true from decide_eq_true (HJ.out.2 (by rw [List.drop_eq_nil_of_le (by omega), List.drop_eq_nil_of_le (by have := HLEN.out; omega)]))]
    rfl
theorem refSameS_calls (l m : List S72) (A : Option Addr) (c : Nat) (B : Option Addr) (d : Nat) (w : World) (hc : l.length ≤ c) (hC : Kd.C k72 w A l.length l) (hd : m.length ≤ d) (hD : Kd.C k72 w B m.length m) :
 Calls Try.prog 45 #[.slice A l.length c, .slice B m.length d] w fun e w' => e = .returned (.bool (decide (l = m))) ∧ Below w.heap.size w w' :=
 (pannierref07_Same.calls (l.length + 1) A c l B d m (decide (l = m)) w hC hc hD hd (refSame_f l m hC.2.1 _ (by omega))).mono (fun e w' h => ⟨h.1, h.2.below⟩)
def eqR (f g : Fr) : Bool := decide (f.kn = g.kn) && decide (f.op = g.op) && decide (f.k = g.k) && decide (f.fa = g.fa) && decide (f.fb = g.fb) && decide (f.ct = g.ct) && decide (f.se = g.se) && decide (f.ix = g.ix) && decide (f.mn = g.mn)
theorem eqR_iff {f g : Fr} : eqR f g = true ↔ f = g := by
 unfold eqR
 simp only [Bool.and_eq_true, decide_eq_true_eq]
 constructor
 · rintro ⟨⟨⟨⟨⟨⟨⟨⟨a, b⟩, c⟩, d⟩, e⟩, i⟩, m⟩, n⟩, o⟩
   cases f
   cases g
   dsimp only at *
   subst a b c d e i m n o
   rfl
 · rintro rfl
   simp
set_option maxHeartbeats 8000000 in
set_option maxRecDepth 100000 in
theorem refEqualF_calls (f : Fr) (A7 : Option Addr) (c7 : Nat) (A8 : Option Addr) (c8 : Nat) (g : Fr) (B7 : Option Addr) (d7 : Nat) (B8 : Option Addr) (d8 : Nat) (w : World) (l7 : f.kn.length ≤ c7) (g7 : Kd.C k72 w A7 f.kn.length f.kn) (l8 : f.op.length ≤ c8) (g8 : Kd.C k74 w A8 f.op.length f.op)
 (m7 : g.kn.length ≤ d7) (h7 : Kd.C k72 w B7 g.kn.length g.kn) (m8 : g.op.length ≤ d8) (h8 : Kd.C k74 w B8 g.op.length g.op) :
 Calls Try.prog 15 #[.agg #[.int .i64 f.k, .string f.fa, .string f.fb, .string f.ct, .int .i64 f.se, .int .i64 f.ix, .int .i64 f.mn, .slice A7 f.kn.length c7, .slice A8 f.op.length c8], .agg #[.int .i64 g.k, .string g.fa, .string g.fb, .string g.ct, .int .i64 g.se, .int .i64 g.ix, .int .i64 g.mn, .slice B7 g.kn.length d7, .slice B8 g.op.length d8]] w
  fun e w' => e = .returned (.bool (eqR f g)) ∧ Below w.heap.size w w' := by
 have HG7 := Aside0.mk g7
 have HG8 := Aside0.mk g8
 have HL7 := Aside0.mk l7
 have HL8 := Aside0.mk l8
 have HH7 := Aside0.mk h7
 have HH8 := Aside0.mk h8
 have HM7 := Aside0.mk m7
 have HM8 := Aside0.mk m8
 clear l7 g7 l8 g8 m7 h7 m8 h8
 obtain ⟨N, hN⟩ : ∃ N, w.heap.size = N := ⟨_, rfl⟩
 go_enter Try.func15, Try.ntmps15
 go_upto_region 1 with fail
 obtain ⟨w0, hw0⟩ : ∃ w0, (w.alloc (.cells #[.int .i64 f.k, .string f.fa, .string f.fb, .string f.ct, .int .i64 f.se, .int .i64 f.ix, .int .i64 f.mn, .slice A7 f.kn.length c7, .slice A8 f.op.length c8] 34)).alloc (.cells #[.int .i64 g.k, .string g.fa, .string g.fb, .string g.ct, .int .i64 g.se, .int .i64 g.ix, .int .i64 g.mn, .slice B7 g.kn.length d7, .slice B8 g.op.length d8] 34) = w0 := ⟨_, rfl⟩
 have HB0 := Aside0.mk (show Below w.heap.size w w0 from by rw [← hw0]; exact ((Below.refl _ w).alloc (Nat.le_refl _) _).alloc (by simp) _)
 have HK0 := Aside0.mk (show w0.heap[N]? = some (.cells #[.int .i64 f.k, .string f.fa, .string f.fb, .string f.ct, .int .i64 f.se, .int .i64 f.ix, .int .i64 f.mn, .slice A7 f.kn.length c7, .slice A8 f.op.length c8] 34 (0, 0)) from by rw [← hw0, ← hN]; exact blk_alloc (World.alloc_heap_new w _) _)
 have HJ0 := Aside0.mk (show w0.heap[N + 1]? = some (.cells #[.int .i64 g.k, .string g.fa, .string g.fb, .string g.ct, .int .i64 g.se, .int .i64 g.ix, .int .i64 g.mn, .slice B7 g.kn.length d7, .slice B8 g.op.length d8] 34 (0, 0)) from by
  rw [← hw0, ← hN]
  have h := World.alloc_heap_new (w.alloc (.cells #[.int .i64 f.k, .string f.fa, .string f.fb, .string f.ct, .int .i64 f.se, .int .i64 f.ix, .int .i64 f.mn, .slice A7 f.kn.length c7, .slice A8 f.op.length c8] 34)) (.cells #[.int .i64 g.k, .string g.fa, .string g.fb, .string g.ct, .int .i64 g.se, .int .i64 g.ix, .int .i64 g.mn, .slice B7 g.kn.length d7, .slice B8 g.op.length d8] 34)
  simpa using h)
 try rw [hw0]
 try rw [hN]
 clear hw0
 obtain ⟨k0, k1, k2, k3, k4, k5, k6, k7, k8⟩ := cells9 HK0.out
 obtain ⟨j0, j1, j2, j3, j4, j5, j6, j7, j8⟩ := cells9 HJ0.out
 go_wp2_with fail
 refine (refSameS_calls f.kn g.kn A7 c7 B7 d7 w0 HL7.out (Kd.C_below HG7.out HB0.out) HM7.out (Kd.C_below HH7.out HB0.out)).mono ?_
 obtain ⟨b1, hb1⟩ : ∃ b, decide (f.kn = g.kn) = b := ⟨_, rfl⟩
 have HE1 := Aside0.mk hb1
 rw [hb1]
 rintro e w1 ⟨rfl, hb⟩
 have HB1 := Aside0.mk (HB0.out.trans (hb.mono HB0.out.size))
 have HK1 := Aside0.mk (blk_below HK0.out hb)
 have HJ1 := Aside0.mk (blk_below HJ0.out hb)
 clear hb hb1 HB0 HK0 HJ0 k0 k1 k2 k3 k4 k5 k6 k7 k8 j0 j1 j2 j3 j4 j5 j6 j7 j8
 obtain ⟨k0, k1, k2, k3, k4, k5, k6, k7, k8⟩ := cells9 HK1.out
 obtain ⟨j0, j1, j2, j3, j4, j5, j6, j7, j8⟩ := cells9 HJ1.out
 go_wp2_with fail
 refine (refSameOps_calls f.op g.op A8 c8 B8 d8 w1 HL8.out (Kd.C_below HG8.out HB1.out) HM8.out (Kd.C_below HH8.out HB1.out)).mono ?_
 obtain ⟨b2, hb2⟩ : ∃ b, decide (f.op = g.op) = b := ⟨_, rfl⟩
 have HE2 := Aside0.mk hb2
 rw [hb2]
 rintro e w4 ⟨rfl, hb⟩
 have HB4 := Aside0.mk (HB1.out.trans (hb.mono HB1.out.size))
 have HK4 := Aside0.mk (blk_below HK1.out hb)
 have HJ4 := Aside0.mk (blk_below HJ1.out hb)
 clear hb hb2 HB1 HK1 HJ1 k0 k1 k2 k3 k4 k5 k6 k7 k8 j0 j1 j2 j3 j4 j5 j6 j7 j8
 obtain ⟨k0, k1, k2, k3, k4, k5, k6, k7, k8⟩ := cells9 HK4.out
 obtain ⟨j0, j1, j2, j3, j4, j5, j6, j7, j8⟩ := cells9 HJ4.out
 -- CHAIN
 cases b1 with
 | false =>
   go_wp2
   go_ret
   refine ⟨?_, by first | exact HB4.out | (rw [← hN]; exact HB4.out)⟩
   rw [show eqR f g = false from by unfold eqR; simp [HE1.out]]
   rfl
 | true =>
 cases b2 with
 | false =>
   go_wp2
   go_ret
   refine ⟨?_, by first | exact HB4.out | (rw [← hN]; exact HB4.out)⟩
   rw [show eqR f g = false from by unfold eqR; simp [HE1.out, HE2.out]]
   rfl
 | true =>
 by_cases c2 : f.k = g.k
 case neg =>
  have d : (f.k == g.k) = false := by simpa using c2
  go_wp2
  go_ret
  refine ⟨?_, by first | exact HB4.out | (rw [← hN]; exact HB4.out)⟩
  rw [show eqR f g = false from by unfold eqR; simp [HE1.out, HE2.out, c2]]
  rfl
 have e2 : (f.k == g.k) = true := by simp [c2]
 by_cases c3 : f.fa = g.fa
 case neg =>
  have d : (f.fa.toList == g.fa.toList) = false := by simpa using (fun h => c3 (bytes_inj h))
  go_wp2
  go_ret
  refine ⟨?_, by first | exact HB4.out | (rw [← hN]; exact HB4.out)⟩
  rw [show eqR f g = false from by unfold eqR; simp [HE1.out, HE2.out, c2, c3]]
  rfl
 have e3 : (f.fa.toList == g.fa.toList) = true := by simp [c3]
 by_cases c4 : f.fb = g.fb
 case neg =>
  have d : (f.fb.toList == g.fb.toList) = false := by simpa using (fun h => c4 (bytes_inj h))
  go_wp2
  go_ret
  refine ⟨?_, by first | exact HB4.out | (rw [← hN]; exact HB4.out)⟩
  rw [show eqR f g = false from by unfold eqR; simp [HE1.out, HE2.out, c2, c3, c4]]
  rfl
 have e4 : (f.fb.toList == g.fb.toList) = true := by simp [c4]
 by_cases c5 : f.ct = g.ct
 case neg =>
  have d : (f.ct.toList == g.ct.toList) = false := by simpa using (fun h => c5 (bytes_inj h))
  go_wp2
  go_ret
  refine ⟨?_, by first | exact HB4.out | (rw [← hN]; exact HB4.out)⟩
  rw [show eqR f g = false from by unfold eqR; simp [HE1.out, HE2.out, c2, c3, c4, c5]]
  rfl
 have e5 : (f.ct.toList == g.ct.toList) = true := by simp [c5]
 by_cases c6 : f.se = g.se
 case neg =>
  have d : (f.se == g.se) = false := by simpa using c6
  go_wp2
  go_ret
  refine ⟨?_, by first | exact HB4.out | (rw [← hN]; exact HB4.out)⟩
  rw [show eqR f g = false from by unfold eqR; simp [HE1.out, HE2.out, c2, c3, c4, c5, c6]]
  rfl
 have e6 : (f.se == g.se) = true := by simp [c6]
 by_cases c7 : f.ix = g.ix
 case neg =>
  have d : (f.ix == g.ix) = false := by simpa using c7
  go_wp2
  go_ret
  refine ⟨?_, by first | exact HB4.out | (rw [← hN]; exact HB4.out)⟩
  rw [show eqR f g = false from by unfold eqR; simp [HE1.out, HE2.out, c2, c3, c4, c5, c6, c7]]
  rfl
 have e7 : (f.ix == g.ix) = true := by simp [c7]
 by_cases c8 : f.mn = g.mn
 case neg =>
  have d : (f.mn == g.mn) = false := by simpa using c8
  go_wp2
  go_ret
  refine ⟨?_, by first | exact HB4.out | (rw [← hN]; exact HB4.out)⟩
  rw [show eqR f g = false from by unfold eqR; simp [HE1.out, HE2.out, c2, c3, c4, c5, c6, c7, c8]]
  rfl
 have e8 : (f.mn == g.mn) = true := by simp [c8]
 go_wp2
 go_ret
 refine ⟨?_, by first | exact HB4.out | (rw [← hN]; exact HB4.out)⟩
 rw [show eqR f g = true from by unfold eqR; simp [HE1.out, HE2.out, c2, c3, c4, c5, c6, c7, c8]]
 rfl
 -- END
end Go.Proofs.Ytjejhgjdmbodiaa.PO
end
section
namespace Go.Proofs.Ytjejhgjdmbodiaa.PO
open Go.RowKit Go.Proofs.YtjejhgjdmbodiaaW.PrintWords Go.Proofs.YtjejhgjdmbodiaaW.PrintLast Go.Proofs.YtjejhgjdmbodiaaW.PrintMore
attribute [local go_sem] max2_int min2_int max_two min_two max_three min_three max_four min_four   -- for this text's walks alone
set_option linter.unusedVariables false
set_option linter.unusedSimpArgs false
end Go.Proofs.Ytjejhgjdmbodiaa.PO
end
section
namespace Go.Proofs.Ytjejhgjdmbodiaa.PO
open Go.RowKit Go.Proofs.YtjejhgjdmbodiaaW.PrintWords Go.Proofs.YtjejhgjdmbodiaaW.PrintLast Go.Proofs.YtjejhgjdmbodiaaW.PrintMore Go.Proofs.Ytjejhgjdmbodiaa.XW
set_option linter.unusedVariables false
set_option linter.unusedSimpArgs false
end Go.Proofs.Ytjejhgjdmbodiaa.PO
end
section
namespace Go.Proofs.Ytjejhgjdmbodiaa.PO
open Go.RowKit Go.Proofs.YtjejhgjdmbodiaaW.PrintWords Go.Proofs.YtjejhgjdmbodiaaW.PrintLast Go.Proofs.YtjejhgjdmbodiaaW.PrintMore Go.Proofs.Ytjejhgjdmbodiaa.XW
open Go.Proofs.Ytjejhgjdmbodiaa.XRange Go.Proofs.Ytjejhgjdmbodiaa.XMap Go.Proofs.Ytjejhgjdmbodiaa.XSeq
set_option linter.unusedVariables false
set_option linter.unusedSimpArgs false
end Go.Proofs.Ytjejhgjdmbodiaa.PO
end
section
namespace Go.Proofs.Ytjejhgjdmbodiaa.PO
open Go.RowKit Go.Proofs.YtjejhgjdmbodiaaW.PrintWords Go.Proofs.YtjejhgjdmbodiaaW.PrintLast Go.Proofs.YtjejhgjdmbodiaaW.PrintMore Go.Proofs.Ytjejhgjdmbodiaa.XW
open Go.Proofs.Ytjejhgjdmbodiaa.XRange
set_option linter.unusedVariables false
set_option linter.unusedSimpArgs false
end Go.Proofs.Ytjejhgjdmbodiaa.PO
end
section
namespace Go.Proofs.Ytjejhgjdmbodiaa.PO
open Go.RowKit Go.Proofs.YtjejhgjdmbodiaaW.PrintWords Go.Proofs.YtjejhgjdmbodiaaW.PrintLast Go.Proofs.YtjejhgjdmbodiaaW.PrintMore Go.Proofs.Ytjejhgjdmbodiaa.XW
open Go.Proofs.Ytjejhgjdmbodiaa.XRange
set_option linter.unusedVariables false
set_option linter.unusedSimpArgs false
def sB : ByteArray := ⟨#[98]⟩
def f0 : Fr := ⟨3, sA, sB, sC, 1, 2, 0, [], []⟩
end Go.Proofs.Ytjejhgjdmbodiaa.PO
end
section
namespace Go.Proofs.Ytjejhgjdmbodiaa.PO
open Go.RowKit Go.Proofs.YtjejhgjdmbodiaaW.PrintWords Go.Proofs.YtjejhgjdmbodiaaW.PrintLast Go.Proofs.YtjejhgjdmbodiaaW.PrintMore Go.Proofs.Ytjejhgjdmbodiaa.XW
open Go.Proofs.Ytjejhgjdmbodiaa.XRange
set_option linter.unusedVariables false
set_option linter.unusedSimpArgs false
end Go.Proofs.Ytjejhgjdmbodiaa.PO
end
section
namespace Go.Proofs.Ytjejhgjdmbodiaa.PO
open Go.RowKit Go.Proofs.YtjejhgjdmbodiaaW.PrintWords Go.Proofs.YtjejhgjdmbodiaaW.PrintLast Go.Proofs.YtjejhgjdmbodiaaW.PrintMore
open Go.Proofs.Ytjejhgjdmbodiaa.XRange
set_option linter.unusedVariables false
set_option linter.unusedSimpArgs false
end Go.Proofs.Ytjejhgjdmbodiaa.PO
end
end
section
namespace Go.Proofs.Ytjejhgjdmbodiaa.PO
open Go.RowKit Go.Proofs.YtjejhgjdmbodiaaW.PrintWords Go.Proofs.YtjejhgjdmbodiaaW.PrintLast Go.Proofs.YtjejhgjdmbodiaaW.PrintMore Go.Proofs.Ytjejhgjdmbodiaa.XW
open Go.Proofs.Ytjejhgjdmbodiaa.XRange
attribute [local go_sem] max2_int min2_int max_two min_two
set_option linter.unusedVariables false
set_option linter.unusedSimpArgs false
abbrev refCells (d : OutD) (A : Option Addr) (c : Nat) (ack : Int) : Array Value := #[.string d.fr, .string d.tw, .string d.ct, .int .i64 d.se, .slice A d.l.length c, .int .i64 ack]
theorem many_eq (n : Nat) : ((n : Int) + 8 - 1) / 8 = (npc n : Int) := by unfold npc; omega
theorem refMany_calls (r : Nat) (d : OutD) (A : Option Addr) (c : Nat) (ack : Int) (w : World) (h : w.heap[r]? = some (.cells (refCells d A c ack) 40 (0, 0))) (hn : d.l.length ≤ 512) :
 Calls Try.prog 44 #[.pointer (some ⟨r, 0, none⟩)] w fun e w' => e = .returned (.int .i64 (npc d.l.length : Int)) ∧ Below w.heap.size w w' := by
 have e4 : w.cell? ⟨r, 4, none⟩ = some (.slice A d.l.length c) := (blk_cell h 4).trans rfl
 have hm := many_eq d.l.length
 go_enter Try.func44, Try.ntmps44
 go_wp2
 go_ret
 rw [hm]
 exact ⟨rfl, Below.refl _ _⟩
set_option maxHeartbeats 8000000 in
set_option maxRecDepth 100000 in
theorem refNewOut_calls (d : OutD) (A : Option Addr) (c : Nat) (w : World) (hc : d.l.length ≤ c) (hC : Kd.C k74 w A d.l.length d.l) (m : Nat) (hm : m ≤ 9223372036854775807) (hzf : d.fr.size ≤ m) (hzt : d.tw.size ≤ m) (hz : ∀ x, x ∈ d.l → WfO m x) :
 Calls Try.prog 12 #[.string d.fr, .string d.tw, .string d.ct, .int .i64 d.se, .slice A d.l.length c] w fun e w' =>
  (okOut d = true → ∃ r, e = .returned (.tuple #[.pointer (some ⟨r, 0, none⟩), .int .i64 0]) ∧ w'.heap[r]? = some (.cells (refCells d A c 0) 40 (0, 0)) ∧ w.heap.size ≤ r) ∧ (okOut d = false → e = .returned (.tuple #[.pointer none, .int .i64 2])) ∧ Below w.heap.size w w' := by
 have HC := Aside0.mk hC
 have HCL := Aside0.mk hc
 have HM := Aside0.mk hm
 have HZ := Aside0.mk hz
 have hl : d.l.length ≤ 9223372036854775807 := hC.2.1
 obtain ⟨N, hN⟩ : ∃ N, w.heap.size = N := ⟨_, rfl⟩
 have HZF := Aside0.mk hzf
 have HZT := Aside0.mk hzt
 clear hC hc hm hz hzf hzt
 obtain ⟨b1, h1⟩ : ∃ b, isNameB d.fr = b := ⟨_, rfl⟩
 obtain ⟨b2, h2⟩ : ∃ b, isNameB d.tw = b := ⟨_, rfl⟩
 have H1 := Aside0.mk h1
 have H2 := Aside0.mk h2
 clear h1 h2
 go_enter Try.func12, Try.ntmps12
 go_wp2_with fail
 refine (refName_calls d.fr (Nat.le_trans HZF.out HM.out) _).mono ?_
 rw [H1.out]
 rintro e w1 ⟨rfl, hb⟩
 have HB1 := Aside0.mk hb
 clear hb
 go_wp2_with fail
 refine (refName_calls d.tw (Nat.le_trans HZT.out HM.out) _).mono ?_
 rw [H2.out]
 rintro e w2 ⟨rfl, hb⟩
 have HB2 := Aside0.mk (HB1.out.trans (hb.mono HB1.out.size))
 clear hb HB1
 cases b1 with
 | false =>
   go_wp2
   go_ret2
   have HO : okOut d = false := by unfold okOut headO; rw [H1.out]; rfl
   exact ⟨fun h => (by rw [HO] at h; cases h), fun _ => rfl, by first | exact HB2.out | (rw [← hN]; exact HB2.out)⟩
 | true =>
 cases b2 with
 | false =>
   go_wp2
   go_ret2
   have HO : okOut d = false := by unfold okOut headO; rw [H1.out, H2.out]; rfl
   exact ⟨fun h => (by rw [HO] at h; cases h), fun _ => rfl, by first | exact HB2.out | (rw [← hN]; exact HB2.out)⟩
 | true =>
 by_cases q3 : d.fr.toList = d.tw.toList
 · have p3 : (d.fr.toList == d.tw.toList) = true := by simp [q3]
   have HE := Aside0.mk (bytes_inj q3)
   go_wp2
   go_ret2
   have HO : okOut d = false := by unfold okOut headO; rw [HE.out]; simp
   exact ⟨fun h => (by rw [HO] at h; cases h), fun _ => rfl, by first | exact HB2.out | (rw [← hN]; exact HB2.out)⟩
 · have p3 : (d.fr.toList == d.tw.toList) = false := by simp [q3]
   have Q3 := Aside0.mk q3
   clear q3
   obtain ⟨b4, h4⟩ : ∃ b, pannierref16_isCart.f d.ct = some b := by
    unfold pannierref16_isCart.f
    split
    · exact ⟨_, rfl⟩
    · exact ⟨_, rfl⟩
   have H4 := Aside0.mk h4
   have H4E := Aside0.mk (show b4 = decide (1 ≤ d.ct.size ∧ d.ct.size ≤ 32) from by
    unfold pannierref16_isCart.f at h4
    split at h4
    · have := Option.some.inj h4; rw [← this]; rw [decide_eq_decide]; omega
    · have := Option.some.inj h4; rw [← this]; symm; rw [decide_eq_false_iff_not]; omega)
   clear h4
   go_wp2_with fail
   refine (pannierref16_isCart.calls d.ct b4 _ H4.out).mono ?_
   rintro e w3 ⟨rfl, hb3⟩
   have hb3 : Below w2.heap.size w2 w3 := hb3.below
   have HB3 := Aside0.mk (HB2.out.trans (hb3.mono HB2.out.size))
   clear hb3 HB2
   cases b4 with
   | false =>
     have hx : ¬ (1 ≤ d.ct.size ∧ d.ct.size ≤ 32) := of_decide_eq_false H4E.out.symm
     go_wp2
     go_ret2
     have HO : okOut d = false := by
      have h1 : headO d = false := by
       cases hh : headO d with
       | false => rfl
       | true =>
         obtain ⟨_, _, _, h5, h6, _⟩ := headO_parts hh
         exact absurd ⟨by rcases Nat.eq_zero_or_pos d.ct.size with h | h; (exact absurd (nil_size.2 h) h5); exact h, by omega⟩ hx
      unfold okOut
      rw [h1]
      rfl
     exact ⟨fun h => (by rw [HO] at h; cases h), fun _ => rfl, by first | exact HB3.out | (rw [← hN]; exact HB3.out)⟩
   | true =>
     have hx : 1 ≤ d.ct.size ∧ d.ct.size ≤ 32 := of_decide_eq_true H4E.out.symm
     by_cases hh : 1 ≤ d.se ∧ d.se ≤ 1152921504606846976 ∧ d.l.length ≤ 512
     case neg =>
      have HO := Aside0.mk (show okOut d = false from by
       have h1 : headO d = false := by
        cases hd : headO d with
        | false => rfl
        | true =>
          obtain ⟨_, _, _, _, _, h6, h7, h8⟩ := headO_parts hd
          exact absurd ⟨h6, h7, h8⟩ hh
       unfold okOut
       rw [h1]
       rfl)
      have h1 : (decide (d.se < 1) = true) ∨ (decide (d.se < 1) = false ∧ decide ((1152921504606846976 : Int) < d.se) = true) ∨ (decide (d.se < 1) = false ∧ decide ((1152921504606846976 : Int) < d.se) = false ∧ decide ((512 : Int) < (d.l.length : Int)) = true) := by
       by_cases h1 : d.se < 1
       · exact .inl (decide_eq_true h1)
       · by_cases h2 : (1152921504606846976 : Int) < d.se
         · exact .inr (.inl ⟨decide_eq_false h1, decide_eq_true h2⟩)
         · exact .inr (.inr ⟨decide_eq_false h1, decide_eq_false h2, decide_eq_true (by omega)⟩)
      clear hh hx
      rcases h1 with h1 | ⟨h1, h2⟩ | ⟨h1, h2, h3⟩
      all_goals
       go_wp2
       go_ret2
       exact ⟨fun h => (by rw [HO.out] at h; cases h), fun _ => rfl, by first | exact HB3.out | (rw [← hN]; exact HB3.out)⟩
     case pos =>
      have HH := Aside0.mk (headO_true H1.out H2.out Q3.out (fun h => by have := nil_size.1 h; omega) (by omega) hh.1 hh.2.1 hh.2.2)
      have p6 : decide (d.se < 1) = false := decide_eq_false (by omega)
      have p7 : decide ((1152921504606846976 : Int) < d.se) = false := decide_eq_false (by omega)
      have p8 : decide ((512 : Int) < (d.l.length : Int)) = false := decide_eq_false (by omega)
      clear hh hx
      go_wp2
      go_loopw [14, 15] (fun v14 _ wr => ∃ j : Nat, j ≤ d.l.length ∧ v14 = .int .i64 j ∧ Aside0 ((d.l.drop j).any (badO d.ct) = d.l.any (badO d.ct)) ∧ Aside0 (Below w.heap.size w wr)) (fun v14 _ _ => d.l.length - (intOf v14).toNat)
      case atStart => exact ⟨0, Nat.zero_le _, rfl, ⟨by simp⟩, HB3⟩
      case round =>
       obtain ⟨j, hj, rfl, HJ, HB⟩ := hrel
       by_cases hlt : j < d.l.length
       · obtain ⟨ad, A2, c2, A7, c7, rfl, f0, f1, f2, f3, f4, f5, f6, f7, l2, g2, l7, g7⟩ := at_T74 (Kd.C_below HC.out HB.out) (j : Int) (by omega) (by omega)
         simp only [Int.toNat_natCast] at f0 f1 f2 f3 f4 f5 f6 f7
         have HW := Aside0.mk (HZ.out _ (rd_memF d.l j hlt))
         obtain ⟨x, hx⟩ : ∃ x, rd_T74 d.l (j : Int) = x := ⟨_, rfl⟩
         rw [hx] at f0 f1 f2 f3 f4 f5 f6 f7 l2 g2 l7 g7 HW
         have HD := Aside0.mk (show d.l.drop j = x :: d.l.drop (j + 1) from by rw [← hx]; exact rd_drop36' d.l j hlt)
         have HL2 := Aside0.mk l2
         have HG2 := Aside0.mk g2
         have HL7 := Aside0.mk l7
         have HG7 := Aside0.mk g7
         have hb3 : 0 ≤ (j : Int) ∧ (j : Int) < (d.l.length : Int) := ⟨Int.natCast_nonneg _, Int.ofNat_lt.2 hlt⟩
         have q1 : decide ((j : Int) < (d.l.length : Int)) = true := decide_eq_true hb3.2
         have hbk := World.block_lt_of_cell? wr _ f3
         clear l2 g2 l7 g7 hx
         go_wp2_with fail
         refine (refRightO_calls x A2 c2 A7 c7 _ HL2.out HG2.out HL7.out HG7.out m HM.out HW.out.1 HW.out.2.1 HW.out.2.2).mono ?_
         rintro e w4 ⟨rfl, hb4⟩
         have HB4 := Aside0.mk (HB.out.trans (hb4.mono HB.out.size))
         have f3' := (hb4.cell (p := ⟨(ad.add (j * 8)).block, (ad.add (j * 8)).off + 3, none⟩) hbk).trans f3
         obtain ⟨b, hb⟩ : ∃ b, rightO x = b := ⟨_, rfl⟩
         have HBX := Aside0.mk hb
         rw [hb]
         clear hb hb4 f0 f1 f2 f3 f4 f5 f6 f7 hbk
         have HOF := Aside0.mk (show badO d.ct x = true → okOut d = false from fun h => by unfold okOut; rw [HH.out, ← HJ.out, HD.out, List.any_cons, h]; rfl)
         cases b with
         | false =>
           have HO := Aside0.mk (HOF.out (by unfold badO; rw [HBX.out]; simp))
           go_wp2
           go_ret2
           exact ⟨fun h => (by rw [HO.out] at h; cases h), fun _ => rfl, by first | exact HB4.out | (rw [← hN]; exact HB4.out)⟩
         | true =>
           by_cases he : x.f2.toList = d.ct.toList
           · have q2 : (x.f2.toList == d.ct.toList) = true := by simp [he]
             have HE := Aside0.mk (bytes_inj he)
             go_wp2
             refine ⟨⟨j + 1, hlt, by go_num, ⟨by rw [← HJ.out, HD.out, List.any_cons]; unfold badO; rw [HBX.out, HE.out]; simp⟩, HB4⟩, ?_⟩
             simp [intOf]
             omega
           · have q2 : (x.f2.toList == d.ct.toList) = false := by simp [he]
             have HO := Aside0.mk (HOF.out (by
              have : x.f2 ≠ d.ct := fun h => he (by rw [h])
              unfold badO
              simp [this]))
             go_wp2
             go_ret2
             exact ⟨fun h => (by rw [HO.out] at h; cases h), fun _ => rfl, by first | exact HB4.out | (rw [← hN]; exact HB4.out)⟩
       · have q1 : decide ((j : Int) < (d.l.length : Int)) = false := by simp; omega
         have HF := Aside0.mk (show okOut d = true from by unfold okOut; rw [HH.out, ← HJ.out, List.drop_eq_nil_of_le (by omega)]; rfl)
         go_wp2
         go_ret2
         have hbx := (Below.refl wr.heap.size wr).alloc (Nat.le_refl _) (.cells (refCells d A c 0) 40)
         exact ⟨fun _ => ⟨wr.heap.size, rfl, World.alloc_heap_new wr _, HB.out.size⟩, fun h => (by rw [HF.out] at h; cases h), by first | exact HB.out.trans (hbx.mono HB.out.size) | (rw [← hN]; exact HB.out.trans (hbx.mono HB.out.size))⟩
end Go.Proofs.Ytjejhgjdmbodiaa.PO
end
section
namespace Go.Proofs.Ytjejhgjdmbodiaa.PO
open Go.RowKit Go.Proofs.YtjejhgjdmbodiaaW.PrintWords Go.Proofs.YtjejhgjdmbodiaaW.PrintLast Go.Proofs.YtjejhgjdmbodiaaW.PrintMore Go.Proofs.Ytjejhgjdmbodiaa.XW
open Go.Proofs.Ytjejhgjdmbodiaa.XRange
attribute [local go_sem] max2_int min2_int max_two min_two
set_option linter.unusedVariables false
set_option linter.unusedSimpArgs false
theorem mid_a {i n : Nat} (h : 8 * i < n) : 8 * i ≤ min (8 * i + 8) n := by omega
theorem mid_b {i n fr hi : Nat} (h1 : 8 * i = fr) (h2 : min (8 * i + 8) n = hi) : hi - fr = min 8 (n - 8 * i) := by omega
set_option maxHeartbeats 8000000 in
set_option maxRecDepth 100000 in
theorem refNext_calls (r : Nat) (d : OutD) (A : Option Addr) (c : Nat) (ack : Int) (w : World) (h : w.heap[r]? = some (.cells (refCells d A c ack) 40 (0, 0))) (h0 : 0 ≤ ack) (hn : d.l.length ≤ 512) (hc : d.l.length ≤ c) (hC : Kd.C k74 w A d.l.length d.l) :
 Calls Try.prog 14 #[.pointer (some ⟨r, 0, none⟩)] w fun e w' => ∃ A8 c8, e = .returned (.tuple #[.agg #[.int .i64 (nextF d ack).k, .string (nextF d ack).fa, .string (nextF d ack).fb, .string (nextF d ack).ct, .int .i64 (nextF d ack).se, .int .i64 (nextF d ack).ix, .int .i64 (nextF d ack).mn, .slice none 0 0, .slice A8 (nextF d ack).op.length c8], .bool (decide (ack < (npc d.l.length : Int)))]) ∧
  (nextF d ack).op.length ≤ c8 ∧ Kd.C k74 w' A8 (nextF d ack).op.length (nextF d ack).op ∧ Below w.heap.size w w' := by
 have HR := Aside0.mk h
 have HC := Aside0.mk hC
 have HCL := Aside0.mk hc
 have HNL := Aside0.mk hn
 have hrN := blk_lt h
 obtain ⟨N, hN⟩ : ∃ N, w.heap.size = N := ⟨_, rfl⟩
 clear h hC hc
 obtain ⟨w0, hw0⟩ : ∃ w0, w.alloc (.cells #[.int .i64 0, .string ⟨#[]⟩, .string ⟨#[]⟩, .string ⟨#[]⟩, .int .i64 0, .int .i64 0, .int .i64 0, .slice none 0 0, .slice none 0 0] 34) = w0 := ⟨_, rfl⟩
 have HB0 := Aside0.mk (show Below w.heap.size w w0 from by rw [← hw0]; exact (Below.refl _ w).alloc (Nat.le_refl _) _)
 have HX0 := Aside0.mk (show w0.heap[N]? = some (.cells #[.int .i64 0, .string ⟨#[]⟩, .string ⟨#[]⟩, .string ⟨#[]⟩, .int .i64 0, .int .i64 0, .int .i64 0, .slice none 0 0, .slice none 0 0] 34 (0, 0)) from by rw [← hw0, ← hN]; exact World.alloc_heap_new w _)
 have HR0 := Aside0.mk (blk_below HR.out HB0.out)
 go_enter Try.func14, Try.ntmps14
 go_wp2
 first | rw [hw0] | skip
 try rw [hN]
 clear hw0
 refine start_ (n := 7) (ds := []) (S := fun w' => w'.cell? ⟨r, 5, none⟩ = some (.int .i64 ack) ∧ True) _ (by kernel_rfl) rfl rfl ⟨(blk_cell (blk_drew HR0.out) 5).trans rfl, trivial⟩ (fun hH => ?_)
 refine XReg.pu 0 6 (h := ?_)
 refine XReg.pu 1 7 (h := ?_)
 refine XReg.pu 2 8 (h := ?_)
 refine XReg.tk 3 9 (h := ?_)
 refine XReg.pu 4 10 (h := ?_)
 refine XReg.one (i := 5) (some 11) rfl rfl (by kernel_rfl) (by decide) (fun Kc hKc => ?_)
 refine goes_ Try.func44 (by kernel_rfl) rfl #[.pointer (some ⟨r, 0, none⟩)] (by rfl) rfl rfl (by (try simp only [List.map_toArray, List.map_cons, List.map_nil]); first | done | rfl) ?_
 refine (refMany_calls r d A c ack _ (blk_drew HR0.out) HNL.out).mono ?_
 rintro e w1 ⟨rfl, hb⟩
 refine ⟨_, rfl, ?_⟩
 have hb1 : Below w0.heap.size w0 w1 := ⟨hb.os, hb.tape, hb.output, hb.size, hb.block⟩
 have HX1 := Aside0.mk (blk_below HX0.out hb1)
 have HR1 := Aside0.mk (blk_below HR0.out hb1)
 have HB1 := Aside0.mk (HB0.out.trans (hb1.mono HB0.out.size))
 refine hKc.out _ _ ⟨(blk_cell HR1.out 5).trans rfl, trivial⟩ (fun hH2 => ?_)
 clear hKc Kc hH hb hb1 hH2 HX0 HR0 HB0
 refine XReg.pu 6 12 (h := ?_)
 refine done_ (by kernel_rfl) ?_
 by_cases hq : (npc d.l.length : Int) ≤ ack
 · have q1 : decide ((npc d.l.length : Int) ≤ ack) = true := decide_eq_true hq
   have HQ := Aside0.mk hq
   clear hq
   simp only [q1]
   obtain ⟨e0, e1, e2, e3, e4, e5, e6, e7, e8⟩ := cells9 HX1.out
   obtain ⟨f0, f1, f2, f3, f4, f5, f6, f7, f8⟩ := froz9 HX1.out
   go_wp2
   have h9 := set9 HX1.out (.int .i64 0) (.string ⟨#[]⟩) (.string ⟨#[]⟩) (.string ⟨#[]⟩) (.int .i64 0) (.int .i64 0) (.int .i64 0) (.slice none 0 0) (.slice none 0 0)
   obtain ⟨k0, k1, k2, k3, k4, k5, k6, k7, k8⟩ := cells9 h9
   have hk := below_keeps HB1.out (M := fun k => k = N) (fun k hk => by omega) HB1.out.size (keeps9 _ N (.int .i64 0) (.string ⟨#[]⟩) (.string ⟨#[]⟩) (.string ⟨#[]⟩) (.int .i64 0) (.int .i64 0) (.int .i64 0) (.slice none 0 0) (.slice none 0 0))
   have hf : nextF d ack = zF := by unfold nextF; rw [if_pos HQ.out]
   have hd : decide (ack < (npc d.l.length : Int)) = false := decide_eq_false (by have := HQ.out; omega)
   rw [hf, hd]
   exact bodyPost_ret (v := .tuple #[.agg #[.int .i64 0, .string ⟨#[]⟩, .string ⟨#[]⟩, .string ⟨#[]⟩, .int .i64 0, .int .i64 0, .int .i64 0, .slice none 0 0, .slice none 0 0], .bool false]) (by simp [results, Try.f14, go_sem, k0, k1, k2, k3, k4, k5, k6, k7, k8]) rfl ⟨none, 0, rfl, Nat.le_refl _, Kd.C_nil _ _, hk⟩
 · have q1 : decide ((npc d.l.length : Int) ≤ ack) = false := decide_eq_false hq
   obtain ⟨i, hi⟩ : ∃ i : Nat, ack = (i : Int) := ⟨ack.toNat, by omega⟩
   subst hi
   have hiN : i < npc d.l.length := by omega
   have hb8 : 8 * i < d.l.length ∧ i < 100 := by unfold npc at hiN; omega
   obtain ⟨L, hL⟩ : ∃ L, d.l.length = L := ⟨_, rfl⟩
   have HLE := Aside0.mk hL
   have HIN := Aside0.mk hiN
   have hiL : i < 100 := hb8.2
   have HB8 := Aside0.mk hb8.1
   have hLm : L ≤ 512 := by rw [← hL]; exact hn
   simp only [q1]
   clear hq q1 hiN hb8
   have n4 : w1.cell? ⟨r, 4, none⟩ = some (.slice A L c) := by rw [← hL]; exact (blk_cell HR1.out 4).trans rfl
   have n5 : w1.cell? ⟨r, 5, none⟩ = some (.int .i64 (i : Int)) := (blk_cell HR1.out 5).trans rfl
   go_wp2
   obtain ⟨fr, hfr⟩ : ∃ fr, 8 * i = fr := ⟨_, rfl⟩
   obtain ⟨hi8, hhi⟩ : ∃ h, min (8 * i + 8) L = h := ⟨_, rfl⟩
   have hc1 : (i : Int) * 8 = (fr : Int) := by omega
   have hw : wrap64 ((fr : Int) + 8) = (fr : Int) + 8 := w_id (by omega)
   have hif : (if (L : Int) < (fr : Int) + 8 then (L : Int) else (fr : Int) + 8) = (hi8 : Int) := by split <;> omega
   have hb8 := HB8.out
   rw [hL] at hb8
   have b2 : (fr : Int) ≤ (hi8 : Int) := by omega
   have b3 : (hi8 : Int) ≤ (c : Int) := by have := HCL.out; rw [hL] at this; omega
   have b4 : (0 : Int) ≤ (fr : Int) := by omega
   have HFR := Aside0.mk hfr
   have HHI := Aside0.mk hhi
   rw [hc1]
   clear hfr hhi hc1 hb8
   refine start_ (n := 15) (ds := []) (S := fun w' => w'.cell? ⟨r, 4, none⟩ = some (.slice A L c) ∧ True) _ (by kernel_rfl) rfl rfl ⟨n4, trivial⟩ (fun hH => ?_)
   refine XReg.pu 0 19 (h := ?_)
   refine XReg.pu 1 20 (h := ?_)
   refine XReg.pu 2 21 (h := ?_)
   refine XReg.tk 3 22 (h := ?_)
   refine XReg.pu 4 23 (h := ?_)
   refine XReg.pu 5 24 (h := ?_)
   refine XReg.pu 6 25 (h := ?_)
   try rw [hw]
   refine XReg.pu 7 26 (h := ?_)
   refine XReg.pu 8 27 (h := ?_)
   refine XReg.pu 9 28 (h := ?_)
   refine XReg.tk 10 29 (h := ?_)
   refine XReg.pu 11 30 (h := ?_)
   refine XReg.pu 12 31 (h := ?_)
   try rw [hw]
   try rw [hif]
   clear hw hif
   refine XReg.pu 13 32 (h := ?_)
   refine XReg.pu 14 5 (h := ?_)
   refine done_ (by kernel_rfl) ?_
   obtain ⟨A', hA'⟩ : ∃ A', (if c = fr then A else Option.map (fun x => x.add (fr * 8)) A) = A' := ⟨_, rfl⟩
   have hpl : hi8 - fr = (pieceOf d.l i).length := by rw [pieceOf_len, hL]; exact mid_b HFR.out HHI.out
   have HCP := Aside0.mk (show ∀ W, Below w.heap.size w W → Kd.C k74 W A' (pieceOf d.l i).length (pieceOf d.l i) from fun W hW => by
    have h1 := Kd.C_below HC.out hW
    have h2 := Kd.C_mid (lo := 8 * i) (hi := min (8 * i + 8) d.l.length) (c := c) h1 (mid_a HB8.out) (Nat.min_le_right _ _) HCL.out
    rw [pieceOf_eq, HFR.out] at h2
    have h3 : k74.sz = 8 := rfl
    rw [h3, hA'] at h2
    exact h2)
   obtain ⟨c', hc'⟩ : ∃ c', c - fr = c' := ⟨_, rfl⟩
   have HCC := Aside0.mk (show (pieceOf d.l i).length ≤ c' from by rw [← hpl, ← hc']; exact Nat.sub_le_sub_right (Int.ofNat_le.1 b3) _)
   rw [hA', hpl, hc']
   clear hA' hpl hc' b2 b3 b4 hH hL
   obtain ⟨w2, hw2⟩ : ∃ w2, w1.drew = w2 := ⟨_, rfl⟩
   have hb12 : Below w1.heap.size w1 w2 := by rw [← hw2]; exact below_drew1 (Below.refl _ w1)
   have HX2 := Aside0.mk (blk_below HX1.out hb12)
   have HR2 := Aside0.mk (blk_below HR1.out hb12)
   have HB2 := Aside0.mk (HB1.out.trans (hb12.mono HB1.out.size))
   rw [hw2]
   clear hw2 hb12 HX1 HR1 HB1 n4 n5
   go_wp2
   refine start_ (n := 26) (ds := [24]) (S := fun w' => w'.cell? ⟨r, 0, none⟩ = some (.string d.fr) ∧ w'.cell? ⟨r, 1, none⟩ = some (.string d.tw) ∧ w'.cell? ⟨r, 2, none⟩ = some (.string d.ct) ∧ w'.cell? ⟨r, 3, none⟩ = some (.int .i64 d.se) ∧ w'.cell? ⟨r, 5, none⟩ = some (.int .i64 (i : Int))) _ (by kernel_rfl) rfl rfl
    ⟨(blk_cell (blk_drew HR2.out) 0).trans rfl, (blk_cell (blk_drew HR2.out) 1).trans rfl, (blk_cell (blk_drew HR2.out) 2).trans rfl, (blk_cell (blk_drew HR2.out) 3).trans rfl, (blk_cell (blk_drew HR2.out) 5).trans rfl⟩ (fun hH => ?_)
   refine XReg.pu 0 33 (h := ?_)
   refine XReg.pu 1 34 (h := ?_)
   refine XReg.pu 2 35 (h := ?_)
   refine XReg.tk 3 36 (h := ?_)
   refine XReg.pu 4 37 (h := ?_)
   refine XReg.pu 5 38 (h := ?_)
   refine XReg.pu 6 39 (h := ?_)
   refine XReg.tk 7 40 (h := ?_)
   refine XReg.pu 8 41 (h := ?_)
   refine XReg.pu 9 42 (h := ?_)
   refine XReg.pu 10 43 (h := ?_)
   refine XReg.tk 11 44 (h := ?_)
   refine XReg.pu 12 45 (h := ?_)
   refine XReg.pu 13 46 (h := ?_)
   refine XReg.pu 14 47 (h := ?_)
   refine XReg.tk 15 48 (h := ?_)
   refine XReg.pu 16 49 (h := ?_)
   refine XReg.pu 17 50 (h := ?_)
   refine XReg.pu 18 51 (h := ?_)
   refine XReg.tk 19 52 (h := ?_)
   refine XReg.pu 20 53 (h := ?_)
   refine XReg.pu 22 55 (h := ?_)
   refine XReg.one (i := 21) (some 54) rfl rfl (by kernel_rfl) (by decide) (fun Kc hKc => ?_)
   refine goes_ Try.func44 (by kernel_rfl) rfl #[.pointer (some ⟨r, 0, none⟩)] (by rfl) rfl rfl (by (try simp only [List.map_toArray, List.map_cons, List.map_nil]); first | done | rfl) ?_
   refine (refMany_calls r d A c (i : Int) _ (blk_drew HR2.out) HNL.out).mono ?_
   rintro e w3 ⟨rfl, hb⟩
   refine ⟨_, rfl, ?_⟩
   have hb3 : Below w2.heap.size w2 w3 := ⟨hb.os, hb.tape, hb.output, hb.size, hb.block⟩
   have HX3 := Aside0.mk (blk_below HX2.out hb3)
   have HR3 := Aside0.mk (blk_below HR2.out hb3)
   have HB3 := Aside0.mk (HB2.out.trans (hb3.mono HB2.out.size))
   refine hKc.out _ _ ⟨(blk_cell HR3.out 0).trans rfl, (blk_cell HR3.out 1).trans rfl, (blk_cell HR3.out 2).trans rfl, (blk_cell HR3.out 3).trans rfl, (blk_cell HR3.out 5).trans rfl⟩ (fun hH2 => ?_)
   clear hKc Kc hH hb hb3 hH2 HX2 HR2 HB2
   refine XReg.pu 23 56 (h := ?_)
   obtain ⟨e0, e1, e2, e3, e4, e5, e6, e7, e8⟩ := cells9 HX3.out
   obtain ⟨f0, f1, f2, f3, f4, f5, f6, f7, f8⟩ := froz9 HX3.out
   refine XReg.last (i := 24) none rfl rfl (by kernel_rfl) (by decide) (fun Kc hKc => ?_)
   refine store_last rfl rfl (by first | (go_simp; done) | (go_simp; rfl)) ?_
   refine hKc.out _ _ ?_
   clear hKc Kc e0 e1 e2 e3 e4 e5 e6 e7 e8 f0 f1 f2 f3 f4 f5 f6 f7 f8
   refine XReg.pu 25 3 (h := ?_)
   refine done_ (by kernel_rfl) ?_
   have h9 := set9 HX3.out (.int .i64 2) (.string d.fr) (.string d.tw) (.string d.ct) (.int .i64 d.se) (.int .i64 (i : Int)) (.int .i64 (npc d.l.length : Int)) (.slice none 0 0) (.slice A' (pieceOf d.l i).length c')
   have hk9 := keeps9 w3 N (.int .i64 2) (.string d.fr) (.string d.tw) (.string d.ct) (.int .i64 d.se) (.int .i64 (i : Int)) (.int .i64 (npc d.l.length : Int)) (.slice none 0 0) (.slice A' (pieceOf d.l i).length c')
   obtain ⟨k0, k1, k2, k3, k4, k5, k6, k7, k8⟩ := cells9 h9
   go_wp2
   have hk := below_keeps HB3.out (M := fun k => k = N) (fun k hk => by rw [hk, ← hN]; exact Nat.le_refl _) HB3.out.size hk9
   have hf : nextF d (i : Int) = ⟨2, d.fr, d.tw, d.ct, d.se, (i : Int), (npc d.l.length : Int), [], pieceOf d.l i⟩ := by
    unfold nextF
    rw [if_neg (fun h => absurd (Int.ofNat_le.1 h) (Nat.not_le.2 HIN.out)), Int.toNat_natCast]
   have hd : decide ((i : Int) < (npc d.l.length : Int)) = true := decide_eq_true (Int.ofNat_lt.2 HIN.out)
   rw [hf, hd]
   exact bodyPost_ret (v := .tuple #[.agg #[.int .i64 2, .string d.fr, .string d.tw, .string d.ct, .int .i64 d.se, .int .i64 (i : Int), .int .i64 (npc d.l.length : Int), .slice none 0 0, .slice A' (pieceOf d.l i).length c'], .bool true]) (by simp [results, Try.f14, go_sem, k0, k1, k2, k3, k4, k5, k6, k7, k8]) rfl ⟨A', c', rfl, HCC.out, HCP.out _ hk, hk⟩
end Go.Proofs.Ytjejhgjdmbodiaa.PO
end
section
namespace Go.Proofs.Ytjejhgjdmbodiaa.PO
open Go.RowKit Go.Proofs.YtjejhgjdmbodiaaW.PrintWords Go.Proofs.YtjejhgjdmbodiaaW.PrintLast Go.Proofs.YtjejhgjdmbodiaaW.PrintMore Go.Proofs.Ytjejhgjdmbodiaa.XW
open Go.Proofs.Ytjejhgjdmbodiaa.XRange
attribute [local go_sem] max2_int min2_int max_two min_two
set_option linter.unusedVariables false
set_option linter.unusedSimpArgs false
set_option maxHeartbeats 8000000 in
set_option maxRecDepth 100000 in
theorem refTake_calls (r : Nat) (d : OutD) (A : Option Addr) (c : Nat) (ack : Int) (f : Fr) (A7 : Option Addr) (c7 : Nat) (A8 : Option Addr) (c8 : Nat) (w : World) (h : w.heap[r]? = some (.cells (refCells d A c ack) 40 (0, 0))) (hn : d.l.length ≤ 512) (l7 : f.kn.length ≤ c7) (g7 : Kd.C k72 w A7 f.kn.length f.kn) (l8 : f.op.length ≤ c8) (g8 : Kd.C k74 w A8 f.op.length f.op) (m : Nat) (hz : WfF m f) :
 Calls Try.prog 18 #[.pointer (some ⟨r, 0, none⟩), .agg #[.int .i64 f.k, .string f.fa, .string f.fb, .string f.ct, .int .i64 f.se, .int .i64 f.ix, .int .i64 f.mn, .slice A7 f.kn.length c7, .slice A8 f.op.length c8]] w fun e w' => e = .returned (.int .i64 (takeE d f)) ∧ w'.heap[r]? = some (.cells (refCells d A c (takeK d ack f)) 40 (0, 0)) ∧ Keeps (fun k => k = r) w w' := by
 have HRw := Aside0.mk h
 have HL7 := Aside0.mk l7
 have HG7 := Aside0.mk g7
 have HL8 := Aside0.mk l8
 have HG8 := Aside0.mk g8
 have HZ := Aside0.mk hz
 have HNL := Aside0.mk hn
 have hoN := blk_lt h
 obtain ⟨N, hN⟩ : ∃ N, w.heap.size = N := ⟨_, rfl⟩
 clear l7 g7 l8 g8 h hz hn
 obtain ⟨w0, hw0⟩ : ∃ w0, w.alloc (.cells #[.int .i64 f.k, .string f.fa, .string f.fb, .string f.ct, .int .i64 f.se, .int .i64 f.ix, .int .i64 f.mn, .slice A7 f.kn.length c7, .slice A8 f.op.length c8] 34) = w0 := ⟨_, rfl⟩
 have HB0 := Aside0.mk (show Below w.heap.size w w0 from by rw [← hw0]; exact (Below.refl _ w).alloc (Nat.le_refl _) _)
 have KX := Aside0.mk (show w0.heap[N]? = some (.cells #[.int .i64 f.k, .string f.fa, .string f.fb, .string f.ct, .int .i64 f.se, .int .i64 f.ix, .int .i64 f.mn, .slice A7 f.kn.length c7, .slice A8 f.op.length c8] 34 (0, 0)) from by rw [← hw0, ← hN]; exact World.alloc_heap_new w _)
 have HR0 := Aside0.mk (blk_below HRw.out HB0.out)
 obtain ⟨n0, n1, n2, n3, n4, n5, n6, n7, n8⟩ := cells9 KX.out
 obtain ⟨br, hbr⟩ : ∃ b, rightF f = b := ⟨_, rfl⟩
 have HBR := Aside0.mk hbr
 clear hbr
 have FIN := Aside0.mk (show ∀ w', Below w.heap.size w w' → takeE d f ≠ 0 → w'.heap[r]? = some (.cells (refCells d A c (takeK d ack f)) 40 (0, 0)) ∧ Keeps (fun k => k = r) w w' from fun w' hb he => by
  unfold takeK
  rw [if_neg he]
  exact ⟨blk_below HRw.out hb, Keeps.of_below hb⟩)
 go_enter Try.func18, Try.ntmps18
 go_wp2_with fail
 first | rw [hw0] | skip
 try rw [hN]
 refine (refRightF_calls f A7 c7 A8 c8 w0 HL7.out (Kd.C_below HG7.out HB0.out) HL8.out (Kd.C_below HG8.out HB0.out) m HZ.out).mono ?_
 rw [HBR.out]
 rintro e w1 ⟨rfl, hb⟩
 have HB1 := Aside0.mk (HB0.out.trans (hb.mono HB0.out.size))
 have KX1 := Aside0.mk (blk_below KX.out hb)
 have HR1 := Aside0.mk (blk_below HR0.out hb)
 clear hb KX HR0 HB0 hw0 n0 n1 n2 n3 n4 n5 n6 n7 n8
 have HBd := Aside0.mk (show Below w.heap.size w w1.drew from below_drew1 HB1.out)
 go_wp2
 refine start_ (n := 34) (ds := []) (S := fun w' => Cells9 w' N (.int .i64 f.k) (.string f.fa) (.string f.fb) (.string f.ct) (.int .i64 f.se) (.int .i64 f.ix) (.int .i64 f.mn) (.slice A7 f.kn.length c7) (.slice A8 f.op.length c8) ∧ w'.cell? ⟨r, 0, none⟩ = some (.string d.fr) ∧ w'.cell? ⟨r, 1, none⟩ = some (.string d.tw) ∧ w'.cell? ⟨r, 2, none⟩ = some (.string d.ct)) _ (by kernel_rfl) rfl rfl ⟨cells9 (blk_drew KX1.out), (blk_cell (blk_drew HR1.out) 0).trans rfl, (blk_cell (blk_drew HR1.out) 1).trans rfl, (blk_cell (blk_drew HR1.out) 2).trans rfl⟩ (fun hH => ?_)
 cases br with
 | false =>
   refine XReg.pu 0 8 (h := ?_)
   refine XReg.pu 1 9 (h := ?_)
   refine XReg.pu 2 10 (h := ?_)
   refine XReg.pn 3 11 (h := ?_)
   refine XReg.pn 4 12 (h := ?_)
   refine XReg.pn 5 13 (h := ?_)
   refine XReg.pu 6 14 (h := ?_)
   refine XReg.pu 7 15 (h := ?_)
   refine XReg.pn 8 16 (h := ?_)
   refine XReg.pn 9 17 (h := ?_)
   refine XReg.pn 10 18 (h := ?_)
   refine XReg.pn 11 19 (h := ?_)
   refine XReg.pn 12 20 (h := ?_)
   refine XReg.pn 13 21 (h := ?_)
   refine XReg.pn 14 22 (h := ?_)
   refine XReg.pu 15 23 (h := ?_)
   refine XReg.pu 16 24 (h := ?_)
   refine XReg.pn 17 25 (h := ?_)
   refine XReg.pn 18 26 (h := ?_)
   refine XReg.pn 19 27 (h := ?_)
   refine XReg.pn 20 28 (h := ?_)
   refine XReg.pn 21 29 (h := ?_)
   refine XReg.pn 22 30 (h := ?_)
   refine XReg.pn 23 31 (h := ?_)
   refine XReg.pu 24 32 (h := ?_)
   refine XReg.pu 25 33 (h := ?_)
   refine XReg.pn 26 34 (h := ?_)
   refine XReg.pn 27 35 (h := ?_)
   refine XReg.pn 28 36 (h := ?_)
   refine XReg.pn 29 37 (h := ?_)
   refine XReg.pn 30 38 (h := ?_)
   refine XReg.pn 31 39 (h := ?_)
   refine XReg.pn 32 40 (h := ?_)
   refine XReg.pu 33 41 (h := ?_)
   refine done_ (by kernel_rfl) ?_
   have HE := Aside0.mk (show takeE d f = 2 from by unfold takeE; rw [HBR.out]; simp)
   go_wp2
   go_ret
   rw [HE.out]
   exact ⟨rfl, FIN.out _ HBd.out (by rw [HE.out]; decide)⟩
 | true =>
   refine XReg.pu 0 8 (h := ?_)
   refine XReg.pu 1 9 (h := ?_)
   refine XReg.pu 2 10 (h := ?_)
   refine XReg.pu 3 11 (h := ?_)
   refine XReg.tk 4 12 (hy := by (intro w' hS_; obtain ⟨⟨s0, s1, s2, s3, s4, s5, s6, s7, s8⟩, t0, t1, t2⟩ := hS_; go_simp; with_reducible rfl)) (h := ?_)
   refine XReg.pu 5 13 (h := ?_)
   by_cases k1 : f.k = 3
   case neg =>
    have q : (f.k != 3) = true := by simpa using k1
    rw [q]
    refine XReg.pu 6 14 (h := ?_)
    refine XReg.pu 7 15 (h := ?_)
    refine XReg.pn 8 16 (h := ?_)
    refine XReg.pn 9 17 (h := ?_)
    refine XReg.pn 10 18 (h := ?_)
    refine XReg.pn 11 19 (h := ?_)
    refine XReg.pn 12 20 (h := ?_)
    refine XReg.pn 13 21 (h := ?_)
    refine XReg.pn 14 22 (h := ?_)
    refine XReg.pu 15 23 (h := ?_)
    refine XReg.pu 16 24 (h := ?_)
    refine XReg.pn 17 25 (h := ?_)
    refine XReg.pn 18 26 (h := ?_)
    refine XReg.pn 19 27 (h := ?_)
    refine XReg.pn 20 28 (h := ?_)
    refine XReg.pn 21 29 (h := ?_)
    refine XReg.pn 22 30 (h := ?_)
    refine XReg.pn 23 31 (h := ?_)
    refine XReg.pu 24 32 (h := ?_)
    refine XReg.pu 25 33 (h := ?_)
    refine XReg.pn 26 34 (h := ?_)
    refine XReg.pn 27 35 (h := ?_)
    refine XReg.pn 28 36 (h := ?_)
    refine XReg.pn 29 37 (h := ?_)
    refine XReg.pn 30 38 (h := ?_)
    refine XReg.pn 31 39 (h := ?_)
    refine XReg.pn 32 40 (h := ?_)
    refine XReg.pu 33 41 (h := ?_)
    refine done_ (by kernel_rfl) ?_
    have HE := Aside0.mk (show takeE d f = 2 from by unfold takeE; rw [HBR.out]; simp [k1])
    go_wp2
    go_ret
    rw [HE.out]
    exact ⟨rfl, FIN.out _ HBd.out (by rw [HE.out]; decide)⟩
   have qk1 : (f.k != 3) = false := by simp [k1]
   rw [qk1]
   refine XReg.pu 6 14 (h := ?_)
   refine XReg.pu 7 15 (h := ?_)
   refine XReg.pu 8 16 (h := ?_)
   refine XReg.tk 9 17 (hy := by (intro w' hS_; obtain ⟨⟨s0, s1, s2, s3, s4, s5, s6, s7, s8⟩, t0, t1, t2⟩ := hS_; go_simp; with_reducible rfl)) (h := ?_)
   refine XReg.pu 10 18 (h := ?_)
   refine XReg.pu 11 19 (h := ?_)
   refine XReg.pu 12 20 (h := ?_)
   refine XReg.tk 13 21 (hy := by (intro w' hS_; obtain ⟨⟨s0, s1, s2, s3, s4, s5, s6, s7, s8⟩, t0, t1, t2⟩ := hS_; go_simp; with_reducible rfl)) (h := ?_)
   refine XReg.pu 14 22 (h := ?_)
   by_cases k2 : f.fa = d.tw
   case neg =>
    have q : (!(f.fa.toList == d.tw.toList)) = true := by simpa using (fun h => k2 (bytes_inj h))
    rw [q]
    refine XReg.pu 15 23 (h := ?_)
    refine XReg.pu 16 24 (h := ?_)
    refine XReg.pn 17 25 (h := ?_)
    refine XReg.pn 18 26 (h := ?_)
    refine XReg.pn 19 27 (h := ?_)
    refine XReg.pn 20 28 (h := ?_)
    refine XReg.pn 21 29 (h := ?_)
    refine XReg.pn 22 30 (h := ?_)
    refine XReg.pn 23 31 (h := ?_)
    refine XReg.pu 24 32 (h := ?_)
    refine XReg.pu 25 33 (h := ?_)
    refine XReg.pn 26 34 (h := ?_)
    refine XReg.pn 27 35 (h := ?_)
    refine XReg.pn 28 36 (h := ?_)
    refine XReg.pn 29 37 (h := ?_)
    refine XReg.pn 30 38 (h := ?_)
    refine XReg.pn 31 39 (h := ?_)
    refine XReg.pn 32 40 (h := ?_)
    refine XReg.pu 33 41 (h := ?_)
    refine done_ (by kernel_rfl) ?_
    have HE := Aside0.mk (show takeE d f = 2 from by unfold takeE; rw [HBR.out]; simp [k1, k2])
    go_wp2
    go_ret
    rw [HE.out]
    exact ⟨rfl, FIN.out _ HBd.out (by rw [HE.out]; decide)⟩
   have qk2 : (!(f.fa.toList == d.tw.toList)) = false := by simp [k2]
   rw [qk2]
   refine XReg.pu 15 23 (h := ?_)
   refine XReg.pu 16 24 (h := ?_)
   refine XReg.pu 17 25 (h := ?_)
   refine XReg.tk 18 26 (hy := by (intro w' hS_; obtain ⟨⟨s0, s1, s2, s3, s4, s5, s6, s7, s8⟩, t0, t1, t2⟩ := hS_; go_simp; with_reducible rfl)) (h := ?_)
   refine XReg.pu 19 27 (h := ?_)
   refine XReg.pu 20 28 (h := ?_)
   refine XReg.pu 21 29 (h := ?_)
   refine XReg.tk 22 30 (hy := by (intro w' hS_; obtain ⟨⟨s0, s1, s2, s3, s4, s5, s6, s7, s8⟩, t0, t1, t2⟩ := hS_; go_simp; with_reducible rfl)) (h := ?_)
   refine XReg.pu 23 31 (h := ?_)
   by_cases k3 : f.fb = d.fr
   case neg =>
    have q : (!(f.fb.toList == d.fr.toList)) = true := by simpa using (fun h => k3 (bytes_inj h))
    rw [q]
    refine XReg.pu 24 32 (h := ?_)
    refine XReg.pu 25 33 (h := ?_)
    refine XReg.pn 26 34 (h := ?_)
    refine XReg.pn 27 35 (h := ?_)
    refine XReg.pn 28 36 (h := ?_)
    refine XReg.pn 29 37 (h := ?_)
    refine XReg.pn 30 38 (h := ?_)
    refine XReg.pn 31 39 (h := ?_)
    refine XReg.pn 32 40 (h := ?_)
    refine XReg.pu 33 41 (h := ?_)
    refine done_ (by kernel_rfl) ?_
    have HE := Aside0.mk (show takeE d f = 2 from by unfold takeE; rw [HBR.out]; simp [k1, k2, k3])
    go_wp2
    go_ret
    rw [HE.out]
    exact ⟨rfl, FIN.out _ HBd.out (by rw [HE.out]; decide)⟩
   have qk3 : (!(f.fb.toList == d.fr.toList)) = false := by simp [k3]
   rw [qk3]
   refine XReg.pu 24 32 (h := ?_)
   refine XReg.pu 25 33 (h := ?_)
   refine XReg.pu 26 34 (h := ?_)
   refine XReg.tk 27 35 (hy := by (intro w' hS_; obtain ⟨⟨s0, s1, s2, s3, s4, s5, s6, s7, s8⟩, t0, t1, t2⟩ := hS_; go_simp; with_reducible rfl)) (h := ?_)
   refine XReg.pu 28 36 (h := ?_)
   refine XReg.pu 29 37 (h := ?_)
   refine XReg.pu 30 38 (h := ?_)
   refine XReg.tk 31 39 (hy := by (intro w' hS_; obtain ⟨⟨s0, s1, s2, s3, s4, s5, s6, s7, s8⟩, t0, t1, t2⟩ := hS_; go_simp; with_reducible rfl)) (h := ?_)
   refine XReg.pu 32 40 (h := ?_)
   by_cases k4 : f.ct = d.ct
   case neg =>
    have q : (!(f.ct.toList == d.ct.toList)) = true := by simpa using (fun h => k4 (bytes_inj h))
    rw [q]
    refine XReg.pu 33 41 (h := ?_)
    refine done_ (by kernel_rfl) ?_
    have HE := Aside0.mk (show takeE d f = 2 from by unfold takeE; rw [HBR.out]; simp [k1, k2, k3, k4])
    go_wp2
    go_ret
    rw [HE.out]
    exact ⟨rfl, FIN.out _ HBd.out (by rw [HE.out]; decide)⟩
   have qk4 : (!(f.ct.toList == d.ct.toList)) = false := by simp [k4]
   rw [qk4]
   refine XReg.pu 33 41 (h := ?_)
   refine done_ (by kernel_rfl) ?_
   have HT := Aside0.mk (show takeE d f = (if f.se = d.se then (if f.ix > (npc d.l.length : Int) then 2 else 0) else 120) from by unfold takeE; rw [HBR.out]; simp [k1, k2, k3, k4])
   clear k1 k2 k3 k4 qk1 qk2 qk3 qk4 hH
   obtain ⟨n0, n1, n2, n3, n4, n5, n6, n7, n8⟩ := cells9 KX1.out
   clear n0 n1 n2 n3 n6 n7 n8
   have m3 : w1.cell? ⟨r, 3, none⟩ = some (.int .i64 d.se) := (blk_cell HR1.out 3).trans rfl
   have m5 : w1.cell? ⟨r, 5, none⟩ = some (.int .i64 ack) := (blk_cell HR1.out 5).trans rfl
   have mf : w1.frozen? ⟨r, 5, none⟩ = false := blk_frozen HR1.out 5
   have HB3 := Aside0.mk (show Below w.heap.size w w1.drew.drew from below_drew1 HBd.out)
   go_wp2
   refine start_ (n := 7) (ds := []) (S := fun w' => w'.cell? ⟨N, 4, none⟩ = some (.int .i64 f.se) ∧ w'.cell? ⟨r, 3, none⟩ = some (.int .i64 d.se)) _ (by kernel_rfl) rfl rfl ⟨n4, m3⟩ (fun hH => ?_)
   refine XReg.pu 0 42 (h := ?_)
   refine XReg.tk 1 43 (h := ?_)
   refine XReg.pu 2 44 (h := ?_)
   refine XReg.pu 3 45 (h := ?_)
   refine XReg.pu 4 46 (h := ?_)
   refine XReg.tk 5 47 (h := ?_)
   refine XReg.pu 6 48 (h := ?_)
   refine done_ (by kernel_rfl) ?_
   clear hH
   by_cases z1 : f.se = d.se
   case neg =>
    have q : (f.se != d.se) = true := by simpa using z1
    rw [q]
    go_wp2
    go_ret
    have hE : takeE d f = 120 := by rw [HT.out, if_neg z1]
    rw [hE]
    exact ⟨rfl, FIN.out _ HB3.out (by rw [hE]; decide)⟩
   have qz : (f.se != d.se) = false := by simpa using z1
   rw [qz]
   go_wp2
   have HR3 := Aside0.mk (show w1.drew.drew.heap[r]? = some (.cells (refCells d A c ack) 40 (0, 0)) from blk_drew (blk_drew HR1.out))
   have KX3 := Aside0.mk (show w1.drew.drew.heap[N]? = some (.cells #[.int .i64 f.k, .string f.fa, .string f.fb, .string f.ct, .int .i64 f.se, .int .i64 f.ix, .int .i64 f.mn, .slice A7 f.kn.length c7, .slice A8 f.op.length c8] 34 (0, 0)) from blk_drew (blk_drew KX1.out))
   obtain ⟨w3, hw3⟩ : ∃ w3, w1.drew.drew = w3 := ⟨_, rfl⟩
   rw [hw3] at HR3 KX3 HB3
   rw [hw3]
   clear hw3 n4 n5 m3 m5 mf KX1 HR1 HB1 HBd
   have n5 : w3.cell? ⟨N, 5, none⟩ = some (.int .i64 f.ix) := (cells9 KX3.out).e5
   refine start_ (n := 5) (ds := []) (S := fun w' => w'.cell? ⟨N, 5, none⟩ = some (.int .i64 f.ix) ∧ True) _ (by kernel_rfl) rfl rfl ⟨n5, trivial⟩ (fun hH => ?_)
   refine XReg.pu 0 49 (h := ?_)
   refine XReg.tk 1 50 (h := ?_)
   refine XReg.pu 2 51 (h := ?_)
   refine XReg.one (i := 3) (some 52) rfl rfl (by kernel_rfl) (by decide) (fun Kc hKc => ?_)
   refine goes_ Try.func44 (by kernel_rfl) rfl #[.pointer (some ⟨r, 0, none⟩)] (by rfl) rfl rfl (by (try simp only [List.map_toArray, List.map_cons, List.map_nil]); first | done | rfl) ?_
   refine (refMany_calls r d A c ack _ (blk_drew HR3.out) HNL.out).mono ?_
   rintro e w4 ⟨rfl, hb⟩
   refine ⟨_, rfl, ?_⟩
   have hb4 : Below w3.heap.size w3 w4 := ⟨hb.os, hb.tape, hb.output, hb.size, hb.block⟩
   have KX4 := Aside0.mk (blk_below KX3.out hb4)
   have HR4 := Aside0.mk (blk_below HR3.out hb4)
   have HB4 := Aside0.mk (HB3.out.trans (hb4.mono HB3.out.size))
   refine hKc.out _ _ ⟨(cells9 KX4.out).e5, trivial⟩ (fun hH2 => ?_)
   clear hKc Kc hH hb hb4 hH2 KX3 HR3 HB3 n5
   refine XReg.pu 4 53 (h := ?_)
   refine done_ (by kernel_rfl) ?_
   by_cases z2 : f.ix > (npc d.l.length : Int)
   case pos =>
    have q : decide ((npc d.l.length : Int) < f.ix) = true := decide_eq_true z2
    simp only [q]
    go_wp2
    go_ret
    have hE : takeE d f = 2 := by rw [HT.out, if_pos z1, if_pos z2]
    rw [hE]
    exact ⟨rfl, FIN.out _ HB4.out (by rw [hE]; decide)⟩
   have q : decide ((npc d.l.length : Int) < f.ix) = false := decide_eq_false z2
   simp only [q]
   have hE : takeE d f = 0 := by rw [HT.out, if_pos z1, if_neg z2]
   have hK : takeK d ack f = max ack f.ix := by unfold takeK; rw [if_pos hE]
   have HEK := Aside0.mk (show takeE d f = 0 ∧ takeK d ack f = max ack f.ix from ⟨hE, hK⟩)
   clear hE hK z2 q
   have n5 : w4.cell? ⟨N, 5, none⟩ = some (.int .i64 f.ix) := (cells9 KX4.out).e5
   have m5 : w4.cell? ⟨r, 5, none⟩ = some (.int .i64 ack) := (blk_cell HR4.out 5).trans rfl
   have mf : w4.frozen? ⟨r, 5, none⟩ = false := blk_frozen HR4.out 5
   go_wp2
   refine start_ (n := 11) (ds := [10]) (S := fun w' => w'.cell? ⟨N, 5, none⟩ = some (.int .i64 f.ix) ∧ w'.cell? ⟨r, 5, none⟩ = some (.int .i64 ack)) _ (by kernel_rfl) rfl rfl ⟨n5, m5⟩ (fun hH => ?_)
   refine XReg.pu 0 54 (h := ?_)
   refine XReg.pu 1 55 (h := ?_)
   refine XReg.pu 2 56 (h := ?_)
   refine XReg.pu 3 57 (h := ?_)
   refine XReg.tk 4 58 (h := ?_)
   refine XReg.pu 5 59 (h := ?_)
   refine XReg.tk 6 60 (h := ?_)
   refine XReg.pu 7 61 (h := ?_)
   refine XReg.pu 8 62 (h := ?_)
   refine XReg.pu 9 63 (h := ?_)
   refine XReg.last (i := 10) none rfl rfl (by kernel_rfl) (by decide) (fun Kc hKc => ?_)
   refine store_last rfl rfl (by first | (go_simp; done) | (go_simp; rfl)) ?_
   refine hKc.out _ _ ?_
   clear hKc Kc
   refine done_ (by kernel_rfl) ?_
   have hm : max ack f.ix = if ack < f.ix then f.ix else ack := by split <;> omega
   have HMX := Aside0.mk hm
   clear hm
   go_wp2
   all_goals
    go_ret
    rw [HEK.out.1, HEK.out.2, HMX.out]
    first | split | skip
    all_goals first
     | (exfalso; omega)
     | exact ⟨rfl, blk_drew (blk_set HR4.out 5 _), ((Keeps.of_below HB4.out).setCell (M := fun k => k = r) (p := ⟨r, 5, none⟩) (.inl rfl) _).drew⟩
     | (trace_state; fail)
end Go.Proofs.Ytjejhgjdmbodiaa.PO
end
