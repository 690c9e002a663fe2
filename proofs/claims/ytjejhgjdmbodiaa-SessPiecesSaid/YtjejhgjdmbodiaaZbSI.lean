/- What the rows of this claim use, out of the texts of this work (SI, SJ, UFY, SK). No condition beyond those that each statement names. -/
import Derived.Laws.BitsAllLaws
import Derived.Deep.DeepCutAuto
import Derived.Deep.CutBlock
import Derived.Test.YtjejhgjdmbodiaaZbUFQ
import Derived.Test.YtjejhgjdmbodiaaZbSH
import Derived.Test.YtjejhgjdmbodiaaZbPQ3
import Derived.Test.YtjejhgjdmbodiaaZbUOV
import Derived.Test.YtjejhgjdmbodiaaZbUPOx0
import Derived.Test.YtjejhgjdmbodiaaZbUPOx10
import Derived.Test.YtjejhgjdmbodiaaZbUPOx3
section
namespace Go.Proofs.Ytjejhgjdmbodiaa.PO
open Go.RowKit Go.Proofs.YtjejhgjdmbodiaaW.PrintWords Go.Proofs.YtjejhgjdmbodiaaW.PrintLast Go.Proofs.YtjejhgjdmbodiaaW.PrintMore Go.Proofs.Ytjejhgjdmbodiaa.XW
open Go.Proofs.Ytjejhgjdmbodiaa.XRange Go.Proofs.Ytjejhgjdmbodiaa.XMap
set_option linter.unusedVariables false
set_option linter.unusedSimpArgs false
theorem inTake0_calls (i m : Nat) (who : ByteArray) (D : List (Whose × Curs)) (f : Fr) (A8 : Option Addr) (c8 : Nat) (w : World) (h : InAt w i m who D) (hD : D.length ≤ 1000000) (hW : WfD D) (hk : f.kn = []) (l8 : f.op.length ≤ c8) (g8 : Kd.C k74 w A8 f.op.length f.op) :
 Calls Try.prog 23 #[.pointer (some ⟨i, 0, none⟩), .agg #[.int .i64 f.k, .string f.fa, .string f.fb, .string f.ct, .int .i64 f.se, .int .i64 f.ix, .int .i64 f.mn, .slice none 0 0, .slice A8 f.op.length c8]] w (InAns w i m who D f) := by
 have h1 := inTake_calls i m who D f none 0 A8 c8 w h hD hW (by rw [hk]; exact Nat.le_refl _) (by rw [hk]; exact Kd.C_nil _ _) l8 g8
 have h2 : f.kn.length = 0 := by rw [hk]; rfl
 rw [h2] at h1
 exact h1
theorem outTake0_calls (G : Nat → Prop) (o : Nat) (d : OutD) (ack : Int) (f : Fr) (w : World) (h : OutAt G w o d ack) (hk : f.kn = []) (ho : f.op = []) :
 Calls Try.prog 17 #[.pointer (some ⟨o, 0, none⟩), .agg #[.int .i64 f.k, .string f.fa, .string f.fb, .string f.ct, .int .i64 f.se, .int .i64 f.ix, .int .i64 f.mn, .slice none 0 0, .slice none 0 0]] w fun e w' => e = .returned (.int .i64 (takeE d f)) ∧ OutAt G w' o d (takeK d ack f) ∧ Keeps (fun k => k = o) w w' := by
 have h1 := outTake_calls G o d ack f none 0 none 0 w h (by rw [hk]; exact Nat.le_refl _) (by rw [hk]; exact Kd.C_nil _ _) (by rw [ho]; exact Nat.le_refl _) (by rw [ho]; exact Kd.C_nil _ _)
 have h2 : f.kn.length = 0 := by rw [hk]; rfl
 have h3 : f.op.length = 0 := by rw [ho]; rfl
 rw [h2, h3] at h1
 exact h1
theorem OutAt.weak {G G' : Nat → Prop} {w : World} {o : Nat} {d : OutD} {ack : Int} (h : OutAt G w o d ack) (hG : ∀ k, G k → G' k) (hn : ¬ G' o) : OutAt G' w o d ack := by
 obtain ⟨ng, P, c, b, h1, h2, h3, h4⟩ := h
 exact ⟨hn, P, c, b, h1, h2, Kd.F_mono h3 hG, fun h => Kd.F_mono (h4 h) hG⟩
def d9 : OutD := ⟨⟨#[97]⟩, ⟨#[98]⟩, ⟨#[99]⟩, 1, listO 9⟩
theorem d9_ok : okOut d9 = true := by kernel_rfl
theorem d9_next : nextF d9 0 = ⟨2, ⟨#[97]⟩, ⟨#[98]⟩, ⟨#[99]⟩, 1, 0, 2, [], pieceOf (listO 9) 0⟩ := by kernel_rfl
theorem d9_next1 : nextF d9 1 = ⟨2, ⟨#[97]⟩, ⟨#[98]⟩, ⟨#[99]⟩, 1, 1, 2, [], pieceOf (listO 9) 1⟩ := by kernel_rfl
def f9 : Fr := ⟨3, ⟨#[98]⟩, ⟨#[97]⟩, ⟨#[99]⟩, 1, 1, 0, [], []⟩
theorem d9_right : rightF ⟨2, ⟨#[97]⟩, ⟨#[98]⟩, ⟨#[99]⟩, 1, 0, 2, [], pieceOf (listO 9) 0⟩ = true := by kernel_rfl
theorem d9_take : inTake ⟨#[98]⟩ [] ⟨2, ⟨#[97]⟩, ⟨#[98]⟩, ⟨#[99]⟩, 1, 0, 2, [], pieceOf (listO 9) 0⟩ = ⟨pieceOf (listO 9) 0, f9, 0, [((⟨#[97]⟩, ⟨#[99]⟩), (1, 1))]⟩ := by
 unfold inTake
 rw [d9_right]
 rfl
theorem d9_ack : takeE d9 f9 = 0 ∧ takeK d9 0 f9 = 1 := by
 have h : takeE d9 f9 = 0 := by
  unfold takeE
  have h1 : rightF f9 = true := by kernel_rfl
  rw [h1]
  rfl
 exact ⟨h, by unfold takeK; rw [if_pos h]; rfl⟩
theorem d9_len : (pieceOf (listO 9) 0).length = 8 ∧ (pieceOf (listO 9) 1).length = 1 := ⟨by rw [pieceOf_len, listO_len]; rfl, by rw [pieceOf_len, listO_len]; rfl⟩
theorem d9_sizes : ∀ x, x ∈ d9.l → x.f1.length ≤ 1000000 ∧ x.f6.length ≤ 1000000 := by
 intro x hx
 unfold d9 listO at hx
 simp only [List.mem_map, List.mem_range] at hx
 obtain ⟨i, _, rfl⟩ := hx
 unfold madeO
 constructor
 · show (if _ then _ else _ : List S72).length ≤ _
   split <;> simp
 · simp
set_option maxHeartbeats 8000000 in
set_option maxRecDepth 100000 in
theorem shown_calls (w : World) : Calls Try.prog 10 #[] w fun e w' => e = .returned (.bool true) ∧ Below w.heap.size w w' := by
 obtain ⟨N, hN⟩ : ∃ N, w.heap.size = N := ⟨_, rfl⟩
 go_enter Try.func10, Try.ntmps10
 go_wp2_with fail
 refine (list_calls 9 (by omega) w).mono ?_
 rintro e w1 ⟨v0, rfl, hS, hb⟩
 obtain ⟨A, c, rfl, hc, hC⟩ := Kd.S_reads hS
 have HB1 := Aside0.mk hb
 have HC := Aside0.mk hC
 have HCL := Aside0.mk hc
 clear hS hb hC hc
 go_wp2_with fail
 refine (newOut_calls d9 A c w1 HCL.out HC.out d9_ok).mono ?_
 rintro e w2 ⟨o, rfl, hO, hol, hb⟩
 have HO2 := Aside0.mk (hO.weak (G' := fun k => w1.heap.size ≤ k ∧ k < w2.heap.size ∧ k ≠ o) (fun k hk => hk) (fun h => h.2.2 rfl))
 have HB2 := Aside0.mk (HB1.out.trans (hb.mono HB1.out.size))
 have HOL := Aside0.mk (show w1.heap.size ≤ o ∧ w.heap.size ≤ w1.heap.size from ⟨hol, HB1.out.size⟩)
 clear hO hb hol
 go_wp2_with fail
 refine (newIn_calls ⟨#[98]⟩ _ (by kernel_rfl)).mono ?_
 rintro e w3 ⟨i, m, rfl, hI, hi, hm, hb⟩
 have HO3 := Aside0.mk (HO2.out.below hb)
 have HI3 := Aside0.mk hI
 have HIM := Aside0.mk (show w2.heap.size ≤ i ∧ w2.heap.size ≤ m from ⟨hi, hm⟩)
 have HB3 := Aside0.mk (HB2.out.trans (hb.mono HB2.out.size))
 clear hI hi hm hb
 go_wp2_with fail
 refine (outNext_calls _ o d9 0 _ HO3.out (by omega) (by show (listO 9).length ≤ 1000000; rw [listO_len]; omega) d9_sizes).mono ?_
 rw [d9_next]
 rintro e w4 ⟨A8, c8, rfl, _, h8, hC8, hb⟩
 dsimp only
 have HO4 := Aside0.mk (HO3.out.below hb)
 have HI4 := Aside0.mk (HI3.out.below hb)
 have HB4 := Aside0.mk (HB3.out.trans (hb.mono HB3.out.size))
 have HC4 := Aside0.mk (Kd.F_now hC8)
 have HL4 := Aside0.mk h8
 have HSZ := Aside0.mk (show o < w2.heap.size from HO2.out.lt)
 clear hb hC8 h8 HO3 HI3 HB3
 obtain ⟨w5, hw5⟩ : ∃ w5, w4.alloc (.cells #[.int .i64 2, .string ⟨#[97]⟩, .string ⟨#[98]⟩, .string ⟨#[99]⟩, .int .i64 1, .int .i64 0, .int .i64 2, .slice none 0 0, .slice A8 (pieceOf (listO 9) 0).length c8] 34) = w5 := ⟨_, rfl⟩
 have hb5 : Below w4.heap.size w4 w5 := by rw [← hw5]; exact (Below.refl _ w4).alloc (Nat.le_refl _) _
 have hF := World.alloc_heap_new w4 (.cells #[.int .i64 2, .string ⟨#[97]⟩, .string ⟨#[98]⟩, .string ⟨#[99]⟩, .int .i64 1, .int .i64 0, .int .i64 2, .slice none 0 0, .slice A8 (pieceOf (listO 9) 0).length c8] 34)
 rw [hw5] at hF
 obtain ⟨c0, c1, c2, c3, c4, c5, c6, c7, c8'⟩ := cells9 hF
 have h1 : decide ((0 : Int) < (npc d9.l.length : Int)) = true := by kernel_rfl
 simp only [h1]
 go_wp2_with fail
 first | rw [hw5] | skip
 refine (inTake0_calls i m ⟨#[98]⟩ [] ⟨2, ⟨#[97]⟩, ⟨#[98]⟩, ⟨#[99]⟩, 1, 0, 2, [], pieceOf (listO 9) 0⟩ A8 c8 w5 (HI4.out.below hb5) (by simp) (fun p hp => by cases hp) rfl HL4.out (Kd.C_below HC4.out hb5)).mono ?_
 unfold InAns
 rw [d9_take]
 rintro e w6 ⟨B8, e8, rfl, _, _, _, _, hI6, hk6⟩
 have HB6 := Aside0.mk (show Below w.heap.size w w6 from below_keeps (HB4.out.trans (hb5.mono HB4.out.size)) (M := fun k => k = m) (fun k hk => by have := HIM.out; have := HB2.out.size; omega) (by have := HB4.out.size; have := hb5.size; omega) hk6)
 have HO6 := Aside0.mk ((HO4.out.below hb5).step (hk6.block o (HO4.out.below hb5).lt (by have := HSZ.out; have := HIM.out; omega)) (fun k hk hlt => hk6.block k hlt (by have := HIM.out; omega)))
 clear hk6 hI6 hF hb5 hw5 HO4 HI4 HB4 HC4 HL4
 dsimp only [f9]
 go_wp2_with fail
 obtain ⟨M, hM⟩ : ∃ M, w6.heap.size = M := ⟨_, rfl⟩
 obtain ⟨w7, hw7⟩ : ∃ w7, w6.alloc (.cells #[.int .i64 3, .string ⟨#[98]⟩, .string ⟨#[97]⟩, .string ⟨#[99]⟩, .int .i64 1, .int .i64 1, .int .i64 0, .slice none 0 0, .slice none 0 0] 34) = w7 := ⟨_, rfl⟩
 have hb7 : Below w6.heap.size w6 w7 := by rw [← hw7]; exact (Below.refl _ w6).alloc (Nat.le_refl _) _
 have HM7 := Aside0.mk (show w7.heap[M]? = some (.cells #[.int .i64 3, .string ⟨#[98]⟩, .string ⟨#[97]⟩, .string ⟨#[99]⟩, .int .i64 1, .int .i64 1, .int .i64 0, .slice none 0 0, .slice none 0 0] 34 (0, 0)) from by rw [← hw7, ← hM]; exact World.alloc_heap_new w6 _)
 rw [hw7]
 try rw [hM]
 have HO7 := Aside0.mk (HO6.out.below hb7)
 have HB7 := Aside0.mk (HB6.out.trans (hb7.mono HB6.out.size))
 have HMO := Aside0.mk (show o < M ∧ w.heap.size ≤ o from ⟨by rw [← hM]; exact HO6.out.lt, by have := HOL.out; omega⟩)
 clear hw7 hb7 hM HO6 HB6
 refine (outTake0_calls _ o d9 0 f9 w7 HO7.out rfl rfl).mono ?_
 rw [d9_ack.1, d9_ack.2]
 rintro e w8 ⟨rfl, hO8, hk8⟩
 have HO8 := Aside0.mk hO8
 have HM8 := Aside0.mk ((hk8.block M (blk_lt HM7.out) (by have := HMO.out; omega)).trans HM7.out)
 have HB8 := Aside0.mk (below_keeps HB7.out (M := fun k => k = o) (fun k hk => by have := HMO.out; omega) HB7.out.size hk8)
 clear hO8 hk8 HO7 HM7 HB7
 go_wp2_with fail
 refine (outNext_calls _ o d9 1 _ HO8.out (by omega) (by show (listO 9).length ≤ 1000000; rw [listO_len]; omega) d9_sizes).mono ?_
 rw [d9_next1]
 rintro e w9 ⟨C8, g8, rfl, _, _, _, hb⟩
 dsimp only
 have HM9 := Aside0.mk (blk_below HM8.out hb)
 have HB9 := Aside0.mk (HB8.out.trans (hb.mono HB8.out.size))
 obtain ⟨K, hK⟩ : ∃ K, w9.heap.size = K := ⟨_, rfl⟩
 have h2 : decide ((1 : Int) < (npc d9.l.length : Int)) = true := by kernel_rfl
 simp only [h2, d9_len.1, d9_len.2]
 clear hb HO8 HM8 HB8
 obtain ⟨wa, hwa⟩ : ∃ wa, w9.alloc (.cells #[.int .i64 2, .string ⟨#[97]⟩, .string ⟨#[98]⟩, .string ⟨#[99]⟩, .int .i64 1, .int .i64 1, .int .i64 2, .slice none 0 0, .slice C8 1 g8] 34) = wa := ⟨_, rfl⟩
 have hba : Below w9.heap.size w9 wa := by rw [← hwa]; exact (Below.refl _ w9).alloc (Nat.le_refl _) _
 have HKa := Aside0.mk (show wa.heap[K]? = some (.cells #[.int .i64 2, .string ⟨#[97]⟩, .string ⟨#[98]⟩, .string ⟨#[99]⟩, .int .i64 1, .int .i64 1, .int .i64 2, .slice none 0 0, .slice C8 1 g8] 34 (0, 0)) from by rw [← hwa, ← hK]; exact World.alloc_heap_new w9 _)
 have HMa := Aside0.mk (blk_below HM9.out hba)
 have HBa := Aside0.mk (HB9.out.trans (hba.mono HB9.out.size))
 have m5 : wa.cell? ⟨M, 5, none⟩ = some (.int .i64 1) := (blk_cell HMa.out 5).trans rfl
 have k5 : wa.cell? ⟨K, 5, none⟩ = some (.int .i64 1) := (blk_cell HKa.out 5).trans rfl
 have k8 : wa.cell? ⟨K, 8, none⟩ = some (.slice C8 1 g8) := (blk_cell HKa.out 8).trans rfl
 clear hba HM9 HB9
 go_wp2
 go_ret
 exact ⟨rfl, by first | exact HBa.out | (rw [← hN]; exact HBa.out)⟩
end Go.Proofs.Ytjejhgjdmbodiaa.PO
end
section
namespace Go.Proofs.Ytjejhgjdmbodiaa.PO
open Go.RowKit Go.Proofs.YtjejhgjdmbodiaaW.PrintWords Go.Proofs.YtjejhgjdmbodiaaW.PrintLast Go.Proofs.YtjejhgjdmbodiaaW.PrintMore Go.Proofs.Ytjejhgjdmbodiaa.XW
open Go.Proofs.Ytjejhgjdmbodiaa.XRange Go.Proofs.Ytjejhgjdmbodiaa.XMap
set_option linter.unusedVariables false
set_option linter.unusedSimpArgs false
set_option maxHeartbeats 8000000 in
set_option maxRecDepth 100000 in
theorem nextNil_calls (w : World) : Calls Try.prog 13 #[.pointer none] w fun e w' => e = .returned (.tuple #[.agg #[.int .i64 0, .string ⟨#[]⟩, .string ⟨#[]⟩, .string ⟨#[]⟩, .int .i64 0, .int .i64 0, .int .i64 0, .slice none 0 0, .slice none 0 0], .bool false]) ∧ Below w.heap.size w w' := by
 obtain ⟨N, hN⟩ : ∃ N, w.heap.size = N := ⟨_, rfl⟩
 obtain ⟨w0, hw0⟩ : ∃ w0, w.alloc (.cells #[.int .i64 0, .string ⟨#[]⟩, .string ⟨#[]⟩, .string ⟨#[]⟩, .int .i64 0, .int .i64 0, .int .i64 0, .slice none 0 0, .slice none 0 0] 34) = w0 := ⟨_, rfl⟩
 have HB0 := Aside0.mk (show Below w.heap.size w w0 from by rw [← hw0]; exact (Below.refl _ w).alloc (Nat.le_refl _) _)
 have HX0 := Aside0.mk (show w0.heap[N]? = some (.cells #[.int .i64 0, .string ⟨#[]⟩, .string ⟨#[]⟩, .string ⟨#[]⟩, .int .i64 0, .int .i64 0, .int .i64 0, .slice none 0 0, .slice none 0 0] 34 (0, 0)) from by rw [← hw0, ← hN]; exact World.alloc_heap_new w _)
 go_enter Try.func13, Try.ntmps13
 go_wp2
 first | rw [hw0] | skip
 try rw [hN]
 clear hw0
 refine start_ (n := 14) (ds := []) (S := fun w' => True) _ (by kernel_rfl) rfl rfl trivial (fun hH => ?_)
 refine XReg.pu 0 5 (h := ?_)
 refine XReg.pu 1 6 (h := ?_)
 refine XReg.pu 2 7 (h := ?_)
 refine XReg.pn 3 8 (h := ?_)
 refine XReg.pn 4 9 (h := ?_)
 refine XReg.pn 5 10 (h := ?_)
 refine XReg.pn 6 11 (h := ?_)
 refine XReg.pn 7 12 (h := ?_)
 refine XReg.pn 8 13 (h := ?_)
 refine XReg.pn 9 14 (h := ?_)
 refine XReg.pn 10 15 (h := ?_)
 refine XReg.pn 11 16 (h := ?_)
 refine XReg.pn 12 17 (h := ?_)
 refine XReg.pu 13 18 (h := ?_)
 refine done_ (by kernel_rfl) ?_
 clear hH
 obtain ⟨w1, hw1⟩ : ∃ w1, w0.drew = w1 := ⟨_, rfl⟩
 have hb01 : Below w0.heap.size w0 w1 := by rw [← hw1]; exact below_drew1 (Below.refl _ w0)
 have HX1 := Aside0.mk (blk_below HX0.out hb01)
 have HB1 := Aside0.mk (HB0.out.trans (hb01.mono HB0.out.size))
 rw [hw1]
 clear hw1 hb01 HX0 HB0
 obtain ⟨e0, e1, e2, e3, e4, e5, e6, e7, e8⟩ := cells9 HX1.out
 obtain ⟨f0, f1, f2, f3, f4, f5, f6, f7, f8⟩ := froz9 HX1.out
 go_wp2
 have h9 := set9 HX1.out (.int .i64 0) (.string ⟨#[]⟩) (.string ⟨#[]⟩) (.string ⟨#[]⟩) (.int .i64 0) (.int .i64 0) (.int .i64 0) (.slice none 0 0) (.slice none 0 0)
 obtain ⟨k0, k1, k2, k3, k4, k5, k6, k7, k8⟩ := cells9 h9
 have hk := below_keeps HB1.out (M := fun k => k = N) (fun k hk => by omega) HB1.out.size (keeps9 _ N (.int .i64 0) (.string ⟨#[]⟩) (.string ⟨#[]⟩) (.string ⟨#[]⟩) (.int .i64 0) (.int .i64 0) (.int .i64 0) (.slice none 0 0) (.slice none 0 0))
 exact bodyPost_ret (v := .tuple #[.agg #[.int .i64 0, .string ⟨#[]⟩, .string ⟨#[]⟩, .string ⟨#[]⟩, .int .i64 0, .int .i64 0, .int .i64 0, .slice none 0 0, .slice none 0 0], .bool false]) (by simp [results, Try.f13, go_sem, k0, k1, k2, k3, k4, k5, k6, k7, k8]) rfl ⟨rfl, hk⟩
theorem takeNil_calls (f : Fr) (A7 : Option Addr) (c7 : Nat) (A8 : Option Addr) (c8 : Nat) (w : World) : Calls Try.prog 17 #[.pointer none, .agg #[.int .i64 f.k, .string f.fa, .string f.fb, .string f.ct, .int .i64 f.se, .int .i64 f.ix, .int .i64 f.mn, .slice A7 f.kn.length c7, .slice A8 f.op.length c8]] w fun e w' => e = .returned (.int .i64 1) ∧ Below w.heap.size w w' := by
 go_enter Try.func17, Try.ntmps17
 go_wp2
 go_ret
 exact ⟨rfl, (Below.refl _ w).alloc (Nat.le_refl _) _⟩
theorem cursorNil_calls (a b : ByteArray) (w : World) : Calls Try.prog 25 #[.pointer none, .string a, .string b] w fun e w' => e = .returned (.tuple #[.int .i64 0, .int .i64 0]) ∧ Below w.heap.size w w' := by
 go_enter Try.func25, Try.ntmps25
 go_wp2
 go_ret2
 exact ⟨rfl, Below.refl _ _⟩
theorem layNil_calls (w : World) : Calls Try.prog 27 #[.pointer none] w fun e w' => e = .returned (.string ⟨#[]⟩) ∧ Below w.heap.size w w' := by
 go_enter Try.func27, Try.ntmps27
 go_wp2
 go_ret
 exact ⟨rfl, Below.refl _ _⟩
set_option maxHeartbeats 8000000 in
set_option maxRecDepth 100000 in
theorem inTakeNil_calls (f : Fr) (A7 : Option Addr) (c7 : Nat) (A8 : Option Addr) (c8 : Nat) (w : World) : Calls Try.prog 23 #[.pointer none, .agg #[.int .i64 f.k, .string f.fa, .string f.fb, .string f.ct, .int .i64 f.se, .int .i64 f.ix, .int .i64 f.mn, .slice A7 f.kn.length c7, .slice A8 f.op.length c8]] w fun e w' => e = .returned (.tuple #[.slice none 0 0, .agg #[.int .i64 0, .string ⟨#[]⟩, .string ⟨#[]⟩, .string ⟨#[]⟩, .int .i64 0, .int .i64 0, .int .i64 0, .slice none 0 0, .slice none 0 0], .int .i64 1]) ∧ Below w.heap.size w w' := by
 obtain ⟨N, hN⟩ : ∃ N, w.heap.size = N := ⟨_, rfl⟩
 obtain ⟨w0, hw0⟩ : ∃ w0, (w.alloc (.cells #[.int .i64 f.k, .string f.fa, .string f.fb, .string f.ct, .int .i64 f.se, .int .i64 f.ix, .int .i64 f.mn, .slice A7 f.kn.length c7, .slice A8 f.op.length c8] 34)).alloc (.cells #[.int .i64 0, .string ⟨#[]⟩, .string ⟨#[]⟩, .string ⟨#[]⟩, .int .i64 0, .int .i64 0, .int .i64 0, .slice none 0 0, .slice none 0 0] 34) = w0 := ⟨_, rfl⟩
 have HB0 := Aside0.mk (show Below w.heap.size w w0 from by rw [← hw0]; exact ((Below.refl _ w).alloc (Nat.le_refl _) _).alloc (by simp) _)
 have KZ := Aside0.mk (show w0.heap[N + 1]? = some (.cells #[.int .i64 0, .string ⟨#[]⟩, .string ⟨#[]⟩, .string ⟨#[]⟩, .int .i64 0, .int .i64 0, .int .i64 0, .slice none 0 0, .slice none 0 0] 34 (0, 0)) from by
  rw [← hw0, ← hN]
  have h := World.alloc_heap_new (w.alloc (.cells #[.int .i64 f.k, .string f.fa, .string f.fb, .string f.ct, .int .i64 f.se, .int .i64 f.ix, .int .i64 f.mn, .slice A7 f.kn.length c7, .slice A8 f.op.length c8] 34)) (.cells #[.int .i64 0, .string ⟨#[]⟩, .string ⟨#[]⟩, .string ⟨#[]⟩, .int .i64 0, .int .i64 0, .int .i64 0, .slice none 0 0, .slice none 0 0] 34)
  simpa using h)
 obtain ⟨e0, e1, e2, e3, e4, e5, e6, e7, e8⟩ := cells9 KZ.out
 obtain ⟨f0, f1, f2, f3, f4, f5, f6, f7, f8⟩ := froz9 KZ.out
 go_enter Try.func23, Try.ntmps23
 go_wp2
 have h9 := set9 KZ.out (.int .i64 0) (.string ⟨#[]⟩) (.string ⟨#[]⟩) (.string ⟨#[]⟩) (.int .i64 0) (.int .i64 0) (.int .i64 0) (.slice none 0 0) (.slice none 0 0)
 obtain ⟨k0, k1, k2, k3, k4, k5, k6, k7, k8⟩ := cells9 h9
 have hk := below_keeps HB0.out (M := fun k => k = N + 1) (fun k hk => by omega) HB0.out.size (keeps9 _ (N + 1) (.int .i64 0) (.string ⟨#[]⟩) (.string ⟨#[]⟩) (.string ⟨#[]⟩) (.int .i64 0) (.int .i64 0) (.int .i64 0) (.slice none 0 0) (.slice none 0 0))
 exact bodyPost_ret (v := .tuple #[.slice none 0 0, .agg #[.int .i64 0, .string ⟨#[]⟩, .string ⟨#[]⟩, .string ⟨#[]⟩, .int .i64 0, .int .i64 0, .int .i64 0, .slice none 0 0, .slice none 0 0], .int .i64 1]) (by simp [results, Try.f23, go_sem, k0, k1, k2, k3, k4, k5, k6, k7, k8]) rfl ⟨rfl, hk⟩
set_option maxHeartbeats 8000000 in
set_option maxRecDepth 100000 in
theorem sessNone_calls (w : World) (f : Fr) (A7 : Option Addr) (c7 : Nat) (A8 : Option Addr) (c8 : Nat)
 (l7 : f.kn.length ≤ c7) (g7 : Kd.C k72 w A7 f.kn.length f.kn) (l8 : f.op.length ≤ c8) (g8 : Kd.C k74 w A8 f.op.length f.op) :
 Calls Try.prog 6 #[.agg #[.int .i64 f.k, .string f.fa, .string f.fb, .string f.ct, .int .i64 f.se, .int .i64 f.ix, .int .i64 f.mn, .slice A7 f.kn.length c7, .slice A8 f.op.length c8]] w fun e w' => e = .returned (.bool true) ∧ Below w.heap.size w w' := by
 obtain ⟨N, hN⟩ : ∃ N, w.heap.size = N := ⟨_, rfl⟩
 obtain ⟨w0, hw0⟩ : ∃ w0, w.alloc (.cells #[.int .i64 f.k, .string f.fa, .string f.fb, .string f.ct, .int .i64 f.se, .int .i64 f.ix, .int .i64 f.mn, .slice A7 f.kn.length c7, .slice A8 f.op.length c8] 34) = w0 := ⟨_, rfl⟩
 have HB0 := Aside0.mk (show Below w.heap.size w w0 from by rw [← hw0]; exact (Below.refl _ w).alloc (Nat.le_refl _) _)
 have KX := Aside0.mk (show w0.heap[N]? = some (.cells #[.int .i64 f.k, .string f.fa, .string f.fb, .string f.ct, .int .i64 f.se, .int .i64 f.ix, .int .i64 f.mn, .slice A7 f.kn.length c7, .slice A8 f.op.length c8] 34 (0, 0)) from by rw [← hw0, ← hN]; exact World.alloc_heap_new w _)
 go_enter Try.func6, Try.ntmps6
 go_wp2_with fail
 refine (shown_calls _).mono ?_
 rintro e w1 ⟨rfl, hb⟩
 have HB1 := Aside0.mk (HB0.out.trans (hb.mono HB0.out.size))
 have KX1 := Aside0.mk (blk_below KX.out hb)
 clear hb HB0 KX hw0
 go_wp2_with fail
 refine (nextNil_calls _).mono ?_
 rintro e w2 ⟨rfl, hb⟩
 have HB2 := Aside0.mk (HB1.out.trans (hb.mono HB1.out.size))
 have KX2 := Aside0.mk (blk_below KX1.out hb)
 clear hb HB1 KX1
 have hb3 : Below w2.heap.size w2 (w2.alloc (.cells #[.int .i64 0, .string ⟨#[]⟩, .string ⟨#[]⟩, .string ⟨#[]⟩, .int .i64 0, .int .i64 0, .int .i64 0, .slice none 0 0, .slice none 0 0] 34)) := (Below.refl _ w2).alloc (Nat.le_refl _) _
 have HB3 := Aside0.mk (HB2.out.trans (hb3.mono HB2.out.size))
 have KX3 := Aside0.mk (blk_below KX2.out hb3)
 obtain ⟨n0, n1, n2, n3, n4, n5, n6, n7, n8⟩ := cells9 KX3.out
 clear hb3 HB2 KX2
 go_wp2_with fail
 refine (inTakeNil_calls f A7 c7 A8 c8 _).mono ?_
 rintro e w4 ⟨rfl, hb⟩
 have HB4 := Aside0.mk (HB3.out.trans (hb.mono HB3.out.size))
 have KX4 := Aside0.mk (blk_below KX3.out hb)
 clear hb HB3 KX3 n0 n1 n2 n3 n4 n5 n6 n7 n8
 have hb5 : Below w4.heap.size w4 (w4.alloc (.cells #[.int .i64 0, .string ⟨#[]⟩, .string ⟨#[]⟩, .string ⟨#[]⟩, .int .i64 0, .int .i64 0, .int .i64 0, .slice none 0 0, .slice none 0 0] 34)) := (Below.refl _ w4).alloc (Nat.le_refl _) _
 have HB5 := Aside0.mk (HB4.out.trans (hb5.mono HB4.out.size))
 have KX5 := Aside0.mk (blk_below KX4.out hb5)
 clear hb5 HB4 KX4
 go_wp2_with fail
 refine (cursorNil_calls _ _ _).mono ?_
 rintro e w6 ⟨rfl, hb⟩
 have HB6 := Aside0.mk (HB5.out.trans (hb.mono HB5.out.size))
 have KX6 := Aside0.mk (blk_below KX5.out hb)
 clear hb HB5 KX5
 obtain ⟨n0, n1, n2, n3, n4, n5, n6, n7, n8⟩ := cells9 KX6.out
 go_wp2_with fail
 refine (takeNil_calls f A7 c7 A8 c8 _).mono ?_
 rintro e w7 ⟨rfl, hb⟩
 have HB7 := Aside0.mk (HB6.out.trans (hb.mono HB6.out.size))
 clear hb HB6 KX6 n0 n1 n2 n3 n4 n5 n6 n7 n8
 go_wp2_with fail
 refine (ackedNil_calls _).mono ?_
 rintro e w8 ⟨rfl, hb⟩
 have HB8 := Aside0.mk (HB7.out.trans (hb.mono HB7.out.size))
 clear hb HB7
 go_wp2_with fail
 refine (layNil_calls _).mono ?_
 rintro e w9 ⟨rfl, hb⟩
 have HB9 := Aside0.mk (HB8.out.trans (hb.mono HB8.out.size))
 clear hb HB8
 go_wp2
 go_ret
 exact ⟨rfl, by first | exact HB9.out | (rw [← hN]; exact HB9.out)⟩
end Go.Proofs.Ytjejhgjdmbodiaa.PO
end
section
section
namespace Go.Proofs.Ytjejhgjdmbodiaa.PO
open Go.RowKit Go.Proofs.YtjejhgjdmbodiaaW.PrintWords Go.Proofs.YtjejhgjdmbodiaaW.PrintLast Go.Proofs.YtjejhgjdmbodiaaW.PrintMore Go.Proofs.Ytjejhgjdmbodiaa.XW
open Go.Proofs.Ytjejhgjdmbodiaa.XRange
set_option linter.unusedVariables false
set_option linter.unusedSimpArgs false
set_option maxHeartbeats 8000000 in
set_option maxRecDepth 100000 in
theorem refSameOps_calls (l m : List S74) (A : Option Addr) (c : Nat) (B : Option Addr) (d : Nat) (w : World) (hc : l.length ≤ c) (hC : Kd.C k74 w A l.length l) (hd : m.length ≤ d) (hD : Kd.C k74 w B m.length m) :
 Calls Try.prog 20 #[.slice A l.length c, .slice B m.length d] w fun e w' => e = .returned (.bool (decide (l = m))) ∧ Below w.heap.size w w' := by
 have HC := Aside0.mk hC
 have HD := Aside0.mk hD
 have hm : l.length ≤ 9223372036854775807 := hC.2.1
 clear hC hD
 go_enter Try.func20, Try.ntmps20
 by_cases hlen : l.length = m.length
 case neg =>
  have q0 : ((l.length : Int) != (m.length : Int)) = true := by simp; omega
  have HF := Aside0.mk (show decide (l = m) = false from decide_eq_false (fun h => hlen (by rw [h])))
  go_wp2
  go_ret
  exact ⟨by rw [HF.out]; rfl, Below.refl _ _⟩
 have q0 : ((l.length : Int) != (m.length : Int)) = false := by simp; omega
 have HLEN := Aside0.mk hlen
 clear hlen
 go_wp2
 go_loopw [5, 6] (fun v5 _ wr => ∃ j : Nat, j ≤ l.length ∧ v5 = .int .i64 j ∧ Aside0 (l = m ↔ l.drop j = m.drop j) ∧ Aside0 (Below w.heap.size w wr)) (fun v5 _ _ => l.length - (intOf v5).toNat)
 case atStart => exact ⟨0, Nat.zero_le _, rfl, ⟨by simp⟩, ⟨Below.refl _ _⟩⟩
 case round =>
  obtain ⟨j, hj, rfl, HJ, HB⟩ := hrel
  by_cases hlt : j < l.length
  · have hlt' : j < m.length := by have := HLEN.out; omega
    obtain ⟨ad, A2, c2, A7, c7, hA, hop⟩ := opAt (Kd.C_below HC.out HB.out) j hlt
    obtain ⟨bd, B2, d2, B7, d7, hBq, hoq⟩ := opAt (Kd.C_below HD.out HB.out) j hlt'
    cases hA
    cases hBq
    obtain ⟨x, hx⟩ : ∃ x, rd_T74 l (j : Int) = x := ⟨_, rfl⟩
    obtain ⟨y, hy⟩ : ∃ y, rd_T74 m (j : Int) = y := ⟨_, rfl⟩
    rw [hx] at hop
    rw [hy] at hoq
    have HX := Aside0.mk (show l.drop j = x :: l.drop (j + 1) from by rw [← hx]; exact rd_drop36' l j hlt)
    have HY := Aside0.mk (show m.drop j = y :: m.drop (j + 1) from by rw [← hy]; exact rd_drop36' m j hlt')
    have HOP := Aside0.mk hop
    have HOQ := Aside0.mk hoq
    have hb3 : 0 ≤ (j : Int) ∧ (j : Int) < (l.length : Int) := by omega
    have hb4 : 0 ≤ (j : Int) ∧ (j : Int) < (m.length : Int) := by omega
    have q1 : decide ((j : Int) < (l.length : Int)) = true := by simp; omega
    clear hx hy hop hoq
    go_wp2
    rename World => wq
    have hdr : Below wq.heap.size wq wq.drew := below_drew1 (Below.refl _ wq)
    refine start_ (n := 10) (ds := []) (S := fun w' => OpAt w' (ad.add (j * 8)) x A2 c2 A7 c7 ∧ OpAt w' (bd.add (j * 8)) y B2 d2 B7 d7) _ (by kernel_rfl) rfl rfl ⟨HOP.out.below hdr, HOQ.out.below hdr⟩ (fun hH => ?_)
    refine XReg.pu 0 18 (h := ?_)
    refine XReg.pu 1 19 (h := ?_)
    refine XReg.pu 2 20 (h := ?_)
    refine XReg.tk 3 21 (hy := by (intro w' hS_; obtain ⟨⟨s0, s1, s2, s3, s4, s5, s6, s7, _, _, _, _⟩, _⟩ := hS_; go_simp; with_reducible rfl)) (h := ?_)
    refine XReg.pu 4 22 (h := ?_)
    refine XReg.pu 5 23 (h := ?_)
    refine XReg.pu 6 24 (h := ?_)
    refine XReg.tk 7 25 (hy := by (intro w' hS_; obtain ⟨_, ⟨s0, s1, s2, s3, s4, s5, s6, s7, _, _, _, _⟩⟩ := hS_; go_simp; with_reducible rfl)) (h := ?_)
    refine oneL (i := 8) (some 26) rfl rfl (by kernel_rfl) (by decide) (fun Kc hKc => ?_)
    refine goes_ Try.func49 (by kernel_rfl) rfl #[.agg #[.string x.f0.f0, .int .i64 x.f0.f1, .slice A2 x.f1.length c2, .string x.f2, .int .i64 x.f3, .string x.f4, .int .i64 x.f5, .slice A7 x.f6.length c7], .agg #[.string y.f0.f0, .int .i64 y.f0.f1, .slice B2 y.f1.length d2, .string y.f2, .int .i64 y.f3, .string y.f4, .int .i64 y.f5, .slice B7 y.f6.length d7]] (by rfl) rfl rfl (by (try simp only [List.map_toArray, List.map_cons, List.map_nil]); first | done | rfl) ?_
    refine (refEqualO_calls x y A2 c2 A7 c7 B2 d2 B7 d7 _ HOP.out.l2 (Kd.C_drew HOP.out.g2) HOP.out.l7 (Kd.C_drew HOP.out.g7) HOQ.out.l2 (Kd.C_drew HOQ.out.g2) HOQ.out.l7 (Kd.C_drew HOQ.out.g7)).mono ?_
    obtain ⟨b, hb⟩ : ∃ b, decide (x = y) = b := ⟨_, rfl⟩
    have HBX := Aside0.mk hb
    rw [hb]
    rintro e w10 ⟨rfl, hb10⟩
    refine ⟨_, rfl, ?_⟩
    have hb10' : Below wq.heap.size wq w10 := ⟨hb10.os, hb10.tape, hb10.output, hb10.size, hb10.block⟩
    refine hKc.out _ _ ⟨HOP.out.below hb10', HOQ.out.below hb10'⟩ (fun hH2 => ?_)
    have HB1 := Aside0.mk (show Below w.heap.size w w10 from HB.out.trans (hb10'.mono HB.out.size))
    clear hKc Kc hH hH2 hb10 hb10' hdr hb
    refine XReg.pu 9 6 (h := ?_)
    refine done_ (by kernel_rfl) ?_
    cases b with
    | false =>
      go_wp2
      go_ret
      refine ⟨?_, HB1.out⟩
      rw [show decide (l = m) = false from decide_eq_false (fun h => by
       have h1 := HJ.out.1 h
       rw [HX.out, HY.out, List.cons.injEq] at h1
       exact (of_decide_eq_false HBX.out) h1.1)]
      rfl
    | true =>
      go_wp2
      go_round
      case rel => exact ⟨j + 1, by omega, by go_num, ⟨by rw [HJ.out, HX.out, HY.out, List.cons.injEq, of_decide_eq_true HBX.out]; simp⟩, HB1⟩
      case measure => simp [intOf]; omega
  · have q1 : decide ((j : Int) < (l.length : Int)) = false := by simp; omega
    go_wp2
    go_ret
    refine ⟨?_, HB.out⟩
    rw [show decide (l = m) = true from decide_eq_true (HJ.out.2 (by rw [List.drop_eq_nil_of_le (by omega), List.drop_eq_nil_of_le (by have := HLEN.out; omega)]))]
    rfl
end Go.Proofs.Ytjejhgjdmbodiaa.PO
end
section
namespace Go.Proofs.Ytjejhgjdmbodiaa.PO
open Go.RowKit Go.Proofs.YtjejhgjdmbodiaaW.PrintWords Go.Proofs.YtjejhgjdmbodiaaW.PrintLast Go.Proofs.YtjejhgjdmbodiaaW.PrintMore
attribute [local go_sem] max2_int min2_int max_two min_two max_three min_three max_four min_four   -- for this text's walks alone
set_option linter.unusedVariables false
set_option linter.unusedSimpArgs false
end Go.Proofs.Ytjejhgjdmbodiaa.PO
end
section
namespace Go.Proofs.Ytjejhgjdmbodiaa.PO
open Go.RowKit Go.Proofs.YtjejhgjdmbodiaaW.PrintWords Go.Proofs.YtjejhgjdmbodiaaW.PrintLast Go.Proofs.YtjejhgjdmbodiaaW.PrintMore Go.Proofs.Ytjejhgjdmbodiaa.XW
set_option linter.unusedVariables false
set_option linter.unusedSimpArgs false
end Go.Proofs.Ytjejhgjdmbodiaa.PO
end
section
namespace Go.Proofs.Ytjejhgjdmbodiaa.PO
open Go.RowKit Go.Proofs.YtjejhgjdmbodiaaW.PrintWords Go.Proofs.YtjejhgjdmbodiaaW.PrintLast Go.Proofs.YtjejhgjdmbodiaaW.PrintMore Go.Proofs.Ytjejhgjdmbodiaa.XW
open Go.Proofs.Ytjejhgjdmbodiaa.XRange Go.Proofs.Ytjejhgjdmbodiaa.XMap Go.Proofs.Ytjejhgjdmbodiaa.XSeq
set_option linter.unusedVariables false
set_option linter.unusedSimpArgs false
end Go.Proofs.Ytjejhgjdmbodiaa.PO
end
section
namespace Go.Proofs.Ytjejhgjdmbodiaa.PO
open Go.RowKit Go.Proofs.YtjejhgjdmbodiaaW.PrintWords Go.Proofs.YtjejhgjdmbodiaaW.PrintLast Go.Proofs.YtjejhgjdmbodiaaW.PrintMore Go.Proofs.Ytjejhgjdmbodiaa.XW
open Go.Proofs.Ytjejhgjdmbodiaa.XRange
set_option linter.unusedVariables false
set_option linter.unusedSimpArgs false
end Go.Proofs.Ytjejhgjdmbodiaa.PO
end
section
namespace Go.Proofs.Ytjejhgjdmbodiaa.PO
open Go.RowKit Go.Proofs.YtjejhgjdmbodiaaW.PrintWords Go.Proofs.YtjejhgjdmbodiaaW.PrintLast Go.Proofs.YtjejhgjdmbodiaaW.PrintMore Go.Proofs.Ytjejhgjdmbodiaa.XW
open Go.Proofs.Ytjejhgjdmbodiaa.XRange
set_option linter.unusedVariables false
set_option linter.unusedSimpArgs false
def sB : ByteArray := ⟨#[98]⟩
def f0 : Fr := ⟨3, sA, sB, sC, 1, 2, 0, [], []⟩
end Go.Proofs.Ytjejhgjdmbodiaa.PO
end
section
namespace Go.Proofs.Ytjejhgjdmbodiaa.PO
open Go.RowKit Go.Proofs.YtjejhgjdmbodiaaW.PrintWords Go.Proofs.YtjejhgjdmbodiaaW.PrintLast Go.Proofs.YtjejhgjdmbodiaaW.PrintMore Go.Proofs.Ytjejhgjdmbodiaa.XW
open Go.Proofs.Ytjejhgjdmbodiaa.XRange
set_option linter.unusedVariables false
set_option linter.unusedSimpArgs false
end Go.Proofs.Ytjejhgjdmbodiaa.PO
end
section
namespace Go.Proofs.Ytjejhgjdmbodiaa.PO
open Go.RowKit Go.Proofs.YtjejhgjdmbodiaaW.PrintWords Go.Proofs.YtjejhgjdmbodiaaW.PrintLast Go.Proofs.YtjejhgjdmbodiaaW.PrintMore
open Go.Proofs.Ytjejhgjdmbodiaa.XRange
set_option linter.unusedVariables false
set_option linter.unusedSimpArgs false
end Go.Proofs.Ytjejhgjdmbodiaa.PO
end
end
section
namespace Go.Proofs.Ytjejhgjdmbodiaa.PO
open Go.RowKit Go.Proofs.YtjejhgjdmbodiaaW.PrintWords Go.Proofs.YtjejhgjdmbodiaaW.PrintLast Go.Proofs.YtjejhgjdmbodiaaW.PrintMore Go.Proofs.Ytjejhgjdmbodiaa.XW
open Go.Proofs.Ytjejhgjdmbodiaa.XRange Go.Proofs.Ytjejhgjdmbodiaa.XMap
attribute [local go_sem] max2_int min2_int max_two min_two
set_option linter.unusedVariables false
set_option linter.unusedSimpArgs false
def dP (n : Nat) : OutD := ⟨⟨#[97]⟩, ⟨#[98]⟩, ⟨#[99]⟩, 7, listO n⟩
theorem madeO_all : (List.range 200).all (fun i => !badO ⟨#[99]⟩ (madeO ((i : Int) + 1))) = true := by kernel_rfl
theorem dP_ok (n : Nat) (hn : n ≤ 200) : okOut (dP n) = true := by
 have h1 : (dP n).l.any (badO (dP n).ct) = false := by
  rw [List.any_eq_false]
  intro x hx
  have hx' : x ∈ listO n := hx
  unfold listO at hx'
  simp only [List.mem_map, List.mem_range] at hx'
  obtain ⟨i, hi, rfl⟩ := hx'
  have h2 := List.all_eq_true.1 madeO_all i (List.mem_range.2 (by omega))
  show ¬ badO ⟨#[99]⟩ (madeO ((i : Int) + 1)) = true
  intro h3
  simp only [h3, Bool.not_true] at h2
  cases h2
 have h2 : headO (dP n) = true := by
  refine headO_true (show isNameB ⟨#[97]⟩ = true from by kernel_rfl) (show isNameB ⟨#[98]⟩ = true from by kernel_rfl) (of_decide_eq_false (show decide ((⟨#[97]⟩ : ByteArray).toList = (⟨#[98]⟩ : ByteArray).toList) = false from by kernel_rfl)) (of_decide_eq_false (show decide ((⟨#[99]⟩ : ByteArray).toList = []) = false from by kernel_rfl)) (show ((⟨#[99]⟩ : ByteArray).size : Int) ≤ 32 from by decide) (show (1 : Int) ≤ 7 from by decide) (show (7 : Int) ≤ 1152921504606846976 from by decide) ?_
  show (listO n).length ≤ 512
  rw [listO_len]
  omega
 unfold okOut
 rw [h1, h2]
 rfl
theorem dP_sizes (n : Nat) : ∀ x, x ∈ (dP n).l → x.f1.length ≤ 1000000 ∧ x.f6.length ≤ 1000000 := by
 intro x hx
 unfold dP listO at hx
 simp only [List.mem_map, List.mem_range] at hx
 obtain ⟨i, _, rfl⟩ := hx
 unfold madeO
 constructor
 · show (if _ then _ else _ : List S72).length ≤ _
   split <;> simp
 · simp
def fP (i : Nat) : Fr := ⟨3, ⟨#[98]⟩, ⟨#[97]⟩, ⟨#[99]⟩, 7, (i : Int) + 1, 0, [], []⟩
theorem fP_right (i : Nat) (hi : i ≤ 200) : rightF (fP i) = true := by
 have h1 : headF (fP i) = true := headF_true (f := fP i) (show isNameB ⟨#[98]⟩ = true from by kernel_rfl) (show isNameB ⟨#[97]⟩ = true from by kernel_rfl) (of_decide_eq_false (show decide ((⟨#[98]⟩ : ByteArray).toList = (⟨#[97]⟩ : ByteArray).toList) = false from by kernel_rfl)) (of_decide_eq_false (show decide ((⟨#[99]⟩ : ByteArray).toList = []) = false from by kernel_rfl)) (show ((⟨#[99]⟩ : ByteArray).size : Int) ≤ 32 from by decide) (show (1 : Int) ≤ 7 from by decide) (show (7 : Int) ≤ 1152921504606846976 from by decide) (by show (0 : Int) ≤ (i : Int) + 1; omega)
 have h2 : bodyF (fP i) = true := by
  unfold bodyF fP
  simp
  omega
 unfold rightF
 rw [h1, h2]
 rfl
theorem dP_take (n i : Nat) (hn : n ≤ 200) (hi : i < npc n) : takeE (dP n) (fP i) = 0 ∧ takeK (dP n) (i : Int) (fP i) = (i : Int) + 1 := by
 have hi2 : i ≤ 200 := by unfold npc at hi; omega
 have hl : (dP n).l.length = n := listO_len n
 have h : takeE (dP n) (fP i) = 0 := by
  unfold takeE
  rw [fP_right i hi2, hl]
  have h1 : ¬ (fP i).ix > (npc n : Int) := by show ¬ ((i : Int) + 1 > (npc n : Int)); omega
  rw [if_neg h1]
  rfl
 refine ⟨h, ?_⟩
 unfold takeK
 rw [if_pos h]
 show max (i : Int) ((i : Int) + 1) = _
 omega
theorem take_piece (l : List S74) (i : Nat) : l.take (8 * i) ++ pieceOf l i = l.take (8 * (i + 1)) := by
 unfold pieceOf
 rw [show 8 * (i + 1) = 8 * i + 8 from by omega, List.take_add]
theorem ok_row {v : Value} {b0 m : Nat} {w : World} {xs : List S74} (h : Kd.N k74 74 w b0 (fun k => b0 ≤ k) v xs) (hb : w.heap.size ≤ m) (hm : b0 ≤ m) {k : Nat} (hk : m ≤ k) : b0 ≤ k ∧ some k ≠ v.ownBlock :=
 ⟨by omega, fun e => by have := Kd.N_lt h k e.symm; omega⟩
theorem app_len {n i pl : Nat} (hn : n ≤ 200) (h2 : pl = min 8 (n - 8 * i)) : (((listO n).take (8 * i)).length + pl) * 120 ≤ 140737488355328 := by rw [List.length_take, listO_len]; omega
theorem ne_b0 {b0 o k : Nat} (h : o < b0) (hk : b0 ≤ k) : k ≠ o := by omega
theorem npc_succ {i n : Nat} (h : i < npc n) : i + 1 ≤ npc n := h
theorem npc_lt {i n : Nat} (h : i < npc n) : 8 * i < n := by unfold npc at h; omega
theorem npc_le {i n : Nat} (hn : n ≤ 200) (h : i ≤ npc n) : i ≤ 25 := by unfold npc at h; omega
theorem npc_end {i n : Nat} (h : i ≤ npc n) (h2 : ¬ i < npc n) : i = npc n ∧ n ≤ 8 * i := by unfold npc at h h2 ⊢; omega
theorem pl_a {pl n i : Nat} (h : pl = min 8 (n - 8 * i)) (h1 : 8 * i < n) (h2 : (n : Int) - 8 * (i : Int) < 8) (h3 : ¬ (pl : Int) = (n : Int) - 8 * (i : Int)) : False := by omega
theorem pl_b {pl n i : Nat} (h : pl = min 8 (n - 8 * i)) (h1 : 8 * i < n) (h2 : 8 ≤ (n : Int) - 8 * (i : Int)) (h3 : ¬ (pl : Int) = 8) : False := by omega
theorem i_le {i : Nat} (h : i ≤ 25) : decide ((i : Int) ≤ 26) = true ∧ wrap64 ((i : Int) + 1) = (i : Int) + 1 := ⟨by simp; omega, by rw [w_id (by omega)]⟩
theorem npc_dec {i n : Nat} : (i < npc n → decide ((i : Int) < (npc n : Int)) = true) ∧ (¬ i < npc n → decide ((i : Int) < (npc n : Int)) = false) := ⟨fun h => by simp; omega, fun h => by simp; omega⟩
set_option maxHeartbeats 8000000 in
set_option maxRecDepth 100000 in
theorem sessPieces_calls (many : Int) (w : World) : Calls Try.prog 4 #[.int .i64 many] w fun e w' => e = .returned (.bool true) ∧ Below w.heap.size w w' := by
 obtain ⟨N, hN⟩ : ∃ N, w.heap.size = N := ⟨_, rfl⟩
 go_enter Try.func4, Try.ntmps4
 go_wp2_with fail
 refine (shown_calls _).mono ?_
 rintro e w1 ⟨rfl, hb⟩
 have HB1 := Aside0.mk hb
 clear hb
 by_cases hr : 0 ≤ many ∧ many ≤ 200
 case neg =>
  go_wp2
  all_goals first
   | (go_ret; exact ⟨rfl, by first | exact HB1.out | (rw [← hN]; exact HB1.out)⟩)
   | exact absurd ⟨by omega, by omega⟩ hr
 obtain ⟨n, rfl⟩ := Int.eq_ofNat_of_zero_le hr.1
 have hn : n ≤ 200 := by omega
 have p1 : decide ((n : Int) < 0) = false := by simp
 have p2 : decide ((200 : Int) < (n : Int)) = false := by simp; omega
 clear hr
 go_wp2_with fail
 refine (list_calls n (by omega) _).mono ?_
 rintro e w2 ⟨v0, rfl, hS, hb⟩
 obtain ⟨A, c, rfl, hc, hC⟩ := Kd.S_reads hS
 have HB2 := Aside0.mk (HB1.out.trans (hb.mono HB1.out.size))
 have HC2 := Aside0.mk hC
 have HCL := Aside0.mk hc
 clear hS hb hC hc HB1 p1 p2
 go_wp2_with fail
 refine (newOut_calls (dP n) A c w2 HCL.out HC2.out (dP_ok n hn)).mono ?_
 rintro e w3 ⟨o, rfl, hO, hol, hb⟩
 obtain ⟨b0, hb0⟩ : ∃ b, w3.heap.size = b := ⟨_, rfl⟩
 have HO3 := Aside0.mk (show OutAt (fun k => k < b0 ∧ k ≠ o) w3 o (dP n) 0 from hO.weak (fun k hk => ⟨by omega, hk.2.2⟩) (fun h => h.2 rfl))
 have HB3 := Aside0.mk (HB2.out.trans (hb.mono HB2.out.size))
 have HSZ := Aside0.mk (show w.heap.size ≤ w2.heap.size ∧ w2.heap.size ≤ o ∧ o < b0 ∧ w3.heap.size = b0 from ⟨HB2.out.size, hol, by rw [← hb0]; exact HO3.out.lt, hb0⟩)
 have HL := Aside0.mk (show (dP n).l.length = n from listO_len n)
 have HB23 := Aside0.mk hb
 clear hO hol hb hb0
 go_wp2
 go_loopw [7, 8, 9, 10] (fun v7 v8 _ _ wr => ∃ i : Nat, i ≤ npc n ∧ v8 = .int .i64 i ∧ Aside0 (Kd.N k74 74 wr b0 (fun k => b0 ≤ k) v7 ((listO n).take (8 * i))) ∧ Aside0 (OutAt (fun k => k < b0 ∧ k ≠ o) wr o (dP n) (i : Int)) ∧ Aside0 (Below w2.heap.size w2 wr) ∧ Aside0 (b0 ≤ wr.heap.size)) (fun _ v8 _ _ _ => 300 - (intOf v8).toNat)
 case atStart => exact ⟨0, Nat.zero_le _, rfl, ⟨by simpa using Kd.N_nil _ _ _ _ _⟩, ⟨HO3.out⟩, HB23, ⟨by have := HSZ.out; omega⟩⟩
 case round =>
  obtain ⟨i, hi, rfl, HG, HO, HB, HZ⟩ := hrel
  obtain ⟨Ag, cg, rfl⟩ := Kd.N_slice HG.out
  obtain ⟨gl, hgl⟩ : ∃ gl, ((listO n).take (8 * i)).length = gl := ⟨_, rfl⟩
  have HGL := Aside0.mk hgl
  rw [hgl] at HG ⊢
  clear hgl
  have hi2 : i ≤ 25 := npc_le hn hi
  have q1 : decide ((i : Int) ≤ 26) = true := (i_le hi2).1
  have hsz := HSZ.out
  go_wp2_with fail
  refine (outNext_calls _ o (dP n) (i : Int) _ HO.out (by omega) (by rw [HL.out]; omega) (dP_sizes n)).mono ?_
  rintro e w4 ⟨A8, c8, rfl, hkn, h8, hF8, hb⟩
  have HG4 := Aside0.mk (Kd.N_below HG.out hb)
  have HO4 := Aside0.mk (HO.out.below hb)
  have HB4 := Aside0.mk (HB.out.trans (hb.mono HB.out.size))
  have HS4 := Aside0.mk (show b0 ≤ wr.heap.size ∧ wr.heap.size ≤ w4.heap.size from ⟨HZ.out, hb.size⟩)
  by_cases hq : i < npc n
  case neg =>
   have hd : decide ((i : Int) < (npc (dP n).l.length : Int)) = false := by rw [HL.out]; exact npc_dec.2 hq
   have hin : i = npc n := (npc_end hi hq).1
   have hin2 := (npc_end hi hq).2
   have HE := Aside0.mk (show (listO n).take (8 * i) = listO n from List.take_of_length_le (by rw [listO_len]; exact hin2))
   have hb5 := fun X : Obj => (Below.refl w4.heap.size w4).alloc (Nat.le_refl _) X
   rw [hd]
   clear hb hF8 h8 hkn
   go_wp2_with fail
   have hgl : gl = (listO n).length := by rw [← HGL.out, HE.out]
   subst hgl
   refine (refSameOps_calls (listO n) (listO n) Ag cg A c _ (Kd.N_reads' HG4.out).2.1 (by have h := (Kd.N_reads' HG4.out).2.2; rw [HE.out] at h; exact Kd.C_below h (hb5 _)) HCL.out (Kd.C_below (Kd.C_below HC2.out HB4.out) (hb5 _))).mono ?_
   rintro e w6 ⟨rfl, hb6⟩
   have hfin := HB2.out.trans ((HB4.out.trans (((hb5 _).trans (hb6.mono (hb5 _).size)).mono HB4.out.size)).mono HB2.out.size)
   rw [show decide (listO n = listO n) = true from by simp]
   clear hb6
   go_wp2
   go_ret
   exact ⟨rfl, by first | exact hfin | (rw [← hN]; exact hfin)⟩
  have hd : decide ((i : Int) < (npc (dP n).l.length : Int)) = true := by rw [HL.out]; exact npc_dec.1 hq
  have hf : nextF (dP n) (i : Int) = ⟨2, ⟨#[97]⟩, ⟨#[98]⟩, ⟨#[99]⟩, 7, (i : Int), (npc n : Int), [], pieceOf (listO n) i⟩ := by
   unfold nextF
   rw [HL.out, if_neg (by have := npc_lt hq; simp; exact hq), Int.toNat_natCast]
   rfl
  rw [hf] at h8 hF8
  rw [hd, hf]
  dsimp only
  obtain ⟨pl, hpl⟩ : ∃ pl, (pieceOf (listO n) i).length = pl := ⟨_, rfl⟩
  have HPL := Aside0.mk (show pl = min 8 (n - 8 * i) from by rw [← hpl, pieceOf_len, listO_len])
  have HPE := Aside0.mk hpl
  rw [hpl] at hF8 h8 ⊢
  clear hpl
  have HF8 := Aside0.mk hF8
  have hw : wrap64 ((i : Int) + 1) = (i : Int) + 1 := (i_le hi2).2
  clear hb hF8 hkn hf
  have HNI := Aside0.mk (npc_lt hq)
  clear hsz
  go_wp2_with fail
  all_goals try (first | exact (pl_a HPL.out HNI.out (by assumption) (by assumption)).elim | exact (pl_b HPL.out HNI.out (by assumption) (by assumption)).elim)
  all_goals
   obtain ⟨w5, hw5⟩ : ∃ w5, w4.alloc (.cells #[.int .i64 2, .string ⟨#[97]⟩, .string ⟨#[98]⟩, .string ⟨#[99]⟩, .int .i64 7, .int .i64 (i : Int), .int .i64 (npc n : Int), .slice none 0 0, .slice A8 pl c8] 34) = w5 := ⟨_, rfl⟩
   have hb5 : Below w4.heap.size w4 w5 := by rw [← hw5]; exact (Below.refl _ w4).alloc (Nat.le_refl _) _
   have HM5 := Aside0.mk (show w5.heap[w4.heap.size]? = some (.cells #[.int .i64 2, .string ⟨#[97]⟩, .string ⟨#[98]⟩, .string ⟨#[99]⟩, .int .i64 7, .int .i64 (i : Int), .int .i64 (npc n : Int), .slice none 0 0, .slice A8 pl c8] 34 (0, 0)) from by rw [← hw5]; exact World.alloc_heap_new w4 _)
   have HG5 := Aside0.mk (Kd.N_below HG4.out hb5)
   have HO5 := Aside0.mk (HO4.out.below hb5)
   have HB5 := Aside0.mk (HB4.out.trans (hb5.mono HB4.out.size))
   have HF5 := Aside0.mk (Kd.F_below HF8.out hb5)
   have HS5 := Aside0.mk (show w4.heap.size < w5.heap.size from by have := blk_lt HM5.out; omega)
   clear hb5 HF8 HG4 HO4 HB4
   rw [hw5]
   refine (outAcked_calls _ o (dP n) (i : Int) w5 HO5.out).mono ?_
   rintro e w6 ⟨rfl, hb⟩
   have HG6 := Aside0.mk (Kd.N_below HG5.out hb)
   have HO6 := Aside0.mk (HO5.out.below hb)
   have HB6 := Aside0.mk (HB5.out.trans (hb.mono HB5.out.size))
   have HF6 := Aside0.mk (Kd.F_below HF5.out hb)
   have HM6 := Aside0.mk (blk_below HM5.out hb)
   have HS6 := Aside0.mk (show b0 ≤ wr.heap.size ∧ wr.heap.size ≤ w6.heap.size from by have := hb.size; have := HS4.out; have := HS5.out; omega)
   have m8 : w6.cell? ⟨w4.heap.size, 8, none⟩ = some (.slice A8 pl c8) := (blk_cell HM6.out 8).trans rfl
   clear hb hw5
   have HOK := Aside0.mk (show ∀ k, (wr.heap.size ≤ k ∧ k < w4.heap.size) → b0 ≤ k ∧ some k ≠ (Value.slice Ag gl cg).ownBlock from fun k hk => ok_row HG.out (Nat.le_refl _) HZ.out hk.1)
   have HAL := Aside0.mk (app_len hn HPL.out)
   go_wp2_with ((with_reducible refine gate_builtin (b := .append) (xs := #[.tmp 60, .tmp 62]) rfl ?_); at_builtin; refine Kd.N_append_rows k74 (w0 := w6) b0 rfl (.tmp 60) (.tmp 62) 22 74 (.agg #[.string ⟨#[]⟩, .int .i64 0, .slice none 0 0, .string ⟨#[]⟩, .int .i64 0, .string ⟨#[]⟩, .int .i64 0, .slice none 0 0]) 120 rfl Try.underlying22 info74 rfl (by decide) (by omega) _ _ _ _ _ _ (fun k => b0 ≤ k) (fun k => wr.heap.size ≤ k ∧ k < w4.heap.size) rfl rfl HG6.out HF6.out HOK.out (fun k hk => Nat.le_trans (Nat.le_trans HS6.out.1 HS6.out.2) hk) (Below.refl _ _) (Nat.le_trans HS6.out.1 HS6.out.2) HAL.out ?_; intro v1 w7 hN7 hb7 hg7 hat7)
   have HN7 := Aside0.mk hN7
   have HO7 := Aside0.mk (HO6.out.step (hb7.block o HSZ.out.2.2.1) (fun k hk _ => hb7.block k hk.1))
   have HB7 := Aside0.mk (HB6.out.trans (hb7.mono (Nat.le_of_lt (Nat.lt_of_le_of_lt HSZ.out.2.1 HSZ.out.2.2.1))))
   have HS7 := Aside0.mk (show b0 ≤ w7.heap.size from Nat.le_trans (Nat.le_trans HS6.out.1 HS6.out.2) hb7.size)
   clear hN7 hb7 hg7 hat7 HG6 HO6 HB6 HF6 HM6 m8 HOK HAL
   refine (outTake0_calls _ o (dP n) (i : Int) (fP i) w7 HO7.out rfl rfl).mono ?_
   rw [(dP_take n i hn hq).1, (dP_take n i hn hq).2]
   rintro e w8 ⟨rfl, hO8, hk8⟩
   have HN8 := Aside0.mk (Kd.N_step HN7.out (fun k hk hlt => hk8.block k hlt (ne_b0 HSZ.out.2.2.1 hk)))
   have HO8 := Aside0.mk hO8
   have HB8 := Aside0.mk (below_keeps HB7.out (M := fun k => k = o) (fun k hk => by rw [hk]; exact HSZ.out.2.1) HB7.out.size hk8)
   have HS8 := Aside0.mk (show b0 ≤ w8.heap.size from Nat.le_trans HS7.out hk8.size)
   clear hO8 hk8 HN7 HO7 HB7 HS7
   go_wp2
   go_round
   case rel => exact ⟨i + 1, npc_succ hq, by go_num, ⟨by rw [← take_piece]; exact HN8.out⟩, ⟨by have h := HO8.out; exact h⟩, HB8, HS8⟩
   case measure => simp [intOf]; omega
theorem sessPieces_row (w : World) (many : Int) {p : Prop} (_ : p) : Calls Try.prog 4 #[.int .i64 many] w fun e w' => e = .returned (.bool true) ∧ Below w.heap.size w w' := sessPieces_calls many w
end Go.Proofs.Ytjejhgjdmbodiaa.PO
end
