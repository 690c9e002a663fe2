/- What the rows of this claim use, out of the texts of this work (SE, SI, SO, SP, VB). No condition beyond those that each statement names. -/
import Derived.Test.YtjejhgjdmbodiaaZdUFY
import Derived.Test.YtjejhgjdmbodiaaZdUTS
import Derived.Test.YtjejhgjdmbodiaaZdSH
import Derived.Test.YtjejhgjdmbodiaaZdPQ3
section
namespace Go.Proofs.Ytjejhgjdmbodiaa.PO
open Go.RowKit Go.Proofs.YtjejhgjdmbodiaaW.PrintWords Go.Proofs.YtjejhgjdmbodiaaW.PrintLast Go.Proofs.YtjejhgjdmbodiaaW.PrintMore Go.Proofs.Ytjejhgjdmbodiaa.XW
open Go.Proofs.Ytjejhgjdmbodiaa.XRange
set_option linter.unusedVariables false
set_option linter.unusedSimpArgs false
def pieceOf (l : List S74) (i : Nat) : List S74 := (l.drop (8 * i)).take 8
theorem pieceOf_eq (l : List S74) (i : Nat) : (l.take (min (8 * i + 8) l.length)).drop (8 * i) = pieceOf l i := by
 unfold pieceOf
 rw [List.drop_take, List.take_eq_take_iff, List.length_drop]
 omega
theorem pieceOf_len (l : List S74) (i : Nat) : (pieceOf l i).length = min 8 (l.length - 8 * i) := by simp [pieceOf]
theorem pieceOf_mem {l : List S74} {i : Nat} {x : S74} (h : x ∈ pieceOf l i) : x ∈ l := List.mem_of_mem_drop (List.mem_of_mem_take h)
def nextF (d : OutD) (ack : Int) : Fr := if (npc d.l.length : Int) ≤ ack then zF else ⟨2, d.fr, d.tw, d.ct, d.se, ack, (npc d.l.length : Int), [], pieceOf d.l ack.toNat⟩
set_option maxHeartbeats 8000000 in
set_option maxRecDepth 100000 in
theorem outNext_calls (G : Nat → Prop) (o : Nat) (d : OutD) (ack : Int) (w : World) (h : OutAt G w o d ack) (h0 : 0 ≤ ack) (hn : d.l.length ≤ 1000000) (hz : ∀ x, x ∈ d.l → x.f1.length ≤ 1000000 ∧ x.f6.length ≤ 1000000) :
 Calls Try.prog 13 #[.pointer (some ⟨o, 0, none⟩)] w fun e w' => ∃ A8 c8, e = .returned (.tuple #[.agg #[.int .i64 (nextF d ack).k, .string (nextF d ack).fa, .string (nextF d ack).fb, .string (nextF d ack).ct, .int .i64 (nextF d ack).se, .int .i64 (nextF d ack).ix, .int .i64 (nextF d ack).mn, .slice none 0 0, .slice A8 (nextF d ack).op.length c8], .bool (decide (ack < (npc d.l.length : Int)))]) ∧
  (nextF d ack).kn = [] ∧ (nextF d ack).op.length ≤ c8 ∧ Kd.F k74 w' (fun k => w.heap.size ≤ k ∧ k < w'.heap.size) A8 (nextF d ack).op.length (nextF d ack).op ∧ Below w.heap.size w w' := by
 obtain ⟨ng, P, c, b, hO, hc, hF, hL⟩ := h
 have HOw := Aside0.mk hO
 have HF := Aside0.mk hF
 have HLL := Aside0.mk hL
 have HZ := Aside0.mk hz
 have HN0 := Aside0.mk h0
 have HNL := Aside0.mk hn
 have HCC := Aside0.mk hc
 have hoN := blk_lt hO
 obtain ⟨N, hN⟩ : ∃ N, w.heap.size = N := ⟨_, rfl⟩
 clear hF hL hz hn hc
 obtain ⟨w0, hw0⟩ : ∃ w0, w.alloc (.cells #[.int .i64 0, .string ⟨#[]⟩, .string ⟨#[]⟩, .string ⟨#[]⟩, .int .i64 0, .int .i64 0, .int .i64 0, .slice none 0 0, .slice none 0 0] 34) = w0 := ⟨_, rfl⟩
 have HB0 := Aside0.mk (show Below w.heap.size w w0 from by rw [← hw0]; exact (Below.refl _ w).alloc (Nat.le_refl _) _)
 have HX0 := Aside0.mk (show w0.heap[N]? = some (.cells #[.int .i64 0, .string ⟨#[]⟩, .string ⟨#[]⟩, .string ⟨#[]⟩, .int .i64 0, .int .i64 0, .int .i64 0, .slice none 0 0, .slice none 0 0] 34 (0, 0)) from by rw [← hw0, ← hN]; exact World.alloc_heap_new w _)
 have HO0 := Aside0.mk (blk_below HOw.out HB0.out)
 have HS0 := Aside0.mk (show w0.heap.size = N + 1 from by rw [← hw0, ← hN]; simp)
 clear hO
 go_enter Try.func13, Try.ntmps13
 go_wp2
 first | rw [hw0] | skip
 try rw [hN]
 clear hw0
 refine start_ (n := 14) (ds := []) (S := fun w' => w'.cell? ⟨o, 9, none⟩ = some (.slice P (npc d.l.length) c) ∧ w'.cell? ⟨o, 10, none⟩ = some (.int .i64 ack)) _ (by kernel_rfl) rfl rfl
  ⟨(blk_cell (blk_drew HO0.out) 9).trans rfl, (blk_cell (blk_drew HO0.out) 10).trans rfl⟩ (fun hH => ?_)
 refine XReg.pu 0 5 (h := ?_)
 refine XReg.pu 1 6 (h := ?_)
 refine XReg.pu 2 7 (h := ?_)
 refine XReg.pu 3 8 (h := ?_)
 refine XReg.pu 4 9 (h := ?_)
 refine XReg.pu 5 10 (h := ?_)
 refine XReg.tk 6 11 (h := ?_)
 refine XReg.pu 7 12 (h := ?_)
 refine XReg.pu 8 13 (h := ?_)
 refine XReg.pu 9 14 (h := ?_)
 refine XReg.tk 10 15 (h := ?_)
 refine XReg.pu 11 16 (h := ?_)
 refine XReg.pu 12 17 (h := ?_)
 refine XReg.pu 13 18 (h := ?_)
 refine done_ (by kernel_rfl) ?_
 clear hH
 obtain ⟨w1, hw1⟩ : ∃ w1, w0.drew = w1 := ⟨_, rfl⟩
 have hb01 : Below w0.heap.size w0 w1 := by rw [← hw1]; exact below_drew1 (Below.refl _ w0)
 have HX1 := Aside0.mk (blk_below HX0.out hb01)
 have HO1 := Aside0.mk (blk_below HO0.out hb01)
 have HB1 := Aside0.mk (HB0.out.trans (hb01.mono HB0.out.size))
 have HS1 := Aside0.mk (show w1.heap.size = N + 1 from by rw [← hw1]; exact HS0.out)
 rw [hw1]
 clear hw1 hb01 HX0 HO0 HB0 HS0
 by_cases hq : (npc d.l.length : Int) ≤ ack
 · have q1 : decide ((npc d.l.length : Int) ≤ ack) = true := by simp [hq]
   have HQ := Aside0.mk hq
   clear hq
   obtain ⟨e0, e1, e2, e3, e4, e5, e6, e7, e8⟩ := cells9 HX1.out
   obtain ⟨f0, f1, f2, f3, f4, f5, f6, f7, f8⟩ := froz9 HX1.out
   simp only [q1]
   go_wp2
   have h9 := set9 HX1.out (.int .i64 0) (.string ⟨#[]⟩) (.string ⟨#[]⟩) (.string ⟨#[]⟩) (.int .i64 0) (.int .i64 0) (.int .i64 0) (.slice none 0 0) (.slice none 0 0)
   obtain ⟨k0, k1, k2, k3, k4, k5, k6, k7, k8⟩ := cells9 h9
   have hk := below_keeps HB1.out (M := fun k => k = N) (fun k hk => by omega) HB1.out.size (keeps9 _ N (.int .i64 0) (.string ⟨#[]⟩) (.string ⟨#[]⟩) (.string ⟨#[]⟩) (.int .i64 0) (.int .i64 0) (.int .i64 0) (.slice none 0 0) (.slice none 0 0))
   have hf : nextF d ack = zF := by unfold nextF; rw [if_pos HQ.out]
   have hd : decide (ack < (npc d.l.length : Int)) = false := by have := HQ.out; simp; omega
   rw [hf, hd]
   exact bodyPost_ret (v := .tuple #[.agg #[.int .i64 0, .string ⟨#[]⟩, .string ⟨#[]⟩, .string ⟨#[]⟩, .int .i64 0, .int .i64 0, .int .i64 0, .slice none 0 0, .slice none 0 0], .bool false]) (by simp [results, Try.f13, go_sem, k0, k1, k2, k3, k4, k5, k6, k7, k8]) rfl ⟨none, 0, rfl, rfl, Nat.le_refl _, Kd.F_nil _ _ _, hk⟩
 · have q1 : decide ((npc d.l.length : Int) ≤ ack) = false := by simp; omega
   have HQ := Aside0.mk hq
   clear hq
   have n0 : w1.cell? ⟨o, 0, none⟩ = some (.int .i64 2) := (blk_cell HO1.out 0).trans rfl
   have n1 : w1.cell? ⟨o, 1, none⟩ = some (.string d.fr) := (blk_cell HO1.out 1).trans rfl
   have n2 : w1.cell? ⟨o, 2, none⟩ = some (.string d.tw) := (blk_cell HO1.out 2).trans rfl
   have n3 : w1.cell? ⟨o, 3, none⟩ = some (.string d.ct) := (blk_cell HO1.out 3).trans rfl
   have n4 : w1.cell? ⟨o, 4, none⟩ = some (.int .i64 d.se) := (blk_cell HO1.out 4).trans rfl
   have n5 : w1.cell? ⟨o, 5, none⟩ = some (.int .i64 0) := (blk_cell HO1.out 5).trans rfl
   have n6 : w1.cell? ⟨o, 6, none⟩ = some (.int .i64 0) := (blk_cell HO1.out 6).trans rfl
   have n7 : w1.cell? ⟨o, 7, none⟩ = some (.slice none 0 0) := (blk_cell HO1.out 7).trans rfl
   have n8 : w1.cell? ⟨o, 8, none⟩ = some (.slice none 0 0) := (blk_cell HO1.out 8).trans rfl
   simp only [q1]
   go_wp2
   have hM : w1.heap.size = N + 1 := HS1.out
   obtain ⟨w2, hw2⟩ : ∃ w2, w1.alloc (.cells #[.int .i64 2, .string d.fr, .string d.tw, .string d.ct, .int .i64 d.se, .int .i64 0, .int .i64 0, .slice none 0 0, .slice none 0 0] 34) = w2 := ⟨_, rfl⟩
   have hb12 : Below w1.heap.size w1 w2 := by rw [← hw2]; exact (Below.refl _ w1).alloc (Nat.le_refl _) _
   have HM2 := Aside0.mk (show w2.heap[N + 1]? = some (.cells #[.int .i64 2, .string d.fr, .string d.tw, .string d.ct, .int .i64 d.se, .int .i64 0, .int .i64 0, .slice none 0 0, .slice none 0 0] 34 (0, 0)) from by rw [← hw2, ← hM]; exact World.alloc_heap_new w1 _)
   have HX2 := Aside0.mk (blk_below HX1.out hb12)
   have HO2 := Aside0.mk (blk_below HO1.out hb12)
   have HB2 := Aside0.mk (HB1.out.trans (hb12.mono HB1.out.size))
   have HMN := Aside0.mk (show o < N ∧ w2.heap.size = N + 2 from ⟨by omega, by rw [← hw2]; simp [HS1.out]⟩)
   rw [hw2]
   try rw [hM]
   clear hw2 hM hb12 HX1 HO1 HB1 HS1 n0 n1 n2 n3 n4 n5 n6 n7 n8
   have hmn := HMN.out
   refine start_ (n := 13) (ds := []) (S := fun w' => w'.cell? ⟨o, 9, none⟩ = some (.slice P (npc d.l.length) c) ∧ w'.cell? ⟨o, 10, none⟩ = some (.int .i64 ack)) _ (by kernel_rfl) rfl rfl
    ⟨(blk_cell (blk_drew HO2.out) 9).trans rfl, (blk_cell (blk_drew HO2.out) 10).trans rfl⟩ (fun hH => ?_)
   refine XReg.pu 0 24 (h := ?_)
   refine XReg.pu 1 25 (h := ?_)
   refine XReg.pu 2 26 (h := ?_)
   refine XReg.tk 3 27 (h := ?_)
   refine XReg.pu 4 28 (h := ?_)
   refine XReg.pu 5 29 (h := ?_)
   refine XReg.pu 6 30 (h := ?_)
   refine XReg.tk 7 31 (h := ?_)
   refine XReg.pu 8 32 (h := ?_)
   refine XReg.pu 9 33 (h := ?_)
   have m5 : w2.cell? ⟨N + 1, 5, none⟩ = some (.int .i64 0) := (blk_cell HM2.out 5).trans rfl
   have g5 : w2.frozen? ⟨N + 1, 5, none⟩ = false := blk_frozen HM2.out 5
   refine XReg.one (i := 10) none rfl rfl (by kernel_rfl) (by decide) (fun Kc hKc => ?_)
   refine store_last rfl rfl (by first | (go_simp; done) | (go_simp; rfl)) ?_
   have HM3 := Aside0.mk (blk_set HM2.out 5 (.int .i64 ack))
   have HO3 := Aside0.mk (blk_far (p := ⟨N + 1, 5, none⟩) HO2.out (by show o ≠ N + 1; omega) (.int .i64 ack))
   refine hKc.out _ _ ⟨(blk_cell HO3.out 9).trans rfl, (blk_cell HO3.out 10).trans rfl⟩ (fun hH2 => ?_)
   clear hKc Kc hH m5 g5
   refine XReg.pu 11 34 (h := ?_)
   have m6 : (w2.setCell ⟨N + 1, 5, none⟩ (.int .i64 ack)).cell? ⟨N + 1, 6, none⟩ = some (.int .i64 0) := (blk_cell HM3.out 6).trans rfl
   have g6 : (w2.setCell ⟨N + 1, 5, none⟩ (.int .i64 ack)).frozen? ⟨N + 1, 6, none⟩ = false := blk_frozen HM3.out 6
   refine XReg.one (i := 12) none rfl rfl (by kernel_rfl) (by decide) (fun Kc hKc => ?_)
   refine store_last rfl rfl (by first | (go_simp; done) | (go_simp; rfl)) ?_
   have HM4 := Aside0.mk (blk_set HM3.out 6 (.int .i64 (npc d.l.length : Int)))
   have HO4 := Aside0.mk (blk_far (p := ⟨N + 1, 6, none⟩) HO3.out (by show o ≠ N + 1; omega) (.int .i64 (npc d.l.length : Int)))
   refine hKc.out _ _ ⟨(blk_cell HO4.out 9).trans rfl, (blk_cell HO4.out 10).trans rfl⟩ (fun hH3 => ?_)
   clear hKc Kc hH2 hH3 m6 g6
   refine done_ (by kernel_rfl) ?_
   obtain ⟨w4, hw4⟩ : ∃ w4, ((w2.setCell ⟨N + 1, 5, none⟩ (.int .i64 ack)).setCell ⟨N + 1, 6, none⟩ (.int .i64 (npc d.l.length : Int))).drew = w4 := ⟨_, rfl⟩
   rw [hw4]
   have HM5 := Aside0.mk (show w4.heap[N + 1]? = some (.cells #[.int .i64 2, .string d.fr, .string d.tw, .string d.ct, .int .i64 d.se, .int .i64 ack, .int .i64 (npc d.l.length : Int), .slice none 0 0, .slice none 0 0] 34 (0, 0)) from by rw [← hw4]; exact blk_drew HM4.out)
   have HO5 := Aside0.mk (show w4.heap[o]? = some (.cells (outCells d P (npc d.l.length) c ack) 78 (0, 0)) from by rw [← hw4]; exact blk_drew HO4.out)
   have HB5 := Aside0.mk (show Below w.heap.size w w4 from by rw [← hw4]; exact below_drew1 (below_set (below_set HB2.out (by show w.heap.size ≤ N + 1; omega)) (by show w.heap.size ≤ N + 1; omega)))
   have HX5 := Aside0.mk (show w4.heap[N]? = some (.cells #[.int .i64 0, .string ⟨#[]⟩, .string ⟨#[]⟩, .string ⟨#[]⟩, .int .i64 0, .int .i64 0, .int .i64 0, .slice none 0 0, .slice none 0 0] 34 (0, 0)) from by
    rw [← hw4]
    exact blk_drew (blk_far (p := ⟨N + 1, 6, none⟩) (blk_far (p := ⟨N + 1, 5, none⟩) HX2.out (by show N ≠ N + 1; omega) _) (by show N ≠ N + 1; omega) _))
   have HS4 := Aside0.mk (show w4.heap.size = N + 2 from by rw [← hw4]; have := hmn.2; simpa [World.setCell] using this)
   clear hw4 HM3 HO3 HM4 HO4 HB2 HM2 HO2 HX2
   obtain ⟨i, hi⟩ : ∃ i : Nat, ack = (i : Int) := ⟨ack.toNat, by omega⟩
   subst hi
   have hiN : i < npc d.l.length := by have := HQ.out; omega
   have hlp : 0 < d.l.length ∧ 8 * i < d.l.length := by unfold npc at hiN; omega
   obtain ⟨ad, cc, rfl, hcl, hfk, hcc, _⟩ := Kd.F_get (Kd.F_below HF.out HB5.out) [.slice none 0 0] (i : Int) (by omega) (by omega)
   have hx : (pcs b d.l.length (List.range (npc d.l.length))).getD (i : Int).toNat [.slice none 0 0] = [.slice (some ⟨b, 64 * i, none⟩) (pieceOf d.l i).length (pieceOf d.l i).length] := by
    rw [pieceOf_len]
    rw [Int.toNat_natCast]
    simp [List.getD, pcs, offV, hiN]
   rw [hx] at hfk
   obtain ⟨rfl, _, _⟩ := Kd.FK_now hfk
   have hp0 := hcc 0 _ (List.getElem?_cons_zero)
   have hsz : (Kd.raw 1).sz = 1 := rfl
   rw [hsz, Int.toNat_natCast, Nat.mul_one, Nat.add_zero] at hp0
   have HP0 := Aside0.mk hp0
   have HLC := Aside0.mk (show Kd.C k74 w4 (some ⟨b, 64 * i, none⟩) (pieceOf d.l i).length (pieceOf d.l i) from by
    have h1 := Kd.F_now (Kd.F_below (HLL.out hlp.1) HB5.out)
    have h2 := Kd.C_mid (lo := 8 * i) (hi := min (8 * i + 8) d.l.length) (c := d.l.length + 1) h1 (by omega) (by omega) (by omega)
    rw [pieceOf_eq, if_neg (by omega)] at h2
    have h3 : (some (⟨b, 0, none⟩ : Addr)).map (·.add (8 * i * k74.sz)) = some ⟨b, 64 * i, none⟩ := by
     have : k74.sz = 8 := rfl
     rw [this, Option.map_some, add_at]
     congr 2
     omega
    rwa [h3] at h2)
   clear hfk hcl hcc hx hp0 hsz
   go_wp2
   refine start_ (n := 13) (ds := [12]) (S := fun w' => w'.cell? ⟨o, 9, none⟩ = some (.slice (some ad) (npc d.l.length) c) ∧ w'.cell? ⟨o, 10, none⟩ = some (.int .i64 (i : Int)) ∧ w'.cell? (ad.add i) = some (.slice (some ⟨b, 64 * i, none⟩) (pieceOf d.l i).length (pieceOf d.l i).length)) _ (by kernel_rfl) rfl rfl
    ⟨(blk_cell (blk_drew HO5.out) 9).trans rfl, (blk_cell (blk_drew HO5.out) 10).trans rfl, HP0.out⟩ (fun hH => ?_)
   refine XReg.pu 0 35 (h := ?_)
   refine XReg.pu 1 36 (h := ?_)
   refine XReg.pu 2 37 (h := ?_)
   refine XReg.tk 3 38 (h := ?_)
   refine XReg.pu 4 39 (h := ?_)
   refine XReg.pu 5 40 (h := ?_)
   refine XReg.pu 6 41 (h := ?_)
   refine XReg.tk 7 42 (h := ?_)
   refine XReg.pu 8 43 (h := ?_)
   refine XReg.tk 9 44 (h := ?_)
   have hs4 : w4.heap.size = N + 2 := by have := HS4.out; exact this
   refine XReg.one (i := 10) (some 45) rfl rfl (by kernel_rfl) (by decide) (fun Kc hKc => ?_)
   refine goes_ Try.func40 (by kernel_rfl) rfl #[.slice (some ⟨b, 64 * i, none⟩) (pieceOf d.l i).length (pieceOf d.l i).length] (by rfl) rfl rfl (by (try simp only [List.map_toArray, List.map_cons, List.map_nil]); first | done | rfl) ?_
   refine (owns_calls (pieceOf d.l i) (some ⟨b, 64 * i, none⟩) _ _ (Kd.C_drew HLC.out) (Nat.le_refl _) (by rw [pieceOf_len]; omega) (fun x hx => HZ.out x (pieceOf_mem hx))).mono ?_
   rintro e w5 ⟨v0, rfl, hS, hb⟩
   refine ⟨_, rfl, ?_⟩
   obtain ⟨A8, c8, rfl⟩ := Kd.S_slice hS
   have hb' : Below w4.heap.size w4 w5 := ⟨hb.os, hb.tape, hb.output, hb.size, hb.block⟩
   have HS := Aside0.mk hS
   have HM6 := Aside0.mk (blk_below HM5.out hb')
   have HX6 := Aside0.mk (blk_below HX5.out hb')
   have HB6 := Aside0.mk (HB5.out.trans (hb'.mono HB5.out.size))
   refine hKc.out _ _ ⟨(blk_cell (blk_below HO5.out hb') 9).trans rfl, (blk_cell (blk_below HO5.out hb') 10).trans rfl, (hb'.cell (World.block_lt_of_cell? _ _ HP0.out)).trans HP0.out⟩ (fun hH2 => ?_)
   clear hKc Kc hH hS hb hb' hH2
   refine XReg.pu 11 46 (h := ?_)
   have m8 : w5.cell? ⟨N + 1, 8, none⟩ = some (.slice none 0 0) := (blk_cell HM6.out 8).trans rfl
   have g8 : w5.frozen? ⟨N + 1, 8, none⟩ = false := blk_frozen HM6.out 8
   refine XReg.last (i := 12) none rfl rfl (by kernel_rfl) (by decide) (fun Kc hKc => ?_)
   refine store_last rfl rfl (by first | (go_simp; done) | (go_simp; rfl)) ?_
   refine hKc.out _ _ ?_
   clear hKc Kc m8 g8
   refine done_ (by kernel_rfl) ?_
   have HM7 := Aside0.mk (blk_set HM6.out 8 (.slice A8 (pieceOf d.l i).length c8))
   have HX7 := Aside0.mk (blk_far (p := ⟨N + 1, 8, none⟩) HX6.out (by show N ≠ N + 1; omega) (.slice A8 (pieceOf d.l i).length c8))
   have HB7 := Aside0.mk (show Below w.heap.size w (w5.setCell ⟨N + 1, 8, none⟩ (.slice A8 (pieceOf d.l i).length c8)) from below_set HB6.out (by show w.heap.size ≤ N + 1; omega))
   have HS7 := Aside0.mk (Kd.S_far (p := ⟨N + 1, 8, none⟩) (Kd.S_bound HS.out) (fun k hk => by have h1 := hk.2.1; have h2 : w4.drew.heap.size = N + 2 := hs4; show k ≠ N + 1; omega) (.slice A8 (pieceOf d.l i).length c8))
   obtain ⟨w6, hw6⟩ : ∃ w6, w5.setCell ⟨N + 1, 8, none⟩ (.slice A8 (pieceOf d.l i).length c8) = w6 := ⟨_, rfl⟩
   rw [hw6] at HM7 HX7 HB7 HS7 ⊢
   clear hw6 HM6 HX6 HB6 HS
   obtain ⟨n0, n1, n2, n3, n4, n5, n6, n7, n8⟩ := cells9 HM7.out
   obtain ⟨e0, e1, e2, e3, e4, e5, e6, e7, e8⟩ := cells9 HX7.out
   obtain ⟨f0, f1, f2, f3, f4, f5, f6, f7, f8⟩ := froz9 HX7.out
   go_wp2
   have h9 := set9 HX7.out (.int .i64 2) (.string d.fr) (.string d.tw) (.string d.ct) (.int .i64 d.se) (.int .i64 (i : Int)) (.int .i64 (npc d.l.length : Int)) (.slice none 0 0) (.slice A8 (pieceOf d.l i).length c8)
   obtain ⟨k0, k1, k2, k3, k4, k5, k6, k7, k8⟩ := cells9 h9
   have hkN := keeps9 w6 N (.int .i64 2) (.string d.fr) (.string d.tw) (.string d.ct) (.int .i64 d.se) (.int .i64 (i : Int)) (.int .i64 (npc d.l.length : Int)) (.slice none 0 0) (.slice A8 (pieceOf d.l i).length c8)
   have hk := below_keeps HB7.out (M := fun k => k = N) (fun k hk => by omega) HB7.out.size hkN
   have hS9 := Kd.S_step HS7.out (fun k hk hlt => hkN.block k hlt (by have h1 := hk.2.1; have h2 : w4.drew.heap.size = N + 2 := hs4; omega))
   have hf : nextF d (i : Int) = ⟨2, d.fr, d.tw, d.ct, d.se, (i : Int), (npc d.l.length : Int), [], pieceOf d.l i⟩ := by unfold nextF; rw [if_neg (by have := HQ.out; omega), Int.toNat_natCast]
   have hd : decide ((i : Int) < (npc d.l.length : Int)) = true := by simp; omega
   rw [hf, hd]
   exact bodyPost_ret (v := .tuple #[.agg #[.int .i64 2, .string d.fr, .string d.tw, .string d.ct, .int .i64 d.se, .int .i64 (i : Int), .int .i64 (npc d.l.length : Int), .slice none 0 0, .slice A8 (pieceOf d.l i).length c8], .bool true]) (by simp [results, Try.f13, go_sem, k0, k1, k2, k3, k4, k5, k6, k7, k8]) rfl ⟨A8, c8, rfl, rfl, (Kd.S_reads' hS9).2.1, Kd.F_mono (Kd.S_F (Kd.S_bound hS9)) (fun k hk => ⟨by have h1 := hk.2.1; have h2 : w4.drew.heap.size = N + 2 := hs4; omega, hk.2.2.1⟩), hk⟩
end Go.Proofs.Ytjejhgjdmbodiaa.PO
end
section
namespace Go.Proofs.Ytjejhgjdmbodiaa.PO
open Go.RowKit Go.Proofs.YtjejhgjdmbodiaaW.PrintWords Go.Proofs.YtjejhgjdmbodiaaW.PrintLast Go.Proofs.YtjejhgjdmbodiaaW.PrintMore Go.Proofs.Ytjejhgjdmbodiaa.XW
open Go.Proofs.Ytjejhgjdmbodiaa.XRange Go.Proofs.Ytjejhgjdmbodiaa.XMap
set_option linter.unusedVariables false
set_option linter.unusedSimpArgs false
theorem inTake0_calls (i m : Nat) (who : ByteArray) (D : List (Whose × Curs)) (f : Fr) (A8 : Option Addr) (c8 : Nat) (w : World) (h : InAt w i m who D) (hD : D.length ≤ 1000000) (hW : WfD D) (hk : f.kn = []) (l8 : f.op.length ≤ c8) (g8 : Kd.C k74 w A8 f.op.length f.op) :
 Calls Try.prog 23 #[.pointer (some ⟨i, 0, none⟩), .agg #[.int .i64 f.k, .string f.fa, .string f.fb, .string f.ct, .int .i64 f.se, .int .i64 f.ix, .int .i64 f.mn, .slice none 0 0, .slice A8 f.op.length c8]] w (InAns w i m who D f) := by
 have h1 := inTake_calls i m who D f none 0 A8 c8 w h hD hW (by rw [hk]; exact Nat.le_refl _) (by rw [hk]; exact Kd.C_nil _ _) l8 g8
 have h2 : f.kn.length = 0 := by rw [hk]; rfl
 rw [h2] at h1
 exact h1
theorem outTake0_calls (G : Nat → Prop) (o : Nat) (d : OutD) (ack : Int) (f : Fr) (w : World) (h : OutAt G w o d ack) (hk : f.kn = []) (ho : f.op = []) :
 Calls Try.prog 17 #[.pointer (some ⟨o, 0, none⟩), .agg #[.int .i64 f.k, .string f.fa, .string f.fb, .string f.ct, .int .i64 f.se, .int .i64 f.ix, .int .i64 f.mn, .slice none 0 0, .slice none 0 0]] w fun e w' => e = .returned (.int .i64 (takeE d f)) ∧ OutAt G w' o d (takeK d ack f) ∧ Keeps (fun k => k = o) w w' := by
 have h1 := outTake_calls G o d ack f none 0 none 0 w h (by rw [hk]; exact Nat.le_refl _) (by rw [hk]; exact Kd.C_nil _ _) (by rw [ho]; exact Nat.le_refl _) (by rw [ho]; exact Kd.C_nil _ _)
 have h2 : f.kn.length = 0 := by rw [hk]; rfl
 have h3 : f.op.length = 0 := by rw [ho]; rfl
 rw [h2, h3] at h1
 exact h1
theorem OutAt.weak {G G' : Nat → Prop} {w : World} {o : Nat} {d : OutD} {ack : Int} (h : OutAt G w o d ack) (hG : ∀ k, G k → G' k) (hn : ¬ G' o) : OutAt G' w o d ack := by
 obtain ⟨ng, P, c, b, h1, h2, h3, h4⟩ := h
 exact ⟨hn, P, c, b, h1, h2, Kd.F_mono h3 hG, fun h => Kd.F_mono (h4 h) hG⟩
def d9 : OutD := ⟨⟨#[97]⟩, ⟨#[98]⟩, ⟨#[99]⟩, 1, listO 9⟩
theorem d9_ok : okOut d9 = true := by kernel_rfl
theorem d9_next : nextF d9 0 = ⟨2, ⟨#[97]⟩, ⟨#[98]⟩, ⟨#[99]⟩, 1, 0, 2, [], pieceOf (listO 9) 0⟩ := by kernel_rfl
theorem d9_next1 : nextF d9 1 = ⟨2, ⟨#[97]⟩, ⟨#[98]⟩, ⟨#[99]⟩, 1, 1, 2, [], pieceOf (listO 9) 1⟩ := by kernel_rfl
def f9 : Fr := ⟨3, ⟨#[98]⟩, ⟨#[97]⟩, ⟨#[99]⟩, 1, 1, 0, [], []⟩
theorem d9_right : rightF ⟨2, ⟨#[97]⟩, ⟨#[98]⟩, ⟨#[99]⟩, 1, 0, 2, [], pieceOf (listO 9) 0⟩ = true := by kernel_rfl
theorem d9_take : inTake ⟨#[98]⟩ [] ⟨2, ⟨#[97]⟩, ⟨#[98]⟩, ⟨#[99]⟩, 1, 0, 2, [], pieceOf (listO 9) 0⟩ = ⟨pieceOf (listO 9) 0, f9, 0, [((⟨#[97]⟩, ⟨#[99]⟩), (1, 1))]⟩ := by
 unfold inTake
 rw [d9_right]
 rfl
theorem d9_ack : takeE d9 f9 = 0 ∧ takeK d9 0 f9 = 1 := by
 have h : takeE d9 f9 = 0 := by
  unfold takeE
  have h1 : rightF f9 = true := by kernel_rfl
  rw [h1]
  rfl
 exact ⟨h, by unfold takeK; rw [if_pos h]; rfl⟩
theorem d9_len : (pieceOf (listO 9) 0).length = 8 ∧ (pieceOf (listO 9) 1).length = 1 := ⟨by rw [pieceOf_len, listO_len]; rfl, by rw [pieceOf_len, listO_len]; rfl⟩
theorem d9_sizes : ∀ x, x ∈ d9.l → x.f1.length ≤ 1000000 ∧ x.f6.length ≤ 1000000 := by
 intro x hx
 unfold d9 listO at hx
 simp only [List.mem_map, List.mem_range] at hx
 obtain ⟨i, _, rfl⟩ := hx
 unfold madeO
 constructor
 · show (if _ then _ else _ : List S72).length ≤ _
   split <;> simp
 · simp
set_option maxHeartbeats 8000000 in
set_option maxRecDepth 100000 in
theorem shown_calls (w : World) : Calls Try.prog 10 #[] w fun e w' => e = .returned (.bool true) ∧ Below w.heap.size w w' := by
 obtain ⟨N, hN⟩ : ∃ N, w.heap.size = N := ⟨_, rfl⟩
 go_enter Try.func10, Try.ntmps10
 go_wp2_with fail
 refine (list_calls 9 (by omega) w).mono ?_
 rintro e w1 ⟨v0, rfl, hS, hb⟩
 obtain ⟨A, c, rfl, hc, hC⟩ := Kd.S_reads hS
 have HB1 := Aside0.mk hb
 have HC := Aside0.mk hC
 have HCL := Aside0.mk hc
 clear hS hb hC hc
 go_wp2_with fail
 refine (newOut_calls d9 A c w1 HCL.out HC.out d9_ok).mono ?_
 rintro e w2 ⟨o, rfl, hO, hol, hb⟩
 have HO2 := Aside0.mk (hO.weak (G' := fun k => w1.heap.size ≤ k ∧ k < w2.heap.size ∧ k ≠ o) (fun k hk => hk) (fun h => h.2.2 rfl))
 have HB2 := Aside0.mk (HB1.out.trans (hb.mono HB1.out.size))
 have HOL := Aside0.mk (show w1.heap.size ≤ o ∧ w.heap.size ≤ w1.heap.size from ⟨hol, HB1.out.size⟩)
 clear hO hb hol
 go_wp2_with fail
 refine (newIn_calls ⟨#[98]⟩ _ (by kernel_rfl)).mono ?_
 rintro e w3 ⟨i, m, rfl, hI, hi, hm, hb⟩
 have HO3 := Aside0.mk (HO2.out.below hb)
 have HI3 := Aside0.mk hI
 have HIM := Aside0.mk (show w2.heap.size ≤ i ∧ w2.heap.size ≤ m from ⟨hi, hm⟩)
 have HB3 := Aside0.mk (HB2.out.trans (hb.mono HB2.out.size))
 clear hI hi hm hb
 go_wp2_with fail
 refine (outNext_calls _ o d9 0 _ HO3.out (by omega) (by show (listO 9).length ≤ 1000000; rw [listO_len]; omega) d9_sizes).mono ?_
 rw [d9_next]
 rintro e w4 ⟨A8, c8, rfl, _, h8, hC8, hb⟩
 dsimp only
 have HO4 := Aside0.mk (HO3.out.below hb)
 have HI4 := Aside0.mk (HI3.out.below hb)
 have HB4 := Aside0.mk (HB3.out.trans (hb.mono HB3.out.size))
 have HC4 := Aside0.mk (Kd.F_now hC8)
 have HL4 := Aside0.mk h8
 have HSZ := Aside0.mk (show o < w2.heap.size from HO2.out.lt)
 clear hb hC8 h8 HO3 HI3 HB3
 obtain ⟨w5, hw5⟩ : ∃ w5, w4.alloc (.cells #[.int .i64 2, .string ⟨#[97]⟩, .string ⟨#[98]⟩, .string ⟨#[99]⟩, .int .i64 1, .int .i64 0, .int .i64 2, .slice none 0 0, .slice A8 (pieceOf (listO 9) 0).length c8] 34) = w5 := ⟨_, rfl⟩
 have hb5 : Below w4.heap.size w4 w5 := by rw [← hw5]; exact (Below.refl _ w4).alloc (Nat.le_refl _) _
 have hF := World.alloc_heap_new w4 (.cells #[.int .i64 2, .string ⟨#[97]⟩, .string ⟨#[98]⟩, .string ⟨#[99]⟩, .int .i64 1, .int .i64 0, .int .i64 2, .slice none 0 0, .slice A8 (pieceOf (listO 9) 0).length c8] 34)
 rw [hw5] at hF
 obtain ⟨c0, c1, c2, c3, c4, c5, c6, c7, c8'⟩ := cells9 hF
 have h1 : decide ((0 : Int) < (npc d9.l.length : Int)) = true := by kernel_rfl
 simp only [h1]
 go_wp2_with fail
 first | rw [hw5] | skip
 refine (inTake0_calls i m ⟨#[98]⟩ [] ⟨2, ⟨#[97]⟩, ⟨#[98]⟩, ⟨#[99]⟩, 1, 0, 2, [], pieceOf (listO 9) 0⟩ A8 c8 w5 (HI4.out.below hb5) (by simp) (fun p hp => by cases hp) rfl HL4.out (Kd.C_below HC4.out hb5)).mono ?_
 unfold InAns
 rw [d9_take]
 rintro e w6 ⟨B8, e8, rfl, _, _, _, _, hI6, hk6⟩
 have HB6 := Aside0.mk (show Below w.heap.size w w6 from below_keeps (HB4.out.trans (hb5.mono HB4.out.size)) (M := fun k => k = m) (fun k hk => by have := HIM.out; have := HB2.out.size; omega) (by have := HB4.out.size; have := hb5.size; omega) hk6)
 have HO6 := Aside0.mk ((HO4.out.below hb5).step (hk6.block o (HO4.out.below hb5).lt (by have := HSZ.out; have := HIM.out; omega)) (fun k hk hlt => hk6.block k hlt (by have := HIM.out; omega)))
 clear hk6 hI6 hF hb5 hw5 HO4 HI4 HB4 HC4 HL4
 dsimp only [f9]
 go_wp2_with fail
 obtain ⟨M, hM⟩ : ∃ M, w6.heap.size = M := ⟨_, rfl⟩
 obtain ⟨w7, hw7⟩ : ∃ w7, w6.alloc (.cells #[.int .i64 3, .string ⟨#[98]⟩, .string ⟨#[97]⟩, .string ⟨#[99]⟩, .int .i64 1, .int .i64 1, .int .i64 0, .slice none 0 0, .slice none 0 0] 34) = w7 := ⟨_, rfl⟩
 have hb7 : Below w6.heap.size w6 w7 := by rw [← hw7]; exact (Below.refl _ w6).alloc (Nat.le_refl _) _
 have HM7 := Aside0.mk (show w7.heap[M]? = some (.cells #[.int .i64 3, .string ⟨#[98]⟩, .string ⟨#[97]⟩, .string ⟨#[99]⟩, .int .i64 1, .int .i64 1, .int .i64 0, .slice none 0 0, .slice none 0 0] 34 (0, 0)) from by rw [← hw7, ← hM]; exact World.alloc_heap_new w6 _)
 rw [hw7]
 try rw [hM]
 have HO7 := Aside0.mk (HO6.out.below hb7)
 have HB7 := Aside0.mk (HB6.out.trans (hb7.mono HB6.out.size))
 have HMO := Aside0.mk (show o < M ∧ w.heap.size ≤ o from ⟨by rw [← hM]; exact HO6.out.lt, by have := HOL.out; omega⟩)
 clear hw7 hb7 hM HO6 HB6
 refine (outTake0_calls _ o d9 0 f9 w7 HO7.out rfl rfl).mono ?_
 rw [d9_ack.1, d9_ack.2]
 rintro e w8 ⟨rfl, hO8, hk8⟩
 have HO8 := Aside0.mk hO8
 have HM8 := Aside0.mk ((hk8.block M (blk_lt HM7.out) (by have := HMO.out; omega)).trans HM7.out)
 have HB8 := Aside0.mk (below_keeps HB7.out (M := fun k => k = o) (fun k hk => by have := HMO.out; omega) HB7.out.size hk8)
 clear hO8 hk8 HO7 HM7 HB7
 go_wp2_with fail
 refine (outNext_calls _ o d9 1 _ HO8.out (by omega) (by show (listO 9).length ≤ 1000000; rw [listO_len]; omega) d9_sizes).mono ?_
 rw [d9_next1]
 rintro e w9 ⟨C8, g8, rfl, _, _, _, hb⟩
 dsimp only
 have HM9 := Aside0.mk (blk_below HM8.out hb)
 have HB9 := Aside0.mk (HB8.out.trans (hb.mono HB8.out.size))
 obtain ⟨K, hK⟩ : ∃ K, w9.heap.size = K := ⟨_, rfl⟩
 have h2 : decide ((1 : Int) < (npc d9.l.length : Int)) = true := by kernel_rfl
 simp only [h2, d9_len.1, d9_len.2]
 clear hb HO8 HM8 HB8
 obtain ⟨wa, hwa⟩ : ∃ wa, w9.alloc (.cells #[.int .i64 2, .string ⟨#[97]⟩, .string ⟨#[98]⟩, .string ⟨#[99]⟩, .int .i64 1, .int .i64 1, .int .i64 2, .slice none 0 0, .slice C8 1 g8] 34) = wa := ⟨_, rfl⟩
 have hba : Below w9.heap.size w9 wa := by rw [← hwa]; exact (Below.refl _ w9).alloc (Nat.le_refl _) _
 have HKa := Aside0.mk (show wa.heap[K]? = some (.cells #[.int .i64 2, .string ⟨#[97]⟩, .string ⟨#[98]⟩, .string ⟨#[99]⟩, .int .i64 1, .int .i64 1, .int .i64 2, .slice none 0 0, .slice C8 1 g8] 34 (0, 0)) from by rw [← hwa, ← hK]; exact World.alloc_heap_new w9 _)
 have HMa := Aside0.mk (blk_below HM9.out hba)
 have HBa := Aside0.mk (HB9.out.trans (hba.mono HB9.out.size))
 have m5 : wa.cell? ⟨M, 5, none⟩ = some (.int .i64 1) := (blk_cell HMa.out 5).trans rfl
 have k5 : wa.cell? ⟨K, 5, none⟩ = some (.int .i64 1) := (blk_cell HKa.out 5).trans rfl
 have k8 : wa.cell? ⟨K, 8, none⟩ = some (.slice C8 1 g8) := (blk_cell HKa.out 8).trans rfl
 clear hba HM9 HB9
 go_wp2
 go_ret
 exact ⟨rfl, by first | exact HBa.out | (rw [← hN]; exact HBa.out)⟩
end Go.Proofs.Ytjejhgjdmbodiaa.PO
end
section
namespace Go.Proofs.Ytjejhgjdmbodiaa.PO
open Go.RowKit Go.Proofs.YtjejhgjdmbodiaaW.PrintWords Go.Proofs.YtjejhgjdmbodiaaW.PrintLast Go.Proofs.YtjejhgjdmbodiaaW.PrintMore Go.Proofs.Ytjejhgjdmbodiaa.XW
open Go.Proofs.Ytjejhgjdmbodiaa.XRange Go.Proofs.Ytjejhgjdmbodiaa.XMap
attribute [local go_sem] max2_int min2_int max_two min_two
set_option linter.unusedVariables false
set_option linter.unusedSimpArgs false
def kFr : Kd Fr := Kd.iso (Kd.pair (Kd.int .i64) (Kd.pair Kd.string (Kd.pair Kd.string (Kd.pair Kd.string (Kd.pair (Kd.int .i64) (Kd.pair (Kd.int .i64) (Kd.pair (Kd.int .i64) (Kd.pair (Kd.slice 72 k72) (Kd.slice 74 k74))))))))) (fun x : Fr => (x.k, x.fa, x.fb, x.ct, x.se, x.ix, x.mn, x.kn, x.op))
theorem kFr_open {w : World} {x : Fr} {cs : List Value} (h : kFr.K w x cs) : ∃ A7 c7 A8 c8, cs = [.int .i64 x.k, .string x.fa, .string x.fb, .string x.ct, .int .i64 x.se, .int .i64 x.ix, .int .i64 x.mn, .slice A7 x.kn.length c7, .slice A8 x.op.length c8] ∧ x.kn.length ≤ c7 ∧ Kd.C k72 w A7 x.kn.length x.kn ∧ x.op.length ≤ c8 ∧ Kd.C k74 w A8 x.op.length x.op := by
 obtain ⟨_, _, rfl, rfl, ⟨_, _, rfl, rfl, ⟨_, _, rfl, rfl, ⟨_, _, rfl, rfl, ⟨_, _, rfl, rfl, ⟨_, _, rfl, rfl, ⟨_, _, rfl, rfl, ⟨_, _, rfl, ⟨A7, c7, rfl, l7, g7⟩, ⟨A8, c8, rfl, l8, g8⟩⟩⟩⟩⟩⟩⟩⟩⟩ := h
 exact ⟨A7, c7, A8, c8, rfl, l7, g7, l8, g8⟩
structure FrAt (w : World) (p : Addr) (f : Fr) (A7 : Option Addr) (c7 : Nat) (A8 : Option Addr) (c8 : Nat) : Prop where
 e0 : w.cell? p = some (.int .i64 f.k)
 e1 : w.cell? ⟨p.block, p.off + 1, none⟩ = some (.string f.fa)
 e2 : w.cell? ⟨p.block, p.off + 2, none⟩ = some (.string f.fb)
 e3 : w.cell? ⟨p.block, p.off + 3, none⟩ = some (.string f.ct)
 e4 : w.cell? ⟨p.block, p.off + 4, none⟩ = some (.int .i64 f.se)
 e5 : w.cell? ⟨p.block, p.off + 5, none⟩ = some (.int .i64 f.ix)
 e6 : w.cell? ⟨p.block, p.off + 6, none⟩ = some (.int .i64 f.mn)
 e7 : w.cell? ⟨p.block, p.off + 7, none⟩ = some (.slice A7 f.kn.length c7)
 e8 : w.cell? ⟨p.block, p.off + 8, none⟩ = some (.slice A8 f.op.length c8)
theorem FrAt.move {w w1 : World} {p : Addr} {f : Fr} {A7 : Option Addr} {c7 : Nat} {A8 : Option Addr} {c8 : Nat} {b : Nat} (h : FrAt w p f A7 c7 A8 c8) (hb : Below b w w1) (hp : p.block < b) : FrAt w1 p f A7 c7 A8 c8 := by
 have st : ∀ {q : Addr} {u : Value}, q.block = p.block → w.cell? q = some u → w1.cell? q = some u := fun hq hc => (hb.cell (by rw [hq]; exact hp)).trans hc
 exact ⟨st rfl h.e0, st rfl h.e1, st rfl h.e2, st rfl h.e3, st rfl h.e4, st rfl h.e5, st rfl h.e6, st rfl h.e7, st rfl h.e8⟩
theorem frAt {w : World} {A : Option Addr} {n : Nat} {xs : List Fr} (h : Kd.C kFr w A n xs) (i : Nat) (h1 : i < n) : ∃ ad A7 c7 A8 c8, A = some ad ∧ FrAt w (ad.add (i * 9)) (xs.getD i zF) A7 c7 A8 c8 ∧ (ad.add (i * 9)).block < w.heap.size ∧ (xs.getD i zF).kn.length ≤ c7 ∧ Kd.C k72 w A7 (xs.getD i zF).kn.length (xs.getD i zF).kn ∧ (xs.getD i zF).op.length ≤ c8 ∧ Kd.C k74 w A8 (xs.getD i zF).op.length (xs.getD i zF).op := by
 obtain ⟨ad, c, e, _, hK, hc0⟩ := Kd.C_get h zF (i : Int) (by omega) (by omega)
 have hc : ∀ j u, c[j]? = some u → w.cell? (ad.add (i * 9 + j)) = some u := hc0
 rw [Int.toNat_natCast] at hK
 obtain ⟨A7, c7, A8, c8, rfl, l7, g7, l8, g8⟩ := kFr_open hK
 have h0 := hc 0 _ rfl
 exact ⟨ad, A7, c7, A8, c8, e, ⟨h0, by rw [← add_field _ _ 1 (by omega)]; exact hc 1 _ rfl, by rw [← add_field _ _ 2 (by omega)]; exact hc 2 _ rfl, by rw [← add_field _ _ 3 (by omega)]; exact hc 3 _ rfl, by rw [← add_field _ _ 4 (by omega)]; exact hc 4 _ rfl, by rw [← add_field _ _ 5 (by omega)]; exact hc 5 _ rfl, by rw [← add_field _ _ 6 (by omega)]; exact hc 6 _ rfl, by rw [← add_field _ _ 7 (by omega)]; exact hc 7 _ rfl, by rw [← add_field _ _ 8 (by omega)]; exact hc 8 _ rfl⟩, World.block_lt_of_cell? w _ h0, l7, g7, l8, g8⟩
theorem refEqual0_calls (f : Fr) (A8 : Option Addr) (c8 : Nat) (B8 : Option Addr) (d8 : Nat) (w : World) (hk : f.kn = []) (l8 : f.op.length ≤ c8) (g8 : Kd.C k74 w A8 f.op.length f.op) (m8 : f.op.length ≤ d8) (h8 : Kd.C k74 w B8 f.op.length f.op) :
 Calls Try.prog 15 #[.agg #[.int .i64 f.k, .string f.fa, .string f.fb, .string f.ct, .int .i64 f.se, .int .i64 f.ix, .int .i64 f.mn, .slice none 0 0, .slice A8 f.op.length c8], .agg #[.int .i64 f.k, .string f.fa, .string f.fb, .string f.ct, .int .i64 f.se, .int .i64 f.ix, .int .i64 f.mn, .slice none 0 0, .slice B8 f.op.length d8]] w
  fun e w' => e = .returned (.bool true) ∧ Below w.heap.size w w' := by
 have h := refEqualF_calls f none 0 A8 c8 f none 0 B8 d8 w (by rw [hk]; exact Nat.le_refl _) (by rw [hk]; exact Kd.C_nil _ _) l8 g8 (by rw [hk]; exact Nat.le_refl _) (by rw [hk]; exact Kd.C_nil _ _) m8 h8
 have h2 : f.kn.length = 0 := by rw [hk]; rfl
 rw [h2, eqR_iff.2 rfl] at h
 exact h
end Go.Proofs.Ytjejhgjdmbodiaa.PO
end
section
namespace Go.Proofs.Ytjejhgjdmbodiaa.PO
open Go.RowKit Go.Proofs.YtjejhgjdmbodiaaW.PrintWords Go.Proofs.YtjejhgjdmbodiaaW.PrintLast Go.Proofs.YtjejhgjdmbodiaaW.PrintMore Go.Proofs.Ytjejhgjdmbodiaa.XW
open Go.Proofs.Ytjejhgjdmbodiaa.XRange Go.Proofs.Ytjejhgjdmbodiaa.XMap
set_option linter.unusedVariables false
set_option linter.unusedSimpArgs false
set_option maxHeartbeats 8000000 in
set_option maxRecDepth 100000 in
theorem inCursor_calls (i m : Nat) (who : ByteArray) (D : List (Whose × Curs)) (a b : ByteArray) (w : World) (h : InAt w i m who D) :
 Calls Try.prog 25 #[.pointer (some ⟨i, 0, none⟩), .string a, .string b] w fun e w' => e = .returned (.tuple #[.int .i64 (curOf D (a, b)).1, .int .i64 (curOf D (a, b)).2]) ∧ Below w.heap.size w w' := by
 obtain ⟨⟨cs, cm⟩, hc⟩ : ∃ c : Curs, curOf D (a, b) = c := ⟨_, rfl⟩
 have hl : (Instr.lookup 86 (.map (some m)) (.agg #[.string a, .string b]) false).run Try.prog w = .ok (.agg #[.int .i64 cs, .int .i64 cm]) w := by
  have h1 := lookW h.mp (a, b)
  rw [hc] at h1
  exact h1
 have m1 : w.cell? ⟨i, 1, none⟩ = some (.map (some m)) := (blk_cell h.blk 1).trans rfl
 obtain ⟨N, hN⟩ : ∃ N, w.heap.size = N := ⟨_, rfl⟩
 rw [hc]
 clear hc h
 go_enter Try.func25, Try.ntmps25
 go_wp2
 obtain ⟨w1, hw1⟩ : ∃ w1, w.alloc (.cells #[.int .i64 cs, .int .i64 cm] 95) = w1 := ⟨_, rfl⟩
 have HB1 := Aside0.mk (show Below w.heap.size w w1 from by rw [← hw1]; exact (Below.refl _ w).alloc (Nat.le_refl _) _)
 have HN1 := Aside0.mk (show w1.heap[N]? = some (.cells #[.int .i64 cs, .int .i64 cm] 95 (0, 0)) from by rw [← hw1, ← hN]; exact World.alloc_heap_new w _)
 try rw [hw1]
 try rw [hN]
 clear hw1
 refine start_ (n := 6) (ds := []) (S := fun w' => w'.cell? ⟨N, 0, none⟩ = some (.int .i64 cs) ∧ w'.cell? ⟨N, 1, none⟩ = some (.int .i64 cm)) _ (by kernel_rfl) rfl rfl ⟨(blk_cell (blk_drew HN1.out) 0).trans rfl, (blk_cell (blk_drew HN1.out) 1).trans rfl⟩ (fun hH => ?_)
 refine XReg.pu 0 19 (h := ?_)
 refine XReg.tk 1 20 (h := ?_)
 refine XReg.pu 2 21 (h := ?_)
 refine XReg.tk 3 22 (h := ?_)
 refine XReg.pu 4 6 (h := ?_)
 refine XReg.pu 5 7 (h := ?_)
 refine done_ (by kernel_rfl) ?_
 go_wp2
 go_ret2
 exact ⟨rfl, by first | exact below_drew1 HB1.out | (rw [← hN]; exact below_drew1 HB1.out)⟩
end Go.Proofs.Ytjejhgjdmbodiaa.PO
end
section
namespace Go.Proofs.Ytjejhgjdmbodiaa.PO
open Go.RowKit Go.Proofs.YtjejhgjdmbodiaaW.PrintWords Go.Proofs.YtjejhgjdmbodiaaW.PrintLast Go.Proofs.YtjejhgjdmbodiaaW.PrintMore Go.Proofs.Ytjejhgjdmbodiaa.XW
open Go.Proofs.Ytjejhgjdmbodiaa.XRange Go.Proofs.Ytjejhgjdmbodiaa.XMap
set_option linter.unusedVariables false
set_option linter.unusedSimpArgs false
theorem uniq_sorted : ∀ (l1 l2 : List Whose), l1.Perm l2 → l1.Pairwise (fun x y => kLt y x = false) → l2.Pairwise (fun x y => kLt x y = true) → l1 = l2
 | [], l2, p, _, _ => p.nil_eq
 | a :: l1, [], p, _, _ => absurd p.length_eq (by simp)
 | a :: l1, b :: l2, p, h1, h2 => by
   have e1 := List.pairwise_cons.1 h1
   have e2 := List.pairwise_cons.1 h2
   have hab : a = b := by
    rcases List.mem_cons.1 (p.subset List.mem_cons_self) with h | h
    · exact h
    · rcases List.mem_cons.1 (p.symm.subset List.mem_cons_self) with h' | h'
      · exact h'.symm
      · have x1 := e2.1 a h
        have x2 := e1.1 b h'
        rw [x1] at x2
        cases x2
   subst hab
   rw [uniq_sorted l1 l2 (List.perm_cons a |>.1 p) e1.2 e2.2]
theorem look_mem {E : List (Whose × Curs)} (hn : (E.map (·.1)).Nodup) {p : Whose × Curs} (h : p ∈ E) : XMap.look E p.1 = some p.2 := by
 induction E with
 | nil => cases h
 | cons q E ih =>
   rw [List.map_cons, List.nodup_cons] at hn
   rw [look_cons]
   rcases List.mem_cons.1 h with rfl | h
   · rw [if_pos rfl]
   · rw [if_neg (fun (e : q.1 = p.1) => hn.1 (by rw [e]; exact List.mem_map.2 ⟨p, h, rfl⟩)), ih hn.2 h]
theorem rises_eq {D E xs : List (Whose × Curs)} (hn : (D.map (·.1)).Nodup) (h : Rel D E) (hx : RisesTo D xs) : xs = E := by
 obtain ⟨ks, hp, hs, rfl⟩ := hx
 have hE : (E.map (·.1)).Pairwise (fun x y => kLt x y = true) := List.pairwise_map.2 h.sr
 have hEn : (E.map (·.1)).Nodup := hE.imp (fun {x y} h e => by rw [e, kLt_irr] at h; cases h)
 have hm : ∀ k, k ∈ ks ↔ k ∈ E.map (·.1) := fun k => by
  rw [hp.mem_iff]
  have h1 := look_none (D := D) (x := k)
  have h2 := look_none (D := E) (x := k)
  rw [h.lk k] at h1
  constructor
  · intro hk
    exact Classical.byContradiction (fun hc => (h1.1 (h2.2 hc)) hk)
  · intro hk
    exact Classical.byContradiction (fun hc => (h2.1 (h1.2 hc)) hk)
 have hkn : ks.Nodup := hp.nodup_iff.2 hn
 have heq := uniq_sorted ks _ ((List.perm_ext_iff_of_nodup hkn hEn).2 hm) hs hE
 rw [heq, List.map_map]
 conv => rhs; rw [← List.map_id E]
 refine List.map_congr_left (fun p hp => ?_)
 show (p.1, curOf D p.1) = p
 rw [h.cur]
 unfold curOf
 rw [look_mem hEn hp]
 rfl
def SzD (D : List (Whose × Curs)) : Prop := ∀ p, p ∈ D → SzC p
theorem SzD.cur {D : List (Whose × Curs)} (hn : (D.map (·.1)).Nodup) (h : SzD D) (k : Whose) (hk : k ∈ D.map (·.1)) : SzC (k, curOf D k) := by
 obtain ⟨p, hp, rfl⟩ := List.mem_map.1 hk
 have e : curOf D p.1 = p.2 := by unfold curOf; rw [look_mem hn hp]; rfl
 rw [e]
 exact h p hp
theorem mem_upd {D : List (Whose × Curs)} {k : Whose} {v : Curs} {p : Whose × Curs} (h : p ∈ upd D k v) : p ∈ D ∨ p = (k, v) := by
 induction D with
 | nil => simp only [upd, List.mem_singleton] at h; exact .inr h
 | cons q D ih =>
   unfold upd at h
   split at h
   · rcases List.mem_cons.1 h with h | h
     · exact .inr h
     · exact .inl (List.mem_cons_of_mem _ h)
   · rcases List.mem_cons.1 h with h | h
     · exact .inl (h ▸ List.mem_cons_self)
     · exact (ih h).imp (List.mem_cons_of_mem _) id
theorem szD_take {D : List (Whose × Curs)} (h : SzD D) (who : ByteArray) (f : Fr) : SzD (inTake who D f).D := by
 unfold inTake
 by_cases h1 : (rightF f && decide (f.k = 2) && decide (f.fb = who)) = true
 · rw [if_pos h1]
   simp only [Bool.and_eq_true, decide_eq_true_eq] at h1
   obtain ⟨z1, z2, z3, z4, z5, z6, z7⟩ := rightF_sizes h1.1.1
   have hix : f.ix ≤ 512 := by
    unfold bodyF at z7
    rw [if_neg (by omega), if_pos h1.1.2] at z7
    simp only [Bool.and_eq_true, decide_eq_true_eq] at z7
    omega
   have hcu : 0 ≤ (curOf D (f.fa, f.ct)).1 ∧ (curOf D (f.fa, f.ct)).1 ≤ 1152921504606846976 ∧ 0 ≤ (curOf D (f.fa, f.ct)).2 ∧ (curOf D (f.fa, f.ct)).2 ≤ 1000000 := by
    unfold curOf
    cases hl : XMap.look D (f.fa, f.ct) with
    | none => exact ⟨Int.le_refl _, by decide, Int.le_refl _, by decide⟩
    | some v =>
      obtain ⟨i, _, hi, hDi⟩ := find_some hl
      have h2 := h _ (List.getElem_mem hi)
      rw [hDi] at h2
      exact ⟨h2.2.2.1, h2.2.2.2.1, h2.2.2.2.2.1, h2.2.2.2.2.2⟩
   have hct : 0 ≤ (curTo D f).1 ∧ (curTo D f).1 ≤ 1152921504606846976 ∧ 0 ≤ (curTo D f).2 ∧ (curTo D f).2 ≤ 1000000 := by
    unfold curTo
    split
    · exact ⟨by show 0 ≤ f.se; omega, z5, Int.le_refl _, by show (0 : Int) ≤ 1000000; decide⟩
    · exact hcu
   split
   · exact h
   · split
     · exact h
     · split
       · rename_i hx
         intro p hp
         rcases mem_upd hp with hp | rfl
         · exact h p hp
         · exact ⟨by show f.fa.size ≤ 32; omega, z3, hct.1, hct.2.1, by show 0 ≤ (curTo D f).2 + 1; omega, by show (curTo D f).2 + 1 ≤ 1000000; omega⟩
       · intro p hp
         rcases mem_upd hp with hp | rfl
         · exact h p hp
         · exact ⟨by show f.fa.size ≤ 32; omega, z3, hct.1, hct.2.1, hct.2.2.1, hct.2.2.2⟩
 · rw [if_neg h1]
   exact h
theorem name_size {s : ByteArray} (h : isNameB s = true) : s.size ≤ 24 := by
 unfold isNameB at h
 simp only [Bool.and_eq_true, decide_eq_true_eq] at h
 exact h.2
theorem heap72 : Kd.Heap k72 := by
 unfold k72
 repeat (first | exact Kd.heap_int _ | exact Kd.heap_string | exact Kd.heap_bool | apply Kd.heap_iso | apply Kd.heap_pair | apply Kd.heap_slice)
theorem heap74 : Kd.Heap k74 := by
 unfold k74
 repeat (first | exact heap72 | exact Kd.heap_int _ | exact Kd.heap_string | exact Kd.heap_bool | apply Kd.heap_iso | apply Kd.heap_pair | apply Kd.heap_slice)
set_option maxHeartbeats 8000000 in
set_option maxRecDepth 100000 in
theorem sessTakes_calls (w : World) (who : ByteArray) (fs : List Fr) (B : Option Addr) (e : Nat) (hwho : who.size ≤ 9223372036854775807) (hF : Kd.C kFr w B fs.length fs) (hzf : ∀ f, f ∈ fs → WfF maxLen f) :
 Calls Try.prog 5 #[.string who, .slice B fs.length e] w fun e w' => e = .returned (.bool true) ∧ Below w.heap.size w w' := by
 have HF := Aside0.mk hF
 have HZF := Aside0.mk hzf
 have HWH := Aside0.mk hwho
 have hlm : fs.length ≤ 9223372036854775807 := hF.2.1
 clear hF hzf hwho
 go_enter Try.func5, Try.ntmps5
 go_wp2_with fail
 refine (shown_calls w).mono ?_
 rintro _ w1 ⟨rfl, hb1⟩
 have HB1 := Aside0.mk hb1
 clear hb1
 go_wp2_with fail
 obtain ⟨nb, hnb⟩ : ∃ b, isNameB who = b := ⟨_, rfl⟩
 cases nb with
 | false =>
   refine (newInBad_calls who w1 hnb).mono ?_
   rintro _ w2 ⟨rfl, hb2⟩
   have HB2 := Aside0.mk (HB1.out.trans (hb2.mono HB1.out.size))
   clear hb2
   go_wp2_with fail
   refine (refNewIn_calls who HWH.out w2).mono ?_
   rintro _ w3 ⟨_, h2, hb3⟩
   obtain rfl := h2 hnb
   have HB3 := Aside0.mk (HB2.out.trans (hb3.mono HB2.out.size))
   clear hb3 h2 hnb
   go_wp2
   go_ret
   exact ⟨rfl, HB3.out⟩
 | true =>
   have HNB := Aside0.mk hnb
   clear hnb
   refine (newIn_calls who w1 HNB.out).mono ?_
   rintro _ w2 ⟨i, m, rfl, hi2, hi, hm, hb2⟩
   have HB2 := Aside0.mk (HB1.out.trans (hb2.mono HB1.out.size))
   have HI2 := Aside0.mk hi2
   have HIM := Aside0.mk (show w.heap.size ≤ i ∧ w.heap.size ≤ m from ⟨Nat.le_trans HB1.out.size hi, Nat.le_trans HB1.out.size hm⟩)
   clear hb2 hi2 hi hm
   go_wp2_with fail
   refine (refNewIn_calls who HWH.out w2).mono ?_
   rintro _ w3 ⟨h1, _, hb3⟩
   obtain ⟨g, rfl, hrf, hg⟩ := h1 HNB.out
   obtain ⟨G, hG⟩ : ∃ G : Nat → Prop, (fun k => k ≠ g ∧ w2.heap.size ≤ k) = G := ⟨_, rfl⟩
   have HGG := Aside0.mk (show ∀ k, G k ↔ (k ≠ g ∧ w2.heap.size ≤ k) from fun k => by rw [← hG])
   rw [hG] at hrf
   have HR3 := Aside0.mk hrf
   have HB3 := Aside0.mk (HB2.out.trans (hb3.mono HB2.out.size))
   have HI3 := Aside0.mk (HI2.out.below hb3)
   have HGS := Aside0.mk (show w2.heap.size ≤ g ∧ g < w3.heap.size ∧ i < w2.heap.size ∧ m < w2.heap.size ∧ w.heap.size ≤ w2.heap.size from ⟨hg, by obtain ⟨_, A0, c0, h0, _⟩ := hrf; exact blk_lt h0, blk_lt HI2.out.blk, HI2.out.mp.lt, HB2.out.size⟩)
   clear hb3 h1 hrf hg hG HI2 HB2 HB1
   go_wp2
   go_loopw [10, 11, 12, 13, 14, 15, 16, 17, 18, 19, 20, 21] (fun v10 _ _ _ _ _ _ _ _ _ _ _ wr => ∃ (j : Nat) (D E : List (Whose × Curs)), j ≤ fs.length ∧ j ≤ 100 ∧ v10 = .int .i64 j ∧ Aside0 (Rel D E ∧ SzD D) ∧ Aside0 (InAt wr i m who D) ∧ Aside0 (RefIn G wr g who E) ∧ Aside0 (Below w.heap.size w wr) ∧ Aside0 (w3.heap.size ≤ wr.heap.size)) (fun v10 _ _ _ _ _ _ _ _ _ _ _ _ => 101 - (intOf v10).toNat)
   case atStart => exact ⟨0, [], [], Nat.zero_le _, Nat.zero_le _, rfl, ⟨Rel.nil, fun p hp => by cases hp⟩, HI3, HR3, HB3, ⟨Nat.le_refl _⟩⟩
   case round =>
    obtain ⟨j, D, E, hj, hj2, rfl, HD, HI, HR, HB, HS⟩ := hrel
    by_cases hlt : j < fs.length ∧ j < 100
    case neg =>
     have q : (¬ j < fs.length) ∨ (j < fs.length ∧ (100 : Int) ≤ (j : Int)) := by
      by_cases h1 : j < fs.length
      · exact .inr ⟨h1, by omega⟩
      · exact .inl h1
     clear hlt
     have hn := HI.out.mp.once
     have hwf := HD.out.2.cur hn
     have HWF := Aside0.mk hwf
     have HRE := Aside0.mk (fun (xs : List (Whose × Curs)) (hx : RisesTo D xs) => rises_eq hn HD.out.1 hx)
     clear hn hwf
     rcases q with q | ⟨q, q2⟩
     all_goals
      go_wp2_with fail
      refine (inLay_calls i m who D wr HI.out (Nat.le_trans (name_size HNB.out) (by decide)) (by have := HD.out.1.max; omega) HWF.out).mono ?_
      rintro _ wa ⟨xs, hxs, rfl, hba⟩
      obtain rfl := HRE.out xs hxs
      have HBa := Aside0.mk (HB.out.trans (hba.mono HB.out.size))
      have HRa := Aside0.mk (HR.out.below hba)
      clear hba
      obtain ⟨_, A0, c0, h0, hr0⟩ := HRa.out
      have H0 := Aside0.mk h0
      have HR0 := Aside0.mk hr0
      clear h0 hr0
      go_wp2_with fail
      refine (refLayI_calls g who xs A0 c0 wa H0.out (Kd.R_reads' HR0.out).2.2 (Nat.le_trans (name_size HNB.out) (by decide)) (by have h1 := HD.out.1.max; have h2 := HD.out.1.len; omega) (fun p hp => by
       obtain ⟨ks, hks, _, he⟩ := hxs
       rw [he] at hp
       obtain ⟨k, hk, rfl⟩ := List.mem_map.1 hp
       exact HWF.out k (hks.subset hk))).mono ?_
      rintro _ wb ⟨rfl, hbb⟩
      have HBb := Aside0.mk (HBa.out.trans (hbb.mono HBa.out.size))
      have HLN := Aside0.mk HD.out.1.len
      clear hbb
      rw [HLN.out]
      go_wp2
      go_ret
      exact ⟨by first | rfl | simp, HBb.out⟩
    case pos =>
     obtain ⟨hl1, hl2⟩ := hlt
     have hl3 : (j : Int) < 100 := by omega
     have hb3 : 0 ≤ (j : Int) ∧ (j : Int) < (fs.length : Int) := by omega
     obtain ⟨ad, A7, c7, A8, c8, rfl, hfa, hblk, l7, g7, l8, g8⟩ := frAt HF.out j hl1
     obtain ⟨f, hf⟩ : ∃ f, fs.getD j zF = f := ⟨_, rfl⟩
     have HZ := Aside0.mk (show WfF maxLen f from by rw [← hf]; refine HZF.out _ ?_; rw [List.getD_eq_getElem?_getD, List.getElem?_eq_getElem hl1]; exact List.getElem_mem hl1)
     rw [hf] at hfa l7 g7 l8 g8
     have HL7 := Aside0.mk l7
     have HG7 := Aside0.mk g7
     have HL8 := Aside0.mk l8
     have HG8 := Aside0.mk g8
     obtain ⟨e0, e1, e2, e3, e4, e5, e6, e7, e8⟩ := hfa.move HB.out hblk
     have HRT := Aside0.mk (rel_take HD.out.1 who f)
     have HSZ := Aside0.mk (szD_take HD.out.2 who f)
     obtain ⟨rl, rf, re, rD, hR⟩ : ∃ rl rf re rD, inTake who D f = ⟨rl, rf, re, rD⟩ := ⟨_, _, _, _, rfl⟩
     obtain ⟨sl, sf, se, sE, hS⟩ : ∃ sl sf se sE, refInTake who E f = ⟨sl, sf, se, sE⟩ := ⟨_, _, _, _, rfl⟩
     have hrt := HRT.out
     have hsz := HSZ.out
     rw [hR, hS] at hrt
     rw [hR] at hsz
     obtain ⟨e1', e2', e3', hrel2⟩ := hrt
     have e1' : rl = sl := e1'
     have e2' : rf = sf := e2'
     have e3' : re = se := e3'
     subst e1' e2' e3'
     have HRS := Aside0.mk (show Rel rD sE ∧ SzD rD from ⟨hrel2, hsz⟩)
     have HIT := Aside0.mk hR
     have HRI := Aside0.mk hS
     clear hf hfa hblk l7 g7 l8 g8 hR hS hsz hrel2 HRT HSZ
     obtain ⟨wa, hwa⟩ : ∃ wa, wr.alloc (.cells #[.int .i64 f.k, .string f.fa, .string f.fb, .string f.ct, .int .i64 f.se, .int .i64 f.ix, .int .i64 f.mn, .slice A7 f.kn.length c7, .slice A8 f.op.length c8] 34) = wa := ⟨_, rfl⟩
     obtain ⟨N, hN⟩ : ∃ N, wr.heap.size = N := ⟨_, rfl⟩
     have hba : Below wr.heap.size wr wa := by rw [← hwa]; exact (Below.refl _ wr).alloc (Nat.le_refl _) _
     have KXa := Aside0.mk (show wa.heap[N]? = some (.cells #[.int .i64 f.k, .string f.fa, .string f.fb, .string f.ct, .int .i64 f.se, .int .i64 f.ix, .int .i64 f.mn, .slice A7 f.kn.length c7, .slice A8 f.op.length c8] 34 (0, 0)) from by rw [← hwa, ← hN]; exact World.alloc_heap_new wr _)
     have HBa := Aside0.mk (HB.out.trans (hba.mono HB.out.size))
     have HIa := Aside0.mk (HI.out.below hba)
     have HRa := Aside0.mk (HR.out.below hba)
     have HSa := Aside0.mk (show w3.heap.size ≤ N ∧ w3.heap.size ≤ wa.heap.size from ⟨by rw [← hN]; exact HS.out, Nat.le_trans HS.out hba.size⟩)
     have HSA := Aside0.mk (show w3.heap.size ≤ wa.heap.size from HSa.out.2)
     obtain ⟨n0, n1, n2, n3, n4, n5, n6, n7, n8⟩ := cells9 KXa.out
     have hgs := HGS.out
     clear hba HI HR HB HS
     go_wp2_with fail
     try rw [hwa]
     try rw [hN]
     clear hwa hN
     refine (inTake_calls i m who D f A7 c7 A8 c8 wa HIa.out (by have := HD.out.1.max; omega) HD.out.1.wf HL7.out (Kd.C_below HG7.out HBa.out) HL8.out (Kd.C_below HG8.out HBa.out)).mono ?_
     unfold InAns
     rw [HIT.out]
     rintro _ wb ⟨P8, p8, rfl, hkn, hop, hpl, hPC, hIb, hkb⟩
     dsimp only at hkn hop hpl hPC hIb ⊢
     have HPL := Aside0.mk hpl
     have HPC := Aside0.mk hPC
     have HKN := Aside0.mk (show rf.kn = [] ∧ rf.op = [] from ⟨hkn, hop⟩)
     have him := HIM.out
     have HBb := Aside0.mk (below_keeps HBa.out (M := fun k => k = m) (fun k hk => by rw [hk]; exact him.2) HBa.out.size hkb)
     have KXb := Aside0.mk ((hkb.block N (blk_lt KXa.out) (by have := HSa.out; omega)).trans KXa.out)
     have HRb := Aside0.mk (show RefIn G wb g who E from HRa.out.step (hkb.block g (by have := HSa.out; omega) (by omega)) (fun k hk hlt => hkb.block k hlt (by have := (HGG.out k).1 hk; omega)))
     have HIb := Aside0.mk hIb
     have HSb := Aside0.mk (show w3.heap.size ≤ N ∧ w3.heap.size ≤ wb.heap.size from ⟨HSa.out.1, Nat.le_trans HSa.out.2 hkb.size⟩)
     clear hkn hop hpl hPC hIb hkb HIa HRa HBa KXa HSa n0 n1 n2 n3 n4 n5 n6 n7 n8
     obtain ⟨M1, hM1⟩ : ∃ M1, wb.heap.size = M1 := ⟨_, rfl⟩
     obtain ⟨wz, hwz⟩ : ∃ wz, wb.alloc (.cells #[.int .i64 0, .string ⟨#[]⟩, .string ⟨#[]⟩, .string ⟨#[]⟩, .int .i64 0, .int .i64 0, .int .i64 0, .slice none 0 0, .slice none 0 0] 34) = wz := ⟨_, rfl⟩
     have hbz : Below wb.heap.size wb wz := by rw [← hwz]; exact (Below.refl _ wb).alloc (Nat.le_refl _) _
     have KZ := Aside0.mk (show wz.heap[M1]? = some (.cells #[.int .i64 0, .string ⟨#[]⟩, .string ⟨#[]⟩, .string ⟨#[]⟩, .int .i64 0, .int .i64 0, .int .i64 0, .slice none 0 0, .slice none 0 0] 34 (0, 0)) from by rw [← hwz, ← hM1]; exact World.alloc_heap_new wb _)
     have h9 := set9 KZ.out (.int .i64 rf.k) (.string rf.fa) (.string rf.fb) (.string rf.ct) (.int .i64 rf.se) (.int .i64 rf.ix) (.int .i64 rf.mn) (.slice none 0 0) (.slice none 0 0)
     have hk9 := keeps9 wz M1 (.int .i64 rf.k) (.string rf.fa) (.string rf.fb) (.string rf.ct) (.int .i64 rf.se) (.int .i64 rf.ix) (.int .i64 rf.mn) (.slice none 0 0) (.slice none 0 0)
     obtain ⟨z0, z1, z2, z3, z4, z5, z6, z7, z8⟩ := cells9 KZ.out
     obtain ⟨y0, y1, y2, y3, y4, y5, y6, y7, y8⟩ := froz9 KZ.out
     obtain ⟨wc, hwc⟩ : ∃ wc, ((((((((wz.setCell ⟨M1, 0, none⟩ (.int .i64 rf.k)).setCell ⟨M1, 1, none⟩ (.string rf.fa)).setCell ⟨M1, 2, none⟩ (.string rf.fb)).setCell ⟨M1, 3, none⟩ (.string rf.ct)).setCell ⟨M1, 4, none⟩ (.int .i64 rf.se)).setCell ⟨M1, 5, none⟩ (.int .i64 rf.ix)).setCell ⟨M1, 6, none⟩ (.int .i64 rf.mn)).setCell ⟨M1, 7, none⟩ (.slice none 0 0)).setCell ⟨M1, 8, none⟩ (.slice none 0 0) = wc := ⟨_, rfl⟩
     rw [hwc] at h9 hk9
     have KPc := Aside0.mk h9
     have hNM : N < M1 := by rw [← hM1]; exact blk_lt KXb.out
     have hMS : w3.heap.size ≤ M1 := by rw [← hM1]; exact HSb.out.2
     have hbc : Below wb.heap.size wb wc := below_keeps hbz (M := fun k => k = M1) (fun k hk => by omega) hbz.size hk9
     have KXc := Aside0.mk (blk_below KXb.out hbc)
     have HBc := Aside0.mk (HBb.out.trans (hbc.mono HBb.out.size))
     have HIc := Aside0.mk (HIb.out.below hbc)
     have HRc := Aside0.mk (HRb.out.below hbc)
     have HPCc := Aside0.mk (Kd.F_below HPC.out hbc)
     have HOW := Aside0.mk (show ∀ k, Own74 wa wb k → k < wc.heap.size → w3.heap.size ≤ k ∧ ∃ q, q ∈ 74 :: k74.E ∧ ∃ cells, wc.heap[k]? = some (.cells cells q (0, 0)) from fun k hk hlt => by
      obtain ⟨h1, q, hq, cells, hc⟩ := hk
      exact ⟨Nat.le_trans HSA.out h1, q, hq, cells, blk_below hc hbc⟩)
     have HSc := Aside0.mk (show w3.heap.size ≤ N ∧ w3.heap.size ≤ M1 ∧ w3.heap.size ≤ wc.heap.size ∧ N < M1 from ⟨HSb.out.1, hMS, Nat.le_trans HSb.out.2 hbc.size, hNM⟩)
     obtain ⟨n0, n1, n2, n3, n4, n5, n6, n7, n8⟩ := cells9 KXc.out
     clear hbc hbz h9 hk9 HIb HRb HBb KXb HSb HPC hNM hMS KZ
     go_wp2_with fail
     try rw [hwc]
     try rw [hM1]
     clear hwc hM1 hwz z0 z1 z2 z3 z4 z5 z6 z7 z8 y0 y1 y2 y3 y4 y5 y6 y7 y8
     refine (refInTake_calls G g who E f A7 c7 A8 c8 wc HRc.out (by have h1 := HD.out.1.max; have h2 := HD.out.1.len; omega) HD.out.1.sr (fun k hk => (HGG.out k).2 ⟨by have := HSc.out; omega, by have := HSc.out; omega⟩) HL7.out (Kd.C_below HG7.out HBc.out) HL8.out (Kd.F_mono (Kd.F_step (Kd.C_F heap74 HG8.out) (fun k _ hlt => HBc.out.block k hlt)) (fun k hk => ⟨by omega, fun h => by have := (HGG.out k).1 h; omega⟩)) maxLen HZ.out).mono ?_
     unfold RefAns
     rw [HRI.out]
     rintro _ wd ⟨Q8, q8, rfl, _, _, hql, hQC, hRd, hkd⟩
     dsimp only at hql hQC hRd ⊢
     have HQL := Aside0.mk hql
     have HQC := Aside0.mk hQC
     have hgd : ∀ k, G k → w2.heap.size ≤ k := fun k hk => ((HGG.out k).1 hk).2
     have h34 : ∀ (k : Nat) (cs : Array Value), g < k → wc.heap[k]? = some (.cells cs 34 (0, 0)) → ¬ MG G g wc k := fun k cs hgk hk h => by
      rcases h with h | ⟨_, cells, h⟩
      · omega
      · rw [hk] at h; simp at h
     have hsc := HSc.out
     have KXd := Aside0.mk ((hkd.block N (blk_lt KXc.out) (h34 N _ (by omega) KXc.out)).trans KXc.out)
     have KPd := Aside0.mk ((hkd.block M1 (blk_lt KPc.out) (h34 M1 _ (by omega) KPc.out)).trans KPc.out)
     have hnm : ∀ k, k < w2.heap.size → ¬ MG G g wc k := fun k hk h => by
      rcases h with h | ⟨h, _⟩
      · omega
      · have := hgd k h; omega
     have HId := Aside0.mk (HIc.out.step (hkd.block i (blk_lt HIc.out.blk) (hnm i hgs.2.2.1)) (hkd.block m HIc.out.mp.lt (hnm m hgs.2.2.2.1)))
     have HPCd := Aside0.mk (Kd.F_now (Kd.F_step HPCc.out (fun k hk hlt => hkd.block k hlt (fun h => by
      obtain ⟨h1, q, hq, cells, hc⟩ := HOW.out k hk hlt
      rcases h with h | ⟨_, cells', h⟩
      · omega
      · rw [hc] at h
        have h99 : q = 99 := by simp at h; exact h.2
        exact (show ∀ q, q ∈ 74 :: k74.E → q ≠ 99 from by decide) q hq h99))))
     have HBd := Aside0.mk (show Below w.heap.size w wd from ⟨hkd.os.trans HBc.out.os, hkd.tape.trans HBc.out.tape, hkd.output.trans HBc.out.output, Nat.le_trans HBc.out.size hkd.size, fun k hk => (hkd.block k (Nat.lt_of_lt_of_le hk HBc.out.size) (hnm k (by omega))).trans (HBc.out.block k hk)⟩)
     have HRd := Aside0.mk hRd
     have HSd := Aside0.mk (show w3.heap.size ≤ wd.heap.size ∧ N < M1 ∧ M1 < wd.heap.size from ⟨Nat.le_trans hsc.2.2.1 hkd.size, hsc.2.2.2, blk_lt KPd.out⟩)
     clear hkd h34 hnm hgd hRd hql hQC KXc KPc HIc HPCc HOW HBc HRc HSc n0 n1 n2 n3 n4 n5 n6 n7 n8
     obtain ⟨M2, hM2⟩ : ∃ M2, wd.heap.size = M2 := ⟨_, rfl⟩
     obtain ⟨wy, hwy⟩ : ∃ wy, wd.alloc (.cells #[.int .i64 0, .string ⟨#[]⟩, .string ⟨#[]⟩, .string ⟨#[]⟩, .int .i64 0, .int .i64 0, .int .i64 0, .slice none 0 0, .slice none 0 0] 34) = wy := ⟨_, rfl⟩
     have hbz : Below wd.heap.size wd wy := by rw [← hwy]; exact (Below.refl _ wd).alloc (Nat.le_refl _) _
     have KZ := Aside0.mk (show wy.heap[M2]? = some (.cells #[.int .i64 0, .string ⟨#[]⟩, .string ⟨#[]⟩, .string ⟨#[]⟩, .int .i64 0, .int .i64 0, .int .i64 0, .slice none 0 0, .slice none 0 0] 34 (0, 0)) from by rw [← hwy, ← hM2]; exact World.alloc_heap_new wd _)
     have h9 := set9 KZ.out (.int .i64 rf.k) (.string rf.fa) (.string rf.fb) (.string rf.ct) (.int .i64 rf.se) (.int .i64 rf.ix) (.int .i64 rf.mn) (.slice none 0 0) (.slice none 0 0)
     have hk9 := keeps9 wy M2 (.int .i64 rf.k) (.string rf.fa) (.string rf.fb) (.string rf.ct) (.int .i64 rf.se) (.int .i64 rf.ix) (.int .i64 rf.mn) (.slice none 0 0) (.slice none 0 0)
     obtain ⟨z0, z1, z2, z3, z4, z5, z6, z7, z8⟩ := cells9 KZ.out
     obtain ⟨y0, y1, y2, y3, y4, y5, y6, y7, y8⟩ := froz9 KZ.out
     obtain ⟨we, hwe⟩ : ∃ we, ((((((((wy.setCell ⟨M2, 0, none⟩ (.int .i64 rf.k)).setCell ⟨M2, 1, none⟩ (.string rf.fa)).setCell ⟨M2, 2, none⟩ (.string rf.fb)).setCell ⟨M2, 3, none⟩ (.string rf.ct)).setCell ⟨M2, 4, none⟩ (.int .i64 rf.se)).setCell ⟨M2, 5, none⟩ (.int .i64 rf.ix)).setCell ⟨M2, 6, none⟩ (.int .i64 rf.mn)).setCell ⟨M2, 7, none⟩ (.slice none 0 0)).setCell ⟨M2, 8, none⟩ (.slice none 0 0) = we := ⟨_, rfl⟩
     rw [hwe] at h9 hk9
     have KQe := Aside0.mk h9
     have hbe : Below wd.heap.size wd we := below_keeps hbz (M := fun k => k = M2) (fun k hk => by omega) hbz.size hk9
     have HBe := Aside0.mk (HBd.out.trans (hbe.mono HBd.out.size))
     have HIe := Aside0.mk (HId.out.below hbe)
     have HRe := Aside0.mk (HRd.out.below hbe)
     have KXe := Aside0.mk (blk_below KXd.out hbe)
     have KPe := Aside0.mk (blk_below KPd.out hbe)
     have HPCe := Aside0.mk (Kd.C_below HPCd.out hbe)
     have HQCe := Aside0.mk (Kd.C_below HQC.out hbe)
     have HSe := Aside0.mk (Nat.le_trans HSd.out.1 hbe.size)
     obtain ⟨n0, n1, n2, n3, n4, n5, n6, n7, n8⟩ := cells9 KXe.out
     clear hbe hbz h9 hk9 KZ HBd HId HRd KXd KPd HPCd HQC HSd
     go_wp2_with fail
     try rw [hwe]
     try rw [hM2]
     clear hwe hM2 hwy z0 z1 z2 z3 z4 z5 z6 z7 z8 y0 y1 y2 y3 y4 y5 y6 y7 y8
     have HRE := Aside0.mk HRe.out
     obtain ⟨_, A0, c0, h0, hr0⟩ := HRE.out
     have H0 := Aside0.mk h0
     have HR0 := Aside0.mk hr0
     clear h0 hr0
     obtain ⟨⟨cu, cv⟩, hcu⟩ : ∃ c : Curs, curOf rD (f.fa, f.ct) = c := ⟨_, rfl⟩
     have HCU := Aside0.mk (show curOf rD (f.fa, f.ct) = (cu, cv) ∧ curOf sE (f.fa, f.ct) = (cu, cv) from ⟨hcu, by rw [← HRS.out.1.cur]; exact hcu⟩)
     clear hcu
     refine (inCursor_calls i m who rD f.fa f.ct we HIe.out).mono ?_
     rw [HCU.out.1]
     rintro _ wf ⟨rfl, hbf⟩
     have KXf := Aside0.mk (blk_below KXe.out hbf)
     obtain ⟨n0, n1, n2, n3, n4, n5, n6, n7, n8⟩ := cells9 KXf.out
     go_wp2_with fail
     refine (refCursor_calls g who sE A0 c0 f.fa f.ct wf (blk_below H0.out hbf) (Kd.C_below (Kd.R_reads' HR0.out).2.2 hbf) HRS.out.1.sr).mono ?_
     rw [HCU.out.2]
     rintro _ wg ⟨rfl, hbg⟩
     have hbe : Below we.heap.size we wg := hbf.trans (hbg.mono hbf.size)
     have HBg := Aside0.mk (HBe.out.trans (hbe.mono HBe.out.size))
     have HIg := Aside0.mk (HIe.out.below hbe)
     have HRg := Aside0.mk (HRe.out.below hbe)
     have KPg := Aside0.mk (blk_below KPe.out hbe)
     have KQg := Aside0.mk (blk_below KQe.out hbe)
     have HPCg := Aside0.mk (Kd.C_below HPCe.out hbe)
     have HQCg := Aside0.mk (Kd.C_below HQCe.out hbe)
     have HSg := Aside0.mk (show w3.heap.size ≤ wg.heap.size from Nat.le_trans HSe.out hbe.size)
     clear hbe hbf hbg KXf KXe KPe KQe HPCe HQCe HSe HBe HIe HRe H0 HR0 HRE n0 n1 n2 n3 n4 n5 n6 n7 n8
     go_wp2_with fail
     refine (refSameOps_calls rl rl P8 p8 Q8 q8 wg HPL.out HPCg.out HQL.out HQCg.out).mono ?_
     rw [show decide (rl = rl) = true from decide_eq_true rfl]
     rintro _ wh ⟨rfl, hbh⟩
     have HBh := Aside0.mk (HBg.out.trans (hbh.mono HBg.out.size))
     have HIh := Aside0.mk (HIg.out.below hbh)
     have HRh := Aside0.mk (HRg.out.below hbh)
     have KPh := Aside0.mk (blk_below KPg.out hbh)
     have KQh := Aside0.mk (blk_below KQg.out hbh)
     have HSh := Aside0.mk (Nat.le_trans HSg.out hbh.size)
     obtain ⟨n0, n1, n2, n3, n4, n5, n6, n7, n8⟩ := cells9 KPh.out
     obtain ⟨o0, o1, o2, o3, o4, o5, o6, o7, o8⟩ := cells9 KQh.out
     clear hbh HBg HIg HRg KPg KQg HPCg HQCg HSg
     go_wp2_with fail
     have h0 := refEqual0_calls rf none 0 none 0 wh HKN.out.1 (by rw [HKN.out.2]; exact Nat.le_refl _) (by rw [HKN.out.2]; exact Kd.C_nil _ _) (by rw [HKN.out.2]; exact Nat.le_refl _) (by rw [HKN.out.2]; exact Kd.C_nil _ _)
     have hol : rf.op.length = 0 := by rw [HKN.out.2]; rfl
     rw [hol] at h0
     refine Calls.mono h0 ?_
     rintro _ wi ⟨rfl, hbi⟩
     have HBi := Aside0.mk (HBh.out.trans (hbi.mono HBh.out.size))
     have HIi := Aside0.mk (HIh.out.below hbi)
     have HRi := Aside0.mk (HRh.out.below hbi)
     have HSi := Aside0.mk (Nat.le_trans HSh.out hbi.size)
     clear hbi h0 hol HBh HIh HRh KPh KQh HSh n0 n1 n2 n3 n4 n5 n6 n7 n8 o0 o1 o2 o3 o4 o5 o6 o7 o8
     go_wp2
     refine ⟨⟨j + 1, rD, sE, hl1, hl2, by go_num, HRS, HIi, HRi, HBi, HSi⟩, ?_⟩
     simp [intOf]
     omega
theorem sessTakes_row (w : World) (who : ByteArray) (B : Option Addr) (e : Nat) (fs : List Fr) (hwho : who.size ≤ 140737488351232) (hF : Kd.C kFr w B fs.length fs) (he : fs.length ≤ e) (hzf : ∀ f, f ∈ fs → WfF maxLen f) :
 Calls Try.prog 5 #[.string who, .slice B fs.length e] w fun e' w' => e' = .returned (.bool true) ∧ Below w.heap.size w w' :=
 sessTakes_calls w who fs B e (Nat.le_trans hwho (by decide)) hF hzf
end Go.Proofs.Ytjejhgjdmbodiaa.PO
end
