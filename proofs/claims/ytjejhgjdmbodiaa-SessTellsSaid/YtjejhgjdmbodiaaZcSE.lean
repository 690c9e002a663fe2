/- What the rows of this claim use, out of the texts of this work (SE, SF, SG). No condition beyond those that each statement names. -/
import Derived.Test.YtjejhgjdmbodiaaZcPQ3
import Derived.Test.YtjejhgjdmbodiaaZcUTS
import Derived.Test.YtjejhgjdmbodiaaZcX
section
namespace Go.Proofs.Ytjejhgjdmbodiaa.PO
open Go.RowKit Go.Proofs.YtjejhgjdmbodiaaW.PrintWords Go.Proofs.YtjejhgjdmbodiaaW.PrintLast Go.Proofs.YtjejhgjdmbodiaaW.PrintMore Go.Proofs.Ytjejhgjdmbodiaa.XW
open Go.Proofs.Ytjejhgjdmbodiaa.XRange
set_option linter.unusedVariables false
set_option linter.unusedSimpArgs false
def pieceOf (l : List S74) (i : Nat) : List S74 := (l.drop (8 * i)).take 8
theorem pieceOf_eq (l : List S74) (i : Nat) : (l.take (min (8 * i + 8) l.length)).drop (8 * i) = pieceOf l i := by
 unfold pieceOf
 rw [List.drop_take, List.take_eq_take_iff, List.length_drop]
 omega
theorem pieceOf_len (l : List S74) (i : Nat) : (pieceOf l i).length = min 8 (l.length - 8 * i) := by simp [pieceOf]
theorem pieceOf_mem {l : List S74} {i : Nat} {x : S74} (h : x ∈ pieceOf l i) : x ∈ l := List.mem_of_mem_drop (List.mem_of_mem_take h)
def nextF (d : OutD) (ack : Int) : Fr := if (npc d.l.length : Int) ≤ ack then zF else ⟨2, d.fr, d.tw, d.ct, d.se, ack, (npc d.l.length : Int), [], pieceOf d.l ack.toNat⟩
set_option maxHeartbeats 8000000 in
set_option maxRecDepth 100000 in
theorem outNext_calls (G : Nat → Prop) (o : Nat) (d : OutD) (ack : Int) (w : World) (h : OutAt G w o d ack) (h0 : 0 ≤ ack) (hn : d.l.length ≤ 1000000) (hz : ∀ x, x ∈ d.l → x.f1.length ≤ 1000000 ∧ x.f6.length ≤ 1000000) :
 Calls Try.prog 13 #[.pointer (some ⟨o, 0, none⟩)] w fun e w' => ∃ A8 c8, e = .returned (.tuple #[.agg #[.int .i64 (nextF d ack).k, .string (nextF d ack).fa, .string (nextF d ack).fb, .string (nextF d ack).ct, .int .i64 (nextF d ack).se, .int .i64 (nextF d ack).ix, .int .i64 (nextF d ack).mn, .slice none 0 0, .slice A8 (nextF d ack).op.length c8], .bool (decide (ack < (npc d.l.length : Int)))]) ∧
  (nextF d ack).kn = [] ∧ (nextF d ack).op.length ≤ c8 ∧ Kd.F k74 w' (fun k => w.heap.size ≤ k ∧ k < w'.heap.size) A8 (nextF d ack).op.length (nextF d ack).op ∧ Below w.heap.size w w' := by
 obtain ⟨ng, P, c, b, hO, hc, hF, hL⟩ := h
 have HOw := Aside0.mk hO
 have HF := Aside0.mk hF
 have HLL := Aside0.mk hL
 have HZ := Aside0.mk hz
 have HN0 := Aside0.mk h0
 have HNL := Aside0.mk hn
 have HCC := Aside0.mk hc
 have hoN := blk_lt hO
 obtain ⟨N, hN⟩ : ∃ N, w.heap.size = N := ⟨_, rfl⟩
 clear hF hL hz hn hc
 obtain ⟨w0, hw0⟩ : ∃ w0, w.alloc (.cells #[.int .i64 0, .string ⟨#[]⟩, .string ⟨#[]⟩, .string ⟨#[]⟩, .int .i64 0, .int .i64 0, .int .i64 0, .slice none 0 0, .slice none 0 0] 34) = w0 := ⟨_, rfl⟩
 have HB0 := Aside0.mk (show Below w.heap.size w w0 from by rw [← hw0]; exact (Below.refl _ w).alloc (Nat.le_refl _) _)
 have HX0 := Aside0.mk (show w0.heap[N]? = some (.cells #[.int .i64 0, .string ⟨#[]⟩, .string ⟨#[]⟩, .string ⟨#[]⟩, .int .i64 0, .int .i64 0, .int .i64 0, .slice none 0 0, .slice none 0 0] 34 (0, 0)) from by rw [← hw0, ← hN]; exact World.alloc_heap_new w _)
 have HO0 := Aside0.mk (blk_below HOw.out HB0.out)
 have HS0 := Aside0.mk (show w0.heap.size = N + 1 from by rw [← hw0, ← hN]; simp)
 clear hO
 go_enter Try.func13, Try.ntmps13
 go_wp2
 first | rw [hw0] | skip
 try rw [hN]
 clear hw0
 refine start_ (n := 14) (ds := []) (S := fun w' => w'.cell? ⟨o, 9, none⟩ = some (.slice P (npc d.l.length) c) ∧ w'.cell? ⟨o, 10, none⟩ = some (.int .i64 ack)) _ (by kernel_rfl) rfl rfl
  ⟨(blk_cell (blk_drew HO0.out) 9).trans rfl, (blk_cell (blk_drew HO0.out) 10).trans rfl⟩ (fun hH => ?_)
 refine XReg.pu 0 5 (h := ?_)
 refine XReg.pu 1 6 (h := ?_)
 refine XReg.pu 2 7 (h := ?_)
 refine XReg.pu 3 8 (h := ?_)
 refine XReg.pu 4 9 (h := ?_)
 refine XReg.pu 5 10 (h := ?_)
 refine XReg.tk 6 11 (h := ?_)
 refine XReg.pu 7 12 (h := ?_)
 refine XReg.pu 8 13 (h := ?_)
 refine XReg.pu 9 14 (h := ?_)
 refine XReg.tk 10 15 (h := ?_)
 refine XReg.pu 11 16 (h := ?_)
 refine XReg.pu 12 17 (h := ?_)
 refine XReg.pu 13 18 (h := ?_)
 refine done_ (by kernel_rfl) ?_
 clear hH
 obtain ⟨w1, hw1⟩ : ∃ w1, w0.drew = w1 := ⟨_, rfl⟩
 have hb01 : Below w0.heap.size w0 w1 := by rw [← hw1]; exact below_drew1 (Below.refl _ w0)
 have HX1 := Aside0.mk (blk_below HX0.out hb01)
 have HO1 := Aside0.mk (blk_below HO0.out hb01)
 have HB1 := Aside0.mk (HB0.out.trans (hb01.mono HB0.out.size))
 have HS1 := Aside0.mk (show w1.heap.size = N + 1 from by rw [← hw1]; exact HS0.out)
 rw [hw1]
 clear hw1 hb01 HX0 HO0 HB0 HS0
 by_cases hq : (npc d.l.length : Int) ≤ ack
 · have q1 : decide ((npc d.l.length : Int) ≤ ack) = true := by simp [hq]
   have HQ := Aside0.mk hq
   clear hq
   obtain ⟨e0, e1, e2, e3, e4, e5, e6, e7, e8⟩ := cells9 HX1.out
   obtain ⟨f0, f1, f2, f3, f4, f5, f6, f7, f8⟩ := froz9 HX1.out
   simp only [q1]
   go_wp2
   have h9 := set9 HX1.out (.int .i64 0) (.string ⟨#[]⟩) (.string ⟨#[]⟩) (.string ⟨#[]⟩) (.int .i64 0) (.int .i64 0) (.int .i64 0) (.slice none 0 0) (.slice none 0 0)
   obtain ⟨k0, k1, k2, k3, k4, k5, k6, k7, k8⟩ := cells9 h9
   have hk := below_keeps HB1.out (M := fun k => k = N) (fun k hk => by omega) HB1.out.size (keeps9 _ N (.int .i64 0) (.string ⟨#[]⟩) (.string ⟨#[]⟩) (.string ⟨#[]⟩) (.int .i64 0) (.int .i64 0) (.int .i64 0) (.slice none 0 0) (.slice none 0 0))
   have hf : nextF d ack = zF := by unfold nextF; rw [if_pos HQ.out]
   have hd : decide (ack < (npc d.l.length : Int)) = false := by have := HQ.out; simp; omega
   rw [hf, hd]
   exact bodyPost_ret (v := .tuple #[.agg #[.int .i64 0, .string ⟨#[]⟩, .string ⟨#[]⟩, .string ⟨#[]⟩, .int .i64 0, .int .i64 0, .int .i64 0, .slice none 0 0, .slice none 0 0], .bool false]) (by simp [results, Try.f13, go_sem, k0, k1, k2, k3, k4, k5, k6, k7, k8]) rfl ⟨none, 0, rfl, rfl, Nat.le_refl _, Kd.F_nil _ _ _, hk⟩
 · have q1 : decide ((npc d.l.length : Int) ≤ ack) = false := by simp; omega
   have HQ := Aside0.mk hq
   clear hq
   have n0 : w1.cell? ⟨o, 0, none⟩ = some (.int .i64 2) := (blk_cell HO1.out 0).trans rfl
   have n1 : w1.cell? ⟨o, 1, none⟩ = some (.string d.fr) := (blk_cell HO1.out 1).trans rfl
   have n2 : w1.cell? ⟨o, 2, none⟩ = some (.string d.tw) := (blk_cell HO1.out 2).trans rfl
   have n3 : w1.cell? ⟨o, 3, none⟩ = some (.string d.ct) := (blk_cell HO1.out 3).trans rfl
   have n4 : w1.cell? ⟨o, 4, none⟩ = some (.int .i64 d.se) := (blk_cell HO1.out 4).trans rfl
   have n5 : w1.cell? ⟨o, 5, none⟩ = some (.int .i64 0) := (blk_cell HO1.out 5).trans rfl
   have n6 : w1.cell? ⟨o, 6, none⟩ = some (.int .i64 0) := (blk_cell HO1.out 6).trans rfl
   have n7 : w1.cell? ⟨o, 7, none⟩ = some (.slice none 0 0) := (blk_cell HO1.out 7).trans rfl
   have n8 : w1.cell? ⟨o, 8, none⟩ = some (.slice none 0 0) := (blk_cell HO1.out 8).trans rfl
   simp only [q1]
   go_wp2
   have hM : w1.heap.size = N + 1 := HS1.out
   obtain ⟨w2, hw2⟩ : ∃ w2, w1.alloc (.cells #[.int .i64 2, .string d.fr, .string d.tw, .string d.ct, .int .i64 d.se, .int .i64 0, .int .i64 0, .slice none 0 0, .slice none 0 0] 34) = w2 := ⟨_, rfl⟩
   have hb12 : Below w1.heap.size w1 w2 := by rw [← hw2]; exact (Below.refl _ w1).alloc (Nat.le_refl _) _
   have HM2 := Aside0.mk (show w2.heap[N + 1]? = some (.cells #[.int .i64 2, .string d.fr, .string d.tw, .string d.ct, .int .i64 d.se, .int .i64 0, .int .i64 0, .slice none 0 0, .slice none 0 0] 34 (0, 0)) from by rw [← hw2, ← hM]; exact World.alloc_heap_new w1 _)
   have HX2 := Aside0.mk (blk_below HX1.out hb12)
   have HO2 := Aside0.mk (blk_below HO1.out hb12)
   have HB2 := Aside0.mk (HB1.out.trans (hb12.mono HB1.out.size))
   have HMN := Aside0.mk (show o < N ∧ w2.heap.size = N + 2 from ⟨by omega, by rw [← hw2]; simp [HS1.out]⟩)
   rw [hw2]
   try rw [hM]
   clear hw2 hM hb12 HX1 HO1 HB1 HS1 n0 n1 n2 n3 n4 n5 n6 n7 n8
   have hmn := HMN.out
   refine start_ (n := 13) (ds := []) (S := fun w' => w'.cell? ⟨o, 9, none⟩ = some (.slice P (npc d.l.length) c) ∧ w'.cell? ⟨o, 10, none⟩ = some (.int .i64 ack)) _ (by kernel_rfl) rfl rfl
    ⟨(blk_cell (blk_drew HO2.out) 9).trans rfl, (blk_cell (blk_drew HO2.out) 10).trans rfl⟩ (fun hH => ?_)
   refine XReg.pu 0 24 (h := ?_)
   refine XReg.pu 1 25 (h := ?_)
   refine XReg.pu 2 26 (h := ?_)
   refine XReg.tk 3 27 (h := ?_)
   refine XReg.pu 4 28 (h := ?_)
   refine XReg.pu 5 29 (h := ?_)
   refine XReg.pu 6 30 (h := ?_)
   refine XReg.tk 7 31 (h := ?_)
   refine XReg.pu 8 32 (h := ?_)
   refine XReg.pu 9 33 (h := ?_)
   have m5 : w2.cell? ⟨N + 1, 5, none⟩ = some (.int .i64 0) := (blk_cell HM2.out 5).trans rfl
   have g5 : w2.frozen? ⟨N + 1, 5, none⟩ = false := blk_frozen HM2.out 5
   refine XReg.one (i := 10) none rfl rfl (by kernel_rfl) (by decide) (fun Kc hKc => ?_)
   refine store_last rfl rfl (by first | (go_simp; done) | (go_simp; rfl)) ?_
   have HM3 := Aside0.mk (blk_set HM2.out 5 (.int .i64 ack))
   have HO3 := Aside0.mk (blk_far (p := ⟨N + 1, 5, none⟩) HO2.out (by show o ≠ N + 1; omega) (.int .i64 ack))
   refine hKc.out _ _ ⟨(blk_cell HO3.out 9).trans rfl, (blk_cell HO3.out 10).trans rfl⟩ (fun hH2 => ?_)
   clear hKc Kc hH m5 g5
   refine XReg.pu 11 34 (h := ?_)
   have m6 : (w2.setCell ⟨N + 1, 5, none⟩ (.int .i64 ack)).cell? ⟨N + 1, 6, none⟩ = some (.int .i64 0) := (blk_cell HM3.out 6).trans rfl
   have g6 : (w2.setCell ⟨N + 1, 5, none⟩ (.int .i64 ack)).frozen? ⟨N + 1, 6, none⟩ = false := blk_frozen HM3.out 6
   refine XReg.one (i := 12) none rfl rfl (by kernel_rfl) (by decide) (fun Kc hKc => ?_)
   refine store_last rfl rfl (by first | (go_simp; done) | (go_simp; rfl)) ?_
   have HM4 := Aside0.mk (blk_set HM3.out 6 (.int .i64 (npc d.l.length : Int)))
   have HO4 := Aside0.mk (blk_far (p := ⟨N + 1, 6, none⟩) HO3.out (by show o ≠ N + 1; omega) (.int .i64 (npc d.l.length : Int)))
   refine hKc.out _ _ ⟨(blk_cell HO4.out 9).trans rfl, (blk_cell HO4.out 10).trans rfl⟩ (fun hH3 => ?_)
   clear hKc Kc hH2 hH3 m6 g6
   refine done_ (by kernel_rfl) ?_
   obtain ⟨w4, hw4⟩ : ∃ w4, ((w2.setCell ⟨N + 1, 5, none⟩ (.int .i64 ack)).setCell ⟨N + 1, 6, none⟩ (.int .i64 (npc d.l.length : Int))).drew = w4 := ⟨_, rfl⟩
   rw [hw4]
   have HM5 := Aside0.mk (show w4.heap[N + 1]? = some (.cells #[.int .i64 2, .string d.fr, .string d.tw, .string d.ct, .int .i64 d.se, .int .i64 ack, .int .i64 (npc d.l.length : Int), .slice none 0 0, .slice none 0 0] 34 (0, 0)) from by rw [← hw4]; exact blk_drew HM4.out)
   have HO5 := Aside0.mk (show w4.heap[o]? = some (.cells (outCells d P (npc d.l.length) c ack) 78 (0, 0)) from by rw [← hw4]; exact blk_drew HO4.out)
   have HB5 := Aside0.mk (show Below w.heap.size w w4 from by rw [← hw4]; exact below_drew1 (below_set (below_set HB2.out (by show w.heap.size ≤ N + 1; omega)) (by show w.heap.size ≤ N + 1; omega)))
   have HX5 := Aside0.mk (show w4.heap[N]? = some (.cells #[.int .i64 0, .string ⟨#[]⟩, .string ⟨#[]⟩, .string ⟨#[]⟩, .int .i64 0, .int .i64 0, .int .i64 0, .slice none 0 0, .slice none 0 0] 34 (0, 0)) from by
    rw [← hw4]
    exact blk_drew (blk_far (p := ⟨N + 1, 6, none⟩) (blk_far (p := ⟨N + 1, 5, none⟩) HX2.out (by show N ≠ N + 1; omega) _) (by show N ≠ N + 1; omega) _))
   have HS4 := Aside0.mk (show w4.heap.size = N + 2 from by rw [← hw4]; have := hmn.2; simpa [World.setCell] using this)
   clear hw4 HM3 HO3 HM4 HO4 HB2 HM2 HO2 HX2
   obtain ⟨i, hi⟩ : ∃ i : Nat, ack = (i : Int) := ⟨ack.toNat, by omega⟩
   subst hi
   have hiN : i < npc d.l.length := by have := HQ.out; omega
   have hlp : 0 < d.l.length ∧ 8 * i < d.l.length := by unfold npc at hiN; omega
   obtain ⟨ad, cc, rfl, hcl, hfk, hcc, _⟩ := Kd.F_get (Kd.F_below HF.out HB5.out) [.slice none 0 0] (i : Int) (by omega) (by omega)
   have hx : (pcs b d.l.length (List.range (npc d.l.length))).getD (i : Int).toNat [.slice none 0 0] = [.slice (some ⟨b, 64 * i, none⟩) (pieceOf d.l i).length (pieceOf d.l i).length] := by
    rw [pieceOf_len]
    rw [Int.toNat_natCast]
    simp [List.getD, pcs, offV, hiN]
   rw [hx] at hfk
   obtain ⟨rfl, _, _⟩ := Kd.FK_now hfk
   have hp0 := hcc 0 _ (List.getElem?_cons_zero)
   have hsz : (Kd.raw 1).sz = 1 := rfl
   rw [hsz, Int.toNat_natCast, Nat.mul_one, Nat.add_zero] at hp0
   have HP0 := Aside0.mk hp0
   have HLC := Aside0.mk (show Kd.C k74 w4 (some ⟨b, 64 * i, none⟩) (pieceOf d.l i).length (pieceOf d.l i) from by
    have h1 := Kd.F_now (Kd.F_below (HLL.out hlp.1) HB5.out)
    have h2 := Kd.C_mid (lo := 8 * i) (hi := min (8 * i + 8) d.l.length) (c := d.l.length + 1) h1 (by omega) (by omega) (by omega)
    rw [pieceOf_eq, if_neg (by omega)] at h2
    have h3 : (some (⟨b, 0, none⟩ : Addr)).map (·.add (8 * i * k74.sz)) = some ⟨b, 64 * i, none⟩ := by
     have : k74.sz = 8 := rfl
     rw [this, Option.map_some, add_at]
     congr 2
     omega
    rwa [h3] at h2)
   clear hfk hcl hcc hx hp0 hsz
   go_wp2
   refine start_ (n := 13) (ds := [12]) (S := fun w' => w'.cell? ⟨o, 9, none⟩ = some (.slice (some ad) (npc d.l.length) c) ∧ w'.cell? ⟨o, 10, none⟩ = some (.int .i64 (i : Int)) ∧ w'.cell? (ad.add i) = some (.slice (some ⟨b, 64 * i, none⟩) (pieceOf d.l i).length (pieceOf d.l i).length)) _ (by kernel_rfl) rfl rfl
    ⟨(blk_cell (blk_drew HO5.out) 9).trans rfl, (blk_cell (blk_drew HO5.out) 10).trans rfl, HP0.out⟩ (fun hH => ?_)
   refine XReg.pu 0 35 (h := ?_)
   refine XReg.pu 1 36 (h := ?_)
   refine XReg.pu 2 37 (h := ?_)
   refine XReg.tk 3 38 (h := ?_)
   refine XReg.pu 4 39 (h := ?_)
   refine XReg.pu 5 40 (h := ?_)
   refine XReg.pu 6 41 (h := ?_)
   refine XReg.tk 7 42 (h := ?_)
   refine XReg.pu 8 43 (h := ?_)
   refine XReg.tk 9 44 (h := ?_)
   have hs4 : w4.heap.size = N + 2 := by have := HS4.out; exact this
   refine XReg.one (i := 10) (some 45) rfl rfl (by kernel_rfl) (by decide) (fun Kc hKc => ?_)
   refine goes_ Try.func40 (by kernel_rfl) rfl #[.slice (some ⟨b, 64 * i, none⟩) (pieceOf d.l i).length (pieceOf d.l i).length] (by rfl) rfl rfl (by (try simp only [List.map_toArray, List.map_cons, List.map_nil]); first | done | rfl) ?_
   refine (owns_calls (pieceOf d.l i) (some ⟨b, 64 * i, none⟩) _ _ (Kd.C_drew HLC.out) (Nat.le_refl _) (by rw [pieceOf_len]; omega) (fun x hx => HZ.out x (pieceOf_mem hx))).mono ?_
   rintro e w5 ⟨v0, rfl, hS, hb⟩
   refine ⟨_, rfl, ?_⟩
   obtain ⟨A8, c8, rfl⟩ := Kd.S_slice hS
   have hb' : Below w4.heap.size w4 w5 := ⟨hb.os, hb.tape, hb.output, hb.size, hb.block⟩
   have HS := Aside0.mk hS
   have HM6 := Aside0.mk (blk_below HM5.out hb')
   have HX6 := Aside0.mk (blk_below HX5.out hb')
   have HB6 := Aside0.mk (HB5.out.trans (hb'.mono HB5.out.size))
   refine hKc.out _ _ ⟨(blk_cell (blk_below HO5.out hb') 9).trans rfl, (blk_cell (blk_below HO5.out hb') 10).trans rfl, (hb'.cell (World.block_lt_of_cell? _ _ HP0.out)).trans HP0.out⟩ (fun hH2 => ?_)
   clear hKc Kc hH hS hb hb' hH2
   refine XReg.pu 11 46 (h := ?_)
   have m8 : w5.cell? ⟨N + 1, 8, none⟩ = some (.slice none 0 0) := (blk_cell HM6.out 8).trans rfl
   have g8 : w5.frozen? ⟨N + 1, 8, none⟩ = false := blk_frozen HM6.out 8
   refine XReg.last (i := 12) none rfl rfl (by kernel_rfl) (by decide) (fun Kc hKc => ?_)
   refine store_last rfl rfl (by first | (go_simp; done) | (go_simp; rfl)) ?_
   refine hKc.out _ _ ?_
   clear hKc Kc m8 g8
   refine done_ (by kernel_rfl) ?_
   have HM7 := Aside0.mk (blk_set HM6.out 8 (.slice A8 (pieceOf d.l i).length c8))
   have HX7 := Aside0.mk (blk_far (p := ⟨N + 1, 8, none⟩) HX6.out (by show N ≠ N + 1; omega) (.slice A8 (pieceOf d.l i).length c8))
   have HB7 := Aside0.mk (show Below w.heap.size w (w5.setCell ⟨N + 1, 8, none⟩ (.slice A8 (pieceOf d.l i).length c8)) from below_set HB6.out (by show w.heap.size ≤ N + 1; omega))
   have HS7 := Aside0.mk (Kd.S_far (p := ⟨N + 1, 8, none⟩) (Kd.S_bound HS.out) (fun k hk => by have h1 := hk.2.1; have h2 : w4.drew.heap.size = N + 2 := hs4; show k ≠ N + 1; omega) (.slice A8 (pieceOf d.l i).length c8))
   obtain ⟨w6, hw6⟩ : ∃ w6, w5.setCell ⟨N + 1, 8, none⟩ (.slice A8 (pieceOf d.l i).length c8) = w6 := ⟨_, rfl⟩
   rw [hw6] at HM7 HX7 HB7 HS7 ⊢
   clear hw6 HM6 HX6 HB6 HS
   obtain ⟨n0, n1, n2, n3, n4, n5, n6, n7, n8⟩ := cells9 HM7.out
   obtain ⟨e0, e1, e2, e3, e4, e5, e6, e7, e8⟩ := cells9 HX7.out
   obtain ⟨f0, f1, f2, f3, f4, f5, f6, f7, f8⟩ := froz9 HX7.out
   go_wp2
   have h9 := set9 HX7.out (.int .i64 2) (.string d.fr) (.string d.tw) (.string d.ct) (.int .i64 d.se) (.int .i64 (i : Int)) (.int .i64 (npc d.l.length : Int)) (.slice none 0 0) (.slice A8 (pieceOf d.l i).length c8)
   obtain ⟨k0, k1, k2, k3, k4, k5, k6, k7, k8⟩ := cells9 h9
   have hkN := keeps9 w6 N (.int .i64 2) (.string d.fr) (.string d.tw) (.string d.ct) (.int .i64 d.se) (.int .i64 (i : Int)) (.int .i64 (npc d.l.length : Int)) (.slice none 0 0) (.slice A8 (pieceOf d.l i).length c8)
   have hk := below_keeps HB7.out (M := fun k => k = N) (fun k hk => by omega) HB7.out.size hkN
   have hS9 := Kd.S_step HS7.out (fun k hk hlt => hkN.block k hlt (by have h1 := hk.2.1; have h2 : w4.drew.heap.size = N + 2 := hs4; omega))
   have hf : nextF d (i : Int) = ⟨2, d.fr, d.tw, d.ct, d.se, (i : Int), (npc d.l.length : Int), [], pieceOf d.l i⟩ := by unfold nextF; rw [if_neg (by have := HQ.out; omega), Int.toNat_natCast]
   have hd : decide ((i : Int) < (npc d.l.length : Int)) = true := by simp; omega
   rw [hf, hd]
   exact bodyPost_ret (v := .tuple #[.agg #[.int .i64 2, .string d.fr, .string d.tw, .string d.ct, .int .i64 d.se, .int .i64 (i : Int), .int .i64 (npc d.l.length : Int), .slice none 0 0, .slice A8 (pieceOf d.l i).length c8], .bool true]) (by simp [results, Try.f13, go_sem, k0, k1, k2, k3, k4, k5, k6, k7, k8]) rfl ⟨A8, c8, rfl, rfl, (Kd.S_reads' hS9).2.1, Kd.F_mono (Kd.S_F (Kd.S_bound hS9)) (fun k hk => ⟨by have h1 := hk.2.1; have h2 : w4.drew.heap.size = N + 2 := hs4; omega, hk.2.2.1⟩), hk⟩
end Go.Proofs.Ytjejhgjdmbodiaa.PO
end
section
namespace Go.Proofs.Ytjejhgjdmbodiaa.PO
open Go.RowKit Go.Proofs.YtjejhgjdmbodiaaW.PrintWords Go.Proofs.YtjejhgjdmbodiaaW.PrintLast Go.Proofs.YtjejhgjdmbodiaaW.PrintMore Go.Proofs.Ytjejhgjdmbodiaa.XW
open Go.Proofs.Ytjejhgjdmbodiaa.XRange
set_option linter.unusedVariables false
set_option linter.unusedSimpArgs false
attribute [local go_sem] max2_int min2_int max_two min_two
def takeE (d : OutD) (f : Fr) : Int :=
 if rightF f && decide (f.k = 3) && decide (f.fa = d.tw) && decide (f.fb = d.fr) && decide (f.ct = d.ct) then (if f.se = d.se then (if f.ix > (npc d.l.length : Int) then 2 else 0) else 120) else 2
def takeK (d : OutD) (ack : Int) (f : Fr) : Int := if takeE d f = 0 then max ack f.ix else ack
theorem outAcked_calls (G : Nat → Prop) (o : Nat) (d : OutD) (ack : Int) (w : World) (h : OutAt G w o d ack) :
 Calls Try.prog 16 #[.pointer (some ⟨o, 0, none⟩)] w fun e w' => e = .returned (.int .i64 ack) ∧ Below w.heap.size w w' := by
 obtain ⟨ng, P, c, b, hO, _⟩ := h
 have e10 : w.cell? ⟨o, 10, none⟩ = some (.int .i64 ack) := (blk_cell hO 10).trans rfl
 go_enter Try.func16, Try.ntmps16
 go_wp2
 go_ret
 exact ⟨rfl, Below.refl _ _⟩
set_option maxHeartbeats 8000000 in
set_option maxRecDepth 100000 in
theorem outTake_calls (G : Nat → Prop) (o : Nat) (d : OutD) (ack : Int) (f : Fr) (A7 : Option Addr) (c7 : Nat) (A8 : Option Addr) (c8 : Nat) (w : World) (h : OutAt G w o d ack) (l7 : f.kn.length ≤ c7) (g7 : Kd.C k72 w A7 f.kn.length f.kn) (l8 : f.op.length ≤ c8) (g8 : Kd.C k74 w A8 f.op.length f.op) :
 Calls Try.prog 17 #[.pointer (some ⟨o, 0, none⟩), .agg #[.int .i64 f.k, .string f.fa, .string f.fb, .string f.ct, .int .i64 f.se, .int .i64 f.ix, .int .i64 f.mn, .slice A7 f.kn.length c7, .slice A8 f.op.length c8]] w fun e w' => e = .returned (.int .i64 (takeE d f)) ∧ OutAt G w' o d (takeK d ack f) ∧ Keeps (fun k => k = o) w w' := by
 have HH := Aside0.mk h
 obtain ⟨ng, P, c, b, hO, _⟩ := h
 have HOw := Aside0.mk hO
 have HL7 := Aside0.mk l7
 have HG7 := Aside0.mk g7
 have HL8 := Aside0.mk l8
 have HG8 := Aside0.mk g8
 have hoN := blk_lt hO
 obtain ⟨N, hN⟩ : ∃ N, w.heap.size = N := ⟨_, rfl⟩
 clear l7 g7 l8 g8 hO
 obtain ⟨w0, hw0⟩ : ∃ w0, w.alloc (.cells #[.int .i64 f.k, .string f.fa, .string f.fb, .string f.ct, .int .i64 f.se, .int .i64 f.ix, .int .i64 f.mn, .slice A7 f.kn.length c7, .slice A8 f.op.length c8] 34) = w0 := ⟨_, rfl⟩
 have HB0 := Aside0.mk (show Below w.heap.size w w0 from by rw [← hw0]; exact (Below.refl _ w).alloc (Nat.le_refl _) _)
 have KX := Aside0.mk (show w0.heap[N]? = some (.cells #[.int .i64 f.k, .string f.fa, .string f.fb, .string f.ct, .int .i64 f.se, .int .i64 f.ix, .int .i64 f.mn, .slice A7 f.kn.length c7, .slice A8 f.op.length c8] 34 (0, 0)) from by rw [← hw0, ← hN]; exact World.alloc_heap_new w _)
 have HO0 := Aside0.mk (blk_below HOw.out HB0.out)
 go_enter Try.func17, Try.ntmps17
 go_wp2
 first | rw [hw0] | skip
 try rw [hN]
 clear hw0
 have FIN := Aside0.mk (show ∀ w', Below w.heap.size w w' → takeE d f ≠ 0 → OutAt G w' o d (takeK d ack f) ∧ Keeps (fun k => k = o) w w' from fun w' hb he => by
  unfold takeK
  rw [if_neg he]
  exact ⟨HH.out.below hb, Keeps.of_below hb⟩)
 have hS : ∀ w' : World, w'.heap[N]? = w0.heap[N]? → w'.heap[o]? = w0.heap[o]? → Cells9 w' N (.int .i64 f.k) (.string f.fa) (.string f.fb) (.string f.ct) (.int .i64 f.se) (.int .i64 f.ix) (.int .i64 f.mn) (.slice A7 f.kn.length c7) (.slice A8 f.op.length c8) ∧ w'.cell? ⟨o, 1, none⟩ = some (.string d.fr) ∧ w'.cell? ⟨o, 2, none⟩ = some (.string d.tw) ∧ w'.cell? ⟨o, 3, none⟩ = some (.string d.ct) := fun w' h1 h2 =>
  ⟨cells9 (h1.trans KX.out), (blk_cell (h2.trans HO0.out) 1).trans rfl, (blk_cell (h2.trans HO0.out) 2).trans rfl, (blk_cell (h2.trans HO0.out) 3).trans rfl⟩
 have HSS := Aside0.mk hS
 obtain ⟨br, hbr⟩ : ∃ b, rightF f = b := ⟨_, rfl⟩
 have HBR := Aside0.mk hbr
 have hNlt : N < w0.heap.size ∧ o < w0.heap.size := ⟨blk_lt KX.out, blk_lt HO0.out⟩
 clear hS hbr
 refine start_ (n := 39) (ds := []) (S := fun w' => Cells9 w' N (.int .i64 f.k) (.string f.fa) (.string f.fb) (.string f.ct) (.int .i64 f.se) (.int .i64 f.ix) (.int .i64 f.mn) (.slice A7 f.kn.length c7) (.slice A8 f.op.length c8) ∧ w'.cell? ⟨o, 1, none⟩ = some (.string d.fr) ∧ w'.cell? ⟨o, 2, none⟩ = some (.string d.tw) ∧ w'.cell? ⟨o, 3, none⟩ = some (.string d.ct)) _ (by kernel_rfl) rfl rfl (HSS.out _ rfl rfl) (fun hH => ?_)
 refine XReg.tk 0 9 (hy := by (intro w' hS_; obtain ⟨⟨s0, s1, s2, s3, s4, s5, s6, s7, s8⟩, _⟩ := hS_; go_simp; with_reducible rfl)) (h := ?_)
 refine XReg.one (i := 1) (some 10) rfl rfl (by kernel_rfl) (by decide) (fun Kc hKc => ?_)
 refine goes_ Try.func46 (by kernel_rfl) rfl #[.agg #[.int .i64 f.k, .string f.fa, .string f.fb, .string f.ct, .int .i64 f.se, .int .i64 f.ix, .int .i64 f.mn, .slice A7 f.kn.length c7, .slice A8 f.op.length c8]] (by rfl) rfl rfl (by (try simp only [List.map_toArray, List.map_cons, List.map_nil]); first | done | rfl) ?_
 refine (frRight_calls f A7 c7 A8 c8 _ HL7.out (Kd.C_drew (Kd.C_below HG7.out HB0.out)) HL8.out (Kd.C_drew (Kd.C_below HG8.out HB0.out))).mono ?_
 rw [HBR.out]
 rintro e w1 ⟨rfl, hb⟩
 refine ⟨_, rfl, ?_⟩
 have hb1 : Below w0.heap.size w0 w1 := ⟨hb.os, hb.tape, hb.output, hb.size, hb.block⟩
 have HB1 := Aside0.mk (HB0.out.trans (hb1.mono HB0.out.size))
 have KX1 := Aside0.mk (blk_below KX.out hb1)
 have HO1 := Aside0.mk (blk_below HO0.out hb1)
 refine hKc.out _ _ (HSS.out _ (hb1.block _ hNlt.1) (hb1.block _ hNlt.2)) (fun hH2 => ?_)
 clear hKc Kc hH hb hb1 HSS KX HO0 HB0
 cases br with
 | false =>
   refine XReg.pu 2 11 (h := ?_)
   refine XReg.pu 3 12 (h := ?_)
   refine XReg.pn 4 13 (h := ?_)
   refine XReg.pn 5 14 (h := ?_)
   refine XReg.pn 6 15 (h := ?_)
   refine XReg.pu 7 16 (h := ?_)
   refine XReg.pu 8 17 (h := ?_)
   refine XReg.pn 9 18 (h := ?_)
   refine XReg.pn 10 19 (h := ?_)
   refine XReg.pn 11 20 (h := ?_)
   refine XReg.pn 12 21 (h := ?_)
   refine XReg.pn 13 22 (h := ?_)
   refine XReg.pn 14 23 (h := ?_)
   refine XReg.pn 15 24 (h := ?_)
   refine XReg.pn 16 25 (h := ?_)
   refine XReg.pu 17 26 (h := ?_)
   refine XReg.pu 18 27 (h := ?_)
   refine XReg.pn 19 28 (h := ?_)
   refine XReg.pn 20 29 (h := ?_)
   refine XReg.pn 21 30 (h := ?_)
   refine XReg.pn 22 31 (h := ?_)
   refine XReg.pn 23 32 (h := ?_)
   refine XReg.pn 24 33 (h := ?_)
   refine XReg.pn 25 34 (h := ?_)
   refine XReg.pn 26 35 (h := ?_)
   refine XReg.pu 27 36 (h := ?_)
   refine XReg.pu 28 37 (h := ?_)
   refine XReg.pn 29 38 (h := ?_)
   refine XReg.pn 30 39 (h := ?_)
   refine XReg.pn 31 40 (h := ?_)
   refine XReg.pn 32 41 (h := ?_)
   refine XReg.pn 33 42 (h := ?_)
   refine XReg.pn 34 43 (h := ?_)
   refine XReg.pn 35 44 (h := ?_)
   refine XReg.pn 36 45 (h := ?_)
   refine XReg.pu 37 46 (h := ?_)
   refine XReg.pu 38 8 (h := ?_)
   refine done_ (by kernel_rfl) ?_
   have HE := Aside0.mk (show takeE d f = 2 from by unfold takeE; rw [HBR.out]; rfl)
   go_wp2
   go_ret
   rw [HE.out]
   exact ⟨rfl, FIN.out _ HB1.out (by rw [HE.out]; decide)⟩
 | true =>
   refine XReg.pu 2 11 (h := ?_)
   refine XReg.pu 3 12 (h := ?_)
   refine XReg.pu 4 13 (h := ?_)
   refine XReg.tk 5 14 (hy := by (intro w' hS_; obtain ⟨⟨s0, s1, s2, s3, s4, s5, s6, s7, s8⟩, t1, t2, t3⟩ := hS_; go_simp; with_reducible rfl)) (h := ?_)
   refine XReg.pu 6 15 (h := ?_)
   by_cases k1 : f.k = 3
   case neg =>
    have q : (f.k != 3) = true := by simpa using k1
    rw [q]
    refine XReg.pu 7 16 (h := ?_)
    refine XReg.pu 8 17 (h := ?_)
    refine XReg.pn 9 18 (h := ?_)
    refine XReg.pn 10 19 (h := ?_)
    refine XReg.pn 11 20 (h := ?_)
    refine XReg.pn 12 21 (h := ?_)
    refine XReg.pn 13 22 (h := ?_)
    refine XReg.pn 14 23 (h := ?_)
    refine XReg.pn 15 24 (h := ?_)
    refine XReg.pn 16 25 (h := ?_)
    refine XReg.pu 17 26 (h := ?_)
    refine XReg.pu 18 27 (h := ?_)
    refine XReg.pn 19 28 (h := ?_)
    refine XReg.pn 20 29 (h := ?_)
    refine XReg.pn 21 30 (h := ?_)
    refine XReg.pn 22 31 (h := ?_)
    refine XReg.pn 23 32 (h := ?_)
    refine XReg.pn 24 33 (h := ?_)
    refine XReg.pn 25 34 (h := ?_)
    refine XReg.pn 26 35 (h := ?_)
    refine XReg.pu 27 36 (h := ?_)
    refine XReg.pu 28 37 (h := ?_)
    refine XReg.pn 29 38 (h := ?_)
    refine XReg.pn 30 39 (h := ?_)
    refine XReg.pn 31 40 (h := ?_)
    refine XReg.pn 32 41 (h := ?_)
    refine XReg.pn 33 42 (h := ?_)
    refine XReg.pn 34 43 (h := ?_)
    refine XReg.pn 35 44 (h := ?_)
    refine XReg.pn 36 45 (h := ?_)
    refine XReg.pu 37 46 (h := ?_)
    refine XReg.pu 38 8 (h := ?_)
    refine done_ (by kernel_rfl) ?_
    have HE := Aside0.mk (show takeE d f = 2 from by unfold takeE; rw [HBR.out]; simp [k1])
    go_wp2
    go_ret
    rw [HE.out]
    exact ⟨rfl, FIN.out _ HB1.out (by rw [HE.out]; decide)⟩
   have qk1 : (f.k != 3) = false := by simp [k1]
   rw [qk1]
   refine XReg.pu 7 16 (h := ?_)
   refine XReg.pu 8 17 (h := ?_)
   refine XReg.pu 9 18 (h := ?_)
   refine XReg.tk 10 19 (hy := by (intro w' hS_; obtain ⟨⟨s0, s1, s2, s3, s4, s5, s6, s7, s8⟩, t1, t2, t3⟩ := hS_; go_simp; with_reducible rfl)) (h := ?_)
   refine XReg.pu 11 20 (h := ?_)
   refine XReg.pu 12 21 (h := ?_)
   refine XReg.pu 13 22 (h := ?_)
   refine XReg.pu 14 23 (h := ?_)
   refine XReg.tk 15 24 (hy := by (intro w' hS_; obtain ⟨⟨s0, s1, s2, s3, s4, s5, s6, s7, s8⟩, t1, t2, t3⟩ := hS_; go_simp; with_reducible rfl)) (h := ?_)
   refine XReg.pu 16 25 (h := ?_)
   by_cases k2 : f.fa = d.tw
   case neg =>
    have q : (!(f.fa.toList == d.tw.toList)) = true := by simpa using (fun h => k2 (bytes_inj h))
    rw [q]
    refine XReg.pu 17 26 (h := ?_)
    refine XReg.pu 18 27 (h := ?_)
    refine XReg.pn 19 28 (h := ?_)
    refine XReg.pn 20 29 (h := ?_)
    refine XReg.pn 21 30 (h := ?_)
    refine XReg.pn 22 31 (h := ?_)
    refine XReg.pn 23 32 (h := ?_)
    refine XReg.pn 24 33 (h := ?_)
    refine XReg.pn 25 34 (h := ?_)
    refine XReg.pn 26 35 (h := ?_)
    refine XReg.pu 27 36 (h := ?_)
    refine XReg.pu 28 37 (h := ?_)
    refine XReg.pn 29 38 (h := ?_)
    refine XReg.pn 30 39 (h := ?_)
    refine XReg.pn 31 40 (h := ?_)
    refine XReg.pn 32 41 (h := ?_)
    refine XReg.pn 33 42 (h := ?_)
    refine XReg.pn 34 43 (h := ?_)
    refine XReg.pn 35 44 (h := ?_)
    refine XReg.pn 36 45 (h := ?_)
    refine XReg.pu 37 46 (h := ?_)
    refine XReg.pu 38 8 (h := ?_)
    refine done_ (by kernel_rfl) ?_
    have HE := Aside0.mk (show takeE d f = 2 from by unfold takeE; rw [HBR.out]; simp [k1, k2])
    go_wp2
    go_ret
    rw [HE.out]
    exact ⟨rfl, FIN.out _ HB1.out (by rw [HE.out]; decide)⟩
   have qk2 : (!(f.fa.toList == d.tw.toList)) = false := by simp [k2]
   rw [qk2]
   refine XReg.pu 17 26 (h := ?_)
   refine XReg.pu 18 27 (h := ?_)
   refine XReg.pu 19 28 (h := ?_)
   refine XReg.tk 20 29 (hy := by (intro w' hS_; obtain ⟨⟨s0, s1, s2, s3, s4, s5, s6, s7, s8⟩, t1, t2, t3⟩ := hS_; go_simp; with_reducible rfl)) (h := ?_)
   refine XReg.pu 21 30 (h := ?_)
   refine XReg.pu 22 31 (h := ?_)
   refine XReg.pu 23 32 (h := ?_)
   refine XReg.pu 24 33 (h := ?_)
   refine XReg.tk 25 34 (hy := by (intro w' hS_; obtain ⟨⟨s0, s1, s2, s3, s4, s5, s6, s7, s8⟩, t1, t2, t3⟩ := hS_; go_simp; with_reducible rfl)) (h := ?_)
   refine XReg.pu 26 35 (h := ?_)
   by_cases k3 : f.fb = d.fr
   case neg =>
    have q : (!(f.fb.toList == d.fr.toList)) = true := by simpa using (fun h => k3 (bytes_inj h))
    rw [q]
    refine XReg.pu 27 36 (h := ?_)
    refine XReg.pu 28 37 (h := ?_)
    refine XReg.pn 29 38 (h := ?_)
    refine XReg.pn 30 39 (h := ?_)
    refine XReg.pn 31 40 (h := ?_)
    refine XReg.pn 32 41 (h := ?_)
    refine XReg.pn 33 42 (h := ?_)
    refine XReg.pn 34 43 (h := ?_)
    refine XReg.pn 35 44 (h := ?_)
    refine XReg.pn 36 45 (h := ?_)
    refine XReg.pu 37 46 (h := ?_)
    refine XReg.pu 38 8 (h := ?_)
    refine done_ (by kernel_rfl) ?_
    have HE := Aside0.mk (show takeE d f = 2 from by unfold takeE; rw [HBR.out]; simp [k1, k2, k3])
    go_wp2
    go_ret
    rw [HE.out]
    exact ⟨rfl, FIN.out _ HB1.out (by rw [HE.out]; decide)⟩
   have qk3 : (!(f.fb.toList == d.fr.toList)) = false := by simp [k3]
   rw [qk3]
   refine XReg.pu 27 36 (h := ?_)
   refine XReg.pu 28 37 (h := ?_)
   refine XReg.pu 29 38 (h := ?_)
   refine XReg.tk 30 39 (hy := by (intro w' hS_; obtain ⟨⟨s0, s1, s2, s3, s4, s5, s6, s7, s8⟩, t1, t2, t3⟩ := hS_; go_simp; with_reducible rfl)) (h := ?_)
   refine XReg.pu 31 40 (h := ?_)
   refine XReg.pu 32 41 (h := ?_)
   refine XReg.pu 33 42 (h := ?_)
   refine XReg.pu 34 43 (h := ?_)
   refine XReg.tk 35 44 (hy := by (intro w' hS_; obtain ⟨⟨s0, s1, s2, s3, s4, s5, s6, s7, s8⟩, t1, t2, t3⟩ := hS_; go_simp; with_reducible rfl)) (h := ?_)
   refine XReg.pu 36 45 (h := ?_)
   by_cases k4 : f.ct = d.ct
   case neg =>
    have q : (!(f.ct.toList == d.ct.toList)) = true := by simpa using (fun h => k4 (bytes_inj h))
    rw [q]
    refine XReg.pu 37 46 (h := ?_)
    refine XReg.pu 38 8 (h := ?_)
    refine done_ (by kernel_rfl) ?_
    have HE := Aside0.mk (show takeE d f = 2 from by unfold takeE; rw [HBR.out]; simp [k1, k2, k3, k4])
    go_wp2
    go_ret
    rw [HE.out]
    exact ⟨rfl, FIN.out _ HB1.out (by rw [HE.out]; decide)⟩
   have qk4 : (!(f.ct.toList == d.ct.toList)) = false := by simp [k4]
   rw [qk4]
   refine XReg.pu 37 46 (h := ?_)
   refine XReg.pu 38 8 (h := ?_)
   refine done_ (by kernel_rfl) ?_
   have HT := Aside0.mk (show takeE d f = (if f.se = d.se then (if f.ix > (npc d.l.length : Int) then 2 else 0) else 120) from by unfold takeE; rw [HBR.out]; simp [k1, k2, k3, k4])
   obtain ⟨n0, n1, n2, n3, n4, n5, n6, n7, n8⟩ := cells9 KX1.out
   clear n0 n1 n2 n3 n6 n7 n8
   have m4 : w1.cell? ⟨o, 4, none⟩ = some (.int .i64 d.se) := (blk_cell HO1.out 4).trans rfl
   have m9 : w1.cell? ⟨o, 9, none⟩ = some (.slice P (npc d.l.length) c) := (blk_cell HO1.out 9).trans rfl
   have m10 : w1.cell? ⟨o, 10, none⟩ = some (.int .i64 ack) := (blk_cell HO1.out 10).trans rfl
   have mf : w1.frozen? ⟨o, 10, none⟩ = false := blk_frozen HO1.out 10
   have HB2 := Aside0.mk (show Below w.heap.size w w1.drew from below_drew1 HB1.out)
   have HB3 := Aside0.mk (show Below w.heap.size w w1.drew.drew from below_drew1 HB2.out)
   have HB4 := Aside0.mk (show Below w.heap.size w w1.drew.drew.drew from below_drew1 HB3.out)
   clear k1 k2 k3 k4 qk1 qk2 qk3 qk4
   go_wp2
   refine start_ (n := 9) (ds := []) (S := fun w' => w'.cell? ⟨N, 4, none⟩ = some (.int .i64 f.se) ∧ w'.cell? ⟨o, 4, none⟩ = some (.int .i64 d.se)) _ (by kernel_rfl) rfl rfl ⟨n4, m4⟩ (fun hH => ?_)
   refine XReg.pu 0 48 (h := ?_)
   refine XReg.tk 1 49 (h := ?_)
   refine XReg.pu 2 50 (h := ?_)
   refine XReg.pu 3 51 (h := ?_)
   refine XReg.pu 4 52 (h := ?_)
   refine XReg.pu 5 53 (h := ?_)
   refine XReg.tk 6 54 (h := ?_)
   refine XReg.pu 7 55 (h := ?_)
   refine XReg.pu 8 47 (h := ?_)
   refine done_ (by kernel_rfl) ?_
   clear hH
   by_cases z1 : f.se = d.se
   case neg =>
    have q : (f.se != d.se) = true := by simpa using z1
    rw [q]
    go_wp2
    go_ret
    have hE : takeE d f = 120 := by rw [HT.out, if_neg z1]
    rw [hE]
    exact ⟨rfl, FIN.out _ HB2.out (by rw [hE]; decide)⟩
   have qz : (f.se != d.se) = false := by simpa using z1
   rw [qz]
   go_wp2
   refine start_ (n := 9) (ds := []) (S := fun w' => w'.cell? ⟨N, 5, none⟩ = some (.int .i64 f.ix) ∧ w'.cell? ⟨o, 9, none⟩ = some (.slice P (npc d.l.length) c)) _ (by kernel_rfl) rfl rfl ⟨n5, m9⟩ (fun hH => ?_)
   refine XReg.pu 0 57 (h := ?_)
   refine XReg.tk 1 58 (h := ?_)
   refine XReg.pu 2 59 (h := ?_)
   refine XReg.pu 3 60 (h := ?_)
   refine XReg.pu 4 61 (h := ?_)
   refine XReg.tk 5 62 (h := ?_)
   refine XReg.pu 6 63 (h := ?_)
   refine XReg.pu 7 64 (h := ?_)
   refine XReg.pu 8 56 (h := ?_)
   refine done_ (by kernel_rfl) ?_
   clear hH
   by_cases z2 : f.ix > (npc d.l.length : Int)
   case pos =>
    have q : decide ((npc d.l.length : Int) < f.ix) = true := by simpa using z2
    simp only [q]
    go_wp2
    go_ret
    have hE : takeE d f = 2 := by rw [HT.out, if_pos z1, if_pos z2]
    rw [hE]
    exact ⟨rfl, FIN.out _ HB3.out (by rw [hE]; decide)⟩
   have q : decide ((npc d.l.length : Int) < f.ix) = false := by simpa using z2
   simp only [q]
   go_wp2
   refine start_ (n := 11) (ds := [10]) (S := fun w' => w'.cell? ⟨N, 5, none⟩ = some (.int .i64 f.ix) ∧ w'.cell? ⟨o, 10, none⟩ = some (.int .i64 ack)) _ (by kernel_rfl) rfl rfl ⟨n5, m10⟩ (fun hH => ?_)
   refine XReg.pu 0 65 (h := ?_)
   refine XReg.pu 1 66 (h := ?_)
   refine XReg.pu 2 67 (h := ?_)
   refine XReg.pu 3 68 (h := ?_)
   refine XReg.tk 4 69 (h := ?_)
   refine XReg.pu 5 70 (h := ?_)
   refine XReg.tk 6 71 (h := ?_)
   refine XReg.pu 7 72 (h := ?_)
   refine XReg.pu 8 73 (h := ?_)
   refine XReg.pu 9 74 (h := ?_)
   refine XReg.last (i := 10) none rfl rfl (by kernel_rfl) (by decide) (fun Kc hKc => ?_)
   refine store_last rfl rfl (by first | (go_simp; done) | (go_simp; rfl)) ?_
   refine hKc.out _ _ ?_
   clear hKc Kc
   refine done_ (by kernel_rfl) ?_
   have hE : takeE d f = 0 := by rw [HT.out, if_pos z1, if_neg (by omega)]
   have hK : takeK d ack f = max ack f.ix := by unfold takeK; rw [if_pos hE]
   go_wp2
   all_goals
    go_ret
    try rw [hE]
    try rw [hK]
    have hm : max ack f.ix = if ack < f.ix then f.ix else ack := by split <;> omega
    try rw [hm]
    first | split | skip
    all_goals first
     | omega
     | exact ⟨rfl, ((HH.out.below HB1.out).acked _).step rfl (fun _ _ _ => rfl), ((((Keeps.of_below HB1.out).setCell (M := fun k => k = o) (p := ⟨o, 10, none⟩) (.inl rfl) _).drew).drew).drew⟩
end Go.Proofs.Ytjejhgjdmbodiaa.PO
end
section
namespace Go.Proofs.Ytjejhgjdmbodiaa.PO
open Go.RowKit Go.Proofs.YtjejhgjdmbodiaaW.PrintWords Go.Proofs.YtjejhgjdmbodiaaW.PrintLast Go.Proofs.YtjejhgjdmbodiaaW.PrintMore Go.Proofs.Ytjejhgjdmbodiaa.XW
open Go.Proofs.Ytjejhgjdmbodiaa.XRange Go.Proofs.Ytjejhgjdmbodiaa.XMap
set_option linter.unusedVariables false
set_option linter.unusedSimpArgs false
abbrev Whose := ByteArray × ByteArray
abbrev Curs := Int × Int
def wV (p : Whose) : Value := .agg #[.string p.1, .string p.2]
def cV (c : Curs) : Value := .agg #[.int .i64 c.1, .int .i64 c.2]
theorem keysW : Keys Try.prog 93 wV := by
 have hu := Try.underlying93
 refine keys_struct hu ?_ ?_ ?_
 · intro em x w
   obtain ⟨n, hn⟩ : ∃ n, 10000 = n + 1 + 1 := ⟨9998, rfl⟩
   rw [hn]
   have h9 := Try.underlying9
   have c9 : ∀ (s : ByteArray) W, (Instr.checkKey em (n + 1) 9 (.string s)).run Try.prog W = .ok () W := fun s W => by simp [Instr.checkKey, run_underlying h9]
   unfold wV
   rw [Instr.checkKey]
   simp [run_underlying hu, go_sem, c9]
 · intro x y w
   have h9 := Try.underlying9
   have key : ∀ d, (Op.equalIn (d + 1 + 1) 93 (.agg #[.string x.1, .string x.2]) (.agg #[.string y.1, .string y.2])).run Try.prog w = .ok ((x.1 == y.1) && (x.2 == y.2)) w := by
    intro d
    refine eqA_of hu (by kernel_rfl) (eqf_cons (r := x.1 == y.1) (s := x.2 == y.2) (a := .string x.1) (b := .string y.1) rfl ?_ ?_ ?_ (eqf_last (a := .string x.2) (b := .string y.2) rfl ?_ ?_ ?_))
    · go_simp
    · go_simp
    · simp only [Op.equalIn]; go_simp
    · go_simp
    · go_simp
    · simp only [Op.equalIn]; go_simp
   have e1 : ((x.1 == y.1) && (x.2 == y.2)) = decide (y = x) := by
    rw [ba_beq, ba_beq]
    obtain ⟨x0, x1⟩ := x
    obtain ⟨y0, y1⟩ := y
    simp only [Prod.mk.injEq]
    rw [Bool.eq_iff_iff]
    simp only [Bool.and_eq_true, decide_eq_true_eq]
    constructor <;> (rintro ⟨rfl, rfl⟩; exact ⟨rfl, rfl⟩)
   rw [← e1]
   exact key 9998
 · intro x
   simp [Instr.sameBits, wV, ba_beq]
structure InAt (w : World) (i m : Nat) (who : ByteArray) (D : List (Whose × Curs)) : Prop where
 blk : w.heap[i]? = some (.cells #[.string who, .map (some m)] 88 (0, 0))
 mp : MapAt w m wV cV D
theorem InAt.step {w w1 : World} {i m : Nat} {who : ByteArray} {D : List (Whose × Curs)} (h : InAt w i m who D) (h1 : w1.heap[i]? = w.heap[i]?) (h2 : w1.heap[m]? = w.heap[m]?) : InAt w1 i m who D :=
 ⟨h1.trans h.blk, h.mp.step h2⟩
theorem InAt.below {w w1 : World} {i m : Nat} {who : ByteArray} {D : List (Whose × Curs)} (h : InAt w i m who D) (hb : Below w.heap.size w w1) : InAt w1 i m who D :=
 h.step (hb.block i (blk_lt h.blk)) (hb.block m h.mp.lt)
theorem InAt.ne {w : World} {i m : Nat} {who : ByteArray} {D : List (Whose × Curs)} (h : InAt w i m who D) : i ≠ m := fun e => by
 obtain ⟨es, cl, hm, _⟩ := h.mp.at_
 rw [← e, h.blk] at hm
 cases hm
theorem mk86 : Try.prog.underlying 86 = some (.map (Try.prog.mapKeyOf 86) (Try.prog.mapElemOf 86)) := by
 simp [Program.mapKeyOf, Program.mapElemOf, Try.underlying86]
theorem len_at {κ ν : Type} [DecidableEq κ] {K : κ → Value} {V : ν → Value} {t : TypeId} (ht : Try.prog.underlying t = some (.map (Try.prog.mapKeyOf t) (Try.prog.mapElemOf t))) {w : World} {b : Nat} {D : List (κ × ν)} (h : MapAt w b K V D) :
 (Builtin.len_ #[t] 3 #[.map (some b)]).run Try.prog w = .ok (.int .i64 (D.length : Int)) w := by
 obtain ⟨es, clock, hes, hk, _, _, _⟩ := h.at_
 rw [run_len_map _ t 3 b es clock ht hes, keys_len hk]
 rfl
theorem info95 : (Try.prog.info? 95).map (fun i => i.zero) = some (some (.agg #[.int .i64 0, .int .i64 0])) := by kernel_rfl
theorem zero95 (w : World) : (zeroValue 95).run Try.prog w = .ok (.agg #[.int .i64 0, .int .i64 0]) w := by
 obtain ⟨i0, hi, hzz⟩ := Option.map_eq_some_iff.1 info95
 simp [zeroValue, typeInfo, hi, hzz]
theorem newIn_calls (who : ByteArray) (w : World) (h : isNameB who = true) : Calls Try.prog 21 #[.string who] w fun e w' => ∃ i m, e = .returned (.tuple #[.pointer (some ⟨i, 0, none⟩), .int .i64 0]) ∧ InAt w' i m who [] ∧ w.heap.size ≤ i ∧ w.heap.size ≤ m ∧ Below w.heap.size w w' := by
 have hmm := @run_makeMap Try.prog
 go_enter Try.func21, Try.ntmps21
 go_wp2_with fail
 refine (vector_IsName.calls who true _ (congrArg some h)).mono ?_
 rintro e w1 ⟨rfl, hb1⟩
 go_wp2
 go_ret2
 have hb2 : Below w1.heap.size w1 (w1.alloc (.map #[] 0)) := (Below.refl _ w1).alloc (Nat.le_refl _) _
 have hb3 := (Below.refl (w1.alloc (.map #[] 0)).heap.size (w1.alloc (.map #[] 0))).alloc (Nat.le_refl _) (.cells #[.string who, .map (some w1.heap.size)] 88)
 refine ⟨_, w1.heap.size, rfl, ⟨?_, (made w1 wV cV).step (hb3.block w1.heap.size (by simp))⟩, ?_, hb1.size, hb1.trans ((hb2.trans (hb3.mono hb2.size)).mono hb1.size)⟩
 · have := World.alloc_heap_new (w1.alloc (.map #[] 0)) (.cells #[.string who, .map (some w1.heap.size)] 88)
   simpa using this
 · have := hb1.size; simp; omega
end Go.Proofs.Ytjejhgjdmbodiaa.PO
end
