/- What the rows of this claim use, out of the texts of this work (SO). No condition beyond those that each statement names. -/
import Derived.Test.YtjejhgjdmbodiaaZcSI
namespace Go.Proofs.Ytjejhgjdmbodiaa.PO
open Go.RowKit Go.Proofs.YtjejhgjdmbodiaaW.PrintWords Go.Proofs.YtjejhgjdmbodiaaW.PrintLast Go.Proofs.YtjejhgjdmbodiaaW.PrintMore Go.Proofs.Ytjejhgjdmbodiaa.XW
open Go.Proofs.Ytjejhgjdmbodiaa.XRange Go.Proofs.Ytjejhgjdmbodiaa.XMap
attribute [local go_sem] max2_int min2_int max_two min_two
set_option linter.unusedVariables false
set_option linter.unusedSimpArgs false
def kFr : Kd Fr := Kd.iso (Kd.pair (Kd.int .i64) (Kd.pair Kd.string (Kd.pair Kd.string (Kd.pair Kd.string (Kd.pair (Kd.int .i64) (Kd.pair (Kd.int .i64) (Kd.pair (Kd.int .i64) (Kd.pair (Kd.slice 72 k72) (Kd.slice 74 k74))))))))) (fun x : Fr => (x.k, x.fa, x.fb, x.ct, x.se, x.ix, x.mn, x.kn, x.op))
theorem kFr_open {w : World} {x : Fr} {cs : List Value} (h : kFr.K w x cs) : ∃ A7 c7 A8 c8, cs = [.int .i64 x.k, .string x.fa, .string x.fb, .string x.ct, .int .i64 x.se, .int .i64 x.ix, .int .i64 x.mn, .slice A7 x.kn.length c7, .slice A8 x.op.length c8] ∧ x.kn.length ≤ c7 ∧ Kd.C k72 w A7 x.kn.length x.kn ∧ x.op.length ≤ c8 ∧ Kd.C k74 w A8 x.op.length x.op := by
 obtain ⟨_, _, rfl, rfl, ⟨_, _, rfl, rfl, ⟨_, _, rfl, rfl, ⟨_, _, rfl, rfl, ⟨_, _, rfl, rfl, ⟨_, _, rfl, rfl, ⟨_, _, rfl, rfl, ⟨_, _, rfl, ⟨A7, c7, rfl, l7, g7⟩, ⟨A8, c8, rfl, l8, g8⟩⟩⟩⟩⟩⟩⟩⟩⟩ := h
 exact ⟨A7, c7, A8, c8, rfl, l7, g7, l8, g8⟩
structure FrAt (w : World) (p : Addr) (f : Fr) (A7 : Option Addr) (c7 : Nat) (A8 : Option Addr) (c8 : Nat) : Prop where
 e0 : w.cell? p = some (.int .i64 f.k)
 e1 : w.cell? ⟨p.block, p.off + 1, none⟩ = some (.string f.fa)
 e2 : w.cell? ⟨p.block, p.off + 2, none⟩ = some (.string f.fb)
 e3 : w.cell? ⟨p.block, p.off + 3, none⟩ = some (.string f.ct)
 e4 : w.cell? ⟨p.block, p.off + 4, none⟩ = some (.int .i64 f.se)
 e5 : w.cell? ⟨p.block, p.off + 5, none⟩ = some (.int .i64 f.ix)
 e6 : w.cell? ⟨p.block, p.off + 6, none⟩ = some (.int .i64 f.mn)
 e7 : w.cell? ⟨p.block, p.off + 7, none⟩ = some (.slice A7 f.kn.length c7)
 e8 : w.cell? ⟨p.block, p.off + 8, none⟩ = some (.slice A8 f.op.length c8)
theorem FrAt.move {w w1 : World} {p : Addr} {f : Fr} {A7 : Option Addr} {c7 : Nat} {A8 : Option Addr} {c8 : Nat} {b : Nat} (h : FrAt w p f A7 c7 A8 c8) (hb : Below b w w1) (hp : p.block < b) : FrAt w1 p f A7 c7 A8 c8 := by
 have st : ∀ {q : Addr} {u : Value}, q.block = p.block → w.cell? q = some u → w1.cell? q = some u := fun hq hc => (hb.cell (by rw [hq]; exact hp)).trans hc
 exact ⟨st rfl h.e0, st rfl h.e1, st rfl h.e2, st rfl h.e3, st rfl h.e4, st rfl h.e5, st rfl h.e6, st rfl h.e7, st rfl h.e8⟩
theorem frAt {w : World} {A : Option Addr} {n : Nat} {xs : List Fr} (h : Kd.C kFr w A n xs) (i : Nat) (h1 : i < n) : ∃ ad A7 c7 A8 c8, A = some ad ∧ FrAt w (ad.add (i * 9)) (xs.getD i zF) A7 c7 A8 c8 ∧ (ad.add (i * 9)).block < w.heap.size ∧ (xs.getD i zF).kn.length ≤ c7 ∧ Kd.C k72 w A7 (xs.getD i zF).kn.length (xs.getD i zF).kn ∧ (xs.getD i zF).op.length ≤ c8 ∧ Kd.C k74 w A8 (xs.getD i zF).op.length (xs.getD i zF).op := by
 obtain ⟨ad, c, e, _, hK, hc0⟩ := Kd.C_get h zF (i : Int) (by omega) (by omega)
 have hc : ∀ j u, c[j]? = some u → w.cell? (ad.add (i * 9 + j)) = some u := hc0
 rw [Int.toNat_natCast] at hK
 obtain ⟨A7, c7, A8, c8, rfl, l7, g7, l8, g8⟩ := kFr_open hK
 have h0 := hc 0 _ rfl
 exact ⟨ad, A7, c7, A8, c8, e, ⟨h0, by rw [← add_field _ _ 1 (by omega)]; exact hc 1 _ rfl, by rw [← add_field _ _ 2 (by omega)]; exact hc 2 _ rfl, by rw [← add_field _ _ 3 (by omega)]; exact hc 3 _ rfl, by rw [← add_field _ _ 4 (by omega)]; exact hc 4 _ rfl, by rw [← add_field _ _ 5 (by omega)]; exact hc 5 _ rfl, by rw [← add_field _ _ 6 (by omega)]; exact hc 6 _ rfl, by rw [← add_field _ _ 7 (by omega)]; exact hc 7 _ rfl, by rw [← add_field _ _ 8 (by omega)]; exact hc 8 _ rfl⟩, World.block_lt_of_cell? w _ h0, l7, g7, l8, g8⟩
theorem takeK_nonneg {d : OutD} {ack : Int} {f : Fr} (h : 0 ≤ ack) : 0 ≤ takeK d ack f := by unfold takeK; split <;> omega
theorem newOutN_calls (d : OutD) (n : Nat) (hn : d.l.length = n) (A : Option Addr) (c : Nat) (w : World) (hc : d.l.length ≤ c) (hC : Kd.C k74 w A d.l.length d.l) (hk : okOut d = true) :
 Calls Try.prog 11 #[.string d.fr, .string d.tw, .string d.ct, .int .i64 d.se, .slice A n c] w fun e w' => ∃ o, e = .returned (.tuple #[.pointer (some ⟨o, 0, none⟩), .int .i64 0]) ∧ OutAt (fun k => w.heap.size ≤ k ∧ k < w'.heap.size ∧ k ≠ o) w' o d 0 ∧ w.heap.size ≤ o ∧ Below w.heap.size w w' := by
 subst hn; exact newOut_calls d A c w hc hC hk
theorem newOutNBad_calls (d : OutD) (n : Nat) (hn : d.l.length = n) (A : Option Addr) (c : Nat) (w : World) (hc : d.l.length ≤ c) (hC : Kd.C k74 w A d.l.length d.l) (hk : okOut d = false) :
 Calls Try.prog 11 #[.string d.fr, .string d.tw, .string d.ct, .int .i64 d.se, .slice A n c] w fun e w' => e = .returned (.tuple #[.pointer none, .int .i64 2]) ∧ Below w.heap.size w w' := by
 subst hn; exact newOutBad_calls d A c w hc hC hk
theorem refNewOutN_calls (d : OutD) (n : Nat) (hn : d.l.length = n) (A : Option Addr) (c : Nat) (w : World) (hc : d.l.length ≤ c) (hC : Kd.C k74 w A d.l.length d.l) (m : Nat) (hm : m ≤ 9223372036854775807) (hzf : d.fr.size ≤ m) (hzt : d.tw.size ≤ m) (hz : ∀ x, x ∈ d.l → WfO m x) :
 Calls Try.prog 12 #[.string d.fr, .string d.tw, .string d.ct, .int .i64 d.se, .slice A n c] w fun e w' =>
  (okOut d = true → ∃ r, e = .returned (.tuple #[.pointer (some ⟨r, 0, none⟩), .int .i64 0]) ∧ w'.heap[r]? = some (.cells (refCells d A c 0) 40 (0, 0)) ∧ w.heap.size ≤ r) ∧ (okOut d = false → e = .returned (.tuple #[.pointer none, .int .i64 2])) ∧ Below w.heap.size w w' := by
 subst hn; exact refNewOut_calls d A c w hc hC m hm hzf hzt hz
theorem refEqual0_calls (f : Fr) (A8 : Option Addr) (c8 : Nat) (B8 : Option Addr) (d8 : Nat) (w : World) (hk : f.kn = []) (l8 : f.op.length ≤ c8) (g8 : Kd.C k74 w A8 f.op.length f.op) (m8 : f.op.length ≤ d8) (h8 : Kd.C k74 w B8 f.op.length f.op) :
 Calls Try.prog 15 #[.agg #[.int .i64 f.k, .string f.fa, .string f.fb, .string f.ct, .int .i64 f.se, .int .i64 f.ix, .int .i64 f.mn, .slice none 0 0, .slice A8 f.op.length c8], .agg #[.int .i64 f.k, .string f.fa, .string f.fb, .string f.ct, .int .i64 f.se, .int .i64 f.ix, .int .i64 f.mn, .slice none 0 0, .slice B8 f.op.length d8]] w
  fun e w' => e = .returned (.bool true) ∧ Below w.heap.size w w' := by
 have h := refEqualF_calls f none 0 A8 c8 f none 0 B8 d8 w (by rw [hk]; exact Nat.le_refl _) (by rw [hk]; exact Kd.C_nil _ _) l8 g8 (by rw [hk]; exact Nat.le_refl _) (by rw [hk]; exact Kd.C_nil _ _) m8 h8
 have h2 : f.kn.length = 0 := by rw [hk]; rfl
 rw [h2, eqR_iff.2 rfl] at h
 exact h
theorem nextF_kn (d : OutD) (ack : Int) : (nextF d ack).kn = [] := by unfold nextF; split <;> rfl
theorem i_facts {i n : Nat} (h1 : i ≤ n) (h2 : i ≤ 50) : decide ((i : Int) ≤ (n : Int)) = true ∧ decide ((i : Int) ≤ 50) = true := ⟨decide_eq_true (by omega), decide_eq_true (by omega)⟩
set_option maxHeartbeats 8000000 in
set_option maxRecDepth 100000 in
theorem sessTells_calls (w : World) (fr tw ct : ByteArray) (se : Int) (l : List S74) (A : Option Addr) (c : Nat) (fs : List Fr) (B : Option Addr) (e : Nat) (hfr : fr.size ≤ maxLen) (htw : tw.size ≤ maxLen) (hC : Kd.C k74 w A l.length l) (hc : l.length ≤ c) (hz : ∀ x, x ∈ l → WfO maxLen x) (hF : Kd.C kFr w B fs.length fs) (hzf : ∀ f, f ∈ fs → WfF maxLen f) :
 Calls Try.prog 3 #[.string fr, .string tw, .string ct, .int .i64 se, .slice A l.length c, .slice B fs.length e] w fun e w' => e = .returned (.bool true) ∧ Below w.heap.size w w' := by
 obtain ⟨N, hN⟩ : ∃ N, w.heap.size = N := ⟨_, rfl⟩
 have HCL := Aside0.mk hc
 have HF := Aside0.mk hF
 have HZF := Aside0.mk hzf
 obtain ⟨q, hq⟩ : ∃ q, min l.length 100 = q := ⟨_, rfl⟩
 have hif : (if (100 : Int) < (l.length : Int) then (100 : Int) else (l.length : Int)) = (q : Int) := by split <;> omega
 have hlm : l.length ≤ 9223372036854775807 := hC.2.1
 have hfm : fs.length ≤ 9223372036854775807 := hF.2.1
 have b1 : (0 : Int) ≤ (q : Int) := by omega
 have b2 : (q : Int) ≤ (c : Int) := by omega
 have b3 : (q : Int) ≤ (l.length : Int) := by omega
 have HQL := Aside0.mk (show (⟨fr, tw, ct, se, l.take q⟩ : OutD).l.length = q from by show (l.take q).length = q; rw [List.length_take]; omega)
 have HQ := Aside0.mk (show q ≤ 100 ∧ q ≤ c from by omega)
 have HCQ := Aside0.mk (show Kd.C k74 w A (⟨fr, tw, ct, se, l.take q⟩ : OutD).l.length (⟨fr, tw, ct, se, l.take q⟩ : OutD).l from Kd.C_take hC (by omega))
 have HZQ := Aside0.mk (show ∀ x, x ∈ (⟨fr, tw, ct, se, l.take q⟩ : OutD).l → WfO maxLen x from fun x hx => hz x (List.mem_of_mem_take hx))
 have HFR := Aside0.mk hfr
 have HTW := Aside0.mk htw
 clear hC hc hz hF hzf hfr htw hq
 go_enter Try.func3, Try.ntmps3
 go_wp2_with fail
 refine (shown_calls _).mono ?_
 rintro e' w1 ⟨rfl, hb⟩
 have HB1 := Aside0.mk hb
 clear hb
 go_wp2_with fail
 obtain ⟨bo, hbo⟩ : ∃ b, okOut ⟨fr, tw, ct, se, l.take q⟩ = b := ⟨_, rfl⟩
 have HBO := Aside0.mk hbo
 clear hbo
 cases bo with
 | false =>
   refine (newOutNBad_calls ⟨fr, tw, ct, se, l.take q⟩ q HQL.out A c w1 (by rw [HQL.out]; exact HQ.out.2) (Kd.C_below HCQ.out HB1.out) HBO.out).mono ?_
   rintro e' w2 ⟨rfl, hb⟩
   have HB2 := Aside0.mk (HB1.out.trans (hb.mono HB1.out.size))
   clear hb
   go_wp2_with fail
   refine (refNewOutN_calls ⟨fr, tw, ct, se, l.take q⟩ q HQL.out A c w2 (by rw [HQL.out]; exact HQ.out.2) (Kd.C_below HCQ.out HB2.out) maxLen (by decide) HFR.out HTW.out HZQ.out).mono ?_
   rintro e' w3 ⟨_, h2, hb⟩
   obtain rfl := h2 HBO.out
   have HB3 := Aside0.mk (HB2.out.trans (hb.mono HB2.out.size))
   clear hb h2
   go_wp2
   go_ret
   exact ⟨rfl, by first | exact HB3.out | (rw [← hN]; exact HB3.out)⟩
 | true =>
   refine (newOutN_calls ⟨fr, tw, ct, se, l.take q⟩ q HQL.out A c w1 (by rw [HQL.out]; exact HQ.out.2) (Kd.C_below HCQ.out HB1.out) HBO.out).mono ?_
   rintro e' w2 ⟨o, rfl, hO, hol, hb⟩
   obtain ⟨b0, hb0⟩ : ∃ b, w2.heap.size = b := ⟨_, rfl⟩
   have HO2 := Aside0.mk (show OutAt (fun k => k < b0 ∧ k ≠ o) w2 o ⟨fr, tw, ct, se, l.take q⟩ 0 from hO.weak (fun k hk => ⟨by rw [← hb0]; exact hk.2.1, hk.2.2⟩) (fun h => h.2 rfl))
   have HB2 := Aside0.mk (HB1.out.trans (hb.mono HB1.out.size))
   have HOL := Aside0.mk (show w.heap.size ≤ o ∧ o < b0 from ⟨Nat.le_trans HB1.out.size hol, by rw [← hb0]; exact HO2.out.lt⟩)
   clear hb hO hol
   go_wp2_with fail
   refine (refNewOutN_calls ⟨fr, tw, ct, se, l.take q⟩ q HQL.out A c w2 (by rw [HQL.out]; exact HQ.out.2) (Kd.C_below HCQ.out HB2.out) maxLen (by decide) HFR.out HTW.out HZQ.out).mono ?_
   rintro e' w3 ⟨h1, _, hb⟩
   obtain ⟨r, rfl, hR, hrl⟩ := h1 HBO.out
   have HO3 := Aside0.mk (HO2.out.below hb)
   have HR3 := Aside0.mk hR
   have HB3 := Aside0.mk (HB2.out.trans (hb.mono HB2.out.size))
   have HRL := Aside0.mk (show b0 ≤ r ∧ o < b0 ∧ w.heap.size ≤ o ∧ r ≠ o from ⟨by rw [← hb0]; exact hrl, HOL.out.2, HOL.out.1, by have := HOL.out; omega⟩)
   have HZS := Aside0.mk (show ∀ x, x ∈ (⟨fr, tw, ct, se, l.take q⟩ : OutD).l → x.f1.length ≤ 1000000 ∧ x.f6.length ≤ 1000000 from fun x hx => by
    have hok := HBO.out
    unfold okOut at hok
    simp only [Bool.and_eq_true, Bool.not_eq_true'] at hok
    have hbd : badO ct x = false := by
     have := List.any_eq_false.1 hok.2 x hx
     simpa using this
    obtain ⟨_, h1, _, _, h6, _⟩ := rightO_all (badO_right hbd).2
    have h2 := (rightS_le h1).1
    omega)
   clear hb h1 hR hrl hb0 hif b1 b2 b3
   go_wp2
   go_loopw [18, 19, 20, 21, 22] (fun v18 _ _ _ _ wr => ∃ (i : Nat) (ack : Int), i ≤ fs.length + 1 ∧ i ≤ 51 ∧ 0 ≤ ack ∧ v18 = .int .i64 i ∧ Aside0 (OutAt (fun k => k < b0 ∧ k ≠ o) wr o ⟨fr, tw, ct, se, l.take q⟩ ack) ∧ Aside0 (wr.heap[r]? = some (.cells (refCells ⟨fr, tw, ct, se, l.take q⟩ A c ack) 40 (0, 0))) ∧ Aside0 (Below w.heap.size w wr)) (fun v18 _ _ _ _ _ => 100 - (intOf v18).toNat)
   case atStart => exact ⟨0, 0, Nat.zero_le _, Nat.zero_le _, Int.le_refl _, rfl, HO3, HR3, HB3⟩
   case round =>
    obtain ⟨i, ack, hi, hi2, h0, rfl, HO, HR, HB⟩ := hrel
    by_cases hin : i ≤ fs.length ∧ i ≤ 50
    case neg =>
     have hcase : decide ((i : Int) ≤ (fs.length : Int)) = false ∨ (decide ((i : Int) ≤ (fs.length : Int)) = true ∧ decide ((i : Int) ≤ 50) = false) := by
      by_cases h : i ≤ fs.length
      · exact .inr ⟨decide_eq_true (Int.ofNat_le.2 h), decide_eq_false (by omega)⟩
      · exact .inl (decide_eq_false (by omega))
     rcases hcase with q1 | ⟨q1, q2⟩
     all_goals go_wp2
     all_goals
      go_ret
      exact ⟨rfl, by first | exact HB.out | (rw [← hN]; exact HB.out)⟩
    case pos =>
     obtain ⟨q1, q2⟩ := i_facts hin.1 hin.2
     have HQD := Aside0.mk (show (⟨fr, tw, ct, se, l.take q⟩ : OutD).l.length ≤ 1000000 ∧ (⟨fr, tw, ct, se, l.take q⟩ : OutD).l.length ≤ 512 ∧ (⟨fr, tw, ct, se, l.take q⟩ : OutD).l.length ≤ c from by rw [HQL.out]; have := HQ.out; omega)
     go_wp2_with fail
     refine (outNext_calls _ o ⟨fr, tw, ct, se, l.take q⟩ ack wr HO.out h0 HQD.out.1 HZS.out).mono ?_
     obtain ⟨nf, hnf⟩ : ∃ nf, nextF ⟨fr, tw, ct, se, l.take q⟩ ack = nf := ⟨_, rfl⟩
     obtain ⟨nb, hnb⟩ : ∃ nb, decide (ack < (npc (⟨fr, tw, ct, se, l.take q⟩ : OutD).l.length : Int)) = nb := ⟨_, rfl⟩
     have HNF := Aside0.mk hnf
     have HNB := Aside0.mk hnb
     have HKN := Aside0.mk (show nf.kn = [] from by rw [← hnf]; exact nextF_kn _ _)
     rw [hnf, hnb]
     clear hnf hnb
     rintro e' w4 ⟨A8, c8, rfl, _, h8, hF8, hb⟩
     have HO4 := Aside0.mk (HO.out.below hb)
     have HR4 := Aside0.mk (blk_below HR.out hb)
     have HB4 := Aside0.mk (HB.out.trans (hb.mono HB.out.size))
     have H8 := Aside0.mk h8
     have HC4 := Aside0.mk (Kd.F_now hF8)
     clear hb h8 hF8
     obtain ⟨M1, hM1⟩ : ∃ M, w4.heap.size = M := ⟨_, rfl⟩
     obtain ⟨w5, hw5⟩ : ∃ w5, w4.alloc (.cells #[.int .i64 nf.k, .string nf.fa, .string nf.fb, .string nf.ct, .int .i64 nf.se, .int .i64 nf.ix, .int .i64 nf.mn, .slice none 0 0, .slice A8 nf.op.length c8] 34) = w5 := ⟨_, rfl⟩
     have hb5 : Below w4.heap.size w4 w5 := by rw [← hw5]; exact (Below.refl _ w4).alloc (Nat.le_refl _) _
     have HM5 := Aside0.mk (show w5.heap[M1]? = some (.cells #[.int .i64 nf.k, .string nf.fa, .string nf.fb, .string nf.ct, .int .i64 nf.se, .int .i64 nf.ix, .int .i64 nf.mn, .slice none 0 0, .slice A8 nf.op.length c8] 34 (0, 0)) from by rw [← hw5, ← hM1]; exact World.alloc_heap_new w4 _)
     have HO5 := Aside0.mk (HO4.out.below hb5)
     have HR5 := Aside0.mk (blk_below HR4.out hb5)
     have HB5 := Aside0.mk (HB4.out.trans (hb5.mono HB4.out.size))
     have HC5 := Aside0.mk (Kd.C_below HC4.out hb5)
     clear hb5 HO4 HR4 HB4 HC4
     go_wp2_with fail
     try rw [hw5]
     refine (refNext_calls r ⟨fr, tw, ct, se, l.take q⟩ A c ack w5 HR5.out h0 HQD.out.2.1 HQD.out.2.2 (Kd.C_below HCQ.out HB5.out)).mono ?_
     rw [HNF.out, HNB.out]
     rintro e' w6 ⟨B8, d8, rfl, h8, hC8, hb⟩
     have HO6 := Aside0.mk (HO5.out.below hb)
     have HR6 := Aside0.mk (blk_below HR5.out hb)
     have HB6 := Aside0.mk (HB5.out.trans (hb.mono HB5.out.size))
     have HC6 := Aside0.mk (Kd.C_below HC5.out hb)
     have HM6 := Aside0.mk (blk_below HM5.out hb)
     have HD8 := Aside0.mk h8
     have HE6 := Aside0.mk hC8
     clear hb h8 hC8 HO5 HR5 HB5 HC5 HM5 hw5
     obtain ⟨M2, hM2⟩ : ∃ M, w6.heap.size = M := ⟨_, rfl⟩
     obtain ⟨w7, hw7⟩ : ∃ w7, w6.alloc (.cells #[.int .i64 nf.k, .string nf.fa, .string nf.fb, .string nf.ct, .int .i64 nf.se, .int .i64 nf.ix, .int .i64 nf.mn, .slice none 0 0, .slice B8 nf.op.length d8] 34) = w7 := ⟨_, rfl⟩
     have hb7 : Below w6.heap.size w6 w7 := by rw [← hw7]; exact (Below.refl _ w6).alloc (Nat.le_refl _) _
     have HP7 := Aside0.mk (show w7.heap[M2]? = some (.cells #[.int .i64 nf.k, .string nf.fa, .string nf.fb, .string nf.ct, .int .i64 nf.se, .int .i64 nf.ix, .int .i64 nf.mn, .slice none 0 0, .slice B8 nf.op.length d8] 34 (0, 0)) from by rw [← hw7, ← hM2]; exact World.alloc_heap_new w6 _)
     have HO7 := Aside0.mk (HO6.out.below hb7)
     have HR7 := Aside0.mk (blk_below HR6.out hb7)
     have HB7 := Aside0.mk (HB6.out.trans (hb7.mono HB6.out.size))
     have HC7 := Aside0.mk (Kd.C_below HC6.out hb7)
     have HE7 := Aside0.mk (Kd.C_below HE6.out hb7)
     have HM7 := Aside0.mk (blk_below HM6.out hb7)
     clear hb7 HO6 HR6 HB6 HC6 HM6 HE6
     go_wp2
     try rw [hw7]
     try rw [hM1]
     try rw [hM2]
     clear hw7 hM2 hM1
     refine start_ (n := 18) (ds := []) (S := fun w' => Cells9 w' M1 (.int .i64 nf.k) (.string nf.fa) (.string nf.fb) (.string nf.ct) (.int .i64 nf.se) (.int .i64 nf.ix) (.int .i64 nf.mn) (.slice none 0 0) (.slice A8 nf.op.length c8) ∧ Cells9 w' M2 (.int .i64 nf.k) (.string nf.fa) (.string nf.fb) (.string nf.ct) (.int .i64 nf.se) (.int .i64 nf.ix) (.int .i64 nf.mn) (.slice none 0 0) (.slice B8 nf.op.length d8) ∧ w'.cell? ⟨r, 5, none⟩ = some (.int .i64 ack)) _ (by kernel_rfl) rfl rfl
      ⟨cells9 (blk_drew HM7.out), cells9 (blk_drew HP7.out), (blk_cell (blk_drew HR7.out) 5).trans rfl⟩ (fun hH => ?_)
     refine XReg.tk 0 83 (hy := by (intro w' hS_; obtain ⟨⟨s0, s1, s2, s3, s4, s5, s6, s7, s8⟩, ⟨u0, u1, u2, u3, u4, u5, u6, u7, u8⟩, v0⟩ := hS_; go_simp; with_reducible rfl)) (h := ?_)
     refine XReg.tk 1 84 (hy := by (intro w' hS_; obtain ⟨⟨s0, s1, s2, s3, s4, s5, s6, s7, s8⟩, ⟨u0, u1, u2, u3, u4, u5, u6, u7, u8⟩, v0⟩ := hS_; go_simp; with_reducible rfl)) (h := ?_)
     refine XReg.one (i := 2) (some 85) rfl rfl (by kernel_rfl) (by decide) (fun Kc hKc => ?_)
     refine goes_ Try.func15 (by kernel_rfl) rfl #[.agg #[.int .i64 nf.k, .string nf.fa, .string nf.fb, .string nf.ct, .int .i64 nf.se, .int .i64 nf.ix, .int .i64 nf.mn, .slice none 0 0, .slice A8 nf.op.length c8], .agg #[.int .i64 nf.k, .string nf.fa, .string nf.fb, .string nf.ct, .int .i64 nf.se, .int .i64 nf.ix, .int .i64 nf.mn, .slice none 0 0, .slice B8 nf.op.length d8]] (by rfl) rfl rfl (by (try simp only [List.map_toArray, List.map_cons, List.map_nil]); first | done | rfl) ?_
     refine (refEqual0_calls nf A8 c8 B8 d8 _ HKN.out H8.out (Kd.C_drew HC7.out) HD8.out (Kd.C_drew HE7.out)).mono ?_
     rintro e' w8 ⟨rfl, hb⟩
     refine ⟨_, rfl, ?_⟩
     have hb8 : Below w7.heap.size w7 w8 := ⟨hb.os, hb.tape, hb.output, hb.size, hb.block⟩
     have HO8 := Aside0.mk (HO7.out.below hb8)
     have HR8 := Aside0.mk (blk_below HR7.out hb8)
     have HB8 := Aside0.mk (HB7.out.trans (hb8.mono HB7.out.size))
     have HM8 := Aside0.mk (blk_below HM7.out hb8)
     have HP8 := Aside0.mk (blk_below HP7.out hb8)
     refine hKc.out _ _ ⟨cells9 HM8.out, cells9 HP8.out, (blk_cell HR8.out 5).trans rfl⟩ (fun hH2 => ?_)
     clear hKc Kc hH hb hb8 HO7 HR7 HB7 HC7 HE7 HM7 HP7 HNB HNF
     refine XReg.pu 3 86 (h := ?_)
     refine XReg.pu 4 87 (h := ?_)
     refine XReg.pu 5 88 (h := ?_)
     refine XReg.pu 6 89 (h := ?_)
     refine XReg.pu 7 90 (h := ?_)
     try rw [show (nb != nb) = false from by simp]
     refine XReg.pu 8 91 (h := ?_)
     refine XReg.pu 9 92 (h := ?_)
     refine XReg.pu 10 93 (h := ?_)
     refine XReg.pu 12 95 (h := ?_)
     refine XReg.pu 13 96 (h := ?_)
     refine XReg.pu 14 97 (h := ?_)
     refine XReg.tk 15 98 (hy := by (intro w' hS_; obtain ⟨⟨s0, s1, s2, s3, s4, s5, s6, s7, s8⟩, ⟨u0, u1, u2, u3, u4, u5, u6, u7, u8⟩, v0⟩ := hS_; go_simp; with_reducible rfl)) (h := ?_)
     refine XReg.one (i := 11) (some 94) rfl rfl (by kernel_rfl) (by decide) (fun Kc hKc => ?_)
     refine goes_ Try.func16 (by kernel_rfl) rfl #[.pointer (some ⟨o, 0, none⟩)] (by rfl) rfl rfl (by (try simp only [List.map_toArray, List.map_cons, List.map_nil]); first | done | rfl) ?_
     refine (outAcked_calls _ o ⟨fr, tw, ct, se, l.take q⟩ ack _ HO8.out).mono ?_
     rintro e' w9 ⟨rfl, hb⟩
     refine ⟨_, rfl, ?_⟩
     have HO9 := Aside0.mk (HO8.out.below hb)
     have HR9 := Aside0.mk (blk_below HR8.out hb)
     have HB9 := Aside0.mk (HB8.out.trans (hb.mono HB8.out.size))
     have HM9 := Aside0.mk (blk_below HM8.out hb)
     have HP9 := Aside0.mk (blk_below HP8.out hb)
     refine hKc.out _ _ ⟨cells9 HM9.out, cells9 HP9.out, (blk_cell HR9.out 5).trans rfl⟩ (fun hH3 => ?_)
     clear hKc Kc hb hH2 HO8 HR8 HB8 HM8 HP8
     refine XReg.pu 16 99 (h := ?_)
     try rw [show (ack != ack) = false from by simp]
     refine XReg.pu 17 100 (h := ?_)
     refine done_ (by kernel_rfl) ?_
     clear HM9 HP9 hH3
     go_wp2
     by_cases hlt : i < fs.length
     case neg =>
      have q3 : decide ((i : Int) < (fs.length : Int)) = false := decide_eq_false (by omega)
      refine start_ (n := 19) (ds := []) (S := fun w' => True) _ (by kernel_rfl) rfl rfl trivial (fun hH => ?_)
      refine XReg.pu 0 101 (h := ?_)
      refine XReg.pu 1 102 (h := ?_)
      refine XReg.pu 2 103 (h := ?_)
      refine XReg.pu 3 104 (h := ?_)
      try rw [q3]
      refine XReg.pu 4 105 (h := ?_)
      refine XReg.pn 5 106 (h := ?_)
      refine XReg.pn 6 107 (h := ?_)
      refine XReg.pn 7 108 (h := ?_)
      refine XReg.pn 8 109 (h := ?_)
      refine XReg.pn 9 110 (h := ?_)
      refine XReg.pn 10 111 (h := ?_)
      refine XReg.pn 11 112 (h := ?_)
      refine XReg.pn 12 113 (h := ?_)
      refine XReg.pn 13 114 (h := ?_)
      refine XReg.pn 14 115 (h := ?_)
      refine XReg.pn 15 116 (h := ?_)
      refine XReg.pn 16 117 (h := ?_)
      refine XReg.pn 17 118 (h := ?_)
      refine XReg.pu 18 119 (h := ?_)
      refine done_ (by kernel_rfl) ?_
      clear hH
      go_wp2
      refine ⟨⟨i + 1, ack, Nat.succ_le_succ hin.1, Nat.succ_le_succ hin.2, h0, by go_num, ⟨HO9.out.step rfl (fun _ _ _ => rfl)⟩, ⟨blk_drew HR9.out⟩, ⟨below_drew1 HB9.out⟩⟩, ?_⟩
      simp [intOf]
      omega
     case pos =>
      have q3 : decide ((i : Int) < (fs.length : Int)) = true := decide_eq_true (Int.ofNat_lt.2 hlt)
      have hb3 : 0 ≤ (i : Int) ∧ (i : Int) < (fs.length : Int) := ⟨Int.natCast_nonneg _, Int.ofNat_lt.2 hlt⟩
      obtain ⟨ad, A7, c7, F8, g8, rfl, hfa, hblk, l7, g7, l8, g8'⟩ := frAt HF.out i hlt
      obtain ⟨f, hf⟩ : ∃ f, fs.getD i zF = f := ⟨_, rfl⟩
      have HZ := Aside0.mk (show WfF maxLen f from by rw [← hf]; refine HZF.out _ ?_; rw [List.getD_eq_getElem?_getD, List.getElem?_eq_getElem hlt]; exact List.getElem_mem hlt)
      rw [hf] at hfa l7 g7 l8 g8'
      have HFA := Aside0.mk hfa
      have HL7 := Aside0.mk l7
      have HG7 := Aside0.mk g7
      have HL8 := Aside0.mk l8
      have HG8 := Aside0.mk g8'
      have HBK := Aside0.mk hblk
      clear hf hfa hblk l7 g7 l8 g8'
      refine start_ (n := 19) (ds := []) (S := fun w' => FrAt w' (ad.add (i * 9)) f A7 c7 F8 g8 ∧ True) _ (by kernel_rfl) rfl rfl ⟨HFA.out.move (below_drew1 HB9.out) HBK.out, trivial⟩ (fun hH => ?_)
      refine XReg.pu 0 101 (h := ?_)
      refine XReg.pu 1 102 (h := ?_)
      refine XReg.pu 2 103 (h := ?_)
      refine XReg.pu 3 104 (h := ?_)
      try rw [q3]
      refine XReg.pu 4 105 (h := ?_)
      refine XReg.pu 5 106 (h := ?_)
      refine XReg.pu 6 107 (h := ?_)
      refine XReg.pu 7 108 (h := ?_)
      refine XReg.pu 8 109 (h := ?_)
      refine XReg.tk 9 110 (hy := by (intro w' hS_; obtain ⟨⟨s0, s1, s2, s3, s4, s5, s6, s7, s8⟩, _⟩ := hS_; go_simp; with_reducible rfl)) (h := ?_)
      refine XReg.pu 11 112 (h := ?_)
      refine XReg.pu 12 113 (h := ?_)
      refine XReg.pu 13 114 (h := ?_)
      refine XReg.pu 14 115 (h := ?_)
      refine XReg.tk 15 116 (hy := by (intro w' hS_; obtain ⟨⟨s0, s1, s2, s3, s4, s5, s6, s7, s8⟩, _⟩ := hS_; go_simp; with_reducible rfl)) (h := ?_)
      refine XReg.one (i := 10) (some 111) rfl rfl (by kernel_rfl) (by decide) (fun Kc hKc => ?_)
      refine goes_ Try.func17 (by kernel_rfl) rfl #[.pointer (some ⟨o, 0, none⟩), .agg #[.int .i64 f.k, .string f.fa, .string f.fb, .string f.ct, .int .i64 f.se, .int .i64 f.ix, .int .i64 f.mn, .slice A7 f.kn.length c7, .slice F8 f.op.length g8]] (by rfl) rfl rfl (by (try simp only [List.map_toArray, List.map_cons, List.map_nil]); first | done | rfl) ?_
      refine (outTake_calls _ o ⟨fr, tw, ct, se, l.take q⟩ ack f A7 c7 F8 g8 w9.drew (HO9.out.step rfl (fun _ _ _ => rfl)) HL7.out (Kd.C_below HG7.out (below_drew1 HB9.out)) HL8.out (Kd.C_below HG8.out (below_drew1 HB9.out))).mono ?_
      rintro e' wa ⟨rfl, hOa, hka⟩
      refine ⟨_, rfl, ?_⟩
      have HOa := Aside0.mk hOa
      have HBa := Aside0.mk (below_keeps (below_drew1 HB9.out) (M := fun k => k = o) (fun k hk => by rw [hk]; exact HRL.out.2.2.1) HB9.out.size hka)
      have HRa := Aside0.mk ((hka.block r (blk_lt (blk_drew HR9.out)) HRL.out.2.2.2).trans (blk_drew HR9.out))
      refine hKc.out _ _ ⟨HFA.out.move HBa.out HBK.out, trivial⟩ (fun hH2 => ?_)
      clear hKc Kc hOa hka hH
      refine XReg.one (i := 16) (some 117) rfl rfl (by kernel_rfl) (by decide) (fun Kc hKc => ?_)
      refine goes_ Try.func18 (by kernel_rfl) rfl #[.pointer (some ⟨r, 0, none⟩), .agg #[.int .i64 f.k, .string f.fa, .string f.fb, .string f.ct, .int .i64 f.se, .int .i64 f.ix, .int .i64 f.mn, .slice A7 f.kn.length c7, .slice F8 f.op.length g8]] (by rfl) rfl rfl (by (try simp only [List.map_toArray, List.map_cons, List.map_nil]); first | done | rfl) ?_
      refine (refTake_calls r ⟨fr, tw, ct, se, l.take q⟩ A c ack f A7 c7 F8 g8 wa HRa.out HQD.out.2.1 HL7.out (Kd.C_below HG7.out HBa.out) HL8.out (Kd.C_below HG8.out HBa.out) maxLen HZ.out).mono ?_
      rintro e' wb ⟨rfl, hRb, hkb⟩
      refine ⟨_, rfl, ?_⟩
      have HRb := Aside0.mk hRb
      have HBb := Aside0.mk (below_keeps HBa.out (M := fun k => k = r) (fun k hk => by rw [hk]; exact Nat.le_trans HRL.out.2.2.1 (Nat.le_trans (Nat.le_of_lt HRL.out.2.1) HRL.out.1)) HBa.out.size hkb)
      have HOb := Aside0.mk (HOa.out.step (hkb.block o HOa.out.lt (fun h => HRL.out.2.2.2 h.symm)) (fun k hk hlt => hkb.block k hlt (fun h => by rw [h] at hk; exact absurd hk.1 (Nat.not_lt.2 HRL.out.1))))
      refine hKc.out _ _ ⟨HFA.out.move HBb.out HBK.out, trivial⟩ (fun hH3 => ?_)
      clear hKc Kc hRb hkb hH2 HOa HRa HBa
      refine XReg.pu 17 118 (h := ?_)
      try rw [show (takeE ⟨fr, tw, ct, se, l.take q⟩ f != takeE ⟨fr, tw, ct, se, l.take q⟩ f) = false from by simp]
      refine XReg.pu 18 119 (h := ?_)
      refine done_ (by kernel_rfl) ?_
      go_wp2
      refine ⟨⟨i + 1, takeK ⟨fr, tw, ct, se, l.take q⟩ ack f, Nat.succ_le_succ hin.1, Nat.succ_le_succ hin.2, takeK_nonneg h0, by go_num, ⟨HOb.out⟩, ⟨HRb.out⟩, ⟨HBb.out⟩⟩, ?_⟩
      simp [intOf]
      omega
theorem sessTells_row (w : World) (fr tw ct : ByteArray) (se : Int) (A : Option Addr) (c : Nat) (l : List S74) (B : Option Addr) (e : Nat) (fs : List Fr) (hfr : fr.size ≤ 140737488351232) (htw : tw.size ≤ 140737488351232) (hct : ct.size ≤ 140737488351232) {p : Prop} (hse : p)
 (hC : Kd.C k74 w A l.length l) (hc : l.length ≤ c) (hz : ∀ a, a ∈ l → WfOp a) (hF : Kd.C kFr w B fs.length fs) (he : fs.length ≤ e) (hzf : ∀ f, f ∈ fs → WfF maxLen f) :
 Calls Try.prog 3 #[.string fr, .string tw, .string ct, .int .i64 se, .slice A l.length c, .slice B fs.length e] w fun e w' => e = .returned (.bool true) ∧ Below w.heap.size w w' :=
 sessTells_calls w fr tw ct se l A c fs B e (Nat.le_trans hfr (by decide)) (Nat.le_trans htw (by decide)) hC hc (fun x hx => ⟨(hz x hx).1, (hz x hx).2.1, (hz x hx).2.2.2.2.2.2⟩) hF hzf
end Go.Proofs.Ytjejhgjdmbodiaa.PO
