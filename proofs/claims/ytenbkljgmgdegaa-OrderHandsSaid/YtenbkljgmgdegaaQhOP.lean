/- What the rows of this claim use, out of the texts of this work (OP). No condition beyond those that each statement names. -/
import Derived.Test.YtenbkljgmgdegaaQhOZ
namespace Go.Proofs.Ytenbkljgmgdegaa.PO
open Go.RowKit Go.Proofs.YtenbkljgmgdegaaW.PrintWords Go.Proofs.YtenbkljgmgdegaaW.PrintLast Go.Proofs.YtenbkljgmgdegaaW.PrintMore Go.Proofs.Ytenbkljgmgdegaa.XW
open Go.Proofs.Ytenbkljgmgdegaa.XRange Go.Proofs.Ytenbkljgmgdegaa.XMap Go.Proofs.Ytenbkljgmgdegaa.XSeq
set_option linter.unusedVariables false
set_option linter.unusedSimpArgs false
theorem refS_new (w0 w : World) : RefS w0 (fun k => k = w.heap.size) w.heap.size ⟨[], [], []⟩ (w.alloc (.cells #[.slice none 0 0, .slice none 0 0, .slice none 0 0] 29)) :=
  ⟨⟨_, _, _, ⟨World.alloc_heap_new w _, Kd.R_nil _ _ _ _ _, Kd.R_nil _ _ _ _ _, Kd.R_nil _ _ _ _ _⟩⟩, rfl, fun k hk => by subst hk; simp, invA_new⟩
structure Two (w0 : World) (g q : Nat) (a b : AP) (w : World) (S R : Nat → Prop) : Prop where
  p : PoolS S g a w
  r : RefS w0 R q b w
  s0 : ∀ k, S k → w0.heap.size ≤ k
  r0 : ∀ k, R k → w0.heap.size ≤ k
  ap : ∀ k, S k → ¬ R k
section
variable {w0 w w' : World} {g q : Nat} {a b a' b' : AP} {S R S' R' : Nat → Prop}
theorem Two.below (h : Two w0 g q a b w S R) (hb : Below w.heap.size w w') : Two w0 g q a b w' S R := ⟨h.p.below hb, h.r.below hb, h.s0, h.r0, h.ap⟩
theorem Two.poolStep (h : Two w0 g q a b w S R) (hW : Below w0.heap.size w0 w) (hp : PoolS S' g a' w') (hs : ∀ k, S' k → S k ∨ w.heap.size ≤ k) (hk : Keeps S w w') : Two w0 g q a' b w' S' R :=
  ⟨hp, h.r.keeps hk (fun k hR hS => h.ap k hS hR), fun k hk => by rcases hs k hk with h1 | h1; exact h.s0 k h1; exact Nat.le_trans hW.size h1, h.r0,
    fun k hk hR => by rcases hs k hk with h1 | h1; exact h.ap k h1 hR; exact absurd (h.r.2.2.1 k hR) (by omega)⟩
theorem Two.refStep (h : Two w0 g q a b w S R) (hW : Below w0.heap.size w0 w) (hp : RefS w0 R' q b' w') (hs : ∀ k, R' k → R k ∨ w.heap.size ≤ k) (hk : Keeps R w w') : Two w0 g q a b' w' S R' :=
  ⟨h.p.keeps hk (fun k hS hR => h.ap k hS hR), hp, h.s0, fun k hk => by rcases hs k hk with h1 | h1; exact h.r0 k h1; exact Nat.le_trans hW.size h1,
    fun k hS hk => by rcases hs k hk with h1 | h1; exact h.ap k hS h1; exact absurd (h.p.lt k hS) (by omega)⟩
end
theorem opAt_then {w0 w : World} {A : Option Addr} {n : Nat} {xs : List S36} (h : Kd.C k36 w0 A n xs) (hb : Below w0.heap.size w0 w) (i : Nat) (h1 : i < n) : ∃ ad A2 c2 A7 c7, A = some ad ∧ OpAt w (ad.add (i * 8)) (rd_T36 xs i) A2 c2 A7 c7 ∧
    Kd.C k34 w0 A2 (rd_T36 xs i).f1.length (rd_T36 xs i).f1 ∧ Kd.C k34 w0 A7 (rd_T36 xs i).f6.length (rd_T36 xs i).f6 := by
  obtain ⟨ad, A2, c2, A7, c7, e, h⟩ := opAt h i h1
  exact ⟨ad, A2, c2, A7, c7, e, h.below hb, h.g2, h.g7⟩
set_option maxHeartbeats 8000000 in
set_option maxRecDepth 100000 in
theorem orderHands_calls (w : World) (A : Option Addr) (c : Nat) (l : List S36) (hC : Kd.C k36 w A l.length l) (hc : l.length ≤ c) (hwf : ∀ a, a ∈ l → WfOp a) :
    Calls Try.prog 5 #[.slice A l.length c] w fun e w' => e = .returned (.bool true) ∧ Below w.heap.size w w' := by
  have hlm := hC.2.1
  have HC := Aside0.mk hC
  have HWF := Aside0.mk hwf
  clear hC hwf hc
  go_enter Try.func5, Try.ntmps5
  go_wp2_with fail
  refine (shown_calls _).mono ?_
  rintro e w1 ⟨rfl, hb1⟩
  have HB1 := Aside0.mk hb1
  clear hb1
  go_wp2_with fail
  refine (poolNew _).mono ?_
  rintro e w2 ⟨rfl, hp2, hb2⟩
  obtain ⟨g, hg⟩ : ∃ g, w1.heap.size + 1 = g := ⟨_, rfl⟩
  rw [hg] at hp2 ⊢
  have HB2 := Aside0.mk (show Below w.heap.size w w2 from HB1.out.trans (hb2.mono HB1.out.size))
  have hq := refS_new w w2
  obtain ⟨w3, hw3⟩ : ∃ w3, w2.alloc (.cells #[.slice none 0 0, .slice none 0 0, .slice none 0 0] 29) = w3 := ⟨_, rfl⟩
  have hb3 : Below w2.heap.size w2 w3 := by rw [← hw3]; exact (Below.refl _ w2).alloc (Nat.le_refl _) _
  rw [hw3] at hq
  obtain ⟨q, hqq⟩ : ∃ q, w2.heap.size = q := ⟨_, rfl⟩
  have HT3 := Aside0.mk (show ∃ S R, Two w g q (runA (l.take 0)) (runA (l.take 0)) w3 S R from ⟨_, _, hp2.below hb3, by rw [← hqq]; exact hq, fun k hk => by have := HB1.out.size; omega, fun k hk => by have := HB2.out.size; omega, fun k hk hk' => by have := hp2.lt k hk; omega⟩)
  have HB3 := Aside0.mk (show Below w.heap.size w w3 from HB2.out.trans (hb3.mono HB2.out.size))
  clear hp2 hb2 hg hq hb3
  go_wp2
  try rw [hw3]
  try rw [hqq]
  clear hw3 hqq
  go_loopw [6] (fun v6 wr => ∃ i : Nat, v6 = .int .i64 i ∧ i ≤ l.length ∧ i ≤ 200 ∧ Aside0 (∃ S R, Two w g q (runA (l.take i)) (runA (l.take i)) wr S R) ∧ Aside0 (Below w.heap.size w wr)) (fun v6 _ => 200 - (intOf v6).toNat)
  case atStart => exact ⟨0, rfl, by omega, by omega, HT3, HB3⟩
  case round =>
    clear HT3 HB3
    obtain ⟨i, rfl, hile, hi2, HTi, HBi⟩ := hrel
    by_cases hlt : i < l.length ∧ i < 200
    · obtain ⟨hlt, hlt2⟩ := hlt
      obtain ⟨S, R, ht⟩ := HTi.out
      obtain ⟨ad, A2, c2, A7, c7, rfl, ⟨e0, e1, e2, e3, e4, e5, e6, e7, l2, g2, l7, g7⟩, g20, g70⟩ := opAt_then HC.out HBi.out i hlt
      obtain ⟨x, hx⟩ : ∃ x, rd_T36 l (i : Int) = x := ⟨_, rfl⟩
      obtain ⟨a, ha⟩ : ∃ a, runA (l.take i) = a := ⟨_, rfl⟩
      have hsn := runA_snoc l i hlt
      have hinv := (runA_inv (l.take i)).1
      have hll := (runA_inv (l.take i)).2
      have htl : (l.take i).length ≤ 200 := by rw [List.length_take]; omega
      rw [ha] at ht hsn hinv hll
      rw [hx] at e0 e1 e2 e3 e4 e5 e6 e7 l2 g2 l7 g7 g20 g70 hsn
      have HX := Aside0.mk hx
      have HWX := Aside0.mk (show WfOp x from by rw [← hx]; exact HWF.out _ (rd_mem36 _ _ hlt))
      have HSN := Aside0.mk hsn
      have HLL := Aside0.mk (show a.L.length ≤ 900000000000 from by omega)
      have HT := Aside0.mk ht
      have HG2 := Aside0.mk g2
      have HG7 := Aside0.mk g7
      have HG20 := Aside0.mk g20
      have HG70 := Aside0.mk g70
      have HL2 := Aside0.mk l2
      have HL7 := Aside0.mk l7
      clear ht g2 g7 l2 l7 g20 g70 hx hsn hinv hll htl ha HTi
      go_wp2_with fail
      refine (poolPut S g a x A2 A7 c2 c7 _ HT.out.p HLL.out HG2.out HL2.out HG7.out HL7.out).mono ?_
      rintro e w4 ⟨S4, rfl, hp4, hs4, hk4⟩
      have HB4 := Aside0.mk (below_keeps HBi.out (fun k hk => HT.out.s0 k hk) HBi.out.size hk4)
      have HT4 := Aside0.mk (HT.out.poolStep HBi.out hp4 hs4 hk4)
      clear hp4 hs4 hk4 e0 e1 e2 e3 e4 e5 e6 e7 HT HG2 HG7 HBi
      obtain ⟨ad', A2', c2', A7', c7', hadd, ⟨e0, e1, e2, e3, e4, e5, e6, e7, l2, g2, l7, g7⟩, g20, g70⟩ := opAt_then HC.out HB4.out i hlt
      cases hadd
      rw [HX.out] at e0 e1 e2 e3 e4 e5 e6 e7 l2 g2 l7 g7 g20 g70
      have HG20' := Aside0.mk g20
      have HG70' := Aside0.mk g70
      have HL2' := Aside0.mk l2
      have HL7' := Aside0.mk l7
      clear l2 g2 l7 g7 g20 g70 HG20 HG70 HL2 HL7
      go_wp2_with fail
      refine (refPut w R q a x A2' c2' A7' c7' _ HT4.out.r HB4.out HL2'.out HG20'.out HL7'.out HG70'.out HWX.out HLL.out HT4.out.r0).mono ?_
      rintro e w5 ⟨R5, rfl, hp5, hs5, hk5⟩
      have HB5 := Aside0.mk (below_keeps HB4.out (fun k hk => HT4.out.r0 k hk) HB4.out.size hk5)
      have HT5 := Aside0.mk (HT4.out.refStep HB4.out hp5 hs5 hk5)
      clear hp5 hs5 hk5 e0 e1 e2 e3 e4 e5 e6 e7 HT4 HG20' HG70' HL2' HL7' HB4 HWX HX
      obtain ⟨⟨r0, r1⟩, hr⟩ : ∃ r, (putA a x).1 = r := ⟨_, rfl⟩
      obtain ⟨b, hb⟩ : ∃ b, (putA a x).2 = b := ⟨_, rfl⟩
      have hsn := HSN.out
      have ht := HT5.out
      rw [hb] at hsn ht
      rw [hr]
      have HSN' := Aside0.mk hsn
      have HT := Aside0.mk ht
      clear hsn ht hb hr HSN HT5
      obtain ⟨vl, vk, vw, hat⟩ := HT.out.r.1
      obtain ⟨Ak, ck, rfl, lk, Ck⟩ := Kd.R_reads hat.rk
      obtain ⟨Aw, cw, rfl⟩ := Kd.R_slice hat.rq
      have BK := Aside0.mk hat.blk
      have HLK := Aside0.mk lk
      have HCK := Aside0.mk Ck
      clear hat lk Ck
      go_wp2
      refine start_ (n := 28) (ds := []) (S := fun w' => w'.cell? ⟨q, 1, none⟩ = some (.slice Ak b.K.length ck) ∧ w'.cell? ⟨q, 2, none⟩ = some (.slice Aw b.Q.length cw)) _ (by kernel_rfl) rfl rfl ⟨(blk_cell (blk_drew BK.out) 1).trans rfl, (blk_cell (blk_drew BK.out) 2).trans rfl⟩ (fun hH => ?_)
      refine XReg.pu 0 43 (h := ?_)
      refine XReg.pu 1 44 (h := ?_)
      refine XReg.pu 2 45 (h := ?_)
      refine XReg.pu 3 46 (h := ?_)
      refine XReg.pu 4 47 (h := ?_)
      refine XReg.pu 5 48 (h := ?_)
      refine XReg.pu 6 49 (h := ?_)
      refine XReg.pu 7 50 (h := ?_)
      refine XReg.pu 8 51 (h := ?_)
      refine XReg.pu 9 52 (h := ?_)
      refine XReg.pu 11 54 (h := ?_)
      refine XReg.pu 12 55 (h := ?_)
      refine XReg.pu 13 56 (h := ?_)
      refine XReg.tk 14 57 (h := ?_)
      refine XReg.pu 15 58 (h := ?_)
      have hbd : Below w5.heap.size w5 w5.drew := below_drew1 (Below.refl _ w5)
      have HTd := Aside0.mk (HT.out.below hbd)
      refine XReg.one (i := 10) (some 53) rfl rfl (by kernel_rfl) (by decide) (fun Kc hKc => ?_)
      refine goes_ Try.func28 (by kernel_rfl) rfl #[.pointer (some ⟨g, 0, none⟩)] (by rfl) rfl rfl (by (try simp only [List.map_toArray, List.map_cons, List.map_nil]); first | done | rfl) ?_
      refine (poolWaits S4 g b _ HTd.out.p).mono ?_
      rintro e w6 ⟨rfl, rfl⟩
      refine ⟨_, rfl, ?_⟩
      refine hKc.out _ _ ⟨(blk_cell (blk_drew BK.out) 1).trans rfl, (blk_cell (blk_drew BK.out) 2).trans rfl⟩ (fun hH2 => ?_)
      clear hKc Kc hH
      refine XReg.pu 16 59 (h := ?_)
      refine XReg.pu 17 60 (h := ?_)
      refine XReg.pu 18 61 (h := ?_)
      refine XReg.pu 19 62 (h := ?_)
      refine XReg.pu 21 64 (h := ?_)
      refine XReg.pu 22 65 (h := ?_)
      refine XReg.pu 23 66 (h := ?_)
      refine XReg.tk 24 67 (h := ?_)
      refine XReg.one (i := 20) (some 63) rfl rfl (by kernel_rfl) (by decide) (fun Kc hKc => ?_)
      refine goes_ Try.func27 (by kernel_rfl) rfl #[.pointer (some ⟨g, 0, none⟩)] (by rfl) rfl rfl (by (try simp only [List.map_toArray, List.map_cons, List.map_nil]); first | done | rfl) ?_
      refine (poolKnown S4 g b _ HTd.out.p).mono ?_
      rintro e w6 ⟨v8, rfl, hr8, hb6⟩
      refine ⟨_, rfl, ?_⟩
      have hb6' : Below w5.heap.size w5 w6 := hbd.trans (hb6.mono hbd.size)
      obtain ⟨A8, c8, rfl, l8, C8⟩ := Kd.R_reads hr8
      have HC8 := Aside0.mk C8
      have HL8 := Aside0.mk l8
      have HB6 := Aside0.mk (show Below w.heap.size w w6 from HB5.out.trans (hb6'.mono HB5.out.size))
      have HT6 := Aside0.mk (HT.out.below hb6')
      have HCK6 := Aside0.mk (Kd.C_below HCK.out hb6')
      have HKL := Aside0.mk (show b.K.length ≤ 64 from (rightS_le HT.out.p.inv.known).1)
      refine hKc.out _ _ ⟨(blk_cell (blk_below BK.out hb6') 1).trans rfl, (blk_cell (blk_below BK.out hb6') 2).trans rfl⟩ (fun hH3 => ?_)
      clear hKc Kc hH2 hr8 C8 l8 hb6 hbd HTd HCK HB5
      refine XReg.one (i := 25) (some 68) rfl rfl (by kernel_rfl) (by decide) (fun Kc hKc => ?_)
      refine goes_ Try.func26 (by kernel_rfl) rfl #[.slice A8 b.K.length c8, .slice Ak b.K.length ck] (by rfl) rfl rfl (by (try simp only [List.map_toArray, List.map_cons, List.map_nil]); first | done | rfl) ?_
      refine (pannierref07_Same.calls (b.K.length + 1) A8 c8 b.K Ak ck b.K true _ HC8.out HL8.out HCK6.out HLK.out (by rw [refSame_f _ _ (by have := HKL.out; omega) _ (by omega)]; simp)).mono ?_
      rintro e w7 ⟨rfl, hd7⟩
      refine ⟨_, rfl, ?_⟩
      have hb7 : Below w6.heap.size w6 w7 := hd7.below
      have hb7' : Below w5.heap.size w5 w7 := hb6'.trans (hb7.mono hb6'.size)
      have HB7 := Aside0.mk (show Below w.heap.size w w7 from HB6.out.trans (hb7.mono HB6.out.size))
      have HT7 := Aside0.mk (HT6.out.below hb7)
      refine hKc.out _ _ ⟨(blk_cell (blk_below BK.out hb7') 1).trans rfl, (blk_cell (blk_below BK.out hb7') 2).trans rfl⟩ (fun hH4 => ?_)
      clear hKc Kc hH3 hb7 hb7' hb6' hd7 HB6 HT6 HT HC8 HL8 HCK6 HLK BK
      refine XReg.pu 26 69 (h := ?_)
      refine XReg.pu 27 70 (h := ?_)
      refine done_ (by kernel_rfl) ?_
      clear hH4
      go_wp2
      go_round
      case rel => exact ⟨i + 1, by go_num, by omega, by omega, ⟨S4, R5, by rw [HSN'.out]; exact HT7.out⟩, ⟨HB7.out⟩⟩
      case measure => simp [intOf]; omega
    · obtain ⟨S, R, ht⟩ := HTi.out
      obtain ⟨a, ha⟩ : ∃ a, runA (l.take i) = a := ⟨_, rfl⟩
      have hinv := (runA_inv (l.take i)).1
      have hll := (runA_inv (l.take i)).2
      have htl : (l.take i).length ≤ 200 := by rw [List.length_take]; omega
      rw [ha] at ht hinv hll
      have HI := Aside0.mk hinv
      have HLL := Aside0.mk (show a.L.length ≤ 1000000 from by omega)
      have HT := Aside0.mk ht
      obtain ⟨vl, vk, vw, hat⟩ := ht.r.1
      obtain ⟨Al, cl, rfl, ll, Cl⟩ := Kd.R_reads hat.rl
      have BK := Aside0.mk hat.blk
      have HLR := Aside0.mk ll
      have HCR := Aside0.mk (kAt_C Cl HBi.out)
      clear ht hinv hll htl ha hat ll Cl HTi
      have hcases : (i < l.length ∧ ¬ i < 200) ∨ ¬ i < l.length := by omega
      clear hlt
      rcases hcases with ⟨h1, h2⟩ | h1
      all_goals
        go_wp2
        refine start_ (n := 11) (ds := []) (S := fun w' => w'.cell? ⟨q, 0, none⟩ = some (.slice Al a.L.length cl)) _ (by kernel_rfl) rfl rfl ((blk_cell (blk_drew BK.out) 0).trans rfl) (fun hH => ?_)
        refine XReg.pu 0 71 (h := ?_)
        refine XReg.pu 1 72 (h := ?_)
        refine XReg.pu 2 73 (h := ?_)
        refine XReg.pu 4 75 (h := ?_)
        refine XReg.pu 5 76 (h := ?_)
        refine XReg.pu 6 77 (h := ?_)
        refine XReg.tk 7 78 (h := ?_)
        have hbd : Below wr.heap.size wr wr.drew := below_drew1 (Below.refl _ wr)
        have HTd := Aside0.mk (HT.out.below hbd)
        refine XReg.one (i := 3) (some 74) rfl rfl (by kernel_rfl) (by decide) (fun Kc hKc => ?_)
        refine goes_ Try.func23 (by kernel_rfl) rfl #[.pointer (some ⟨g, 0, none⟩)] (by rfl) rfl rfl (by (try simp only [List.map_toArray, List.map_cons, List.map_nil]); first | done | rfl) ?_
        refine (poolOps S g a _ HTd.out.p (by have := HLL.out; omega)).mono ?_
        rintro e w6 ⟨v8, rfl, hr8, hb6⟩
        refine ⟨_, rfl, ?_⟩
        have hb6' : Below wr.heap.size wr w6 := hbd.trans (hb6.mono hbd.size)
        obtain ⟨A8, c8, rfl, l8, C8⟩ := Kd.R_reads hr8
        have HC8 := Aside0.mk C8
        have HL8 := Aside0.mk l8
        have HB6 := Aside0.mk (show Below w.heap.size w w6 from HBi.out.trans (hb6'.mono HBi.out.size))
        have HCR6 := Aside0.mk (Kd.C_below HCR.out hb6')
        refine hKc.out _ _ ((blk_cell (blk_below BK.out hb6') 0).trans rfl) (fun hH3 => ?_)
        clear hKc Kc hH hr8 C8 l8 hb6 hbd HTd HCR
        refine XReg.one (i := 8) (some 79) rfl rfl (by kernel_rfl) (by decide) (fun Kc hKc => ?_)
        refine goes_ Try.func21 (by kernel_rfl) rfl #[.slice A8 a.L.length c8, .slice Al a.L.length cl] (by rfl) rfl rfl (by (try simp only [List.map_toArray, List.map_cons, List.map_nil]); first | done | rfl) ?_
        refine (pannierref08_SameOps.calls (a.L.length + 200) A8 c8 a.L Al cl a.L true _ HC8.out HL8.out HCR6.out HLR.out (by rw [sameOps_f a.L a.L (by have := HLL.out; omega) 128 (by omega) (rightS_big _ (fun x hx => HI.out.right x (List.mem_append_left _ hx))) _ (by omega)]; simp)).mono ?_
        rintro e w7 ⟨rfl, hb7⟩
        refine ⟨_, rfl, ?_⟩
        have hb7' : Below wr.heap.size wr w7 := hb6'.trans (hb7.mono hb6'.size)
        have HB7 := Aside0.mk (show Below w.heap.size w w7 from HB6.out.trans (hb7.mono HB6.out.size))
        refine hKc.out _ _ ((blk_cell (blk_below BK.out hb7') 0).trans rfl) (fun hH4 => ?_)
        clear hKc Kc hH3 hb7 hb7' hb6' HB6
        refine XReg.pu 9 80 (h := ?_)
        refine XReg.pu 10 2 (h := ?_)
        refine done_ (by kernel_rfl) ?_
        clear hH4
        go_wp2
        go_ret
        exact ⟨rfl, HB7.out⟩
end Go.Proofs.Ytenbkljgmgdegaa.PO
