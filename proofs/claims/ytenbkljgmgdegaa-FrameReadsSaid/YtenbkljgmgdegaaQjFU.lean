/- What the rows of this claim use, out of the texts of this work (FU, FX, RV, FY). No condition beyond those that each statement names. -/
import Derived.Deep.DeepCutAuto
import Derived.Deep.CutBlock
import Derived.Test.YtenbkljgmgdegaaQjFS
import Derived.Test.YtenbkljgmgdegaaQjPE2
import Derived.Test.YtenbkljgmgdegaaQjRG
import Derived.Test.YtenbkljgmgdegaaQjRD
import Derived.Test.YtenbkljgmgdegaaQjOV
import Derived.Test.YtenbkljgmgdegaaQjPOx0
import Derived.Test.YtenbkljgmgdegaaQjPOx10
section
namespace Go.Proofs.Ytenbkljgmgdegaa.PO
open Go.RowKit Go.Proofs.YtenbkljgmgdegaaW.PrintWords Go.Proofs.YtenbkljgmgdegaaW.PrintLast Go.Proofs.YtenbkljgmgdegaaW.PrintMore Go.Proofs.Ytenbkljgmgdegaa.XW
set_option linter.unusedVariables false
set_option linter.unusedSimpArgs false
theorem texQ_enc {m : Int} (hm1 : m ≤ 1048576) {a r l : List Int} (ha : isB a) (hr : isB r) {s : ByteArray} (hs : (s.size : Int) ≤ m) {p : Int} (hp : p = (a.length : Int)) (hl : l = a ++ textB s ++ r) : texQ m l p false = (s, ((a ++ textB s).length : Int), false) := by
 subst hl
 subst hp
 unfold texQ
 rw [take_textM m hm1 a r ha hr s hs]
 rfl
theorem numQ_enc {a r l : List Int} (ha : isB a) (hr : isB r) {n : Int} (h0 : 0 ≤ n) (h1 : n ≤ 1152921504606846976) {p : Int} (hp : p = (a.length : Int)) (hl : l = a ++ encN n ++ r) : numQ l p false = (n, ((a ++ encN n).length : Int), false) := by
 subst hl
 subst hp
 unfold numQ
 rw [take_enc a r ha hr n h0 (by omega)]
 have : decide (n > 1152921504606846976) = false := decide_eq_false (by omega)
 simp only [if_pos h1, this, List.length_append, Int.natCast_add]
 rfl
theorem enc_R {n : Int} (h0 : 0 ≤ n) (h1 : n ≤ 1152921504606846976) : isB (encN n) := enc_B h0 (by omega)
theorem head_enc {f : Fr} (h : rightF f = true) (hix : f.ix ≤ 1152921504606846976) {T l : List Int} (hT : isB T) (hl : l = headB f ++ T) :
 ∃ p1 p2 p3 p4, texQ 24 l 0 false = (f.fa, p1, false) ∧ texQ 24 l p1 false = (f.fb, p2, false) ∧ texQ 32 l p2 false = (f.ct, p3, false) ∧ numQ l p3 false = (f.se, p4, false) ∧ numQ l p4 false = (f.ix, ((headB f).length : Int), false) := by
 obtain ⟨s1, s2, s3, s4, s5, s6, s7⟩ := rightF_sizes h
 have a1 := textB_B f.fa (by omega)
 have a2 := textB_B f.fb (by omega)
 have a3 := textB_B f.ct (by omega)
 have a4 := enc_R (n := f.se) (by omega) s5
 have a5 := enc_R s6 hix
 rw [headB_eq] at hl ⊢
 refine ⟨_, _, _, _, texQ_enc (a := []) (by omega) (fun x hx => by simp at hx) (app_B a2 (app_B a3 (app_B a4 (app_B a5 hT)))) (by omega) rfl (by rw [hl]; simp),
  texQ_enc (a := textB f.fa) (by omega) a1 (app_B a3 (app_B a4 (app_B a5 hT))) (by omega) (by simp) (by rw [hl]; simp),
  texQ_enc (a := textB f.fa ++ textB f.fb) (by omega) (app_B a1 a2) (app_B a4 (app_B a5 hT)) (by omega) (by simp) (by rw [hl]; simp),
  numQ_enc (a := textB f.fa ++ textB f.fb ++ textB f.ct) (app_B (app_B a1 a2) a3) (app_B a5 hT) (by omega) s5 (by simp) (by rw [hl]; simp), ?_⟩
 have := numQ_enc (l := l) (p := ((textB f.fa ++ textB f.fb ++ textB f.ct ++ encN f.se).length : Int)) (a := textB f.fa ++ textB f.fb ++ textB f.ct ++ encN f.se) (app_B (app_B (app_B a1 a2) a3) a4) hT s6 hix (by simp) (by rw [hl])
 exact this
theorem layOps_B' {l : List S36} {b : List Int} (hb : isB b) : isB (layOps b l) := layOps_B l b hb
theorem opsQ_enc {r l : List Int} (hr : isB r) : ∀ (L : List S36) (a : List Int) (p : Int) (o : List S36), isB a → (∀ x, x ∈ L → rightO x = true) → p = (a.length : Int) → l = a ++ layOps [] L ++ r →
 opsQ l L.length p false o = (((a ++ layOps [] L).length : Int), false, o ++ L)
 | [], a, p, o, ha, hR, hp, hl => by
   unfold opsQ
   subst hp
   simp [layOps]
 | x :: L, a, p, o, ha, hR, hp, hl => by
   have hx := hR x (by simp)
   have hsz := layF_size x
   rw [layOps_cons] at hl
   have hT : texQ 1048576 l p false = ((layF x).1, ((a ++ textB (layF x).1).length : Int), false) :=
    texQ_enc (r := layOps [] L ++ r) (by omega) ha (app_B (layOps_B' (fun x hx => by simp at hx)) hr) (by omega) hp (by rw [hl]; simp)
   have hb : bytesOf (layF x).1 = layO x := by
    unfold layF
    rw [if_pos hx]
    exact bytes_nums (layO_B hx)
   rw [List.length_cons]
   unfold opsQ
   rw [if_pos rfl, hT]
   dsimp only
   rw [hb, readO_enc hx]
   dsimp only
   show opsQ l L.length _ false _ = _
   rw [opsQ_enc hr L (a ++ textB (layF x).1) _ (o ++ [x]) (app_B ha (textB_B _ (by omega))) (fun y hy => hR y (by simp [hy])) rfl (by rw [hl]; simp), layOps_cons]
   simp
theorem anyB_right {f : Fr} (h : (!f.op.any (badO f.ct)) = true) : ∀ x, x ∈ f.op → rightO x = true := fun x hx => by
 have h' : f.op.any (badO f.ct) = false := by simpa using h
 have hn : ¬ badO f.ct x = true := fun hb => by
  have := List.any_eq_true.2 ⟨x, hx, hb⟩
  rw [h'] at this
  cases this
 unfold badO at hn
 cases hr : rightO x with
 | true => rfl
 | false => rw [hr] at hn; simp at hn
theorem nilB : isB [] := fun x hx => by simp at hx
theorem rightF_ops {f : Fr} (h : rightF f = true) : ∀ x, x ∈ f.op → rightO x = true := by
 have hb := (rightF_sizes h).2.2.2.2.2.2
 unfold bodyF at hb
 by_cases h1 : f.k = 1
 · rw [if_pos h1] at hb
   simp only [Bool.and_eq_true, decide_eq_true_eq] at hb
   rw [len0 hb.1.1.2]
   simp
 · rw [if_neg h1] at hb
   by_cases h2 : f.k = 2
   · rw [if_pos h2] at hb
     rw [Bool.and_eq_true] at hb
     exact anyB_right hb.2
   · rw [if_neg h2] at hb
     simp only [Bool.and_eq_true, decide_eq_true_eq] at hb
     rw [len0 hb.1.2]
     simp
theorem readB_enc {f : Fr} (h : rightF f = true) : readB f.k (bodyB f) = (f, 0) := by
 obtain ⟨s1, s2, s3, s4, s5, s6, hb⟩ := rightF_sizes h
 have hRR := h
 have hops := rightF_ops h
 obtain ⟨k, fa, fb, ct, se, ix, mn, kn, op⟩ := f
 dsimp only at *
 have hH : isB (headB ⟨k, fa, fb, ct, se, ix, mn, kn, op⟩) ∨ True := .inr trivial
 unfold bodyF at hb
 dsimp only at hb
 have fin : ∀ (l : List Int), (∃ p1 p2 p3 p4 p5, texQ 24 l 0 false = (fa, p1, false) ∧ texQ 24 l p1 false = (fb, p2, false) ∧ texQ 32 l p2 false = (ct, p3, false) ∧ numQ l p3 false = (se, p4, false) ∧ numQ l p4 false = (ix, p5, false) ∧ restQ k l p5 false = ((l.length : Int), false, mn, kn, op)) → readB k l = (⟨k, fa, fb, ct, se, ix, mn, kn, op⟩, 0) := by
  rintro l ⟨p1, p2, p3, p4, p5, e1, e2, e3, e4, e5, e6⟩
  unfold readB
  rw [e1]
  dsimp only
  rw [e2]
  dsimp only
  rw [e3]
  dsimp only
  rw [e4]
  dsimp only
  rw [e5]
  dsimp only
  rw [e6]
  dsimp only
  rw [if_neg]
  rintro (q | q | q)
  · cases q
  · exact q rfl
  · rw [hRR] at q; cases q
 apply fin
 have hhB : ∀ hix : ix ≤ 1152921504606846976, isB (headB ⟨k, fa, fb, ct, se, ix, mn, kn, op⟩) := fun hix => by
  rw [headB_eq]
  exact app_B (app_B (app_B (app_B (textB_B _ (by show fa.size ≤ 1000000; omega)) (textB_B _ (by show fb.size ≤ 1000000; omega))) (textB_B _ (by show ct.size ≤ 1000000; omega))) (enc_R (by show 0 ≤ se; omega) s5)) (enc_R s6 hix)
 unfold bodyB
 dsimp only
 by_cases k1 : k = 1
 · rw [if_pos k1] at hb ⊢
   simp only [Bool.and_eq_true, decide_eq_true_eq] at hb
   have hix := hb.2
   obtain ⟨p1, p2, p3, p4, e1, e2, e3, e4, e5⟩ := head_enc hRR hix (layV_B hb.1.2) rfl
   refine ⟨p1, p2, p3, p4, _, e1, e2, e3, e4, e5, ?_⟩
   unfold restQ
   rw [if_neg (by simp), if_pos k1]
   have hv := vec_enc_at (headB ⟨k, fa, fb, ct, se, ix, mn, kn, op⟩) [] (hhB hix) nilB kn hb.1.2
   rw [List.append_nil] at hv
   try dsimp only at hv
   try dsimp only
   rw [hv, len0 hb.1.1.2, hb.1.1.1]
   rfl
 · rw [if_neg k1] at hb ⊢
   by_cases k2 : k = 2
   · rw [if_pos k2] at hb ⊢
     simp only [Bool.and_eq_true, decide_eq_true_eq] at hb
     have hix : ix ≤ 1152921504606846976 := by omega
     rw [layOps_app]
     have hm := enc_R (n := mn) (by omega) (by omega)
     have hn := enc_R (n := (op.length : Int)) (by omega) (by omega)
     have hL := layOps_B' (l := op) nilB
     obtain ⟨p1, p2, p3, p4, e1, e2, e3, e4, e5⟩ := head_enc hRR hix (app_B hm (app_B hn hL)) (l := headB ⟨k, fa, fb, ct, se, ix, mn, kn, op⟩ ++ encN mn ++ encN (op.length : Int) ++ layOps [] op) (by simp)
     refine ⟨p1, p2, p3, p4, _, e1, e2, e3, e4, e5, ?_⟩
     unfold restQ
     rw [if_neg (by simp), if_neg k1, if_pos k2]
     have q1 := numQ_enc (l := headB ⟨k, fa, fb, ct, se, ix, mn, kn, op⟩ ++ encN mn ++ encN (op.length : Int) ++ layOps [] op) (a := headB ⟨k, fa, fb, ct, se, ix, mn, kn, op⟩) (hhB hix) (app_B hn hL) (n := mn) (by omega) (by omega) rfl (by simp)
     have q2 := numQ_enc (l := headB ⟨k, fa, fb, ct, se, ix, mn, kn, op⟩ ++ encN mn ++ encN (op.length : Int) ++ layOps [] op) (a := headB ⟨k, fa, fb, ct, se, ix, mn, kn, op⟩ ++ encN mn) (app_B (hhB hix) hm) hL (n := (op.length : Int)) (by omega) (by omega) rfl (by simp)
     have q3 := opsQ_enc (r := []) (l := headB ⟨k, fa, fb, ct, se, ix, mn, kn, op⟩ ++ encN mn ++ encN (op.length : Int) ++ layOps [] op) nilB op (headB ⟨k, fa, fb, ct, se, ix, mn, kn, op⟩ ++ encN mn ++ encN (op.length : Int)) _ [] (app_B (app_B (hhB hix) hm) hn) hops rfl (by simp)
     dsimp only
     rw [q1]
     dsimp only
     rw [q2]
     dsimp only
     rw [Int.toNat_natCast, q3, len0 hb.1.1.1.1.1]
     rfl
   · rw [if_neg k2] at hb ⊢
     simp only [Bool.and_eq_true, decide_eq_true_eq] at hb
     have hix : ix ≤ 1152921504606846976 := by omega
     obtain ⟨p1, p2, p3, p4, e1, e2, e3, e4, e5⟩ := head_enc (T := []) hRR hix nilB (by rw [List.append_nil])
     refine ⟨p1, p2, p3, p4, _, e1, e2, e3, e4, e5, ?_⟩
     unfold restQ
     rw [if_neg (by simp), if_neg k1, if_neg k2, len0 hb.1.2, len0 hb.1.1.2, hb.1.1.1.2]
theorem bodyB_len {f : Fr} (h : rightF f = true) : (bodyB f).length ≤ 200000 := by
 obtain ⟨s1, s2, s3, s4, s5, s6, hb⟩ := rightF_sizes h
 have t1 := textB_len f.fa
 have t2 := textB_len f.fb
 have t3 := textB_len f.ct
 have t4 := encN_len f.se
 have t5 := encN_len f.ix
 have hh : (headB f).length ≤ 200 := by
  rw [headB_eq]
  simp only [List.length_append]
  omega
 unfold bodyF at hb
 unfold bodyB
 by_cases k1 : f.k = 1
 · rw [if_pos k1] at hb ⊢
   simp only [Bool.and_eq_true, decide_eq_true_eq] at hb
   have := layS_len f.kn hb.1.2
   rw [List.length_append]
   omega
 · rw [if_neg k1] at hb ⊢
   by_cases k2 : f.k = 2
   · rw [if_pos k2] at hb ⊢
     simp only [Bool.and_eq_true, decide_eq_true_eq] at hb
     have h1 := layOps_len f.op (headB f ++ encN f.mn ++ encN (f.op.length : Int))
     have t6 := encN_len f.mn
     have t7 := encN_len (f.op.length : Int)
     simp only [List.length_append] at h1
     omega
   · rw [if_neg k2]
     omega
theorem rightF_k {f : Fr} (h : rightF f = true) : 0 ≤ f.k ∧ f.k ≤ 255 := by
 have hb := (rightF_sizes h).2.2.2.2.2.2
 unfold bodyF at hb
 by_cases k1 : f.k = 1
 · omega
 · rw [if_neg k1] at hb
   by_cases k2 : f.k = 2
   · omega
   · rw [if_neg k2] at hb
     simp only [Bool.and_eq_true, decide_eq_true_eq] at hb
     omega
theorem sumB_B (l : List Int) : isB (sumB l) := fun x hx => by
 unfold sumB at hx
 simp only [List.mem_cons, List.not_mem_nil, or_false] at hx
 omega
theorem sealT_B {f : Fr} (h : rightF f = true) : isB (sealT f.k (bodyB f)) := by
 have hk : 0 ≤ f.k ∧ f.k ≤ 255 := rightF_k h
 unfold sealT
 refine app_B (app_B (a := f.k :: encN _) (fun x hx => ?_) (bodyB_B h)) (sumB_B _)
 rcases List.mem_cons.1 hx with e | e
 · omega
 · exact enc_R (by omega) (by have := bodyB_len h; omega) x e
theorem readF_enc {f : Fr} (h : rightF f = true) : readF (sealT f.k (bodyB f)) = (f, 0) := by
 have hB := bodyB_B h
 have hlen := bodyB_len h
 have hk := rightF_k h
 obtain ⟨t, ht⟩ : ∃ t, strOfNums (bodyB f) = t := ⟨_, rfl⟩
 have htb : bytesOf t = bodyB f := by rw [← ht]; exact bytes_nums hB
 have hts : (t.size : Int) = ((bodyB f).length : Int) := by rw [← htb, bytesOf_length]
 obtain ⟨S, hS⟩ : ∃ S, sumB (f.k :: encN ((bodyB f).length : Int) ++ bodyB f) = S := ⟨_, rfl⟩
 have hSB : isB S := by rw [← hS]; exact sumB_B _
 have hSl : S.length = 4 := by rw [← hS]; rfl
 have hkB : isB [f.k] := fun x hx => by
  rw [List.mem_singleton] at hx
  omega
 have hs : sealT f.k (bodyB f) = [f.k] ++ textB t ++ S := by
  unfold sealT textB
  rw [hS, htb, hts]
  simp
 have hT := take_textM 1048576 (by omega) [f.k] S hkB hSB t (by omega)
 have hop : openS (sealT f.k (bodyB f)) = (f.k, t, ((sealT f.k (bodyB f)).length : Int), 0) := by
  rw [hs]
  unfold openS
  have e1 : ([f.k].length : Int) = 1 := rfl
  rw [e1] at hT
  rw [if_neg (by simp), hT]
  dsimp only
  have el : (([f.k] ++ textB t ++ S).length : Int) = (([f.k] ++ textB t).length : Int) + 4 := by
   have : ([f.k] ++ textB t ++ S).length = ([f.k] ++ textB t).length + 4 := by rw [List.length_append, hSl]
   omega
  rw [if_pos rfl, if_neg (by omega), el, if_pos]
  · rfl
  · have n1 : (([f.k] ++ textB t).length : Int).toNat = ([f.k] ++ textB t).length := Int.toNat_natCast _
    have n2 : ((([f.k] ++ textB t).length : Int) + 4).toNat = ([f.k] ++ textB t ++ S).length := by omega
    rw [n1, n2, List.take_length, List.take_left, List.drop_left]
    rw [← hS]
    unfold textB
    rw [htb, hts]
    simp
 unfold readF
 rw [hop]
 dsimp only
 rw [if_neg (by simp), htb]
 exact readB_enc h
theorem readF_err (s : List Int) : (readF s).2 = 0 ∨ (readF s).2 = 110 := by
 unfold readF
 by_cases h : (openS s).2.2.2 ≠ 0 ∨ (openS s).2.2.1 ≠ s.length
 · rw [if_pos h]; exact .inr rfl
 · rw [if_neg h]
   unfold readB
   dsimp only
   split
   · exact .inr rfl
   · exact .inl rfl
theorem readF_back {f : Fr} (h : rightF f = true) : readF (bytesOf (layFr f).1) = (f, 0) := by
 unfold layFr
 rw [if_pos h]
 dsimp only
 rw [bytes_nums (sealT_B h)]
 exact readF_enc h
end Go.Proofs.Ytenbkljgmgdegaa.PO
end
section
namespace Go.Proofs.Ytenbkljgmgdegaa.PO
open Go.RowKit Go.Proofs.YtenbkljgmgdegaaW.PrintWords Go.Proofs.YtenbkljgmgdegaaW.PrintLast Go.Proofs.YtenbkljgmgdegaaW.PrintMore Go.Proofs.Ytenbkljgmgdegaa.XW
open Go.Proofs.Ytenbkljgmgdegaa.XRange
set_option linter.unusedVariables false
set_option linter.unusedSimpArgs false
def WfO (m : Nat) (x : S36) : Prop := x.f0.f0.size ≤ m ∧ sizes m x.f1 ∧ sizes m x.f6
structure WfF (m : Nat) (f : Fr) : Prop where
 a : f.fa.size ≤ m
 b : f.fb.size ≤ m
 c : f.ct.size ≤ m
 kn : sizes m f.kn
 op : ∀ x, x ∈ f.op → WfO m x
 m : m ≤ 9223372036854775807
theorem rd_memF (l : List S36) (i : Nat) (h : i < l.length) : rd_T36 l (i : Int) ∈ l := by
 have : rd_T36 l (i : Int) = l[i] := by simp [rd_T36, List.getD, h]
 rw [this]
 exact List.getElem_mem h
set_option maxHeartbeats 8000000 in
set_option maxRecDepth 100000 in
theorem refOps_calls (l : List S36) (cart : ByteArray) (A : Option Addr) (c : Nat) (w : World) (hc : l.length ≤ c) (hC : Kd.C k36 w A l.length l) (m : Nat) (hm : m ≤ 9223372036854775807) (hz : ∀ x, x ∈ l → WfO m x) :
 Calls Try.prog 92 #[.slice A l.length c, .string cart] w fun e w' => e = .returned (.bool (!l.any (badO cart) && decide (0 < l.length) && decide (l.length ≤ 8))) ∧ Below w.heap.size w w' := by
 have HC := Aside0.mk hC
 have HM := Aside0.mk hm
 have HZ := Aside0.mk hz
 have hlm : l.length ≤ 9223372036854775807 := hC.2.1
 clear hC hm hz
 go_enter Try.func92, Try.ntmps92
 go_wp2
 go_loopw [5, 6] (fun v5 _ wr => ∃ j : Nat, j ≤ l.length ∧ v5 = .int .i64 j ∧ Aside0 ((l.drop j).any (badO cart) = l.any (badO cart)) ∧ Aside0 (Below w.heap.size w wr)) (fun v5 _ _ => l.length - (intOf v5).toNat)
 case atStart => exact ⟨0, Nat.zero_le _, rfl, ⟨by simp⟩, ⟨Below.refl _ _⟩⟩
 case round =>
  obtain ⟨j, hj, rfl, HJ, HB⟩ := hrel
  by_cases hlt : j < l.length
  · obtain ⟨ad, A2, c2, A7, c7, rfl, f0, f1, f2, f3, f4, f5, f6, f7, l2, g2, l7, g7⟩ := at_T36 (Kd.C_below HC.out HB.out) (j : Int) (by omega) (by omega)
    simp only [Int.toNat_natCast] at f0 f1 f2 f3 f4 f5 f6 f7
    have HW := Aside0.mk (HZ.out _ (rd_memF l j hlt))
    obtain ⟨x, hx⟩ : ∃ x, rd_T36 l (j : Int) = x := ⟨_, rfl⟩
    rw [hx] at f0 f1 f2 f3 f4 f5 f6 f7 l2 g2 l7 g7 HW
    have HD := Aside0.mk (show l.drop j = x :: l.drop (j + 1) from by rw [← hx]; exact rd_drop36' l j hlt)
    have HL2 := Aside0.mk l2
    have HG2 := Aside0.mk g2
    have HL7 := Aside0.mk l7
    have HG7 := Aside0.mk g7
    have hb3 : 0 ≤ (j : Int) ∧ (j : Int) < (l.length : Int) := by omega
    have q1 : decide ((j : Int) < (l.length : Int)) = true := by simp; omega
    have hbk := World.block_lt_of_cell? wr _ f3
    clear l2 g2 l7 g7 hx
    go_wp2_with fail
    refine (refRightO_calls x A2 c2 A7 c7 _ HL2.out HG2.out HL7.out HG7.out m HM.out HW.out.1 HW.out.2.1 HW.out.2.2).mono ?_
    rintro e w1 ⟨rfl, hb1⟩
    have HB1 := Aside0.mk (HB.out.trans (hb1.mono HB.out.size))
    have f3' := (hb1.cell (p := ⟨(ad.add (j * 8)).block, (ad.add (j * 8)).off + 3, none⟩) hbk).trans f3
    obtain ⟨b, hb⟩ : ∃ b, rightO x = b := ⟨_, rfl⟩
    have HBX := Aside0.mk hb
    rw [hb]
    clear hb hb1 f0 f1 f2 f3 f4 f5 f6 f7 hbk
    cases b with
    | false =>
      go_wp2
      go_ret
      refine ⟨?_, HB1.out⟩
      rw [← HJ.out, HD.out, List.any_cons]
      unfold badO
      rw [HBX.out]
      simp
    | true =>
      by_cases he : x.f2.toList = cart.toList
      · have q2 : (x.f2.toList == cart.toList) = true := by simp [he]
        have HE := Aside0.mk (bytes_inj he)
        go_wp2
        refine ⟨⟨j + 1, by omega, by go_num, ⟨by rw [← HJ.out, HD.out, List.any_cons]; unfold badO; rw [HBX.out, HE.out]; simp⟩, HB1⟩, ?_⟩
        simp [intOf]
        omega
      · have q2 : (x.f2.toList == cart.toList) = false := by simp [he]
        have HE := Aside0.mk (show x.f2 ≠ cart from fun h => he (by rw [h]))
        go_wp2
        go_ret
        refine ⟨?_, HB1.out⟩
        rw [← HJ.out, HD.out, List.any_cons]
        unfold badO
        simp [HE.out]
  · have q1 : decide ((j : Int) < (l.length : Int)) = false := by simp; omega
    have HF := Aside0.mk (show l.any (badO cart) = false from by rw [← HJ.out, List.drop_eq_nil_of_le (by omega)]; rfl)
    by_cases h1 : 1 ≤ l.length
    · have q2 : decide ((1 : Int) ≤ (l.length : Int)) = true := by simp; omega
      go_wp2
      go_ret
      refine ⟨?_, HB.out⟩
      rw [HF.out, show decide (0 < l.length) = true from decide_eq_true (by omega)]
      simp
      try omega
    · have q2 : decide ((1 : Int) ≤ (l.length : Int)) = false := by simp; omega
      go_wp2
      go_ret
      refine ⟨?_, HB.out⟩
      rw [HF.out, show decide (0 < l.length) = false from decide_eq_false (by omega)]
      simp
      try omega
theorem refName_calls (s : ByteArray) (hs : s.size ≤ 9223372036854775807) (w : World) : Calls Try.prog 91 #[.string s] w fun e w' => e = .returned (.bool (isNameB s)) ∧ Below w.heap.size w w' :=
 (pannierref07_IsName.calls (s.size + 1) s (isNameB s) w (refName_f s hs (s.size + 1) (by omega))).mono (fun e w' h => ⟨h.1, h.2.below⟩)
theorem refRightS_calls (l : List S34) (A : Option Addr) (c : Nat) (w : World) (hl : l.length ≤ c) (hC : Kd.C k34 w A l.length l) (m : Nat) (hm : m ≤ 9223372036854775807) (hz : sizes m l) : Calls Try.prog 62 #[.slice A l.length c] w fun e w' => e = .returned (.bool (rightS l)) ∧ Below w.heap.size w w' :=
 pannierref07_Right.calls (l.length + m + 3) A c l (rightS l) w hC hl (refRight_f l hC.2.1 m hm hz _ (by omega))
set_option maxHeartbeats 8000000 in
set_option maxRecDepth 100000 in
theorem refRightF_calls (f : Fr) (A7 : Option Addr) (c7 : Nat) (A8 : Option Addr) (c8 : Nat) (w : World) (l7 : f.kn.length ≤ c7) (g7 : Kd.C k34 w A7 f.kn.length f.kn) (l8 : f.op.length ≤ c8) (g8 : Kd.C k36 w A8 f.op.length f.op) (m : Nat) (hz : WfF m f) :
 Calls Try.prog 38 #[.agg #[.int .i64 f.k, .string f.fa, .string f.fb, .string f.ct, .int .i64 f.se, .int .i64 f.ix, .int .i64 f.mn, .slice A7 f.kn.length c7, .slice A8 f.op.length c8]] w fun e w' => e = .returned (.bool (rightF f)) ∧ Below w.heap.size w w' := by
 have HG7 := Aside0.mk g7
 have HG8 := Aside0.mk g8
 have HL7 := Aside0.mk l7
 have HL8 := Aside0.mk l8
 have HZ := Aside0.mk hz
 clear l7 g7 l8 g8 hz
 obtain ⟨N, hN⟩ : ∃ N, w.heap.size = N := ⟨_, rfl⟩
 go_enter Try.func38, Try.ntmps38
 go_upto_region 1 with fail
 obtain ⟨w0, hw0⟩ : ∃ w0, w.alloc (.cells #[.int .i64 f.k, .string f.fa, .string f.fb, .string f.ct, .int .i64 f.se, .int .i64 f.ix, .int .i64 f.mn, .slice A7 f.kn.length c7, .slice A8 f.op.length c8] 54) = w0 := ⟨_, rfl⟩
 have HB0 := Aside0.mk (show Below w.heap.size w w0 from by rw [← hw0]; exact (Below.refl _ w).alloc (Nat.le_refl _) _)
 have HK0 := Aside0.mk (show w0.heap[N]? = some (.cells #[.int .i64 f.k, .string f.fa, .string f.fb, .string f.ct, .int .i64 f.se, .int .i64 f.ix, .int .i64 f.mn, .slice A7 f.kn.length c7, .slice A8 f.op.length c8] 54 (0, 0)) from by rw [← hw0, ← hN]; exact World.alloc_heap_new w _)
 try rw [hw0]
 try rw [hN]
 clear hw0
 obtain ⟨k0, k1, k2, k3, k4, k5, k6, k7, k8⟩ := cells9 HK0.out
 go_wp2_with fail
 refine (refName_calls f.fa (Nat.le_trans HZ.out.a HZ.out.m) _).mono ?_
 obtain ⟨b1, hb1⟩ : ∃ b, isNameB f.fa = b := ⟨_, rfl⟩
 have HN1 := Aside0.mk hb1
 rw [hb1]
 rintro e w1 ⟨rfl, hb⟩
 have HB1 := Aside0.mk (HB0.out.trans (hb.mono HB0.out.size))
 have HK1 := Aside0.mk (blk_below HK0.out hb)
 clear hb1 hb k0 k1 k2 k3 k4 k5 k6 k7 k8 HB0 HK0
 obtain ⟨k0, k1, k2, k3, k4, k5, k6, k7, k8⟩ := cells9 HK1.out
 go_wp2_with fail
 refine (refName_calls f.fb (Nat.le_trans HZ.out.b HZ.out.m) _).mono ?_
 obtain ⟨b2, hb2⟩ : ∃ b, isNameB f.fb = b := ⟨_, rfl⟩
 have HN2 := Aside0.mk hb2
 rw [hb2]
 rintro e w2 ⟨rfl, hb⟩
 have HB2 := Aside0.mk (HB1.out.trans (hb.mono HB1.out.size))
 have HK2 := Aside0.mk (blk_below HK1.out hb)
 clear hb2 hb k0 k1 k2 k3 k4 k5 k6 k7 k8 HB1 HK1
 obtain ⟨k0, k1, k2, k3, k4, k5, k6, k7, k8⟩ := cells9 HK2.out
 have no : headF f = false → rightF f = false := fun h => by unfold rightF; rw [h]; rfl
 have NO := Aside0.mk no
 clear no
 cases b1 with
 | false =>
   go_wp2
   go_ret
   exact ⟨by rw [NO.out (by unfold headF; rw [HN1.out]; rfl)]; rfl, by first | exact HB2.out | (rw [← hN]; exact HB2.out)⟩
 | true =>
 cases b2 with
 | false =>
   go_wp2
   go_ret
   exact ⟨by rw [NO.out (by unfold headF; rw [HN1.out, HN2.out]; rfl)]; rfl, by first | exact HB2.out | (rw [← hN]; exact HB2.out)⟩
 | true =>
 by_cases he : f.fa.toList = f.fb.toList
 · have q : (f.fa.toList == f.fb.toList) = true := by simp [he]
   have HE := Aside0.mk (bytes_inj he)
   go_wp2
   go_ret
   exact ⟨by rw [NO.out (by unfold headF; rw [HE.out]; simp)]; rfl, by first | exact HB2.out | (rw [← hN]; exact HB2.out)⟩
 have q : (f.fa.toList == f.fb.toList) = false := by simp [he]
 have HE := Aside0.mk (show f.fa ≠ f.fb from fun h => he (by rw [h]))
 clear he
 by_cases h1 : f.ct.size < 1
 · have HH := Aside0.mk h1
   go_wp2
   go_ret
   exact ⟨by rw [NO.out (by unfold headF; rw [show decide (1 ≤ f.ct.size) = false from decide_eq_false (by have := HH.out; omega)]; simp)]; rfl, by first | exact HB2.out | (rw [← hN]; exact HB2.out)⟩
 by_cases h2 : 32 < f.ct.size
 · have HH := Aside0.mk h2
   go_wp2
   go_ret
   exact ⟨by rw [NO.out (by unfold headF; rw [show decide (f.ct.size ≤ 32) = false from decide_eq_false (by have := HH.out; omega)]; simp)]; rfl, by first | exact HB2.out | (rw [← hN]; exact HB2.out)⟩
 by_cases h3 : f.se < 1
 · have HH := Aside0.mk h3
   go_wp2
   go_ret
   exact ⟨by rw [NO.out (by unfold headF; rw [show decide (1 ≤ f.se) = false from decide_eq_false (by have := HH.out; omega)]; simp)]; rfl, by first | exact HB2.out | (rw [← hN]; exact HB2.out)⟩
 by_cases h4 : f.se > 1152921504606846976
 · have HH := Aside0.mk h4
   go_wp2
   go_ret
   exact ⟨by rw [NO.out (by unfold headF; rw [show decide (f.se ≤ 1152921504606846976) = false from decide_eq_false (by have := HH.out; omega)]; simp)]; rfl, by first | exact HB2.out | (rw [← hN]; exact HB2.out)⟩
 have HR := Aside0.mk (show rightF f = (decide (0 ≤ f.ix) && bodyF f) from by
  unfold rightF headF
  rw [HN1.out, HN2.out, show decide (f.fa ≠ f.fb) = true from decide_eq_true HE.out, show decide (1 ≤ f.ct.size) = true from decide_eq_true (by omega), show decide (f.ct.size ≤ 32) = true from decide_eq_true (by omega),
   show decide (1 ≤ f.se) = true from decide_eq_true (by omega), show decide (f.se ≤ 1152921504606846976) = true from decide_eq_true (by omega)]
  simp)
 clear NO HN1 HN2 HE
 go_upto_region 5 with fail
 clear h1 h2 h3 h4 q
 by_cases p1 : f.k = 1
 · have q1 : (f.k == 1) = true := by simp [p1]
   have HK1 := Aside0.mk p1
   clear p1
   go_wp2_with fail
   refine (refRightS_calls f.kn A7 c7 _ HL7.out (Kd.C_below HG7.out HB2.out) m HZ.out.m HZ.out.kn).mono ?_
   obtain ⟨b3, hb3⟩ : ∃ b, rightS f.kn = b := ⟨_, rfl⟩
   have HN3 := Aside0.mk hb3
   rw [hb3]
   rintro e w3 ⟨rfl, hb⟩
   have HB3 := Aside0.mk (HB2.out.trans (hb.mono HB2.out.size))
   have HK3 := Aside0.mk (blk_below HK2.out hb)
   clear hb3 hb k0 k1 k2 k3 k4 k5 k6 k7 k8 HB2 HK2
   obtain ⟨k0, k1, k2, k3, k4, k5, k6, k7, k8⟩ := cells9 HK3.out
   cases b3 with
   | false =>
     go_wp2
     go_ret
     refine ⟨?_, by first | exact HB3.out | (rw [← hN]; exact HB3.out)⟩
     rw [HR.out]
     unfold bodyF
     rw [if_pos HK1.out, HN3.out]
     simp []
     all_goals (intros; omega)
   | true =>
   by_cases c1 : 0 ≤ f.ix
   case neg =>
    go_wp2
    go_ret
    refine ⟨?_, by first | exact HB3.out | (rw [← hN]; exact HB3.out)⟩
    rw [HR.out]
    unfold bodyF
    rw [if_pos HK1.out, HN3.out]
    simp [c1]
    all_goals (intros; omega)
   by_cases c2 : f.ix ≤ 1152921504606846976
   case neg =>
    go_wp2
    go_ret
    refine ⟨?_, by first | exact HB3.out | (rw [← hN]; exact HB3.out)⟩
    rw [HR.out]
    unfold bodyF
    rw [if_pos HK1.out, HN3.out]
    simp [c1, c2]
    all_goals (intros; omega)
   by_cases c3 : f.mn = 0
   case neg =>
    have d3 : (f.mn == 0) = false := by simpa using c3
    go_wp2
    go_ret
    refine ⟨?_, by first | exact HB3.out | (rw [← hN]; exact HB3.out)⟩
    rw [HR.out]
    unfold bodyF
    rw [if_pos HK1.out, HN3.out]
    simp [c1, c2, c3]
    all_goals (intros; omega)
   have e3 : (f.mn == 0) = true := by simpa using c3
   by_cases c4 : f.op.length = 0
   case neg =>
    have d4 : (f.op.length == 0) = false := by simpa using c4
    go_wp2
    go_ret
    refine ⟨?_, by first | exact HB3.out | (rw [← hN]; exact HB3.out)⟩
    rw [HR.out]
    unfold bodyF
    rw [if_pos HK1.out, HN3.out]
    simp [c1, c2, c3, c4]
    all_goals (intros; omega)
   have e4 : (f.op.length == 0) = true := by simpa using c4
   go_wp2
   go_ret
   refine ⟨?_, by first | exact HB3.out | (rw [← hN]; exact HB3.out)⟩
   rw [HR.out]
   unfold bodyF
   rw [if_pos HK1.out, HN3.out]
   simp [c1, c2, c3, c4]
   all_goals (intros; omega)
 have q1 : (f.k == 1) = false := by simpa using p1
 by_cases p2 : f.k = 2
 · have q2 : (f.k == 2) = true := by simp [p2]
   have HK1 := Aside0.mk p1
   have HP2 := Aside0.mk p2
   clear p1 p2
   go_wp2_with fail
   refine (refOps_calls f.op f.ct A8 c8 _ HL8.out (Kd.C_below HG8.out HB2.out) m HZ.out.m HZ.out.op).mono ?_
   obtain ⟨b3, hb3⟩ : ∃ b, (!f.op.any (badO f.ct) && decide (0 < f.op.length) && decide (f.op.length ≤ 8)) = b := ⟨_, rfl⟩
   have HN3 := Aside0.mk (show bodyF f = (decide (f.kn.length = 0) && decide (f.ix < f.mn) && decide (f.mn ≤ 512) && b3) from by
    unfold bodyF
    rw [if_neg HK1.out, if_pos HP2.out, ← hb3]
    cases !f.op.any (badO f.ct) <;> cases decide (0 < f.op.length) <;> cases decide (f.op.length ≤ 8) <;> simp)
   rw [hb3]
   rintro e w3 ⟨rfl, hb⟩
   have HB3 := Aside0.mk (HB2.out.trans (hb.mono HB2.out.size))
   have HK3 := Aside0.mk (blk_below HK2.out hb)
   clear hb3 hb k0 k1 k2 k3 k4 k5 k6 k7 k8 HB2 HK2
   obtain ⟨k0, k1, k2, k3, k4, k5, k6, k7, k8⟩ := cells9 HK3.out
   cases b3 with
   | false =>
     go_wp2
     go_ret
     refine ⟨?_, by first | exact HB3.out | (rw [← hN]; exact HB3.out)⟩
     rw [HR.out]
     rw [HN3.out]
     simp []
     all_goals (intros; omega)
   | true =>
   by_cases c1 : 0 ≤ f.ix
   case neg =>
    go_wp2
    go_ret
    refine ⟨?_, by first | exact HB3.out | (rw [← hN]; exact HB3.out)⟩
    rw [HR.out]
    rw [HN3.out]
    simp [c1]
    all_goals (intros; omega)
   by_cases c2 : f.ix < f.mn
   case neg =>
    go_wp2
    go_ret
    refine ⟨?_, by first | exact HB3.out | (rw [← hN]; exact HB3.out)⟩
    rw [HR.out]
    rw [HN3.out]
    simp [c1, c2]
    all_goals (intros; omega)
   by_cases c3 : f.mn ≤ 512
   case neg =>
    go_wp2
    go_ret
    refine ⟨?_, by first | exact HB3.out | (rw [← hN]; exact HB3.out)⟩
    rw [HR.out]
    rw [HN3.out]
    simp [c1, c2, c3]
    all_goals (intros; omega)
   by_cases c4 : f.kn.length = 0
   case neg =>
    have d4 : (f.kn.length == 0) = false := by simpa using c4
    go_wp2
    go_ret
    refine ⟨?_, by first | exact HB3.out | (rw [← hN]; exact HB3.out)⟩
    rw [HR.out]
    rw [HN3.out]
    simp [c1, c2, c3, c4]
    all_goals (intros; omega)
   have e4 : (f.kn.length == 0) = true := by simpa using c4
   go_wp2
   go_ret
   refine ⟨?_, by first | exact HB3.out | (rw [← hN]; exact HB3.out)⟩
   rw [HR.out]
   rw [HN3.out]
   simp [c1, c2, c3, c4]
   all_goals (intros; omega)
 have q2 : (f.k == 2) = false := by simpa using p2
 by_cases p3 : f.k = 3
 · have q3 : (f.k == 3) = true := by simp [p3]
   by_cases c0 : 0 ≤ f.ix
   case neg =>
    go_wp2
    go_ret
    refine ⟨?_, by first | exact HB2.out | (rw [← hN]; exact HB2.out)⟩
    rw [HR.out]
    unfold bodyF
    rw [if_neg p1, if_neg p2, show decide (f.k = 3) = true from decide_eq_true p3]
    simp [c0]
    all_goals (intros; omega)
   by_cases c1 : f.ix ≤ 512
   case neg =>
    go_wp2
    go_ret
    refine ⟨?_, by first | exact HB2.out | (rw [← hN]; exact HB2.out)⟩
    rw [HR.out]
    unfold bodyF
    rw [if_neg p1, if_neg p2, show decide (f.k = 3) = true from decide_eq_true p3]
    simp [c0, c1]
    all_goals (intros; omega)
   by_cases c2 : f.mn = 0
   case neg =>
    have d2 : (f.mn == 0) = false := by simpa using c2
    go_wp2
    go_ret
    refine ⟨?_, by first | exact HB2.out | (rw [← hN]; exact HB2.out)⟩
    rw [HR.out]
    unfold bodyF
    rw [if_neg p1, if_neg p2, show decide (f.k = 3) = true from decide_eq_true p3]
    simp [c0, c1, c2]
    all_goals (intros; omega)
   have e2 : (f.mn == 0) = true := by simpa using c2
   by_cases c3 : f.kn.length = 0
   case neg =>
    have d3 : (f.kn.length == 0) = false := by simpa using c3
    go_wp2
    go_ret
    refine ⟨?_, by first | exact HB2.out | (rw [← hN]; exact HB2.out)⟩
    rw [HR.out]
    unfold bodyF
    rw [if_neg p1, if_neg p2, show decide (f.k = 3) = true from decide_eq_true p3]
    simp [c0, c1, c2, c3]
    all_goals (intros; omega)
   have e3 : (f.kn.length == 0) = true := by simpa using c3
   by_cases c4 : f.op.length = 0
   case neg =>
    have d4 : (f.op.length == 0) = false := by simpa using c4
    go_wp2
    go_ret
    refine ⟨?_, by first | exact HB2.out | (rw [← hN]; exact HB2.out)⟩
    rw [HR.out]
    unfold bodyF
    rw [if_neg p1, if_neg p2, show decide (f.k = 3) = true from decide_eq_true p3]
    simp [c0, c1, c2, c3, c4]
    all_goals (intros; omega)
   have e4 : (f.op.length == 0) = true := by simpa using c4
   go_wp2
   go_ret
   refine ⟨?_, by first | exact HB2.out | (rw [← hN]; exact HB2.out)⟩
   rw [HR.out]
   unfold bodyF
   rw [if_neg p1, if_neg p2, show decide (f.k = 3) = true from decide_eq_true p3]
   simp [c0, c1, c2, c3, c4]
   all_goals (intros; omega)
 have q3 : (f.k == 3) = false := by simpa using p3
 go_wp2
 go_ret
 refine ⟨?_, by first | exact HB2.out | (rw [← hN]; exact HB2.out)⟩
 rw [HR.out]
 unfold bodyF
 rw [if_neg p1, if_neg p2, show decide (f.k = 3) = false from decide_eq_false p3]
 simp
end Go.Proofs.Ytenbkljgmgdegaa.PO
end
section
namespace Go.Proofs.Ytenbkljgmgdegaa.PO
open Go.RowKit Go.Proofs.YtenbkljgmgdegaaW.PrintWords Go.Proofs.YtenbkljgmgdegaaW.PrintLast Go.Proofs.YtenbkljgmgdegaaW.PrintMore Go.Proofs.Ytenbkljgmgdegaa.XW
open Go.Proofs.Ytenbkljgmgdegaa.XRange Go.Proofs.Ytenbkljgmgdegaa.XMap Go.Proofs.Ytenbkljgmgdegaa.XSeq
set_option linter.unusedVariables false
set_option linter.unusedSimpArgs false
set_option maxHeartbeats 8000000 in
set_option maxRecDepth 100000 in
theorem refEqualO_calls (x y : S36) (A2 : Option Addr) (c2 : Nat) (A7 : Option Addr) (c7 : Nat) (B2 : Option Addr) (d2 : Nat) (B7 : Option Addr) (d7 : Nat) (w : World) (l2 : x.f1.length ≤ c2) (g2 : Kd.C k34 w A2 x.f1.length x.f1) (l7 : x.f6.length ≤ c7) (g7 : Kd.C k34 w A7 x.f6.length x.f6)
 (m2 : y.f1.length ≤ d2) (h2 : Kd.C k34 w B2 y.f1.length y.f1) (m7 : y.f6.length ≤ d7) (h7 : Kd.C k34 w B7 y.f6.length y.f6) :
 Calls Try.prog 48 #[.agg #[.string x.f0.f0, .int .i64 x.f0.f1, .slice A2 x.f1.length c2, .string x.f2, .int .i64 x.f3, .string x.f4, .int .i64 x.f5, .slice A7 x.f6.length c7], .agg #[.string y.f0.f0, .int .i64 y.f0.f1, .slice B2 y.f1.length d2, .string y.f2, .int .i64 y.f3, .string y.f4, .int .i64 y.f5, .slice B7 y.f6.length d7]] w
  fun e w' => e = .returned (.bool (decide (x = y))) ∧ Below w.heap.size w w' := by
 have HG2 := Aside0.mk g2
 have HG7 := Aside0.mk g7
 have HL2 := Aside0.mk l2
 have HL7 := Aside0.mk l7
 have HH2 := Aside0.mk h2
 have HH7 := Aside0.mk h7
 have HM2 := Aside0.mk m2
 have HM7 := Aside0.mk m7
 have HS2 := Aside0.mk (refSame_f x.f1 y.f1 g2.2.1 (x.f1.length + 1) (by omega))
 have HS7 := Aside0.mk (refSame_f x.f6 y.f6 g7.2.1 (x.f6.length + 1) (by omega))
 clear l2 g2 l7 g7 m2 h2 m7 h7
 obtain ⟨N, hN⟩ : ∃ N, w.heap.size = N := ⟨_, rfl⟩
 go_enter Try.func48, Try.ntmps48
 obtain ⟨w0, hw0⟩ : ∃ w0, (w.alloc (.cells #[.string x.f0.f0, .int .i64 x.f0.f1, .slice A2 x.f1.length c2, .string x.f2, .int .i64 x.f3, .string x.f4, .int .i64 x.f5, .slice A7 x.f6.length c7] 36)).alloc (.cells #[.string y.f0.f0, .int .i64 y.f0.f1, .slice B2 y.f1.length d2, .string y.f2, .int .i64 y.f3, .string y.f4, .int .i64 y.f5, .slice B7 y.f6.length d7] 36) = w0 := ⟨_, rfl⟩
 have hb0 : Below w.heap.size w w0 := by rw [← hw0]; exact ((Below.refl _ w).alloc (Nat.le_refl _) _).alloc (by simp) _
 have kx : w0.heap[N]? = some (.cells #[.string x.f0.f0, .int .i64 x.f0.f1, .slice A2 x.f1.length c2, .string x.f2, .int .i64 x.f3, .string x.f4, .int .i64 x.f5, .slice A7 x.f6.length c7] 36 (0, 0)) := by rw [← hw0, ← hN]; exact blk_alloc (World.alloc_heap_new w _) _
 have ky : w0.heap[N + 1]? = some (.cells #[.string y.f0.f0, .int .i64 y.f0.f1, .slice B2 y.f1.length d2, .string y.f2, .int .i64 y.f3, .string y.f4, .int .i64 y.f5, .slice B7 y.f6.length d7] 36 (0, 0)) := by
  rw [← hw0, ← hN]
  have h := World.alloc_heap_new (w.alloc (.cells #[.string x.f0.f0, .int .i64 x.f0.f1, .slice A2 x.f1.length c2, .string x.f2, .int .i64 x.f3, .string x.f4, .int .i64 x.f5, .slice A7 x.f6.length c7] 36)) (.cells #[.string y.f0.f0, .int .i64 y.f0.f1, .slice B2 y.f1.length d2, .string y.f2, .int .i64 y.f3, .string y.f4, .int .i64 y.f5, .slice B7 y.f6.length d7] 36)
  simpa using h
 have KX := Aside0.mk kx
 have KY := Aside0.mk ky
 have HB := Aside0.mk hb0
 clear kx ky hb0
 obtain ⟨n0, n1, n2, n3, n4, n5, n6, n7⟩ := cells8 KX.out
 obtain ⟨p0, p1, p2, p3, p4, p5, p6, p7⟩ := cells8 KY.out
 go_wp2_with fail
 refine (pannierref07_Same.calls (x.f1.length + 1) A2 c2 x.f1 B2 d2 y.f1 _ _ (Kd.C_below HG2.out HB.out) HL2.out (Kd.C_below HH2.out HB.out) HM2.out HS2.out).mono ?_
 rintro e w1 ⟨rfl, hd1⟩
 have KX1 := Aside0.mk (blk_below KX.out hd1.below)
 have KY1 := Aside0.mk (blk_below KY.out hd1.below)
 have HB1 := Aside0.mk (HB.out.trans (hd1.below.mono HB.out.size))
 clear n0 n1 n2 n3 n4 n5 n6 n7 p0 p1 p2 p3 p4 p5 p6 p7 hd1 KX KY HB hw0
 obtain ⟨n0, n1, n2, n3, n4, n5, n6, n7⟩ := cells8 KX1.out
 obtain ⟨p0, p1, p2, p3, p4, p5, p6, p7⟩ := cells8 KY1.out
 go_wp2_with fail
 refine (pannierref07_Same.calls (x.f6.length + 1) A7 c7 x.f6 B7 d7 y.f6 _ _ (Kd.C_below HG7.out HB1.out) HL7.out (Kd.C_below HH7.out HB1.out) HM7.out HS7.out).mono ?_
 rintro e w2 ⟨rfl, hd2⟩
 have KX2 := Aside0.mk (blk_below KX1.out hd2.below)
 have KY2 := Aside0.mk (blk_below KY1.out hd2.below)
 have HB2 := Aside0.mk (HB1.out.trans (hd2.below.mono HB1.out.size))
 clear n0 n1 n2 n3 n4 n5 n6 n7 p0 p1 p2 p3 p4 p5 p6 p7 hd2 KX1 KY1 HB1
 obtain ⟨n0, n1, n2, n3, n4, n5, n6, n7⟩ := cells8 KX2.out
 obtain ⟨p0, p1, p2, p3, p4, p5, p6, p7⟩ := cells8 KY2.out
 go_wp2
 all_goals
  go_ret
  refine ⟨?_, by first | exact HB2.out | (rw [← hN]; exact HB2.out)⟩
  congr 2
  simp only [Bool.eq_iff_iff, decide_eq_true_eq, eqO_iff]
  first | (simp_all; done) | (simp_all; rfl)
end Go.Proofs.Ytenbkljgmgdegaa.PO
end
section
namespace Go.Proofs.Ytenbkljgmgdegaa.PO
open Go.RowKit Go.Proofs.YtenbkljgmgdegaaW.PrintWords Go.Proofs.YtenbkljgmgdegaaW.PrintLast Go.Proofs.YtenbkljgmgdegaaW.PrintMore Go.Proofs.Ytenbkljgmgdegaa.XW
open Go.Proofs.Ytenbkljgmgdegaa.XRange
set_option linter.unusedVariables false
set_option linter.unusedSimpArgs false
set_option maxHeartbeats 8000000 in
set_option maxRecDepth 100000 in
theorem refSameOps_calls (l m : List S36) (A : Option Addr) (c : Nat) (B : Option Addr) (d : Nat) (w : World) (hc : l.length ≤ c) (hC : Kd.C k36 w A l.length l) (hd : m.length ≤ d) (hD : Kd.C k36 w B m.length m) :
 Calls Try.prog 21 #[.slice A l.length c, .slice B m.length d] w fun e w' => e = .returned (.bool (decide (l = m))) ∧ Below w.heap.size w w' := by
 have HC := Aside0.mk hC
 have HD := Aside0.mk hD
 have hm : l.length ≤ 9223372036854775807 := hC.2.1
 clear hC hD
 go_enter Try.func21, Try.ntmps21
 by_cases hlen : l.length = m.length
 case neg =>
  have q0 : ((l.length : Int) != (m.length : Int)) = true := by simp; omega
  have HF := Aside0.mk (show decide (l = m) = false from decide_eq_false (fun h => hlen (by rw [h])))
  go_wp2
  go_ret
  exact ⟨by rw [HF.out]; rfl, Below.refl _ _⟩
 have q0 : ((l.length : Int) != (m.length : Int)) = false := by simp; omega
 have HLEN := Aside0.mk hlen
 clear hlen
 go_wp2
 go_loopw [5, 6] (fun v5 _ wr => ∃ j : Nat, j ≤ l.length ∧ v5 = .int .i64 j ∧ Aside0 (l = m ↔ l.drop j = m.drop j) ∧ Aside0 (Below w.heap.size w wr)) (fun v5 _ _ => l.length - (intOf v5).toNat)
 case atStart => exact ⟨0, Nat.zero_le _, rfl, ⟨by simp⟩, ⟨Below.refl _ _⟩⟩
 case round =>
  obtain ⟨j, hj, rfl, HJ, HB⟩ := hrel
  by_cases hlt : j < l.length
  · have hlt' : j < m.length := by have := HLEN.out; omega
    obtain ⟨ad, A2, c2, A7, c7, hA, hop⟩ := opAt (Kd.C_below HC.out HB.out) j hlt
    obtain ⟨bd, B2, d2, B7, d7, hBq, hoq⟩ := opAt (Kd.C_below HD.out HB.out) j hlt'
    cases hA
    cases hBq
    obtain ⟨x, hx⟩ : ∃ x, rd_T36 l (j : Int) = x := ⟨_, rfl⟩
    obtain ⟨y, hy⟩ : ∃ y, rd_T36 m (j : Int) = y := ⟨_, rfl⟩
    rw [hx] at hop
    rw [hy] at hoq
    have HX := Aside0.mk (show l.drop j = x :: l.drop (j + 1) from by rw [← hx]; exact rd_drop36' l j hlt)
    have HY := Aside0.mk (show m.drop j = y :: m.drop (j + 1) from by rw [← hy]; exact rd_drop36' m j hlt')
    have HOP := Aside0.mk hop
    have HOQ := Aside0.mk hoq
    have hb3 : 0 ≤ (j : Int) ∧ (j : Int) < (l.length : Int) := by omega
    have hb4 : 0 ≤ (j : Int) ∧ (j : Int) < (m.length : Int) := by omega
    have q1 : decide ((j : Int) < (l.length : Int)) = true := by simp; omega
    clear hx hy hop hoq
    go_wp2
    rename World => wq
    have hdr : Below wq.heap.size wq wq.drew := below_drew1 (Below.refl _ wq)
    refine start_ (n := 10) (ds := []) (S := fun w' => OpAt w' (ad.add (j * 8)) x A2 c2 A7 c7 ∧ OpAt w' (bd.add (j * 8)) y B2 d2 B7 d7) _ (by kernel_rfl) rfl rfl ⟨HOP.out.below hdr, HOQ.out.below hdr⟩ (fun hH => ?_)
    refine XReg.pu 0 18 (h := ?_)
    refine XReg.pu 1 19 (h := ?_)
    refine XReg.pu 2 20 (h := ?_)
    refine XReg.tk 3 21 (hy := by (intro w' hS_; obtain ⟨⟨s0, s1, s2, s3, s4, s5, s6, s7, _, _, _, _⟩, _⟩ := hS_; go_simp; with_reducible rfl)) (h := ?_)
    refine XReg.pu 4 22 (h := ?_)
    refine XReg.pu 5 23 (h := ?_)
    refine XReg.pu 6 24 (h := ?_)
    refine XReg.tk 7 25 (hy := by (intro w' hS_; obtain ⟨_, ⟨s0, s1, s2, s3, s4, s5, s6, s7, _, _, _, _⟩⟩ := hS_; go_simp; with_reducible rfl)) (h := ?_)
    refine oneL (i := 8) (some 26) rfl rfl (by kernel_rfl) (by decide) (fun Kc hKc => ?_)
    refine goes_ Try.func48 (by kernel_rfl) rfl #[.agg #[.string x.f0.f0, .int .i64 x.f0.f1, .slice A2 x.f1.length c2, .string x.f2, .int .i64 x.f3, .string x.f4, .int .i64 x.f5, .slice A7 x.f6.length c7], .agg #[.string y.f0.f0, .int .i64 y.f0.f1, .slice B2 y.f1.length d2, .string y.f2, .int .i64 y.f3, .string y.f4, .int .i64 y.f5, .slice B7 y.f6.length d7]] (by rfl) rfl rfl (by (try simp only [List.map_toArray, List.map_cons, List.map_nil]); first | done | rfl) ?_
    refine (refEqualO_calls x y A2 c2 A7 c7 B2 d2 B7 d7 _ HOP.out.l2 (Kd.C_drew HOP.out.g2) HOP.out.l7 (Kd.C_drew HOP.out.g7) HOQ.out.l2 (Kd.C_drew HOQ.out.g2) HOQ.out.l7 (Kd.C_drew HOQ.out.g7)).mono ?_
    obtain ⟨b, hb⟩ : ∃ b, decide (x = y) = b := ⟨_, rfl⟩
    have HBX := Aside0.mk hb
    rw [hb]
    rintro e w10 ⟨rfl, hb10⟩
    refine ⟨_, rfl, ?_⟩
    have hb10' : Below wq.heap.size wq w10 := ⟨hb10.os, hb10.tape, hb10.output, hb10.size, hb10.block⟩
    refine hKc.out _ _ ⟨HOP.out.below hb10', HOQ.out.below hb10'⟩ (fun hH2 => ?_)
    have HB1 := Aside0.mk (show Below w.heap.size w w10 from HB.out.trans (hb10'.mono HB.out.size))
    clear hKc Kc hH hH2 hb10 hb10' hdr hb
    refine XReg.pu 9 6 (h := ?_)
    refine done_ (by kernel_rfl) ?_
    cases b with
    | false =>
      go_wp2
      go_ret
      refine ⟨?_, HB1.out⟩
      rw [show decide (l = m) = false from decide_eq_false (fun h => by
       have h1 := HJ.out.1 h
       rw [HX.out, HY.out, List.cons.injEq] at h1
       exact (of_decide_eq_false HBX.out) h1.1)]
      rfl
    | true =>
      go_wp2
      go_round
      case rel => exact ⟨j + 1, by omega, by go_num, ⟨by rw [HJ.out, HX.out, HY.out, List.cons.injEq, of_decide_eq_true HBX.out]; simp⟩, HB1⟩
      case measure => simp [intOf]; omega
  · have q1 : decide ((j : Int) < (l.length : Int)) = false := by simp; omega
    go_wp2
    go_ret
    refine ⟨?_, HB.out⟩
    rw [show decide (l = m) = true from decide_eq_true (HJ.out.2 (by rw [List.drop_eq_nil_of_le (by omega), List.drop_eq_nil_of_le (by have := HLEN.out; omega)]))]
    rfl
theorem refSameS_calls (l m : List S34) (A : Option Addr) (c : Nat) (B : Option Addr) (d : Nat) (w : World) (hc : l.length ≤ c) (hC : Kd.C k34 w A l.length l) (hd : m.length ≤ d) (hD : Kd.C k34 w B m.length m) :
 Calls Try.prog 26 #[.slice A l.length c, .slice B m.length d] w fun e w' => e = .returned (.bool (decide (l = m))) ∧ Below w.heap.size w w' :=
 (pannierref07_Same.calls (l.length + 1) A c l B d m (decide (l = m)) w hC hc hD hd (refSame_f l m hC.2.1 _ (by omega))).mono (fun e w' h => ⟨h.1, h.2.below⟩)
def eqR (f g : Fr) : Bool := decide (f.kn = g.kn) && decide (f.op = g.op) && decide (f.k = g.k) && decide (f.fa = g.fa) && decide (f.fb = g.fb) && decide (f.ct = g.ct) && decide (f.se = g.se) && decide (f.ix = g.ix) && decide (f.mn = g.mn)
theorem eqR_iff {f g : Fr} : eqR f g = true ↔ f = g := by
 unfold eqR
 simp only [Bool.and_eq_true, decide_eq_true_eq]
 constructor
 · rintro ⟨⟨⟨⟨⟨⟨⟨⟨a, b⟩, c⟩, d⟩, e⟩, i⟩, m⟩, n⟩, o⟩
   cases f
   cases g
   dsimp only at *
   subst a b c d e i m n o
   rfl
 · rintro rfl
   simp
set_option maxHeartbeats 8000000 in
set_option maxRecDepth 100000 in
theorem refEqualF_calls (f : Fr) (A7 : Option Addr) (c7 : Nat) (A8 : Option Addr) (c8 : Nat) (g : Fr) (B7 : Option Addr) (d7 : Nat) (B8 : Option Addr) (d8 : Nat) (w : World) (l7 : f.kn.length ≤ c7) (g7 : Kd.C k34 w A7 f.kn.length f.kn) (l8 : f.op.length ≤ c8) (g8 : Kd.C k36 w A8 f.op.length f.op)
 (m7 : g.kn.length ≤ d7) (h7 : Kd.C k34 w B7 g.kn.length g.kn) (m8 : g.op.length ≤ d8) (h8 : Kd.C k36 w B8 g.op.length g.op) :
 Calls Try.prog 34 #[.agg #[.int .i64 f.k, .string f.fa, .string f.fb, .string f.ct, .int .i64 f.se, .int .i64 f.ix, .int .i64 f.mn, .slice A7 f.kn.length c7, .slice A8 f.op.length c8], .agg #[.int .i64 g.k, .string g.fa, .string g.fb, .string g.ct, .int .i64 g.se, .int .i64 g.ix, .int .i64 g.mn, .slice B7 g.kn.length d7, .slice B8 g.op.length d8]] w
  fun e w' => e = .returned (.bool (eqR f g)) ∧ Below w.heap.size w w' := by
 have HG7 := Aside0.mk g7
 have HG8 := Aside0.mk g8
 have HL7 := Aside0.mk l7
 have HL8 := Aside0.mk l8
 have HH7 := Aside0.mk h7
 have HH8 := Aside0.mk h8
 have HM7 := Aside0.mk m7
 have HM8 := Aside0.mk m8
 clear l7 g7 l8 g8 m7 h7 m8 h8
 obtain ⟨N, hN⟩ : ∃ N, w.heap.size = N := ⟨_, rfl⟩
 go_enter Try.func34, Try.ntmps34
 go_upto_region 1 with fail
 obtain ⟨w0, hw0⟩ : ∃ w0, (w.alloc (.cells #[.int .i64 f.k, .string f.fa, .string f.fb, .string f.ct, .int .i64 f.se, .int .i64 f.ix, .int .i64 f.mn, .slice A7 f.kn.length c7, .slice A8 f.op.length c8] 54)).alloc (.cells #[.int .i64 g.k, .string g.fa, .string g.fb, .string g.ct, .int .i64 g.se, .int .i64 g.ix, .int .i64 g.mn, .slice B7 g.kn.length d7, .slice B8 g.op.length d8] 54) = w0 := ⟨_, rfl⟩
 have HB0 := Aside0.mk (show Below w.heap.size w w0 from by rw [← hw0]; exact ((Below.refl _ w).alloc (Nat.le_refl _) _).alloc (by simp) _)
 have HK0 := Aside0.mk (show w0.heap[N]? = some (.cells #[.int .i64 f.k, .string f.fa, .string f.fb, .string f.ct, .int .i64 f.se, .int .i64 f.ix, .int .i64 f.mn, .slice A7 f.kn.length c7, .slice A8 f.op.length c8] 54 (0, 0)) from by rw [← hw0, ← hN]; exact blk_alloc (World.alloc_heap_new w _) _)
 have HJ0 := Aside0.mk (show w0.heap[N + 1]? = some (.cells #[.int .i64 g.k, .string g.fa, .string g.fb, .string g.ct, .int .i64 g.se, .int .i64 g.ix, .int .i64 g.mn, .slice B7 g.kn.length d7, .slice B8 g.op.length d8] 54 (0, 0)) from by
  rw [← hw0, ← hN]
  have h := World.alloc_heap_new (w.alloc (.cells #[.int .i64 f.k, .string f.fa, .string f.fb, .string f.ct, .int .i64 f.se, .int .i64 f.ix, .int .i64 f.mn, .slice A7 f.kn.length c7, .slice A8 f.op.length c8] 54)) (.cells #[.int .i64 g.k, .string g.fa, .string g.fb, .string g.ct, .int .i64 g.se, .int .i64 g.ix, .int .i64 g.mn, .slice B7 g.kn.length d7, .slice B8 g.op.length d8] 54)
  simpa using h)
 try rw [hw0]
 try rw [hN]
 clear hw0
 obtain ⟨k0, k1, k2, k3, k4, k5, k6, k7, k8⟩ := cells9 HK0.out
 obtain ⟨j0, j1, j2, j3, j4, j5, j6, j7, j8⟩ := cells9 HJ0.out
 go_wp2_with fail
 refine (refSameS_calls f.kn g.kn A7 c7 B7 d7 w0 HL7.out (Kd.C_below HG7.out HB0.out) HM7.out (Kd.C_below HH7.out HB0.out)).mono ?_
 obtain ⟨b1, hb1⟩ : ∃ b, decide (f.kn = g.kn) = b := ⟨_, rfl⟩
 have HE1 := Aside0.mk hb1
 rw [hb1]
 rintro e w1 ⟨rfl, hb⟩
 have HB1 := Aside0.mk (HB0.out.trans (hb.mono HB0.out.size))
 have HK1 := Aside0.mk (blk_below HK0.out hb)
 have HJ1 := Aside0.mk (blk_below HJ0.out hb)
 clear hb hb1 HB0 HK0 HJ0 k0 k1 k2 k3 k4 k5 k6 k7 k8 j0 j1 j2 j3 j4 j5 j6 j7 j8
 obtain ⟨k0, k1, k2, k3, k4, k5, k6, k7, k8⟩ := cells9 HK1.out
 obtain ⟨j0, j1, j2, j3, j4, j5, j6, j7, j8⟩ := cells9 HJ1.out
 go_wp2_with fail
 refine (refSameOps_calls f.op g.op A8 c8 B8 d8 w1 HL8.out (Kd.C_below HG8.out HB1.out) HM8.out (Kd.C_below HH8.out HB1.out)).mono ?_
 obtain ⟨b2, hb2⟩ : ∃ b, decide (f.op = g.op) = b := ⟨_, rfl⟩
 have HE2 := Aside0.mk hb2
 rw [hb2]
 rintro e w4 ⟨rfl, hb⟩
 have HB4 := Aside0.mk (HB1.out.trans (hb.mono HB1.out.size))
 have HK4 := Aside0.mk (blk_below HK1.out hb)
 have HJ4 := Aside0.mk (blk_below HJ1.out hb)
 clear hb hb2 HB1 HK1 HJ1 k0 k1 k2 k3 k4 k5 k6 k7 k8 j0 j1 j2 j3 j4 j5 j6 j7 j8
 obtain ⟨k0, k1, k2, k3, k4, k5, k6, k7, k8⟩ := cells9 HK4.out
 obtain ⟨j0, j1, j2, j3, j4, j5, j6, j7, j8⟩ := cells9 HJ4.out
 -- CHAIN
 cases b1 with
 | false =>
   go_wp2
   go_ret
   refine ⟨?_, by first | exact HB4.out | (rw [← hN]; exact HB4.out)⟩
   rw [show eqR f g = false from by unfold eqR; simp [HE1.out]]
   rfl
 | true =>
 cases b2 with
 | false =>
   go_wp2
   go_ret
   refine ⟨?_, by first | exact HB4.out | (rw [← hN]; exact HB4.out)⟩
   rw [show eqR f g = false from by unfold eqR; simp [HE1.out, HE2.out]]
   rfl
 | true =>
 by_cases c2 : f.k = g.k
 case neg =>
  have d : (f.k == g.k) = false := by simpa using c2
  go_wp2
  go_ret
  refine ⟨?_, by first | exact HB4.out | (rw [← hN]; exact HB4.out)⟩
  rw [show eqR f g = false from by unfold eqR; simp [HE1.out, HE2.out, c2]]
  rfl
 have e2 : (f.k == g.k) = true := by simp [c2]
 by_cases c3 : f.fa = g.fa
 case neg =>
  have d : (f.fa.toList == g.fa.toList) = false := by simpa using (fun h => c3 (bytes_inj h))
  go_wp2
  go_ret
  refine ⟨?_, by first | exact HB4.out | (rw [← hN]; exact HB4.out)⟩
  rw [show eqR f g = false from by unfold eqR; simp [HE1.out, HE2.out, c2, c3]]
  rfl
 have e3 : (f.fa.toList == g.fa.toList) = true := by simp [c3]
 by_cases c4 : f.fb = g.fb
 case neg =>
  have d : (f.fb.toList == g.fb.toList) = false := by simpa using (fun h => c4 (bytes_inj h))
  go_wp2
  go_ret
  refine ⟨?_, by first | exact HB4.out | (rw [← hN]; exact HB4.out)⟩
  rw [show eqR f g = false from by unfold eqR; simp [HE1.out, HE2.out, c2, c3, c4]]
  rfl
 have e4 : (f.fb.toList == g.fb.toList) = true := by simp [c4]
 by_cases c5 : f.ct = g.ct
 case neg =>
  have d : (f.ct.toList == g.ct.toList) = false := by simpa using (fun h => c5 (bytes_inj h))
  go_wp2
  go_ret
  refine ⟨?_, by first | exact HB4.out | (rw [← hN]; exact HB4.out)⟩
  rw [show eqR f g = false from by unfold eqR; simp [HE1.out, HE2.out, c2, c3, c4, c5]]
  rfl
 have e5 : (f.ct.toList == g.ct.toList) = true := by simp [c5]
 by_cases c6 : f.se = g.se
 case neg =>
  have d : (f.se == g.se) = false := by simpa using c6
  go_wp2
  go_ret
  refine ⟨?_, by first | exact HB4.out | (rw [← hN]; exact HB4.out)⟩
  rw [show eqR f g = false from by unfold eqR; simp [HE1.out, HE2.out, c2, c3, c4, c5, c6]]
  rfl
 have e6 : (f.se == g.se) = true := by simp [c6]
 by_cases c7 : f.ix = g.ix
 case neg =>
  have d : (f.ix == g.ix) = false := by simpa using c7
  go_wp2
  go_ret
  refine ⟨?_, by first | exact HB4.out | (rw [← hN]; exact HB4.out)⟩
  rw [show eqR f g = false from by unfold eqR; simp [HE1.out, HE2.out, c2, c3, c4, c5, c6, c7]]
  rfl
 have e7 : (f.ix == g.ix) = true := by simp [c7]
 by_cases c8 : f.mn = g.mn
 case neg =>
  have d : (f.mn == g.mn) = false := by simpa using c8
  go_wp2
  go_ret
  refine ⟨?_, by first | exact HB4.out | (rw [← hN]; exact HB4.out)⟩
  rw [show eqR f g = false from by unfold eqR; simp [HE1.out, HE2.out, c2, c3, c4, c5, c6, c7, c8]]
  rfl
 have e8 : (f.mn == g.mn) = true := by simp [c8]
 go_wp2
 go_ret
 refine ⟨?_, by first | exact HB4.out | (rw [← hN]; exact HB4.out)⟩
 rw [show eqR f g = true from by unfold eqR; simp [HE1.out, HE2.out, c2, c3, c4, c5, c6, c7, c8]]
 rfl
 -- END
end Go.Proofs.Ytenbkljgmgdegaa.PO
end
