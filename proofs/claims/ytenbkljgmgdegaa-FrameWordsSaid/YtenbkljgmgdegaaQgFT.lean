/- What the rows of this claim use, out of the texts of this work (FT, FU, FY, PE19, FZ). No condition beyond those that each statement names. -/
import Derived.Laws.BitsAllLaws
import Derived.Test.YtenbkljgmgdegaaQgFQ
import Derived.Test.YtenbkljgmgdegaaQgFX
import Derived.Test.YtenbkljgmgdegaaQgRD
import Derived.Test.YtenbkljgmgdegaaQgOV
import Derived.Test.YtenbkljgmgdegaaQgPOx0
import Derived.Test.YtenbkljgmgdegaaQgPD14
import Derived.Test.YtenbkljgmgdegaaQgPOx10
import Derived.Test.YtenbkljgmgdegaaQgPOx7
section
namespace Go.Proofs.Ytenbkljgmgdegaa.PO
open Go.RowKit Go.Proofs.YtenbkljgmgdegaaW.PrintWords Go.Proofs.YtenbkljgmgdegaaW.PrintLast Go.Proofs.YtenbkljgmgdegaaW.PrintMore Go.Proofs.Ytenbkljgmgdegaa.XW
set_option linter.unusedVariables false
set_option linter.unusedSimpArgs false
theorem textS_app (b : List Int) (s : ByteArray) : textS b s = b ++ textB s := by simp [textS, textB]
theorem layOps_app : ∀ (l : List S36) (b : List Int), layOps b l = b ++ layOps [] l
 | [], b => by simp [layOps]
 | x :: l, b => by
   rw [layOps, layOps_app l, layOps, layOps_app l (textS [] _), textS_app, textS_app]
   simp
theorem layOps_cons (x : S36) (l : List S36) : layOps [] (x :: l) = textB (layF x).1 ++ layOps [] l := by
 rw [layOps, layOps_app l, textS_app]
 simp
theorem len0 {α : Type} {l : List α} (h : l.length = 0) : l = [] := List.eq_nil_of_length_eq_zero h
theorem headB_eq (f : Fr) : headB f = textB f.fa ++ textB f.fb ++ textB f.ct ++ encN f.se ++ encN f.ix := by
 unfold headB
 rw [textS_app, textS_app, textS_app]
 simp
end Go.Proofs.Ytenbkljgmgdegaa.PO
end
section
namespace Go.Proofs.Ytenbkljgmgdegaa.PO
open Go.RowKit Go.Proofs.YtenbkljgmgdegaaW.PrintWords Go.Proofs.YtenbkljgmgdegaaW.PrintLast Go.Proofs.YtenbkljgmgdegaaW.PrintMore Go.Proofs.Ytenbkljgmgdegaa.XW
set_option linter.unusedVariables false
set_option linter.unusedSimpArgs false
theorem texQ_enc {m : Int} (hm1 : m ≤ 1048576) {a r l : List Int} (ha : isB a) (hr : isB r) {s : ByteArray} (hs : (s.size : Int) ≤ m) {p : Int} (hp : p = (a.length : Int)) (hl : l = a ++ textB s ++ r) : texQ m l p false = (s, ((a ++ textB s).length : Int), false) := by
 subst hl
 subst hp
 unfold texQ
 rw [take_textM m hm1 a r ha hr s hs]
 rfl
theorem numQ_enc {a r l : List Int} (ha : isB a) (hr : isB r) {n : Int} (h0 : 0 ≤ n) (h1 : n ≤ 1152921504606846976) {p : Int} (hp : p = (a.length : Int)) (hl : l = a ++ encN n ++ r) : numQ l p false = (n, ((a ++ encN n).length : Int), false) := by
 subst hl
 subst hp
 unfold numQ
 rw [take_enc a r ha hr n h0 (by omega)]
 have : decide (n > 1152921504606846976) = false := decide_eq_false (by omega)
 simp only [if_pos h1, this, List.length_append, Int.natCast_add]
 rfl
theorem enc_R {n : Int} (h0 : 0 ≤ n) (h1 : n ≤ 1152921504606846976) : isB (encN n) := enc_B h0 (by omega)
theorem head_enc {f : Fr} (h : rightF f = true) (hix : f.ix ≤ 1152921504606846976) {T l : List Int} (hT : isB T) (hl : l = headB f ++ T) :
 ∃ p1 p2 p3 p4, texQ 24 l 0 false = (f.fa, p1, false) ∧ texQ 24 l p1 false = (f.fb, p2, false) ∧ texQ 32 l p2 false = (f.ct, p3, false) ∧ numQ l p3 false = (f.se, p4, false) ∧ numQ l p4 false = (f.ix, ((headB f).length : Int), false) := by
 obtain ⟨s1, s2, s3, s4, s5, s6, s7⟩ := rightF_sizes h
 have a1 := textB_B f.fa (by omega)
 have a2 := textB_B f.fb (by omega)
 have a3 := textB_B f.ct (by omega)
 have a4 := enc_R (n := f.se) (by omega) s5
 have a5 := enc_R s6 hix
 rw [headB_eq] at hl ⊢
 refine ⟨_, _, _, _, texQ_enc (a := []) (by omega) (fun x hx => by simp at hx) (app_B a2 (app_B a3 (app_B a4 (app_B a5 hT)))) (by omega) rfl (by rw [hl]; simp),
  texQ_enc (a := textB f.fa) (by omega) a1 (app_B a3 (app_B a4 (app_B a5 hT))) (by omega) (by simp) (by rw [hl]; simp),
  texQ_enc (a := textB f.fa ++ textB f.fb) (by omega) (app_B a1 a2) (app_B a4 (app_B a5 hT)) (by omega) (by simp) (by rw [hl]; simp),
  numQ_enc (a := textB f.fa ++ textB f.fb ++ textB f.ct) (app_B (app_B a1 a2) a3) (app_B a5 hT) (by omega) s5 (by simp) (by rw [hl]; simp), ?_⟩
 have := numQ_enc (l := l) (p := ((textB f.fa ++ textB f.fb ++ textB f.ct ++ encN f.se).length : Int)) (a := textB f.fa ++ textB f.fb ++ textB f.ct ++ encN f.se) (app_B (app_B (app_B a1 a2) a3) a4) hT s6 hix (by simp) (by rw [hl])
 exact this
theorem layOps_B' {l : List S36} {b : List Int} (hb : isB b) : isB (layOps b l) := layOps_B l b hb
theorem opsQ_enc {r l : List Int} (hr : isB r) : ∀ (L : List S36) (a : List Int) (p : Int) (o : List S36), isB a → (∀ x, x ∈ L → rightO x = true) → p = (a.length : Int) → l = a ++ layOps [] L ++ r →
 opsQ l L.length p false o = (((a ++ layOps [] L).length : Int), false, o ++ L)
 | [], a, p, o, ha, hR, hp, hl => by
   unfold opsQ
   subst hp
   simp [layOps]
 | x :: L, a, p, o, ha, hR, hp, hl => by
   have hx := hR x (by simp)
   have hsz := layF_size x
   rw [layOps_cons] at hl
   have hT : texQ 1048576 l p false = ((layF x).1, ((a ++ textB (layF x).1).length : Int), false) :=
    texQ_enc (r := layOps [] L ++ r) (by omega) ha (app_B (layOps_B' (fun x hx => by simp at hx)) hr) (by omega) hp (by rw [hl]; simp)
   have hb : bytesOf (layF x).1 = layO x := by
    unfold layF
    rw [if_pos hx]
    exact bytes_nums (layO_B hx)
   rw [List.length_cons]
   unfold opsQ
   rw [if_pos rfl, hT]
   dsimp only
   rw [hb, readO_enc hx]
   dsimp only
   show opsQ l L.length _ false _ = _
   rw [opsQ_enc hr L (a ++ textB (layF x).1) _ (o ++ [x]) (app_B ha (textB_B _ (by omega))) (fun y hy => hR y (by simp [hy])) rfl (by rw [hl]; simp), layOps_cons]
   simp
theorem anyB_right {f : Fr} (h : (!f.op.any (badO f.ct)) = true) : ∀ x, x ∈ f.op → rightO x = true := fun x hx => by
 have h' : f.op.any (badO f.ct) = false := by simpa using h
 have hn : ¬ badO f.ct x = true := fun hb => by
  have := List.any_eq_true.2 ⟨x, hx, hb⟩
  rw [h'] at this
  cases this
 unfold badO at hn
 cases hr : rightO x with
 | true => rfl
 | false => rw [hr] at hn; simp at hn
theorem nilB : isB [] := fun x hx => by simp at hx
theorem rightF_ops {f : Fr} (h : rightF f = true) : ∀ x, x ∈ f.op → rightO x = true := by
 have hb := (rightF_sizes h).2.2.2.2.2.2
 unfold bodyF at hb
 by_cases h1 : f.k = 1
 · rw [if_pos h1] at hb
   simp only [Bool.and_eq_true, decide_eq_true_eq] at hb
   rw [len0 hb.1.1.2]
   simp
 · rw [if_neg h1] at hb
   by_cases h2 : f.k = 2
   · rw [if_pos h2] at hb
     rw [Bool.and_eq_true] at hb
     exact anyB_right hb.2
   · rw [if_neg h2] at hb
     simp only [Bool.and_eq_true, decide_eq_true_eq] at hb
     rw [len0 hb.1.2]
     simp
theorem readB_enc {f : Fr} (h : rightF f = true) : readB f.k (bodyB f) = (f, 0) := by
 obtain ⟨s1, s2, s3, s4, s5, s6, hb⟩ := rightF_sizes h
 have hRR := h
 have hops := rightF_ops h
 obtain ⟨k, fa, fb, ct, se, ix, mn, kn, op⟩ := f
 dsimp only at *
 have hH : isB (headB ⟨k, fa, fb, ct, se, ix, mn, kn, op⟩) ∨ True := .inr trivial
 unfold bodyF at hb
 dsimp only at hb
 have fin : ∀ (l : List Int), (∃ p1 p2 p3 p4 p5, texQ 24 l 0 false = (fa, p1, false) ∧ texQ 24 l p1 false = (fb, p2, false) ∧ texQ 32 l p2 false = (ct, p3, false) ∧ numQ l p3 false = (se, p4, false) ∧ numQ l p4 false = (ix, p5, false) ∧ restQ k l p5 false = ((l.length : Int), false, mn, kn, op)) → readB k l = (⟨k, fa, fb, ct, se, ix, mn, kn, op⟩, 0) := by
  rintro l ⟨p1, p2, p3, p4, p5, e1, e2, e3, e4, e5, e6⟩
  unfold readB
  rw [e1]
  dsimp only
  rw [e2]
  dsimp only
  rw [e3]
  dsimp only
  rw [e4]
  dsimp only
  rw [e5]
  dsimp only
  rw [e6]
  dsimp only
  rw [if_neg]
  rintro (q | q | q)
  · cases q
  · exact q rfl
  · rw [hRR] at q; cases q
 apply fin
 have hhB : ∀ hix : ix ≤ 1152921504606846976, isB (headB ⟨k, fa, fb, ct, se, ix, mn, kn, op⟩) := fun hix => by
  rw [headB_eq]
  exact app_B (app_B (app_B (app_B (textB_B _ (by show fa.size ≤ 1000000; omega)) (textB_B _ (by show fb.size ≤ 1000000; omega))) (textB_B _ (by show ct.size ≤ 1000000; omega))) (enc_R (by show 0 ≤ se; omega) s5)) (enc_R s6 hix)
 unfold bodyB
 dsimp only
 by_cases k1 : k = 1
 · rw [if_pos k1] at hb ⊢
   simp only [Bool.and_eq_true, decide_eq_true_eq] at hb
   have hix := hb.2
   obtain ⟨p1, p2, p3, p4, e1, e2, e3, e4, e5⟩ := head_enc hRR hix (layV_B hb.1.2) rfl
   refine ⟨p1, p2, p3, p4, _, e1, e2, e3, e4, e5, ?_⟩
   unfold restQ
   rw [if_neg (by simp), if_pos k1]
   have hv := vec_enc_at (headB ⟨k, fa, fb, ct, se, ix, mn, kn, op⟩) [] (hhB hix) nilB kn hb.1.2
   rw [List.append_nil] at hv
   try dsimp only at hv
   try dsimp only
   rw [hv, len0 hb.1.1.2, hb.1.1.1]
   rfl
 · rw [if_neg k1] at hb ⊢
   by_cases k2 : k = 2
   · rw [if_pos k2] at hb ⊢
     simp only [Bool.and_eq_true, decide_eq_true_eq] at hb
     have hix : ix ≤ 1152921504606846976 := by omega
     rw [layOps_app]
     have hm := enc_R (n := mn) (by omega) (by omega)
     have hn := enc_R (n := (op.length : Int)) (by omega) (by omega)
     have hL := layOps_B' (l := op) nilB
     obtain ⟨p1, p2, p3, p4, e1, e2, e3, e4, e5⟩ := head_enc hRR hix (app_B hm (app_B hn hL)) (l := headB ⟨k, fa, fb, ct, se, ix, mn, kn, op⟩ ++ encN mn ++ encN (op.length : Int) ++ layOps [] op) (by simp)
     refine ⟨p1, p2, p3, p4, _, e1, e2, e3, e4, e5, ?_⟩
     unfold restQ
     rw [if_neg (by simp), if_neg k1, if_pos k2]
     have q1 := numQ_enc (l := headB ⟨k, fa, fb, ct, se, ix, mn, kn, op⟩ ++ encN mn ++ encN (op.length : Int) ++ layOps [] op) (a := headB ⟨k, fa, fb, ct, se, ix, mn, kn, op⟩) (hhB hix) (app_B hn hL) (n := mn) (by omega) (by omega) rfl (by simp)
     have q2 := numQ_enc (l := headB ⟨k, fa, fb, ct, se, ix, mn, kn, op⟩ ++ encN mn ++ encN (op.length : Int) ++ layOps [] op) (a := headB ⟨k, fa, fb, ct, se, ix, mn, kn, op⟩ ++ encN mn) (app_B (hhB hix) hm) hL (n := (op.length : Int)) (by omega) (by omega) rfl (by simp)
     have q3 := opsQ_enc (r := []) (l := headB ⟨k, fa, fb, ct, se, ix, mn, kn, op⟩ ++ encN mn ++ encN (op.length : Int) ++ layOps [] op) nilB op (headB ⟨k, fa, fb, ct, se, ix, mn, kn, op⟩ ++ encN mn ++ encN (op.length : Int)) _ [] (app_B (app_B (hhB hix) hm) hn) hops rfl (by simp)
     dsimp only
     rw [q1]
     dsimp only
     rw [q2]
     dsimp only
     rw [Int.toNat_natCast, q3, len0 hb.1.1.1.1.1]
     rfl
   · rw [if_neg k2] at hb ⊢
     simp only [Bool.and_eq_true, decide_eq_true_eq] at hb
     have hix : ix ≤ 1152921504606846976 := by omega
     obtain ⟨p1, p2, p3, p4, e1, e2, e3, e4, e5⟩ := head_enc (T := []) hRR hix nilB (by rw [List.append_nil])
     refine ⟨p1, p2, p3, p4, _, e1, e2, e3, e4, e5, ?_⟩
     unfold restQ
     rw [if_neg (by simp), if_neg k1, if_neg k2, len0 hb.1.2, len0 hb.1.1.2, hb.1.1.1.2]
theorem bodyB_len {f : Fr} (h : rightF f = true) : (bodyB f).length ≤ 200000 := by
 obtain ⟨s1, s2, s3, s4, s5, s6, hb⟩ := rightF_sizes h
 have t1 := textB_len f.fa
 have t2 := textB_len f.fb
 have t3 := textB_len f.ct
 have t4 := encN_len f.se
 have t5 := encN_len f.ix
 have hh : (headB f).length ≤ 200 := by
  rw [headB_eq]
  simp only [List.length_append]
  omega
 unfold bodyF at hb
 unfold bodyB
 by_cases k1 : f.k = 1
 · rw [if_pos k1] at hb ⊢
   simp only [Bool.and_eq_true, decide_eq_true_eq] at hb
   have := layS_len f.kn hb.1.2
   rw [List.length_append]
   omega
 · rw [if_neg k1] at hb ⊢
   by_cases k2 : f.k = 2
   · rw [if_pos k2] at hb ⊢
     simp only [Bool.and_eq_true, decide_eq_true_eq] at hb
     have h1 := layOps_len f.op (headB f ++ encN f.mn ++ encN (f.op.length : Int))
     have t6 := encN_len f.mn
     have t7 := encN_len (f.op.length : Int)
     simp only [List.length_append] at h1
     omega
   · rw [if_neg k2]
     omega
theorem rightF_k {f : Fr} (h : rightF f = true) : 0 ≤ f.k ∧ f.k ≤ 255 := by
 have hb := (rightF_sizes h).2.2.2.2.2.2
 unfold bodyF at hb
 by_cases k1 : f.k = 1
 · omega
 · rw [if_neg k1] at hb
   by_cases k2 : f.k = 2
   · omega
   · rw [if_neg k2] at hb
     simp only [Bool.and_eq_true, decide_eq_true_eq] at hb
     omega
theorem sumB_B (l : List Int) : isB (sumB l) := fun x hx => by
 unfold sumB at hx
 simp only [List.mem_cons, List.not_mem_nil, or_false] at hx
 omega
theorem sealT_B {f : Fr} (h : rightF f = true) : isB (sealT f.k (bodyB f)) := by
 have hk : 0 ≤ f.k ∧ f.k ≤ 255 := rightF_k h
 unfold sealT
 refine app_B (app_B (a := f.k :: encN _) (fun x hx => ?_) (bodyB_B h)) (sumB_B _)
 rcases List.mem_cons.1 hx with e | e
 · omega
 · exact enc_R (by omega) (by have := bodyB_len h; omega) x e
theorem readF_enc {f : Fr} (h : rightF f = true) : readF (sealT f.k (bodyB f)) = (f, 0) := by
 have hB := bodyB_B h
 have hlen := bodyB_len h
 have hk := rightF_k h
 obtain ⟨t, ht⟩ : ∃ t, strOfNums (bodyB f) = t := ⟨_, rfl⟩
 have htb : bytesOf t = bodyB f := by rw [← ht]; exact bytes_nums hB
 have hts : (t.size : Int) = ((bodyB f).length : Int) := by rw [← htb, bytesOf_length]
 obtain ⟨S, hS⟩ : ∃ S, sumB (f.k :: encN ((bodyB f).length : Int) ++ bodyB f) = S := ⟨_, rfl⟩
 have hSB : isB S := by rw [← hS]; exact sumB_B _
 have hSl : S.length = 4 := by rw [← hS]; rfl
 have hkB : isB [f.k] := fun x hx => by
  rw [List.mem_singleton] at hx
  omega
 have hs : sealT f.k (bodyB f) = [f.k] ++ textB t ++ S := by
  unfold sealT textB
  rw [hS, htb, hts]
  simp
 have hT := take_textM 1048576 (by omega) [f.k] S hkB hSB t (by omega)
 have hop : openS (sealT f.k (bodyB f)) = (f.k, t, ((sealT f.k (bodyB f)).length : Int), 0) := by
  rw [hs]
  unfold openS
  have e1 : ([f.k].length : Int) = 1 := rfl
  rw [e1] at hT
  rw [if_neg (by simp), hT]
  dsimp only
  have el : (([f.k] ++ textB t ++ S).length : Int) = (([f.k] ++ textB t).length : Int) + 4 := by
   have : ([f.k] ++ textB t ++ S).length = ([f.k] ++ textB t).length + 4 := by rw [List.length_append, hSl]
   omega
  rw [if_pos rfl, if_neg (by omega), el, if_pos]
  · rfl
  · have n1 : (([f.k] ++ textB t).length : Int).toNat = ([f.k] ++ textB t).length := Int.toNat_natCast _
    have n2 : ((([f.k] ++ textB t).length : Int) + 4).toNat = ([f.k] ++ textB t ++ S).length := by omega
    rw [n1, n2, List.take_length, List.take_left, List.drop_left]
    rw [← hS]
    unfold textB
    rw [htb, hts]
    simp
 unfold readF
 rw [hop]
 dsimp only
 rw [if_neg (by simp), htb]
 exact readB_enc h
theorem sameL_iff : ∀ {l m : List S36}, sameL l m = true → l = m
 | [], [], _ => rfl
 | [], _ :: _, h => by cases h
 | _ :: _, [], h => by cases h
 | x :: l, y :: m, h => by
   unfold sameL at h
   rw [Bool.and_eq_true] at h
   have h1 := h.1
   unfold sameO at h1
   simp only [Bool.and_eq_true, decide_eq_true_eq] at h1
   rw [h1.2, sameL_iff h.2]
theorem sameL_refl : ∀ {l : List S36}, (∀ x, x ∈ l → rightO x = true) → sameL l l = true
 | [], _ => rfl
 | x :: l, h => by
   unfold sameL
   rw [sameL_refl (fun y hy => h y (by simp [hy]))]
   unfold sameO
   rw [h x (by simp)]
   simp
theorem sameF_eq {f g : Fr} (h : sameF f g = true) : f = g := by
 unfold sameF equalF at h
 simp only [Bool.and_eq_true, decide_eq_true_eq] at h
 obtain ⟨_, ⟨⟨⟨⟨⟨⟨⟨⟨a, b⟩, c⟩, d⟩, e⟩, i⟩, m⟩, n⟩, o⟩⟩ := h
 have o' := sameL_iff o
 cases f
 cases g
 dsimp only at *
 subst a b c d e i m n o'
 rfl
theorem readF_back {f : Fr} (h : rightF f = true) : readF (bytesOf (layFr f).1) = (f, 0) := by
 unfold layFr
 rw [if_pos h]
 dsimp only
 rw [bytes_nums (sealT_B h)]
 exact readF_enc h
end Go.Proofs.Ytenbkljgmgdegaa.PO
end
section
namespace Go.Proofs.Ytenbkljgmgdegaa.PO
open Go.RowKit Go.Proofs.YtenbkljgmgdegaaW.PrintWords Go.Proofs.YtenbkljgmgdegaaW.PrintLast Go.Proofs.YtenbkljgmgdegaaW.PrintMore Go.Proofs.Ytenbkljgmgdegaa.XW
open Go.Proofs.Ytenbkljgmgdegaa.XRange
set_option linter.unusedVariables false
set_option linter.unusedSimpArgs false
set_option maxHeartbeats 8000000 in
set_option maxRecDepth 100000 in
theorem refSameOps_calls (l m : List S36) (A : Option Addr) (c : Nat) (B : Option Addr) (d : Nat) (w : World) (hc : l.length ≤ c) (hC : Kd.C k36 w A l.length l) (hd : m.length ≤ d) (hD : Kd.C k36 w B m.length m) :
 Calls Try.prog 21 #[.slice A l.length c, .slice B m.length d] w fun e w' => e = .returned (.bool (decide (l = m))) ∧ Below w.heap.size w w' := by
 have HC := Aside0.mk hC
 have HD := Aside0.mk hD
 have hm : l.length ≤ 9223372036854775807 := hC.2.1
 clear hC hD
 go_enter Try.func21, Try.ntmps21
 by_cases hlen : l.length = m.length
 case neg =>
  have q0 : ((l.length : Int) != (m.length : Int)) = true := by simp; omega
  have HF := Aside0.mk (show decide (l = m) = false from decide_eq_false (fun h => hlen (by rw [h])))
  go_wp2
  go_ret
  exact ⟨by rw [HF.out]; rfl, Below.refl _ _⟩
 have q0 : ((l.length : Int) != (m.length : Int)) = false := by simp; omega
 have HLEN := Aside0.mk hlen
 clear hlen
 go_wp2
 go_loopw [5, 6] (fun v5 _ wr => ∃ j : Nat, j ≤ l.length ∧ v5 = .int .i64 j ∧ Aside0 (l = m ↔ l.drop j = m.drop j) ∧ Aside0 (Below w.heap.size w wr)) (fun v5 _ _ => l.length - (intOf v5).toNat)
 case atStart => exact ⟨0, Nat.zero_le _, rfl, ⟨by simp⟩, ⟨Below.refl _ _⟩⟩
 case round =>
  obtain ⟨j, hj, rfl, HJ, HB⟩ := hrel
  by_cases hlt : j < l.length
  · have hlt' : j < m.length := by have := HLEN.out; omega
    obtain ⟨ad, A2, c2, A7, c7, hA, hop⟩ := opAt (Kd.C_below HC.out HB.out) j hlt
    obtain ⟨bd, B2, d2, B7, d7, hBq, hoq⟩ := opAt (Kd.C_below HD.out HB.out) j hlt'
    cases hA
    cases hBq
    obtain ⟨x, hx⟩ : ∃ x, rd_T36 l (j : Int) = x := ⟨_, rfl⟩
    obtain ⟨y, hy⟩ : ∃ y, rd_T36 m (j : Int) = y := ⟨_, rfl⟩
    rw [hx] at hop
    rw [hy] at hoq
    have HX := Aside0.mk (show l.drop j = x :: l.drop (j + 1) from by rw [← hx]; exact rd_drop36' l j hlt)
    have HY := Aside0.mk (show m.drop j = y :: m.drop (j + 1) from by rw [← hy]; exact rd_drop36' m j hlt')
    have HOP := Aside0.mk hop
    have HOQ := Aside0.mk hoq
    have hb3 : 0 ≤ (j : Int) ∧ (j : Int) < (l.length : Int) := by omega
    have hb4 : 0 ≤ (j : Int) ∧ (j : Int) < (m.length : Int) := by omega
    have q1 : decide ((j : Int) < (l.length : Int)) = true := by simp; omega
    clear hx hy hop hoq
    go_wp2
    rename World => wq
    have hdr : Below wq.heap.size wq wq.drew := below_drew1 (Below.refl _ wq)
    refine start_ (n := 10) (ds := []) (S := fun w' => OpAt w' (ad.add (j * 8)) x A2 c2 A7 c7 ∧ OpAt w' (bd.add (j * 8)) y B2 d2 B7 d7) _ (by kernel_rfl) rfl rfl ⟨HOP.out.below hdr, HOQ.out.below hdr⟩ (fun hH => ?_)
    refine XReg.pu 0 18 (h := ?_)
    refine XReg.pu 1 19 (h := ?_)
    refine XReg.pu 2 20 (h := ?_)
    refine XReg.tk 3 21 (hy := by (intro w' hS_; obtain ⟨⟨s0, s1, s2, s3, s4, s5, s6, s7, _, _, _, _⟩, _⟩ := hS_; go_simp; with_reducible rfl)) (h := ?_)
    refine XReg.pu 4 22 (h := ?_)
    refine XReg.pu 5 23 (h := ?_)
    refine XReg.pu 6 24 (h := ?_)
    refine XReg.tk 7 25 (hy := by (intro w' hS_; obtain ⟨_, ⟨s0, s1, s2, s3, s4, s5, s6, s7, _, _, _, _⟩⟩ := hS_; go_simp; with_reducible rfl)) (h := ?_)
    refine oneL (i := 8) (some 26) rfl rfl (by kernel_rfl) (by decide) (fun Kc hKc => ?_)
    refine goes_ Try.func48 (by kernel_rfl) rfl #[.agg #[.string x.f0.f0, .int .i64 x.f0.f1, .slice A2 x.f1.length c2, .string x.f2, .int .i64 x.f3, .string x.f4, .int .i64 x.f5, .slice A7 x.f6.length c7], .agg #[.string y.f0.f0, .int .i64 y.f0.f1, .slice B2 y.f1.length d2, .string y.f2, .int .i64 y.f3, .string y.f4, .int .i64 y.f5, .slice B7 y.f6.length d7]] (by rfl) rfl rfl (by (try simp only [List.map_toArray, List.map_cons, List.map_nil]); first | done | rfl) ?_
    refine (refEqualO_calls x y A2 c2 A7 c7 B2 d2 B7 d7 _ HOP.out.l2 (Kd.C_drew HOP.out.g2) HOP.out.l7 (Kd.C_drew HOP.out.g7) HOQ.out.l2 (Kd.C_drew HOQ.out.g2) HOQ.out.l7 (Kd.C_drew HOQ.out.g7)).mono ?_
    obtain ⟨b, hb⟩ : ∃ b, decide (x = y) = b := ⟨_, rfl⟩
    have HBX := Aside0.mk hb
    rw [hb]
    rintro e w10 ⟨rfl, hb10⟩
    refine ⟨_, rfl, ?_⟩
    have hb10' : Below wq.heap.size wq w10 := ⟨hb10.os, hb10.tape, hb10.output, hb10.size, hb10.block⟩
    refine hKc.out _ _ ⟨HOP.out.below hb10', HOQ.out.below hb10'⟩ (fun hH2 => ?_)
    have HB1 := Aside0.mk (show Below w.heap.size w w10 from HB.out.trans (hb10'.mono HB.out.size))
    clear hKc Kc hH hH2 hb10 hb10' hdr hb
    refine XReg.pu 9 6 (h := ?_)
    refine done_ (by kernel_rfl) ?_
    cases b with
    | false =>
      go_wp2
      go_ret
      refine ⟨?_, HB1.out⟩
      rw [show decide (l = m) = false from decide_eq_false (fun h => by
       have h1 := HJ.out.1 h
       rw [HX.out, HY.out, List.cons.injEq] at h1
       exact (of_decide_eq_false HBX.out) h1.1)]
      rfl
    | true =>
      go_wp2
      go_round
      case rel => exact ⟨j + 1, by omega, by go_num, ⟨by rw [HJ.out, HX.out, HY.out, List.cons.injEq, of_decide_eq_true HBX.out]; simp⟩, HB1⟩
      case measure => simp [intOf]; omega
  · have q1 : decide ((j : Int) < (l.length : Int)) = false := by simp; omega
    go_wp2
    go_ret
    refine ⟨?_, HB.out⟩
    rw [show decide (l = m) = true from decide_eq_true (HJ.out.2 (by rw [List.drop_eq_nil_of_le (by omega), List.drop_eq_nil_of_le (by have := HLEN.out; omega)]))]
    rfl
theorem refSameS_calls (l m : List S34) (A : Option Addr) (c : Nat) (B : Option Addr) (d : Nat) (w : World) (hc : l.length ≤ c) (hC : Kd.C k34 w A l.length l) (hd : m.length ≤ d) (hD : Kd.C k34 w B m.length m) :
 Calls Try.prog 26 #[.slice A l.length c, .slice B m.length d] w fun e w' => e = .returned (.bool (decide (l = m))) ∧ Below w.heap.size w w' :=
 (pannierref07_Same.calls (l.length + 1) A c l B d m (decide (l = m)) w hC hc hD hd (refSame_f l m hC.2.1 _ (by omega))).mono (fun e w' h => ⟨h.1, h.2.below⟩)
def eqR (f g : Fr) : Bool := decide (f.kn = g.kn) && decide (f.op = g.op) && decide (f.k = g.k) && decide (f.fa = g.fa) && decide (f.fb = g.fb) && decide (f.ct = g.ct) && decide (f.se = g.se) && decide (f.ix = g.ix) && decide (f.mn = g.mn)
theorem eqR_iff {f g : Fr} : eqR f g = true ↔ f = g := by
 unfold eqR
 simp only [Bool.and_eq_true, decide_eq_true_eq]
 constructor
 · rintro ⟨⟨⟨⟨⟨⟨⟨⟨a, b⟩, c⟩, d⟩, e⟩, i⟩, m⟩, n⟩, o⟩
   cases f
   cases g
   dsimp only at *
   subst a b c d e i m n o
   rfl
 · rintro rfl
   simp
set_option maxHeartbeats 8000000 in
set_option maxRecDepth 100000 in
theorem refEqualF_calls (f : Fr) (A7 : Option Addr) (c7 : Nat) (A8 : Option Addr) (c8 : Nat) (g : Fr) (B7 : Option Addr) (d7 : Nat) (B8 : Option Addr) (d8 : Nat) (w : World) (l7 : f.kn.length ≤ c7) (g7 : Kd.C k34 w A7 f.kn.length f.kn) (l8 : f.op.length ≤ c8) (g8 : Kd.C k36 w A8 f.op.length f.op)
 (m7 : g.kn.length ≤ d7) (h7 : Kd.C k34 w B7 g.kn.length g.kn) (m8 : g.op.length ≤ d8) (h8 : Kd.C k36 w B8 g.op.length g.op) :
 Calls Try.prog 34 #[.agg #[.int .i64 f.k, .string f.fa, .string f.fb, .string f.ct, .int .i64 f.se, .int .i64 f.ix, .int .i64 f.mn, .slice A7 f.kn.length c7, .slice A8 f.op.length c8], .agg #[.int .i64 g.k, .string g.fa, .string g.fb, .string g.ct, .int .i64 g.se, .int .i64 g.ix, .int .i64 g.mn, .slice B7 g.kn.length d7, .slice B8 g.op.length d8]] w
  fun e w' => e = .returned (.bool (eqR f g)) ∧ Below w.heap.size w w' := by
 have HG7 := Aside0.mk g7
 have HG8 := Aside0.mk g8
 have HL7 := Aside0.mk l7
 have HL8 := Aside0.mk l8
 have HH7 := Aside0.mk h7
 have HH8 := Aside0.mk h8
 have HM7 := Aside0.mk m7
 have HM8 := Aside0.mk m8
 clear l7 g7 l8 g8 m7 h7 m8 h8
 obtain ⟨N, hN⟩ : ∃ N, w.heap.size = N := ⟨_, rfl⟩
 go_enter Try.func34, Try.ntmps34
 go_upto_region 1 with fail
 obtain ⟨w0, hw0⟩ : ∃ w0, (w.alloc (.cells #[.int .i64 f.k, .string f.fa, .string f.fb, .string f.ct, .int .i64 f.se, .int .i64 f.ix, .int .i64 f.mn, .slice A7 f.kn.length c7, .slice A8 f.op.length c8] 54)).alloc (.cells #[.int .i64 g.k, .string g.fa, .string g.fb, .string g.ct, .int .i64 g.se, .int .i64 g.ix, .int .i64 g.mn, .slice B7 g.kn.length d7, .slice B8 g.op.length d8] 54) = w0 := ⟨_, rfl⟩
 have HB0 := Aside0.mk (show Below w.heap.size w w0 from by rw [← hw0]; exact ((Below.refl _ w).alloc (Nat.le_refl _) _).alloc (by simp) _)
 have HK0 := Aside0.mk (show w0.heap[N]? = some (.cells #[.int .i64 f.k, .string f.fa, .string f.fb, .string f.ct, .int .i64 f.se, .int .i64 f.ix, .int .i64 f.mn, .slice A7 f.kn.length c7, .slice A8 f.op.length c8] 54 (0, 0)) from by rw [← hw0, ← hN]; exact blk_alloc (World.alloc_heap_new w _) _)
 have HJ0 := Aside0.mk (show w0.heap[N + 1]? = some (.cells #[.int .i64 g.k, .string g.fa, .string g.fb, .string g.ct, .int .i64 g.se, .int .i64 g.ix, .int .i64 g.mn, .slice B7 g.kn.length d7, .slice B8 g.op.length d8] 54 (0, 0)) from by
  rw [← hw0, ← hN]
  have h := World.alloc_heap_new (w.alloc (.cells #[.int .i64 f.k, .string f.fa, .string f.fb, .string f.ct, .int .i64 f.se, .int .i64 f.ix, .int .i64 f.mn, .slice A7 f.kn.length c7, .slice A8 f.op.length c8] 54)) (.cells #[.int .i64 g.k, .string g.fa, .string g.fb, .string g.ct, .int .i64 g.se, .int .i64 g.ix, .int .i64 g.mn, .slice B7 g.kn.length d7, .slice B8 g.op.length d8] 54)
  simpa using h)
 try rw [hw0]
 try rw [hN]
 clear hw0
 obtain ⟨k0, k1, k2, k3, k4, k5, k6, k7, k8⟩ := cells9 HK0.out
 obtain ⟨j0, j1, j2, j3, j4, j5, j6, j7, j8⟩ := cells9 HJ0.out
 go_wp2_with fail
 refine (refSameS_calls f.kn g.kn A7 c7 B7 d7 w0 HL7.out (Kd.C_below HG7.out HB0.out) HM7.out (Kd.C_below HH7.out HB0.out)).mono ?_
 obtain ⟨b1, hb1⟩ : ∃ b, decide (f.kn = g.kn) = b := ⟨_, rfl⟩
 have HE1 := Aside0.mk hb1
 rw [hb1]
 rintro e w1 ⟨rfl, hb⟩
 have HB1 := Aside0.mk (HB0.out.trans (hb.mono HB0.out.size))
 have HK1 := Aside0.mk (blk_below HK0.out hb)
 have HJ1 := Aside0.mk (blk_below HJ0.out hb)
 clear hb hb1 HB0 HK0 HJ0 k0 k1 k2 k3 k4 k5 k6 k7 k8 j0 j1 j2 j3 j4 j5 j6 j7 j8
 obtain ⟨k0, k1, k2, k3, k4, k5, k6, k7, k8⟩ := cells9 HK1.out
 obtain ⟨j0, j1, j2, j3, j4, j5, j6, j7, j8⟩ := cells9 HJ1.out
 go_wp2_with fail
 refine (refSameOps_calls f.op g.op A8 c8 B8 d8 w1 HL8.out (Kd.C_below HG8.out HB1.out) HM8.out (Kd.C_below HH8.out HB1.out)).mono ?_
 obtain ⟨b2, hb2⟩ : ∃ b, decide (f.op = g.op) = b := ⟨_, rfl⟩
 have HE2 := Aside0.mk hb2
 rw [hb2]
 rintro e w4 ⟨rfl, hb⟩
 have HB4 := Aside0.mk (HB1.out.trans (hb.mono HB1.out.size))
 have HK4 := Aside0.mk (blk_below HK1.out hb)
 have HJ4 := Aside0.mk (blk_below HJ1.out hb)
 clear hb hb2 HB1 HK1 HJ1 k0 k1 k2 k3 k4 k5 k6 k7 k8 j0 j1 j2 j3 j4 j5 j6 j7 j8
 obtain ⟨k0, k1, k2, k3, k4, k5, k6, k7, k8⟩ := cells9 HK4.out
 obtain ⟨j0, j1, j2, j3, j4, j5, j6, j7, j8⟩ := cells9 HJ4.out
 -- CHAIN
 cases b1 with
 | false =>
   go_wp2
   go_ret
   refine ⟨?_, by first | exact HB4.out | (rw [← hN]; exact HB4.out)⟩
   rw [show eqR f g = false from by unfold eqR; simp [HE1.out]]
   rfl
 | true =>
 cases b2 with
 | false =>
   go_wp2
   go_ret
   refine ⟨?_, by first | exact HB4.out | (rw [← hN]; exact HB4.out)⟩
   rw [show eqR f g = false from by unfold eqR; simp [HE1.out, HE2.out]]
   rfl
 | true =>
 by_cases c2 : f.k = g.k
 case neg =>
  have d : (f.k == g.k) = false := by simpa using c2
  go_wp2
  go_ret
  refine ⟨?_, by first | exact HB4.out | (rw [← hN]; exact HB4.out)⟩
  rw [show eqR f g = false from by unfold eqR; simp [HE1.out, HE2.out, c2]]
  rfl
 have e2 : (f.k == g.k) = true := by simp [c2]
 by_cases c3 : f.fa = g.fa
 case neg =>
  have d : (f.fa.toList == g.fa.toList) = false := by simpa using (fun h => c3 (bytes_inj h))
  go_wp2
  go_ret
  refine ⟨?_, by first | exact HB4.out | (rw [← hN]; exact HB4.out)⟩
  rw [show eqR f g = false from by unfold eqR; simp [HE1.out, HE2.out, c2, c3]]
  rfl
 have e3 : (f.fa.toList == g.fa.toList) = true := by simp [c3]
 by_cases c4 : f.fb = g.fb
 case neg =>
  have d : (f.fb.toList == g.fb.toList) = false := by simpa using (fun h => c4 (bytes_inj h))
  go_wp2
  go_ret
  refine ⟨?_, by first | exact HB4.out | (rw [← hN]; exact HB4.out)⟩
  rw [show eqR f g = false from by unfold eqR; simp [HE1.out, HE2.out, c2, c3, c4]]
  rfl
 have e4 : (f.fb.toList == g.fb.toList) = true := by simp [c4]
 by_cases c5 : f.ct = g.ct
 case neg =>
  have d : (f.ct.toList == g.ct.toList) = false := by simpa using (fun h => c5 (bytes_inj h))
  go_wp2
  go_ret
  refine ⟨?_, by first | exact HB4.out | (rw [← hN]; exact HB4.out)⟩
  rw [show eqR f g = false from by unfold eqR; simp [HE1.out, HE2.out, c2, c3, c4, c5]]
  rfl
 have e5 : (f.ct.toList == g.ct.toList) = true := by simp [c5]
 by_cases c6 : f.se = g.se
 case neg =>
  have d : (f.se == g.se) = false := by simpa using c6
  go_wp2
  go_ret
  refine ⟨?_, by first | exact HB4.out | (rw [← hN]; exact HB4.out)⟩
  rw [show eqR f g = false from by unfold eqR; simp [HE1.out, HE2.out, c2, c3, c4, c5, c6]]
  rfl
 have e6 : (f.se == g.se) = true := by simp [c6]
 by_cases c7 : f.ix = g.ix
 case neg =>
  have d : (f.ix == g.ix) = false := by simpa using c7
  go_wp2
  go_ret
  refine ⟨?_, by first | exact HB4.out | (rw [← hN]; exact HB4.out)⟩
  rw [show eqR f g = false from by unfold eqR; simp [HE1.out, HE2.out, c2, c3, c4, c5, c6, c7]]
  rfl
 have e7 : (f.ix == g.ix) = true := by simp [c7]
 by_cases c8 : f.mn = g.mn
 case neg =>
  have d : (f.mn == g.mn) = false := by simpa using c8
  go_wp2
  go_ret
  refine ⟨?_, by first | exact HB4.out | (rw [← hN]; exact HB4.out)⟩
  rw [show eqR f g = false from by unfold eqR; simp [HE1.out, HE2.out, c2, c3, c4, c5, c6, c7, c8]]
  rfl
 have e8 : (f.mn == g.mn) = true := by simp [c8]
 go_wp2
 go_ret
 refine ⟨?_, by first | exact HB4.out | (rw [← hN]; exact HB4.out)⟩
 rw [show eqR f g = true from by unfold eqR; simp [HE1.out, HE2.out, c2, c3, c4, c5, c6, c7, c8]]
 rfl
 -- END
theorem eqR_same {f g : Fr} : (rightF f && rightF g && eqR f g) = sameF f g := by
 unfold sameF
 cases h1 : rightF f
 · rfl
 cases h2 : rightF g
 · rfl
 simp only [Bool.true_and]
 cases h : eqR f g with
 | true =>
   have e := eqR_iff.1 h
   subst e
   unfold equalF
   rw [sameL_refl (rightF_ops h1)]
   simp
 | false =>
   cases h' : equalF f g with
   | false => rfl
   | true =>
     have : sameF f g = true := by unfold sameF; rw [h1, h2, h']; rfl
     rw [sameF_eq this, eqR_iff.2 rfl] at h
     cases h
set_option maxHeartbeats 8000000 in
set_option maxRecDepth 100000 in
theorem refSameF_calls (f : Fr) (A7 : Option Addr) (c7 : Nat) (A8 : Option Addr) (c8 : Nat) (g : Fr) (B7 : Option Addr) (d7 : Nat) (B8 : Option Addr) (d8 : Nat) (w : World) (l7 : f.kn.length ≤ c7) (g7 : Kd.C k34 w A7 f.kn.length f.kn) (l8 : f.op.length ≤ c8) (g8 : Kd.C k36 w A8 f.op.length f.op)
 (m7 : g.kn.length ≤ d7) (h7 : Kd.C k34 w B7 g.kn.length g.kn) (m8 : g.op.length ≤ d8) (h8 : Kd.C k36 w B8 g.op.length g.op) (m : Nat) (hf : WfF m f) (hg : WfF m g) :
 Calls Try.prog 40 #[.agg #[.int .i64 f.k, .string f.fa, .string f.fb, .string f.ct, .int .i64 f.se, .int .i64 f.ix, .int .i64 f.mn, .slice A7 f.kn.length c7, .slice A8 f.op.length c8], .agg #[.int .i64 g.k, .string g.fa, .string g.fb, .string g.ct, .int .i64 g.se, .int .i64 g.ix, .int .i64 g.mn, .slice B7 g.kn.length d7, .slice B8 g.op.length d8]] w
  fun e w' => e = .returned (.bool (sameF f g)) ∧ Below w.heap.size w w' := by
 have HG7 := Aside0.mk g7
 have HG8 := Aside0.mk g8
 have HL7 := Aside0.mk l7
 have HL8 := Aside0.mk l8
 have HH7 := Aside0.mk h7
 have HH8 := Aside0.mk h8
 have HM7 := Aside0.mk m7
 have HM8 := Aside0.mk m8
 have HF := Aside0.mk hf
 have HG := Aside0.mk hg
 have HS := Aside0.mk (@eqR_same f g)
 clear l7 g7 l8 g8 m7 h7 m8 h8 hf hg
 obtain ⟨N, hN⟩ : ∃ N, w.heap.size = N := ⟨_, rfl⟩
 go_enter Try.func40, Try.ntmps40
 go_upto_region 1 with fail
 obtain ⟨w0, hw0⟩ : ∃ w0, (w.alloc (.cells #[.int .i64 f.k, .string f.fa, .string f.fb, .string f.ct, .int .i64 f.se, .int .i64 f.ix, .int .i64 f.mn, .slice A7 f.kn.length c7, .slice A8 f.op.length c8] 54)).alloc (.cells #[.int .i64 g.k, .string g.fa, .string g.fb, .string g.ct, .int .i64 g.se, .int .i64 g.ix, .int .i64 g.mn, .slice B7 g.kn.length d7, .slice B8 g.op.length d8] 54) = w0 := ⟨_, rfl⟩
 have HB0 := Aside0.mk (show Below w.heap.size w w0 from by rw [← hw0]; exact ((Below.refl _ w).alloc (Nat.le_refl _) _).alloc (by simp) _)
 have HK0 := Aside0.mk (show w0.heap[N]? = some (.cells #[.int .i64 f.k, .string f.fa, .string f.fb, .string f.ct, .int .i64 f.se, .int .i64 f.ix, .int .i64 f.mn, .slice A7 f.kn.length c7, .slice A8 f.op.length c8] 54 (0, 0)) from by rw [← hw0, ← hN]; exact blk_alloc (World.alloc_heap_new w _) _)
 have HJ0 := Aside0.mk (show w0.heap[N + 1]? = some (.cells #[.int .i64 g.k, .string g.fa, .string g.fb, .string g.ct, .int .i64 g.se, .int .i64 g.ix, .int .i64 g.mn, .slice B7 g.kn.length d7, .slice B8 g.op.length d8] 54 (0, 0)) from by
  rw [← hw0, ← hN]
  have h := World.alloc_heap_new (w.alloc (.cells #[.int .i64 f.k, .string f.fa, .string f.fb, .string f.ct, .int .i64 f.se, .int .i64 f.ix, .int .i64 f.mn, .slice A7 f.kn.length c7, .slice A8 f.op.length c8] 54)) (.cells #[.int .i64 g.k, .string g.fa, .string g.fb, .string g.ct, .int .i64 g.se, .int .i64 g.ix, .int .i64 g.mn, .slice B7 g.kn.length d7, .slice B8 g.op.length d8] 54)
  simpa using h)
 try rw [hw0]
 try rw [hN]
 clear hw0
 obtain ⟨k0, k1, k2, k3, k4, k5, k6, k7, k8⟩ := cells9 HK0.out
 go_wp2_with fail
 refine (refRightF_calls f A7 c7 A8 c8 w0 HL7.out (Kd.C_below HG7.out HB0.out) HL8.out (Kd.C_below HG8.out HB0.out) m HF.out).mono ?_
 obtain ⟨b1, hb1⟩ : ∃ b, rightF f = b := ⟨_, rfl⟩
 rw [hb1] at HS ⊢
 rintro e w1 ⟨rfl, hb⟩
 have HB1 := Aside0.mk (HB0.out.trans (hb.mono HB0.out.size))
 have HK1 := Aside0.mk (blk_below HK0.out hb)
 have HJ1 := Aside0.mk (blk_below HJ0.out hb)
 clear hb hb1 HB0 HK0 HJ0 k0 k1 k2 k3 k4 k5 k6 k7 k8
 obtain ⟨k0, k1, k2, k3, k4, k5, k6, k7, k8⟩ := cells9 HJ1.out
 go_wp2_with fail
 refine (refRightF_calls g B7 d7 B8 d8 w1 HM7.out (Kd.C_below HH7.out HB1.out) HM8.out (Kd.C_below HH8.out HB1.out) m HG.out).mono ?_
 obtain ⟨b2, hb2⟩ : ∃ b, rightF g = b := ⟨_, rfl⟩
 rw [hb2] at HS ⊢
 rintro e w2 ⟨rfl, hb⟩
 have HB2 := Aside0.mk (HB1.out.trans (hb.mono HB1.out.size))
 have HK2 := Aside0.mk (blk_below HK1.out hb)
 have HJ2 := Aside0.mk (blk_below HJ1.out hb)
 clear hb hb2 HB1 HK1 HJ1 k0 k1 k2 k3 k4 k5 k6 k7 k8
 cases b1 with
 | false =>
   go_wp2
   go_ret
   exact ⟨by rw [← HS.out]; rfl, by first | exact HB2.out | (rw [← hN]; exact HB2.out)⟩
 | true =>
 cases b2 with
 | false =>
   go_wp2
   go_ret
   exact ⟨by rw [← HS.out]; rfl, by first | exact HB2.out | (rw [← hN]; exact HB2.out)⟩
 | true =>
 obtain ⟨k0, k1, k2, k3, k4, k5, k6, k7, k8⟩ := cells9 HK2.out
 obtain ⟨j0, j1, j2, j3, j4, j5, j6, j7, j8⟩ := cells9 HJ2.out
 go_wp2_with fail
 refine (refEqualF_calls f A7 c7 A8 c8 g B7 d7 B8 d8 w2 HL7.out (Kd.C_below HG7.out HB2.out) HL8.out (Kd.C_below HG8.out HB2.out) HM7.out (Kd.C_below HH7.out HB2.out) HM8.out (Kd.C_below HH8.out HB2.out)).mono ?_
 rintro e w3 ⟨rfl, hb⟩
 have HB3 := Aside0.mk (HB2.out.trans (hb.mono HB2.out.size))
 clear hb HB2 HK2 HJ2 k0 k1 k2 k3 k4 k5 k6 k7 k8 j0 j1 j2 j3 j4 j5 j6 j7 j8
 go_wp2
 go_ret
 exact ⟨by rw [← HS.out]; simp, by first | exact HB3.out | (rw [← hN]; exact HB3.out)⟩
end Go.Proofs.Ytenbkljgmgdegaa.PO
end
section
namespace Go.Proofs.Ytenbkljgmgdegaa.PO
open Go.RowKit Go.Proofs.YtenbkljgmgdegaaW.PrintWords Go.Proofs.YtenbkljgmgdegaaW.PrintLast Go.Proofs.YtenbkljgmgdegaaW.PrintMore
attribute [local go_sem] max2_int min2_int max_two min_two max_three min_three max_four min_four   -- for this text's walks alone
set_option linter.unusedVariables false
set_option linter.unusedSimpArgs false
mutual
def pannierref02_Sum.l0 : Nat → List Int → Int → Int → Option (Int)
 | 0, _, _, _ => none
 | k + 1, x0, x3, x4 => if x4 < (x0.length : Int) then (if 0 ≤ x4 then (pannierref02_Sum.l1 k x0 (Go.bits .xor .u32 x3 ((rd x0 x4) % 4294967296)) x4 0) else (none)) else (some (Go.bits .xor .u32 x3 4294967295))
def pannierref02_Sum.l1 : Nat → List Int → Int → Int → Int → Option (Int)
 | 0, _, _, _, _ => none
 | k + 1, x0, x3, x4, x5 => if x5 < 8 then (if (Go.bits .and .u32 x3 1) = 1 then (pannierref02_Sum.l1 k x0 (Go.bits .xor .u32 (x3 / 2) 3988292384) x4 (wrap64 (x5 + 1))) else (pannierref02_Sum.l1 k x0 (x3 / 2) x4 (wrap64 (x5 + 1)))) else (pannierref02_Sum.l0 k x0 x3 (wrap64 (x4 + 1)))
end
def pannierref02_Sum.f (k : Nat) (l0 : List Int) : Option (Int) := pannierref02_Sum.l0 k l0 4294967295 0
theorem pannierref02_Sum.mono_l : ∀ k, (∀ y0 y1 y2, LeO (pannierref02_Sum.l0 k y0 y1 y2) (pannierref02_Sum.l0 (k + 1) y0 y1 y2)) ∧ (∀ y0 y1 y2 y3, LeO (pannierref02_Sum.l1 k y0 y1 y2 y3) (pannierref02_Sum.l1 (k + 1) y0 y1 y2 y3))
 | 0 => ⟨fun _ _ _ r h => by simp [pannierref02_Sum.l0] at h, fun _ _ _ _ r h => by simp [pannierref02_Sum.l1] at h⟩
 | k + 1 => by
   obtain ⟨ih0, ih1⟩ := pannierref02_Sum.mono_l k
   refine ⟨?_, ?_⟩
   · intro y0 y1 y2
     unfold pannierref02_Sum.l0
     repeat' first
     | (with_reducible exact ih0 _ _ _)
     | (with_reducible exact ih1 _ _ _ _)
     | (with_reducible exact LeO.refl _)
     | (with_reducible exact LeO.none _)
     | (with_reducible refine LeO.ite ?_ ?_)
     | (with_reducible refine LeO.bind ?_ (fun _ => ?_))
     | exact ih0 _ _ _
     | exact ih1 _ _ _ _
     | exact LeO.none _
     | refine LeO.ite ?_ ?_
     | refine LeO.bind ?_ (fun _ => ?_)
   · intro y0 y1 y2 y3
     unfold pannierref02_Sum.l1
     repeat' first
     | (with_reducible exact ih0 _ _ _)
     | (with_reducible exact ih1 _ _ _ _)
     | (with_reducible exact LeO.refl _)
     | (with_reducible exact LeO.none _)
     | (with_reducible refine LeO.ite ?_ ?_)
     | (with_reducible refine LeO.bind ?_ (fun _ => ?_))
     | exact ih0 _ _ _
     | exact ih1 _ _ _ _
     | exact LeO.none _
     | refine LeO.ite ?_ ?_
     | refine LeO.bind ?_ (fun _ => ?_)
theorem pannierref02_Sum.mono : ∀ a0 k, LeO (pannierref02_Sum.f k a0) (pannierref02_Sum.f (k + 1) a0) := by
 intro a0 k
 obtain ⟨ih0, ih1⟩ := pannierref02_Sum.mono_l k
 unfold pannierref02_Sum.f
 repeat' first
  | (with_reducible exact ih0 _ _ _)
  | (with_reducible exact ih1 _ _ _ _)
  | (with_reducible exact LeO.refl _)
  | (with_reducible exact LeO.none _)
  | (with_reducible refine LeO.ite ?_ ?_)
  | (with_reducible refine LeO.bind ?_ (fun _ => ?_))
  | exact ih0 _ _ _
  | exact ih1 _ _ _ _
  | exact LeO.none _
  | refine LeO.ite ?_ ?_
  | refine LeO.bind ?_ (fun _ => ?_)
set_option maxHeartbeats 8000000 in
set_option maxRecDepth 100000 in
theorem pannierref02_Sum.calls (k : Nat) (A0 : Option Addr) (c0 : Nat) (l0 : List Int) (r : Int) (w : World) (hr0 : Kd.C (Kd.int .u8) w A0 l0.length l0) (hc0 : l0.length ≤ c0) (h : pannierref02_Sum.f k l0 = some r) :
 Calls Try.prog 122 #[.slice A0 l0.length c0] w fun e w' => e = .returned (.int .u32 r) ∧ Drawn0 w w' := by
 have HR0 := Aside0.mk hr0
 have HC0 := Aside0.mk hc0
 clear hr0 hc0
 have H : (pannierref02_Sum.l0 k l0 4294967295 0) = some r := h
 clear h
 have H' := Aside0.mk H
 clear H
 go_enter Try.func122, Try.ntmps122
 go_wp2
 go_loopg [3, 4] k (fun kq v3 v4 w' => ∃ (x3_1 : Int) (x4_1 : Int), v3 = .int .u32 x3_1 ∧ v4 = .int .i64 x4_1 ∧ Aside0 (pannierref02_Sum.l0 kq l0 x3_1 x4_1 = some r) ∧ Aside0 (kq ≤ k) ∧ Drawn0 w w')
 case atStart => exact ⟨(4294967295), (0), (by first | rfl | (simp; done) | (simp [*]; done)), (by first | rfl | (simp; done) | (simp [*]; done)), H', ⟨Nat.le_refl _⟩, by repeat (first | exact Drawn0.refl _ | apply Drawn0.step)⟩
 case round =>
  clear H'
  try clear c1
  obtain ⟨x3_1, x4_1, rfl, rfl, HA, HK1, ⟨m1, rfl⟩⟩ := hrel
  cases gk with
  | zero => exact absurd HA.out (by simp [pannierref02_Sum.l0])
  | succ k1 =>
   have H := HA.out
   clear HA
   simp only [pannierref02_Sum.l0] at H
   by_cases c2 : x4_1 < (l0.length : Int)
   · rw [if_pos c2] at H
     have c2b0 : decide (x4_1 < (l0.length : Int)) = true := decide_eq_true c2
     clear c2
     by_cases c3 : 0 ≤ x4_1
     · rw [if_pos c3] at H
       have c3b0 : decide (0 ≤ x4_1) = true := decide_eq_true c3
       clear c3
       have H' := Aside0.mk H
       clear H
       have p384 : 0 ≤ (x4_1 : Int) := of_decide_eq_true (by first | (with_reducible assumption) | assumption)
       have q384 : x4_1 < (l0.length : Int) := of_decide_eq_true (by first | (with_reducible assumption) | assumption)
       obtain ⟨ad384, e384, hx384_0⟩ := Kd.at_int HR0.out x4_1 p384 q384
       cases e384
       replace p384 := eq_true p384
       replace q384 := eq_true q384
       go_wp2
       go_loopg [3, 5] k1 (fun kq v3 v5 w' => ∃ (x3_2 : Int) (x5_2 : Int), v3 = .int .u32 x3_2 ∧ v5 = .int .i64 x5_2 ∧ Aside0 (pannierref02_Sum.l1 kq l0 x3_2 x4_1 x5_2 = some r) ∧ Aside0 (kq ≤ k1) ∧ Drawn0 w w')
       case atStart => exact ⟨(Go.bits .xor .u32 x3_1 ((rd l0 x4_1) % 4294967296)), (0), (by first | rfl | (simp; done) | (simp [*]; done)), (by first | rfl | (simp; done) | (simp [*]; done)), H', ⟨Nat.le_refl _⟩, by repeat (first | exact Drawn0.refl _ | apply Drawn0.step)⟩
       case round =>
        clear H'
        try clear c1
        try clear c2
        try clear c2b0
        try clear p2
        try clear c3
        try clear c3b0
        try clear p3
        try clear q3
        try clear hx3
        try clear hx384_0
        try clear p384
        try clear q384
        obtain ⟨x3_2, x5_2, rfl, rfl, HA, HK2, ⟨m2, rfl⟩⟩ := hrel
        cases gk with
        | zero => exact absurd HA.out (by simp [pannierref02_Sum.l1])
        | succ k2 =>
         have H := HA.out
         clear HA
         simp only [pannierref02_Sum.l1] at H
         by_cases c4 : x5_2 < 8
         rw [if_pos c4] at H
         have c4b0 : decide (x5_2 < 8) = true := decide_eq_true c4
         clear c4
         by_cases c5 : (Go.bits .and .u32 x3_2 1) = 1
         rw [if_pos c5] at H
         have c5b0 : ((Go.bits .and .u32 x3_2 1) == 1) = true := beq_iff_eq.mpr c5
         have c5b1 : ((Go.bits .and .u32 x3_2 1) != 1) = false := bne_eq_false_iff_eq.mpr c5
         clear c5
         rotate_left
         rw [if_neg c5] at H
         have c5b0 : ((Go.bits .and .u32 x3_2 1) == 1) = false := beq_eq_false_iff_ne.mpr c5
         have c5b1 : ((Go.bits .and .u32 x3_2 1) != 1) = true := bne_iff_ne.mpr c5
         rotate_left
         rw [if_neg c4] at H
         have c4b0 : decide (x5_2 < 8) = false := decide_eq_false c4
         clear c4
         rotate_left
         all_goals (
          have H' := Aside0.mk H
          clear H
          go_wp2
          go_roundg k2
          case measure => have := HK1.out; have := HK2.out; omega
          case rel => exact ⟨_, _, (by first | rfl | (simp; done) | (simp [*]; done)), (by first | rfl | (simp; done) | (simp [*]; done)), H', ⟨by have := HK1.out; have := HK2.out; omega⟩, by repeat (first | exact Drawn0.refl _ | apply Drawn0.step)⟩
          )
     · rw [if_neg c3] at H
       exact absurd H (by simp)
   · rw [if_neg c2] at H
     have c2b0 : decide (x4_1 < (l0.length : Int)) = false := decide_eq_false c2
     clear c2
     obtain rfl := Option.some.inj H
     go_wp2
     go_ret
     exact ⟨by first | rfl | (simp; done) | (simp [*]; done), by repeat (first | exact Drawn0.refl _ | apply Drawn0.step)⟩
def pannierref02_Seal.f (k : Nat) (a0 : Int) (a1 : ByteArray) : Option (ByteArray) := (pannierref02_Text.f k (([a0] : List Int)) a1).bind fun t388 => ((pannierref02_Sum.f k t388).bind fun t391 => ((some (([(t391) % 256, (t391 / 256) % 256, (t391 / 65536) % 256, (t391 / 16777216) % 256] : List Int) : List Int)).bind fun y392 => (if t388.length + y392.length < 140737488355328 then (some (strOfNums (t388 ++ y392))) else (none))))
set_option maxHeartbeats 8000000 in
set_option maxRecDepth 100000 in
theorem pannierref02_Seal.calls (k : Nat) (a0 : Int) (a1 : ByteArray) (r : ByteArray) (w : World) (h : pannierref02_Seal.f k a0 a1 = some r) :
 Calls Try.prog 86 #[.int .u8 a0, .string a1] w fun e w' => e = .returned (.string r) ∧ Below w.heap.size w w' := by
 have HB := Aside0.mk (Below.refl w.heap.size w)
 have H : ((pannierref02_Text.f k (([a0] : List Int)) a1).bind fun t388 => ((pannierref02_Sum.f k t388).bind fun t391 => ((some (([(t391) % 256, (t391 / 256) % 256, (t391 / 65536) % 256, (t391 / 16777216) % 256] : List Int) : List Int)).bind fun y392 => (if t388.length + y392.length < 140737488355328 then (some (strOfNums (t388 ++ y392))) else (none))))) = some r := h
 clear h
 obtain ⟨y385, hy385⟩ : ∃ y_ : List Int, y_ = (([a0] : List Int)) := ⟨_, rfl⟩
 replace H : ((pannierref02_Text.f k y385 a1).bind fun t388 => ((pannierref02_Sum.f k t388).bind fun t391 => ((some (([(t391) % 256, (t391 / 256) % 256, (t391 / 65536) % 256, (t391 / 16777216) % 256] : List Int) : List Int)).bind fun y392 => (if t388.length + y392.length < 140737488355328 then (some (strOfNums (t388 ++ y392))) else (none))))) = some r := by first | (rw [hy385]; with_reducible exact H) | (have H2_ := (Option.bind_some _ _).symm.trans H; rw [hy385]; with_reducible exact H2_) | (have H2_ := (Option.bind_some _ _).symm.trans H; with_reducible exact H2_) | with_reducible exact H | (rw [hy385]; exact H) | exact H
 have Ny385 := Aside0.mk hy385
 clear hy385
 replace H := Option.bind_eq_some_iff.mp H
 obtain ⟨t388, A30, H⟩ := H
 replace H : ((pannierref02_Sum.f k t388).bind fun t391 => ((some (([(t391) % 256, (t391 / 256) % 256, (t391 / 65536) % 256, (t391 / 16777216) % 256] : List Int) : List Int)).bind fun y392 => (if t388.length + y392.length < 140737488355328 then (some (strOfNums (t388 ++ y392))) else (none)))) = some r := H
 have A3 := Aside0.mk A30
 clear A30
 replace H := Option.bind_eq_some_iff.mp H
 obtain ⟨t391, A40, H⟩ := H
 replace H : ((some (([(t391) % 256, (t391 / 256) % 256, (t391 / 65536) % 256, (t391 / 16777216) % 256] : List Int) : List Int)).bind fun y392 => (if t388.length + y392.length < 140737488355328 then (some (strOfNums (t388 ++ y392))) else (none))) = some r := H
 have A4 := Aside0.mk A40
 clear A40
 obtain ⟨y392, hy392⟩ : ∃ y_ : List Int, y_ = (([(t391) % 256, (t391 / 256) % 256, (t391 / 65536) % 256, (t391 / 16777216) % 256] : List Int)) := ⟨_, rfl⟩
 replace H : (if t388.length + y392.length < 140737488355328 then (some (strOfNums (t388 ++ y392))) else (none)) = some r := by first | (rw [hy392]; with_reducible exact H) | (have H2_ := (Option.bind_some _ _).symm.trans H; rw [hy392]; with_reducible exact H2_) | (have H2_ := (Option.bind_some _ _).symm.trans H; with_reducible exact H2_) | with_reducible exact H | (rw [hy392]; exact H) | exact H
 have Ny392 := Aside0.mk hy392
 clear hy392
 by_cases c5 : t388.length + y392.length < 140737488355328
 · rw [if_pos c5] at H
   have LMc5 := Aside0.mk c5
   clear c5
   obtain ⟨y395, hy395⟩ : ∃ y_ : List Int, y_ = (t388 ++ y392) := ⟨_, rfl⟩
   replace H : (some (strOfNums y395)) = some r := by first | (rw [hy395]; with_reducible exact H) | (have H2_ := (Option.bind_some _ _).symm.trans H; rw [hy395]; with_reducible exact H2_) | (have H2_ := (Option.bind_some _ _).symm.trans H; with_reducible exact H2_) | with_reducible exact H | (rw [hy395]; exact H) | exact H
   have Ny395 := Aside0.mk hy395
   clear hy395
   obtain rfl := Option.some.inj H
   go_enter Try.func86, Try.ntmps86
   go_wp2_with (first | ((with_reducible refine gate_dst (N := 8) rfl ?_); refine Kd.R_lit (Kd.int .u8) _ 5 ?hg (N := 8) ?hd (xs := ([a0] : List Int)) (inner := [.int .u8 a0]) (ok := fun _ => True) (okp := fun _ => True) ?hr ?hp (fun _ hk => hk) trivial (Below.refl _ _) (Nat.le_refl _) (by simp) ?_; (case hd => rfl); (case hg => rfl); (case hr => first | (go_simp; done) | (go_simp; rfl)); (case hp => exact (Reps.one (show Kd.M (Kd.int .u8) _ _ _ a0 [.int .u8 a0] from rfl) (Reps.none _ _))); intro v386 w6 ho7 hb hg_ hnew_; clear hg_ hnew_; (first | rw [← Ny385.out] at ho7 | (simp only [Int.reduceToNat] at ho7; rw [← Ny385.out] at ho7)); have n0_ := Aside0.mk (Kd.R_lower ho7 (below_size (by repeat (first | (with_reducible first | exact HB.out | apply below_alloc | apply pw_below_drewN | apply below_drew1) | exact HB.out)))); have n1_ := Aside0.mk (below_step (by repeat (first | (with_reducible first | exact HB.out | apply below_alloc | apply pw_below_drewN | apply below_drew1) | exact HB.out)) hb); clear HB; have HO387 := n0_; have HB := n1_; clear n0_ n1_; clear hb ho7; obtain ⟨Ao8, co8, eo8⟩ := Kd.R_slice HO387.out; subst eo8) | ((with_reducible refine gate_callee (f := 83) rfl ?_); refine goesL_ (some 10) rfl rfl Try.func83 (by kernel_rfl) rfl #[.slice Ao8 y385.length co8, .string a1] rfl (by (try simp only [List.map_toArray, List.map_cons, List.map_nil]); first | done | rfl | (simp only [List.length_drop, List.length_take]; rfl)) ?_; (with_reducible refine (pannierref02_Text.calls k _ _ y385 a1 t388 _ ?side1 ?side2 A3.out).mono ?_); (case side1 => repeat (first | exact (Kd.R_reads' HO387.out).2.2 | (with_reducible refine Kd.C_alloc ?_ _) | (with_reducible refine Kd.C_drewN ?_ _) | (with_reducible refine Kd.C_drew ?_))); (case side2 => exact (Kd.R_reads' HO387.out).2.1); rintro e w9 ⟨v389, rfl, ho0, hb⟩; refine ⟨_, rfl, ?_⟩; have n0_ := Aside0.mk (Kd.R_elder' (by (with_reducible repeat (first | apply Kd.R_alloc | apply Kd.R_drewN | apply Kd.R_drew)); exact HO387.out) (Kd.R_base ho0) hb); have n1_ := Aside0.mk (Kd.R_lower (Kd.R_new' ho0 (Kd.R_lt (by (with_reducible repeat (first | apply Kd.R_alloc | apply Kd.R_drewN | apply Kd.R_drew)); exact HO387.out))) (below_size (by repeat (first | (with_reducible first | exact HB.out | apply below_alloc | apply pw_below_drewN | apply below_drew1) | exact HB.out)))); have n2_ := Aside0.mk (below_step (by repeat (first | (with_reducible first | exact HB.out | apply below_alloc | apply pw_below_drewN | apply below_drew1) | exact HB.out)) hb); clear HO387; clear HB; have HO387 := n0_; have HO390 := n1_; have HB := n2_; clear n0_ n1_ n2_; (try clear hb); (try clear hb2); (try clear hk); (try clear hi); (try clear ho0); obtain ⟨Ao10, co10, eo10⟩ := Kd.R_slice HO390.out; subst eo10) | ((with_reducible refine gate_callee (f := 122) rfl ?_); refine goesL_ (some 12) rfl rfl Try.func122 (by kernel_rfl) rfl #[.slice Ao10 t388.length co10] rfl (by (try simp only [List.map_toArray, List.map_cons, List.map_nil]); first | done | rfl | (simp only [List.length_drop, List.length_take]; rfl)) ?_; (with_reducible refine (pannierref02_Sum.calls k _ _ t388 t391 _ ?side1 ?side2 A4.out).mono ?_); (case side1 => repeat (first | exact (Kd.R_reads' HO390.out).2.2 | (with_reducible refine Kd.C_alloc ?_ _) | (with_reducible refine Kd.C_drewN ?_ _) | (with_reducible refine Kd.C_drew ?_))); (case side2 => exact (Kd.R_reads' HO390.out).2.1); rintro e w' ⟨rfl, ⟨nd, rfl⟩⟩; refine ⟨_, rfl, ?_⟩) | ((with_reducible refine gate_dst (N := 25) rfl ?_); refine Kd.R_lit (Kd.int .u8) _ 5 ?hg (N := 25) ?hd (xs := ([(t391) % 256, (t391 / 256) % 256, (t391 / 65536) % 256, (t391 / 16777216) % 256] : List Int)) (inner := [.int .u8 ((t391) % 256), .int .u8 ((t391 / 256) % 256), .int .u8 ((t391 / 65536) % 256), .int .u8 ((t391 / 16777216) % 256)]) (ok := fun _ => True) (okp := fun _ => True) ?hr ?hp (fun _ hk => hk) trivial (Below.refl _ _) (Nat.le_refl _) (by simp) ?_; (case hd => rfl); (case hg => rfl); (case hr => first | (go_simp; done) | (go_simp; rfl)); (case hp => exact (Reps.one (show Kd.M (Kd.int .u8) _ _ _ ((t391) % 256) [.int .u8 ((t391) % 256)] from rfl) (Reps.one (show Kd.M (Kd.int .u8) _ _ _ ((t391 / 256) % 256) [.int .u8 ((t391 / 256) % 256)] from rfl) (Reps.one (show Kd.M (Kd.int .u8) _ _ _ ((t391 / 65536) % 256) [.int .u8 ((t391 / 65536) % 256)] from rfl) (Reps.one (show Kd.M (Kd.int .u8) _ _ _ ((t391 / 16777216) % 256) [.int .u8 ((t391 / 16777216) % 256)] from rfl) (Reps.none _ _)))))); intro v393 w11 ho12 hb hg_ hnew_; clear hg_ hnew_; (first | rw [← Ny392.out] at ho12 | (simp only [Int.reduceToNat] at ho12; rw [← Ny392.out] at ho12)); have n0_ := Aside0.mk (Kd.R_elder' (by (with_reducible repeat (first | apply Kd.R_alloc | apply Kd.R_drewN | apply Kd.R_drew)); exact HO387.out) (Kd.R_base ho12) hb); have n1_ := Aside0.mk (Kd.R_elder' (by (with_reducible repeat (first | apply Kd.R_alloc | apply Kd.R_drewN | apply Kd.R_drew)); exact HO390.out) (Kd.R_base ho12) hb); have n2_ := Aside0.mk (Kd.R_lower (Kd.R_new' (Kd.R_new' ho12 (Kd.R_lt (by (with_reducible repeat (first | apply Kd.R_alloc | apply Kd.R_drewN | apply Kd.R_drew)); exact HO387.out))) (Kd.R_lt (by (with_reducible repeat (first | apply Kd.R_alloc | apply Kd.R_drewN | apply Kd.R_drew)); exact HO390.out))) (below_size (by repeat (first | (with_reducible first | exact HB.out | apply below_alloc | apply pw_below_drewN | apply below_drew1) | exact HB.out)))); have n3_ := Aside0.mk (below_step (by repeat (first | (with_reducible first | exact HB.out | apply below_alloc | apply pw_below_drewN | apply below_drew1) | exact HB.out)) hb); clear HO387; clear HO390; clear HB; have HO387 := n0_; have HO390 := n1_; have HO394 := n2_; have HB := n3_; clear n0_ n1_ n2_ n3_; clear hb ho12; obtain ⟨Ao14, co14, eo14⟩ := Kd.R_slice HO394.out; subst eo14) | ((with_reducible refine gate_builtin (b := .append) (xs := #[.tmp 13, .tmp 25]) rfl ?_); at_builtin; refine Kd.R_append_rows (Kd.int .u8) (w0 := w) w.heap.size rfl (.tmp 13) (.tmp 25) 63 5 (.int .u8 0) 1 rfl Try.underlying63 info5 rfl (by decide) (by omega) (.slice Ao10 t388.length co10) t388 y392 _ _ _ (fun k_ => some k_ ≠ (.slice Ao8 y385.length co8 : Value).ownBlock ∧ some k_ ≠ (.slice Ao14 y392.length co14 : Value).ownBlock) (fun _ => False) rfl rfl ?aO ?aR (fun _ _ h => h) (fun _ h => h.elim) ?aF ?aB ?aS ?aL ?_; (case aR => repeat (first | exact (Kd.R_reads' HO394.out).2.2 | (with_reducible refine Kd.C_alloc ?_ _) | (with_reducible refine Kd.C_drewN ?_ _) | (with_reducible refine Kd.C_drew ?_))); (case aB => exact (by repeat (first | (with_reducible first | exact HB.out | apply below_alloc | apply pw_below_drewN | apply below_drew1) | exact HB.out))); (case aF => exact (fun k_ hk => ⟨Kd.fresh' (Kd.R_lt (by (with_reducible repeat (first | apply Kd.R_alloc | apply Kd.R_drewN | apply Kd.R_drew)); exact HO387.out)) k_ hk, Kd.fresh' (Kd.R_lt (by (with_reducible repeat (first | apply Kd.R_alloc | apply Kd.R_drewN | apply Kd.R_drew)); exact HO394.out)) k_ hk⟩)); (case aO => exact (by (with_reducible repeat (first | apply Kd.R_alloc | apply Kd.R_drewN | apply Kd.R_drew)); exact Kd.R_mono HO390.out (fun _ hk => ⟨hk.1.2, hk.2⟩))); (case aS => exact (below_size (by repeat (first | (with_reducible first | exact HB.out | apply below_alloc | apply pw_below_drewN | apply below_drew1) | exact HB.out)))); (case aL => have := LMc5.out; omega); intro v396 w13 ho hb hg hat; rw [← Ny395.out] at ho; have n0_ := Aside0.mk (Kd.R_after (ok := (fun k_ => some k_ ≠ (.slice Ao14 y392.length co14 : Value).ownBlock)) (by (with_reducible repeat (first | apply Kd.R_alloc | apply Kd.R_drewN | apply Kd.R_drew)); exact Kd.R_mono HO387.out (fun _ hk => ⟨hk.2, hk.1.2⟩)) hg hat); have n1_ := Aside0.mk (Kd.R_after (ok := (fun k_ => some k_ ≠ (.slice Ao8 y385.length co8 : Value).ownBlock)) (by (with_reducible repeat (first | apply Kd.R_alloc | apply Kd.R_drewN | apply Kd.R_drew)); exact Kd.R_mono HO394.out (fun _ hk => ⟨hk.1.2, hk.2⟩)) hg hat); have n2_ := Aside0.mk (hb); have n3_ := Aside0.mk (ho); clear HO387; clear HO394; clear HB; clear HO390; have HO387 := n0_; have HO394 := n1_; have HB := n2_; have HO397 := n3_; clear n0_ n1_ n2_ n3_; clear ho hb hg hat; have hcv15 := own_string (P := Try.prog) Try.underlying63 Try.underlying5 Try.underlying9 (Kd.own_of_R HO397.out)))
   go_ret
   exact ⟨by first | rfl | (simp [errW_none, errW_some] <;> rfl) | (simp [*, errW_none, errW_some] <;> rfl), by repeat (first | (with_reducible first | exact HB.out | apply below_alloc | apply pw_below_drewN | apply below_drew1) | exact HB.out)⟩
 · rw [if_neg c5] at H
   exact absurd H (by simp)
end Go.Proofs.Ytenbkljgmgdegaa.PO
end
section
namespace Go.Proofs.Ytenbkljgmgdegaa.PO
open Go.RowKit Go.Proofs.YtenbkljgmgdegaaW.PrintWords Go.Proofs.YtenbkljgmgdegaaW.PrintLast Go.Proofs.YtenbkljgmgdegaaW.PrintMore Go.Proofs.Ytenbkljgmgdegaa.XW
set_option linter.unusedVariables false
set_option linter.unusedSimpArgs false
theorem and1 (c : Int) : Go.bits .and .u32 c 1 = 0 ∨ Go.bits .and .u32 c 1 = 1 := by
 have h : Go.bits .and .u32 c 1 = IntKind.u32.wrap ((BitVec.ofInt 32 c &&& BitVec.ofInt 32 1).toNat : Int) := rfl
 have h1 : (BitVec.ofInt 32 1).toNat = 1 := by decide
 rw [h, BitVec.toNat_and, h1, Nat.and_one_is_mod, IntKind.wrap_u32']
 omega
theorem xor_swap (a b : Int) : Go.bits .xor .u32 a b = Go.bits .xor .u32 b a := by
 show IntKind.u32.wrap ((BitVec.ofInt 32 a ^^^ BitVec.ofInt 32 b).toNat : Int) = IntKind.u32.wrap ((BitVec.ofInt 32 b ^^^ BitVec.ofInt 32 a).toNat : Int)
 rw [BitVec.xor_comm]
theorem crc8_step (n : Nat) (c : Int) : crc8 (n + 1) c = crc8 n (if Go.bits .and .u32 c 1 = 1 then Go.bits .xor .u32 (c / 2) 3988292384 else c / 2) := by
 show crc8 n (if Go.bits .and .u32 c 1 = 0 then c / 2 else Go.bits .xor .u32 (c / 2) 3988292384) = _
 rcases and1 c with h | h
 · rw [if_pos h, if_neg (by omega)]
 · rw [if_neg (by omega), if_pos h]
theorem refSum_l1 (x : List Int) (i : Int) (k : Nat) : ∀ (s : Nat) (c j : Int), j + (s : Int) = 8 → 0 ≤ j → pannierref02_Sum.l1 (s + 1 + k) x c i j = pannierref02_Sum.l0 k x (crc8 s c) (wrap64 (i + 1))
 | 0, c, j, h, hj => by
   rw [show 0 + 1 + k = k + 1 from by omega]
   unfold pannierref02_Sum.l1
   rw [if_neg (by omega)]
   rfl
 | s + 1, c, j, h, hj => by
   rw [show s + 1 + 1 + k = (s + 1 + k) + 1 from by omega]
   unfold pannierref02_Sum.l1
   have hw : wrap64 (j + 1) = j + 1 := by unfold wrap64; omega
   rw [if_pos (by omega), hw, crc8_step]
   have ih := fun c => refSum_l1 x i k s c (j + 1) (by omega) (by omega)
   by_cases hc : Go.bits .and .u32 c 1 = 1
   · rw [if_pos hc, if_pos hc, ih]
   · rw [if_neg hc, if_neg hc, ih]
theorem refSum_l0 (x : List Int) (hx : x.length ≤ 9223372036854775000) : ∀ (d j : Nat) (c : Int), j + d = x.length → pannierref02_Sum.l0 (10 * d + 1) x c (j : Int) = some (Go.bits .xor .u32 4294967295 (crcL c (x.drop j)))
 | 0, j, c, h => by
   unfold pannierref02_Sum.l0
   rw [if_neg (by omega), List.drop_eq_nil_of_le (by omega), xor_swap]
   rfl
 | d + 1, j, c, h => by
   rw [show 10 * (d + 1) + 1 = (8 + 1 + (10 * d + 1)) + 1 from by omega]
   unfold pannierref02_Sum.l0
   have hw : wrap64 ((j : Int) + 1) = ((j + 1 : Nat) : Int) := by unfold wrap64; omega
   rw [if_pos (by omega), if_pos (by omega), refSum_l1 x _ _ 8 _ 0 (by omega) (by omega), hw, refSum_l0 x hx d (j + 1) _ (by omega)]
   have hd : x.drop j = rd x (j : Int) :: x.drop (j + 1) := by
    rw [List.drop_eq_getElem_cons (by omega)]
    congr 1
    simp [rd, List.getD, show j < x.length by omega]
   rw [hd]
   rfl
theorem refSum_f (x : List Int) (hx : x.length ≤ 9223372036854775000) (k : Nat) (hk : 10 * x.length + 1 ≤ k) : pannierref02_Sum.f k x = some (Go.bits .xor .u32 4294967295 (crcL 4294967295 x)) := by
 refine up_of (g := fun k => pannierref02_Sum.f k x) (fun k => pannierref02_Sum.mono _ k) (k := 10 * x.length + 1) ?_ k hk
 unfold pannierref02_Sum.f
 exact refSum_l0 x hx x.length 0 _ (by omega)
theorem refTextBig_f (b : List Int) (s : ByteArray) (hs : s.size ≤ 1000000) (hb : b.length ≤ 140737487000000) (k : Nat) (hk : 40 ≤ k) : pannierref02_Text.f k b s = some (textS b s) := by
 have := encN_len (s.size : Int)
 unfold pannierref02_Text.f
 rw [u_id (by omega) (by omega), refNumber_f _ (by omega) b (by omega) k hk, Option.bind_some, if_pos (by rw [List.length_append]; omega)]
 rfl
theorem refSeal_f (kind : Int) (body : ByteArray) (hs : body.size ≤ 1000000) (k : Nat) (hk : 20000000 ≤ k) : pannierref02_Seal.f k kind body = some (strOfNums (sealT kind (bytesOf body))) := by
 have e1 := encN_len (body.size : Int)
 have e2 := bytesOf_length body
 unfold pannierref02_Seal.f
 have hl : (textS [kind] body).length ≤ 1000100 := by
  rw [textS_app]
  unfold textB
  simp only [List.length_append, List.length_cons, List.length_nil]
  omega
 rw [refTextBig_f [kind] body hs (by simp) k (by omega), Option.bind_some, refSum_f _ (by omega) k (by omega), Option.bind_some, Option.bind_some, if_pos (by simp only [List.length_cons, List.length_nil]; omega)]
 have e : textS [kind] body = kind :: encN (((bytesOf body).length : Nat) : Int) ++ bytesOf body := by
  rw [textS_app, e2]
  simp [textB]
 rw [e]
 rfl
theorem refSeal_calls (kind : Int) (body : ByteArray) (hs : body.size ≤ 1000000) (w : World) :
 Calls Try.prog 86 #[.int .u8 kind, .string body] w fun e w' => e = .returned (.string (strOfNums (sealT kind (bytesOf body)))) ∧ Below w.heap.size w w' :=
 pannierref02_Seal.calls 20000000 kind body _ w (refSeal_f kind body hs _ (Nat.le_refl _))
end Go.Proofs.Ytenbkljgmgdegaa.PO
end
