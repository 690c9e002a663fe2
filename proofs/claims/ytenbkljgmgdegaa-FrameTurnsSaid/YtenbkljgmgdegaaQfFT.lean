/- What the rows of this claim use, out of the texts of this work (FT, FU, PE10). No condition beyond those that each statement names. -/
import Derived.Test.YtenbkljgmgdegaaQfFQ
import Derived.Test.YtenbkljgmgdegaaQfPD10
import Derived.Test.YtenbkljgmgdegaaQfOV
import Derived.Test.YtenbkljgmgdegaaQfPOx0
import Derived.Test.YtenbkljgmgdegaaQfPOx2
import Derived.Test.YtenbkljgmgdegaaQfPD16
import Derived.Test.YtenbkljgmgdegaaQfPD9
import Derived.Test.YtenbkljgmgdegaaQfPOx12
import Derived.Test.YtenbkljgmgdegaaQfPOx14
import Derived.Test.YtenbkljgmgdegaaQfOA
section
namespace Go.Proofs.Ytenbkljgmgdegaa.PO
open Go.RowKit Go.Proofs.YtenbkljgmgdegaaW.PrintWords Go.Proofs.YtenbkljgmgdegaaW.PrintLast Go.Proofs.YtenbkljgmgdegaaW.PrintMore Go.Proofs.Ytenbkljgmgdegaa.XW
set_option linter.unusedVariables false
set_option linter.unusedSimpArgs false
theorem ne0_false {e : Int} (h : (e != 0) = false) : e = 0 := by simpa using h
theorem texQ_is {l : List Int} (hB : isB l) {m : Int} (hm : 0 ≤ m) {p q : Int} {bad : Bool} {t : ByteArray} (h : texQ m l p bad = (t, q, false)) :
 bad = false ∧ 0 ≤ p ∧ (t.size : Int) ≤ m ∧ 0 ≤ q ∧ q ≤ (l.length : Int) ∧ l.take q.toNat = l.take p.toNat ++ textB t := by
 unfold texQ at h
 obtain ⟨⟨t', q', e⟩, ht⟩ : ∃ r, textM m l p = r := ⟨_, rfl⟩
 rw [ht] at h
 simp only [Prod.mk.injEq] at h
 obtain ⟨rfl, rfl, h3⟩ := h
 rw [Bool.or_eq_false_iff] at h3
 have he := ne0_false h3.2
 subst he
 have hi := text_isM m hm hB (p := p) (by rw [ht])
 rw [ht] at hi
 exact ⟨h3.1, hi.1, hi.2.2.1, hi.2.2.2.1, textM_le hB hm ht, hi.2.2.2.2⟩
theorem numQ_is {l : List Int} (hB : isB l) {p q n : Int} {bad : Bool} (h : numQ l p bad = (n, q, false)) :
 bad = false ∧ 0 ≤ p ∧ 0 ≤ n ∧ n ≤ 1152921504606846976 ∧ 0 ≤ q ∧ q ≤ (l.length : Int) ∧ l.take q.toNat = l.take p.toNat ++ encN n := by
 unfold numQ at h
 obtain ⟨⟨n', q', e⟩, ht⟩ : ∃ r, takeS l p = r := ⟨_, rfl⟩
 rw [ht] at h
 simp only [Prod.mk.injEq] at h
 obtain ⟨h1, rfl, h3⟩ := h
 rw [Bool.or_eq_false_iff, Bool.or_eq_false_iff] at h3
 have he := ne0_false h3.1.2
 subst he
 have hn : ¬ n' > 1152921504606846976 := by simpa using h3.2
 rw [if_pos (by omega)] at h1
 subst h1
 have ho := takeS_ok hB (p := p) (by rw [ht])
 have hi := take_is hB (p := p) (by rw [ht])
 rw [ht] at ho hi
 exact ⟨h3.1.1, hi.1, ho.2.2.1, by omega, ho.1, ho.2.1, hi.2.2⟩
theorem textS_app (b : List Int) (s : ByteArray) : textS b s = b ++ textB s := by simp [textS, textB]
theorem layOps_app : ∀ (l : List S36) (b : List Int), layOps b l = b ++ layOps [] l
 | [], b => by simp [layOps]
 | x :: l, b => by
   rw [layOps, layOps_app l, layOps, layOps_app l (textS [] _), textS_app, textS_app]
   simp
theorem layOps_cons (x : S36) (l : List S36) : layOps [] (x :: l) = textB (layF x).1 ++ layOps [] l := by
 rw [layOps, layOps_app l, textS_app]
 simp
theorem opsQ_is {l : List Int} (hB : isB l) : ∀ (k : Nat) (p : Int) (bad : Bool) (o : List S36) (q : Int) (o' : List S36), 0 ≤ p → p ≤ (l.length : Int) → opsQ l k p bad o = (q, false, o') →
 ∃ L, o' = o ++ L ∧ (bad = false → L.length = k) ∧ 0 ≤ q ∧ q ≤ (l.length : Int) ∧ l.take q.toNat = l.take p.toNat ++ layOps [] L
 | 0, p, bad, o, q, o', hp, hpl, h => by
   unfold opsQ at h
   simp only [Prod.mk.injEq] at h
   obtain ⟨rfl, rfl, rfl⟩ := h
   exact ⟨[], by simp, by simp, hp, hpl, by simp [layOps]⟩
 | k + 1, p, bad, o, q, o', hp, hpl, h => by
   unfold opsQ at h
   by_cases hb : bad = false
   case neg =>
    rw [if_neg hb] at h
    simp only [Prod.mk.injEq] at h
    exact absurd h.2.1 hb
   rw [if_pos hb] at h
   obtain ⟨⟨t, pp, bb⟩, ht⟩ : ∃ r, texQ 1048576 l p bad = r := ⟨_, rfl⟩
   rw [ht] at h
   dsimp only at h
   obtain ⟨⟨x, e⟩, hx⟩ : ∃ r, readO (bytesOf t) = r := ⟨_, rfl⟩
   rw [hx] at h
   dsimp only at h
   have hnb : (bb || e != 0) = false := by
    cases k with
    | zero =>
      unfold opsQ at h
      simp only [Prod.mk.injEq] at h
      exact h.2.1
    | succ k =>
      unfold opsQ at h
      by_cases h2 : (bb || e != 0) = false
      · exact h2
      · rw [if_neg h2] at h
        simp only [Prod.mk.injEq] at h
        exact absurd h.2.1 h2
   have hbb := Bool.or_eq_false_iff.1 hnb
   rw [hnb] at h
   rw [hbb.1] at ht
   obtain ⟨_, _, _, q0, q1, q2⟩ := texQ_is hB (by omega) ht
   obtain ⟨L, e1, e2, e3, e4, e5⟩ := opsQ_is hB k pp false _ q o' q0 q1 h
   have hez := ne0_false hbb.2
   subst hez
   have hr := readO_is (bytes_B t) (by rw [hx])
   rw [hx] at hr
   have hl : (layF x).1 = t := by
    unfold layF
    rw [if_pos hr.1]
    show strOfNums (layO x) = t
    rw [hr.2]
    exact nums_bytes t
   refine ⟨x :: L, by rw [e1]; simp, fun _ => by rw [List.length_cons, e2 rfl], e3, e4, ?_⟩
   rw [e5, q2, layOps_cons, hl]
   simp
theorem len0 {α : Type} {l : List α} (h : l.length = 0) : l = [] := List.eq_nil_of_length_eq_zero h
theorem headB_eq (f : Fr) : headB f = textB f.fa ++ textB f.fb ++ textB f.ct ++ encN f.se ++ encN f.ix := by
 unfold headB
 rw [textS_app, textS_app, textS_app]
 simp
theorem readB_is {l : List Int} (hB : isB l) (k : Int) (h : (readB k l).2 = 0) : rightF (readB k l).1 = true ∧ (readB k l).1.k = k ∧ bodyB (readB k l).1 = l := by
 unfold readB at h ⊢
 obtain ⟨⟨fa, p1, b1⟩, h1⟩ : ∃ r, texQ 24 l 0 false = r := ⟨_, rfl⟩
 rw [h1] at h ⊢
 dsimp only at h ⊢
 obtain ⟨⟨fb, p2, b2⟩, h2⟩ : ∃ r, texQ 24 l p1 b1 = r := ⟨_, rfl⟩
 rw [h2] at h ⊢
 dsimp only at h ⊢
 obtain ⟨⟨ct, p3, b3⟩, h3⟩ : ∃ r, texQ 32 l p2 b2 = r := ⟨_, rfl⟩
 rw [h3] at h ⊢
 dsimp only at h ⊢
 obtain ⟨⟨se, p4, b4⟩, h4⟩ : ∃ r, numQ l p3 b3 = r := ⟨_, rfl⟩
 rw [h4] at h ⊢
 dsimp only at h ⊢
 obtain ⟨⟨ix, p5, b5⟩, h5⟩ : ∃ r, numQ l p4 b4 = r := ⟨_, rfl⟩
 rw [h5] at h ⊢
 dsimp only at h ⊢
 obtain ⟨⟨p, b, mn, kn, op⟩, hr⟩ : ∃ r, restQ k l p5 b5 = r := ⟨_, rfl⟩
 rw [hr] at h ⊢
 dsimp only at h ⊢
 by_cases hc : b = true ∨ p ≠ (l.length : Int) ∨ rightF ⟨k, fa, fb, ct, se, ix, mn, kn, op⟩ = false
 · rw [if_pos hc] at h; cases h
 rw [if_neg hc]
 have hb : b = false := by cases b with | false => rfl | true => exact absurd (Or.inl rfl) hc
 have hp : p = (l.length : Int) := Classical.byContradiction (fun h => hc (Or.inr (Or.inl h)))
 have hR : rightF ⟨k, fa, fb, ct, se, ix, mn, kn, op⟩ = true := by
  cases hx : rightF ⟨k, fa, fb, ct, se, ix, mn, kn, op⟩ with
  | true => rfl
  | false => exact absurd (Or.inr (Or.inr hx)) hc
 subst hb
 subst hp
 refine ⟨hR, rfl, ?_⟩
 have hb5 : b5 = false := by
  cases b5 with
  | false => rfl
  | true =>
    unfold restQ at hr
    rw [if_pos rfl] at hr
    simp at hr
 subst hb5
 obtain ⟨rfl, _, _, _, a5, c5, d5⟩ := numQ_is hB h5
 obtain ⟨rfl, _, _, _, a4, c4, d4⟩ := numQ_is hB h4
 obtain ⟨rfl, _, _, a3, c3, d3⟩ := texQ_is hB (by omega) h3
 obtain ⟨rfl, _, _, a2, c2, d2⟩ := texQ_is hB (by omega) h2
 obtain ⟨_, _, _, a1, c1, d1⟩ := texQ_is hB (by omega) h1
 have hh : l.take p5.toNat = headB ⟨k, fa, fb, ct, se, ix, mn, kn, op⟩ := by
  rw [headB_eq, d5, d4, d3, d2, d1]
  simp
 have hall : l.take ((l.length : Int)).toNat = l := by simp
 unfold restQ at hr
 rw [if_neg (by simp)] at hr
 unfold bodyB
 dsimp only
 by_cases k1 : k = 1
 · rw [if_pos k1] at hr ⊢
   simp only [Prod.mk.injEq] at hr
   obtain ⟨e1, e2, e3, e4, e5⟩ := hr
   have hv := vec_is_at hB (ne0_false e2)
   rw [e1, e4, hall] at hv
   rw [hv.2.2, hh]
 · rw [if_neg k1] at hr ⊢
   by_cases k2 : k = 2
   · rw [if_pos k2] at hr ⊢
     obtain ⟨⟨m, p6, b6⟩, h6⟩ : ∃ r, numQ l p5 false = r := ⟨_, rfl⟩
     obtain ⟨⟨n, p7, b7⟩, h7⟩ : ∃ r, numQ l p6 b6 = r := ⟨_, rfl⟩
     obtain ⟨⟨p8, b8, o⟩, h8⟩ : ∃ r, opsQ l n.toNat p7 b7 [] = r := ⟨_, rfl⟩
     simp only [h6, h7, h8, Prod.mk.injEq] at hr
     obtain ⟨rfl, rfl, rfl, rfl, rfl⟩ := hr
     have hb7 : b7 = false := by
      cases b7 with
      | false => rfl
      | true =>
        exfalso
        have : ∀ k, (opsQ l k p7 true []).2.1 = true := fun k => by
         cases k with
         | zero => rfl
         | succ k => unfold opsQ; rw [if_neg (by simp)]
        have h9 := this n.toNat
        rw [h8] at h9
        cases h9
     subst hb7
     obtain ⟨rfl, _, n0, _, a7, c7, d7⟩ := numQ_is hB h7
     obtain ⟨_, _, m0, _, a6, c6, d6⟩ := numQ_is hB h6
     obtain ⟨L, e1, e2, e3, e4, e5⟩ := opsQ_is hB n.toNat p7 false [] _ _ a7 c7 h8
     rw [hall, d7, d6, hh] at e5
     have e2' := e2 rfl
     rw [List.nil_append] at e1
     rw [layOps_app, e1, show (L.length : Int) = n from by omega]
     exact e5.symm
   · rw [if_neg k2] at hr ⊢
     simp only [Prod.mk.injEq] at hr
     rw [← hh, hr.1, hall]
theorem rd_zero {l : List Int} (h : 0 < l.length) : l.take 1 = [rd l 0] := by
 cases l with
 | nil => simp at h
 | cons a r => simp [rd]
theorem readF_is {s : List Int} (hB : isB s) (h : (readF s).2 = 0) : rightF (readF s).1 = true ∧ layFr (readF s).1 = (strOfNums s, 0) := by
 obtain ⟨⟨kd, body, n, er⟩, ho⟩ : ∃ r, openS s = r := ⟨_, rfl⟩
 unfold readF at h ⊢
 rw [ho] at h ⊢
 dsimp only at h ⊢
 by_cases hc : er ≠ 0 ∨ n ≠ (s.length : Int)
 · rw [if_pos hc] at h; cases h
 rw [if_neg hc] at h ⊢
 have q1 : er = 0 := Classical.byContradiction (fun h => hc (Or.inl h))
 have q2 : n = (s.length : Int) := Classical.byContradiction (fun h => hc (Or.inr h))
 subst q1
 obtain ⟨_, _, _, hl0, p, ht, hp0, hpl, hn, hkd, hs⟩ := openS_ok hB ho
 obtain ⟨r1, r2, r3⟩ := readB_is (bytes_B body) kd h
 refine ⟨r1, ?_⟩
 have hi := text_isM 1048576 (by omega) hB (p := 1) (by rw [ht])
 rw [ht] at hi
 have h4 := hi.2.2.2.2
 dsimp only at h4
 rw [show (1 : Int).toNat = 1 from rfl, rd_zero hl0, ← hkd] at h4
 unfold layFr
 rw [if_pos r1, r2, r3]
 have hz : ((bytesOf body).length : Int) = (body.size : Int) := by rw [bytesOf_length]
 have hp4 : (p + 4).toNat = s.length := by omega
 rw [hp4, List.take_length, h4] at hs
 have e : s = s.take p.toNat ++ s.drop p.toNat := (List.take_append_drop _ _).symm
 rw [h4, ← hs] at e
 show (strOfNums (sealT kd (bytesOf body)), (0 : Int)) = _
 unfold sealT
 rw [hz]
 have e' : kd :: encN (body.size : Int) ++ bytesOf body = [kd] ++ textB body := by simp [textB]
 rw [e', ← e]
end Go.Proofs.Ytenbkljgmgdegaa.PO
end
section
namespace Go.Proofs.Ytenbkljgmgdegaa.PO
open Go.RowKit Go.Proofs.YtenbkljgmgdegaaW.PrintWords Go.Proofs.YtenbkljgmgdegaaW.PrintLast Go.Proofs.YtenbkljgmgdegaaW.PrintMore Go.Proofs.Ytenbkljgmgdegaa.XW
set_option linter.unusedVariables false
set_option linter.unusedSimpArgs false
theorem texQ_enc {m : Int} (hm1 : m ≤ 1048576) {a r l : List Int} (ha : isB a) (hr : isB r) {s : ByteArray} (hs : (s.size : Int) ≤ m) {p : Int} (hp : p = (a.length : Int)) (hl : l = a ++ textB s ++ r) : texQ m l p false = (s, ((a ++ textB s).length : Int), false) := by
 subst hl
 subst hp
 unfold texQ
 rw [take_textM m hm1 a r ha hr s hs]
 rfl
theorem numQ_enc {a r l : List Int} (ha : isB a) (hr : isB r) {n : Int} (h0 : 0 ≤ n) (h1 : n ≤ 1152921504606846976) {p : Int} (hp : p = (a.length : Int)) (hl : l = a ++ encN n ++ r) : numQ l p false = (n, ((a ++ encN n).length : Int), false) := by
 subst hl
 subst hp
 unfold numQ
 rw [take_enc a r ha hr n h0 (by omega)]
 have : decide (n > 1152921504606846976) = false := decide_eq_false (by omega)
 simp only [if_pos h1, this, List.length_append, Int.natCast_add]
 rfl
theorem enc_R {n : Int} (h0 : 0 ≤ n) (h1 : n ≤ 1152921504606846976) : isB (encN n) := enc_B h0 (by omega)
theorem head_enc {f : Fr} (h : rightF f = true) (hix : f.ix ≤ 1152921504606846976) {T l : List Int} (hT : isB T) (hl : l = headB f ++ T) :
 ∃ p1 p2 p3 p4, texQ 24 l 0 false = (f.fa, p1, false) ∧ texQ 24 l p1 false = (f.fb, p2, false) ∧ texQ 32 l p2 false = (f.ct, p3, false) ∧ numQ l p3 false = (f.se, p4, false) ∧ numQ l p4 false = (f.ix, ((headB f).length : Int), false) := by
 obtain ⟨s1, s2, s3, s4, s5, s6, s7⟩ := rightF_sizes h
 have a1 := textB_B f.fa (by omega)
 have a2 := textB_B f.fb (by omega)
 have a3 := textB_B f.ct (by omega)
 have a4 := enc_R (n := f.se) (by omega) s5
 have a5 := enc_R s6 hix
 rw [headB_eq] at hl ⊢
 refine ⟨_, _, _, _, texQ_enc (a := []) (by omega) (fun x hx => by simp at hx) (app_B a2 (app_B a3 (app_B a4 (app_B a5 hT)))) (by omega) rfl (by rw [hl]; simp),
  texQ_enc (a := textB f.fa) (by omega) a1 (app_B a3 (app_B a4 (app_B a5 hT))) (by omega) (by simp) (by rw [hl]; simp),
  texQ_enc (a := textB f.fa ++ textB f.fb) (by omega) (app_B a1 a2) (app_B a4 (app_B a5 hT)) (by omega) (by simp) (by rw [hl]; simp),
  numQ_enc (a := textB f.fa ++ textB f.fb ++ textB f.ct) (app_B (app_B a1 a2) a3) (app_B a5 hT) (by omega) s5 (by simp) (by rw [hl]; simp), ?_⟩
 have := numQ_enc (l := l) (p := ((textB f.fa ++ textB f.fb ++ textB f.ct ++ encN f.se).length : Int)) (a := textB f.fa ++ textB f.fb ++ textB f.ct ++ encN f.se) (app_B (app_B (app_B a1 a2) a3) a4) hT s6 hix (by simp) (by rw [hl])
 exact this
theorem layOps_B' {l : List S36} {b : List Int} (hb : isB b) : isB (layOps b l) := layOps_B l b hb
theorem opsQ_enc {r l : List Int} (hr : isB r) : ∀ (L : List S36) (a : List Int) (p : Int) (o : List S36), isB a → (∀ x, x ∈ L → rightO x = true) → p = (a.length : Int) → l = a ++ layOps [] L ++ r →
 opsQ l L.length p false o = (((a ++ layOps [] L).length : Int), false, o ++ L)
 | [], a, p, o, ha, hR, hp, hl => by
   unfold opsQ
   subst hp
   simp [layOps]
 | x :: L, a, p, o, ha, hR, hp, hl => by
   have hx := hR x (by simp)
   have hsz := layF_size x
   rw [layOps_cons] at hl
   have hT : texQ 1048576 l p false = ((layF x).1, ((a ++ textB (layF x).1).length : Int), false) :=
    texQ_enc (r := layOps [] L ++ r) (by omega) ha (app_B (layOps_B' (fun x hx => by simp at hx)) hr) (by omega) hp (by rw [hl]; simp)
   have hb : bytesOf (layF x).1 = layO x := by
    unfold layF
    rw [if_pos hx]
    exact bytes_nums (layO_B hx)
   rw [List.length_cons]
   unfold opsQ
   rw [if_pos rfl, hT]
   dsimp only
   rw [hb, readO_enc hx]
   dsimp only
   show opsQ l L.length _ false _ = _
   rw [opsQ_enc hr L (a ++ textB (layF x).1) _ (o ++ [x]) (app_B ha (textB_B _ (by omega))) (fun y hy => hR y (by simp [hy])) rfl (by rw [hl]; simp), layOps_cons]
   simp
theorem anyB_right {f : Fr} (h : (!f.op.any (badO f.ct)) = true) : ∀ x, x ∈ f.op → rightO x = true := fun x hx => by
 have h' : f.op.any (badO f.ct) = false := by simpa using h
 have hn : ¬ badO f.ct x = true := fun hb => by
  have := List.any_eq_true.2 ⟨x, hx, hb⟩
  rw [h'] at this
  cases this
 unfold badO at hn
 cases hr : rightO x with
 | true => rfl
 | false => rw [hr] at hn; simp at hn
theorem nilB : isB [] := fun x hx => by simp at hx
theorem rightF_ops {f : Fr} (h : rightF f = true) : ∀ x, x ∈ f.op → rightO x = true := by
 have hb := (rightF_sizes h).2.2.2.2.2.2
 unfold bodyF at hb
 by_cases h1 : f.k = 1
 · rw [if_pos h1] at hb
   simp only [Bool.and_eq_true, decide_eq_true_eq] at hb
   rw [len0 hb.1.1.2]
   simp
 · rw [if_neg h1] at hb
   by_cases h2 : f.k = 2
   · rw [if_pos h2] at hb
     rw [Bool.and_eq_true] at hb
     exact anyB_right hb.2
   · rw [if_neg h2] at hb
     simp only [Bool.and_eq_true, decide_eq_true_eq] at hb
     rw [len0 hb.1.2]
     simp
theorem readB_enc {f : Fr} (h : rightF f = true) : readB f.k (bodyB f) = (f, 0) := by
 obtain ⟨s1, s2, s3, s4, s5, s6, hb⟩ := rightF_sizes h
 have hRR := h
 have hops := rightF_ops h
 obtain ⟨k, fa, fb, ct, se, ix, mn, kn, op⟩ := f
 dsimp only at *
 have hH : isB (headB ⟨k, fa, fb, ct, se, ix, mn, kn, op⟩) ∨ True := .inr trivial
 unfold bodyF at hb
 dsimp only at hb
 have fin : ∀ (l : List Int), (∃ p1 p2 p3 p4 p5, texQ 24 l 0 false = (fa, p1, false) ∧ texQ 24 l p1 false = (fb, p2, false) ∧ texQ 32 l p2 false = (ct, p3, false) ∧ numQ l p3 false = (se, p4, false) ∧ numQ l p4 false = (ix, p5, false) ∧ restQ k l p5 false = ((l.length : Int), false, mn, kn, op)) → readB k l = (⟨k, fa, fb, ct, se, ix, mn, kn, op⟩, 0) := by
  rintro l ⟨p1, p2, p3, p4, p5, e1, e2, e3, e4, e5, e6⟩
  unfold readB
  rw [e1]
  dsimp only
  rw [e2]
  dsimp only
  rw [e3]
  dsimp only
  rw [e4]
  dsimp only
  rw [e5]
  dsimp only
  rw [e6]
  dsimp only
  rw [if_neg]
  rintro (q | q | q)
  · cases q
  · exact q rfl
  · rw [hRR] at q; cases q
 apply fin
 have hhB : ∀ hix : ix ≤ 1152921504606846976, isB (headB ⟨k, fa, fb, ct, se, ix, mn, kn, op⟩) := fun hix => by
  rw [headB_eq]
  exact app_B (app_B (app_B (app_B (textB_B _ (by show fa.size ≤ 1000000; omega)) (textB_B _ (by show fb.size ≤ 1000000; omega))) (textB_B _ (by show ct.size ≤ 1000000; omega))) (enc_R (by show 0 ≤ se; omega) s5)) (enc_R s6 hix)
 unfold bodyB
 dsimp only
 by_cases k1 : k = 1
 · rw [if_pos k1] at hb ⊢
   simp only [Bool.and_eq_true, decide_eq_true_eq] at hb
   have hix := hb.2
   obtain ⟨p1, p2, p3, p4, e1, e2, e3, e4, e5⟩ := head_enc hRR hix (layV_B hb.1.2) rfl
   refine ⟨p1, p2, p3, p4, _, e1, e2, e3, e4, e5, ?_⟩
   unfold restQ
   rw [if_neg (by simp), if_pos k1]
   have hv := vec_enc_at (headB ⟨k, fa, fb, ct, se, ix, mn, kn, op⟩) [] (hhB hix) nilB kn hb.1.2
   rw [List.append_nil] at hv
   try dsimp only at hv
   try dsimp only
   rw [hv, len0 hb.1.1.2, hb.1.1.1]
   rfl
 · rw [if_neg k1] at hb ⊢
   by_cases k2 : k = 2
   · rw [if_pos k2] at hb ⊢
     simp only [Bool.and_eq_true, decide_eq_true_eq] at hb
     have hix : ix ≤ 1152921504606846976 := by omega
     rw [layOps_app]
     have hm := enc_R (n := mn) (by omega) (by omega)
     have hn := enc_R (n := (op.length : Int)) (by omega) (by omega)
     have hL := layOps_B' (l := op) nilB
     obtain ⟨p1, p2, p3, p4, e1, e2, e3, e4, e5⟩ := head_enc hRR hix (app_B hm (app_B hn hL)) (l := headB ⟨k, fa, fb, ct, se, ix, mn, kn, op⟩ ++ encN mn ++ encN (op.length : Int) ++ layOps [] op) (by simp)
     refine ⟨p1, p2, p3, p4, _, e1, e2, e3, e4, e5, ?_⟩
     unfold restQ
     rw [if_neg (by simp), if_neg k1, if_pos k2]
     have q1 := numQ_enc (l := headB ⟨k, fa, fb, ct, se, ix, mn, kn, op⟩ ++ encN mn ++ encN (op.length : Int) ++ layOps [] op) (a := headB ⟨k, fa, fb, ct, se, ix, mn, kn, op⟩) (hhB hix) (app_B hn hL) (n := mn) (by omega) (by omega) rfl (by simp)
     have q2 := numQ_enc (l := headB ⟨k, fa, fb, ct, se, ix, mn, kn, op⟩ ++ encN mn ++ encN (op.length : Int) ++ layOps [] op) (a := headB ⟨k, fa, fb, ct, se, ix, mn, kn, op⟩ ++ encN mn) (app_B (hhB hix) hm) hL (n := (op.length : Int)) (by omega) (by omega) rfl (by simp)
     have q3 := opsQ_enc (r := []) (l := headB ⟨k, fa, fb, ct, se, ix, mn, kn, op⟩ ++ encN mn ++ encN (op.length : Int) ++ layOps [] op) nilB op (headB ⟨k, fa, fb, ct, se, ix, mn, kn, op⟩ ++ encN mn ++ encN (op.length : Int)) _ [] (app_B (app_B (hhB hix) hm) hn) hops rfl (by simp)
     dsimp only
     rw [q1]
     dsimp only
     rw [q2]
     dsimp only
     rw [Int.toNat_natCast, q3, len0 hb.1.1.1.1.1]
     rfl
   · rw [if_neg k2] at hb ⊢
     simp only [Bool.and_eq_true, decide_eq_true_eq] at hb
     have hix : ix ≤ 1152921504606846976 := by omega
     obtain ⟨p1, p2, p3, p4, e1, e2, e3, e4, e5⟩ := head_enc (T := []) hRR hix nilB (by rw [List.append_nil])
     refine ⟨p1, p2, p3, p4, _, e1, e2, e3, e4, e5, ?_⟩
     unfold restQ
     rw [if_neg (by simp), if_neg k1, if_neg k2, len0 hb.1.2, len0 hb.1.1.2, hb.1.1.1.2]
theorem bodyB_len {f : Fr} (h : rightF f = true) : (bodyB f).length ≤ 200000 := by
 obtain ⟨s1, s2, s3, s4, s5, s6, hb⟩ := rightF_sizes h
 have t1 := textB_len f.fa
 have t2 := textB_len f.fb
 have t3 := textB_len f.ct
 have t4 := encN_len f.se
 have t5 := encN_len f.ix
 have hh : (headB f).length ≤ 200 := by
  rw [headB_eq]
  simp only [List.length_append]
  omega
 unfold bodyF at hb
 unfold bodyB
 by_cases k1 : f.k = 1
 · rw [if_pos k1] at hb ⊢
   simp only [Bool.and_eq_true, decide_eq_true_eq] at hb
   have := layS_len f.kn hb.1.2
   rw [List.length_append]
   omega
 · rw [if_neg k1] at hb ⊢
   by_cases k2 : f.k = 2
   · rw [if_pos k2] at hb ⊢
     simp only [Bool.and_eq_true, decide_eq_true_eq] at hb
     have h1 := layOps_len f.op (headB f ++ encN f.mn ++ encN (f.op.length : Int))
     have t6 := encN_len f.mn
     have t7 := encN_len (f.op.length : Int)
     simp only [List.length_append] at h1
     omega
   · rw [if_neg k2]
     omega
theorem rightF_k {f : Fr} (h : rightF f = true) : 0 ≤ f.k ∧ f.k ≤ 255 := by
 have hb := (rightF_sizes h).2.2.2.2.2.2
 unfold bodyF at hb
 by_cases k1 : f.k = 1
 · omega
 · rw [if_neg k1] at hb
   by_cases k2 : f.k = 2
   · omega
   · rw [if_neg k2] at hb
     simp only [Bool.and_eq_true, decide_eq_true_eq] at hb
     omega
theorem sumB_B (l : List Int) : isB (sumB l) := fun x hx => by
 unfold sumB at hx
 simp only [List.mem_cons, List.not_mem_nil, or_false] at hx
 omega
theorem sealT_B {f : Fr} (h : rightF f = true) : isB (sealT f.k (bodyB f)) := by
 have hk : 0 ≤ f.k ∧ f.k ≤ 255 := rightF_k h
 unfold sealT
 refine app_B (app_B (a := f.k :: encN _) (fun x hx => ?_) (bodyB_B h)) (sumB_B _)
 rcases List.mem_cons.1 hx with e | e
 · omega
 · exact enc_R (by omega) (by have := bodyB_len h; omega) x e
theorem readF_enc {f : Fr} (h : rightF f = true) : readF (sealT f.k (bodyB f)) = (f, 0) := by
 have hB := bodyB_B h
 have hlen := bodyB_len h
 have hk := rightF_k h
 obtain ⟨t, ht⟩ : ∃ t, strOfNums (bodyB f) = t := ⟨_, rfl⟩
 have htb : bytesOf t = bodyB f := by rw [← ht]; exact bytes_nums hB
 have hts : (t.size : Int) = ((bodyB f).length : Int) := by rw [← htb, bytesOf_length]
 obtain ⟨S, hS⟩ : ∃ S, sumB (f.k :: encN ((bodyB f).length : Int) ++ bodyB f) = S := ⟨_, rfl⟩
 have hSB : isB S := by rw [← hS]; exact sumB_B _
 have hSl : S.length = 4 := by rw [← hS]; rfl
 have hkB : isB [f.k] := fun x hx => by
  rw [List.mem_singleton] at hx
  omega
 have hs : sealT f.k (bodyB f) = [f.k] ++ textB t ++ S := by
  unfold sealT textB
  rw [hS, htb, hts]
  simp
 have hT := take_textM 1048576 (by omega) [f.k] S hkB hSB t (by omega)
 have hop : openS (sealT f.k (bodyB f)) = (f.k, t, ((sealT f.k (bodyB f)).length : Int), 0) := by
  rw [hs]
  unfold openS
  have e1 : ([f.k].length : Int) = 1 := rfl
  rw [e1] at hT
  rw [if_neg (by simp), hT]
  dsimp only
  have el : (([f.k] ++ textB t ++ S).length : Int) = (([f.k] ++ textB t).length : Int) + 4 := by
   have : ([f.k] ++ textB t ++ S).length = ([f.k] ++ textB t).length + 4 := by rw [List.length_append, hSl]
   omega
  rw [if_pos rfl, if_neg (by omega), el, if_pos]
  · rfl
  · have n1 : (([f.k] ++ textB t).length : Int).toNat = ([f.k] ++ textB t).length := Int.toNat_natCast _
    have n2 : ((([f.k] ++ textB t).length : Int) + 4).toNat = ([f.k] ++ textB t ++ S).length := by omega
    rw [n1, n2, List.take_length, List.take_left, List.drop_left]
    rw [← hS]
    unfold textB
    rw [htb, hts]
    simp
 unfold readF
 rw [hop]
 dsimp only
 rw [if_neg (by simp), htb]
 exact readB_enc h
theorem sameL_iff : ∀ {l m : List S36}, sameL l m = true → l = m
 | [], [], _ => rfl
 | [], _ :: _, h => by cases h
 | _ :: _, [], h => by cases h
 | x :: l, y :: m, h => by
   unfold sameL at h
   rw [Bool.and_eq_true] at h
   have h1 := h.1
   unfold sameO at h1
   simp only [Bool.and_eq_true, decide_eq_true_eq] at h1
   rw [h1.2, sameL_iff h.2]
theorem sameL_refl : ∀ {l : List S36}, (∀ x, x ∈ l → rightO x = true) → sameL l l = true
 | [], _ => rfl
 | x :: l, h => by
   unfold sameL
   rw [sameL_refl (fun y hy => h y (by simp [hy]))]
   unfold sameO
   rw [h x (by simp)]
   simp
theorem sameF_refl {f : Fr} (h : rightF f = true) : sameF f f = true := by
 unfold sameF equalF
 rw [h, sameL_refl (rightF_ops h)]
 simp
theorem sameF_eq {f g : Fr} (h : sameF f g = true) : f = g := by
 unfold sameF equalF at h
 simp only [Bool.and_eq_true, decide_eq_true_eq] at h
 obtain ⟨_, ⟨⟨⟨⟨⟨⟨⟨⟨a, b⟩, c⟩, d⟩, e⟩, i⟩, m⟩, n⟩, o⟩⟩ := h
 have o' := sameL_iff o
 cases f
 cases g
 dsimp only at *
 subst a b c d e i m n o'
 rfl
theorem readF_err (s : List Int) : (readF s).2 = 0 ∨ (readF s).2 = 110 := by
 unfold readF
 by_cases h : (openS s).2.2.2 ≠ 0 ∨ (openS s).2.2.1 ≠ s.length
 · rw [if_pos h]; exact .inr rfl
 · rw [if_neg h]
   unfold readB
   dsimp only
   split
   · exact .inr rfl
   · exact .inl rfl
theorem readF_back {f : Fr} (h : rightF f = true) : readF (bytesOf (layFr f).1) = (f, 0) := by
 unfold layFr
 rw [if_pos h]
 dsimp only
 rw [bytes_nums (sealT_B h)]
 exact readF_enc h
theorem readF_one {s t : ByteArray} {f g : Fr} (hf : layFr f = (s, 0)) (hg : readF (bytesOf t) = (g, 0)) (h : sameF f g = true) : s = t := by
 have h1 := (readF_is (bytes_B t) (by rw [hg])).2
 rw [hg, ← sameF_eq h, hf] at h1
 simp only [Prod.mk.injEq, and_true] at h1
 rw [h1]
 exact nums_bytes t
end Go.Proofs.Ytenbkljgmgdegaa.PO
end
section
namespace Go.Proofs.Ytenbkljgmgdegaa.PO
open Go.RowKit Go.Proofs.YtenbkljgmgdegaaW.PrintWords Go.Proofs.YtenbkljgmgdegaaW.PrintLast Go.Proofs.YtenbkljgmgdegaaW.PrintMore
attribute [local go_sem] max2_int min2_int max_two min_two max_three min_three max_four min_four   -- for this text's walks alone
set_option linter.unusedVariables false
set_option linter.unusedSimpArgs false
def pannierref14_Equal.f (k : Nat) (a0_0 : Int) (a0_1 : ByteArray) (a0_2 : ByteArray) (a0_3 : ByteArray) (a0_4 : Int) (a0_5 : Int) (a0_6 : Int) (l0_7 : List (S34)) (l0_8 : List (S36)) (a1_0 : Int) (a1_1 : ByteArray) (a1_2 : ByteArray) (a1_3 : ByteArray) (a1_4 : Int) (a1_5 : Int) (a1_6 : Int) (l1_7 : List (S34)) (l1_8 : List (S36)) : Option (Bool) := (pannierref07_Same.f k l0_7 l1_7).bind fun t233 => ((pannierref08_SameOps.f k l0_8 l1_8).bind fun t234 => (if t233 = true then (if t234 = true then (if a0_0 = a1_0 then (if a0_1.toList = a1_1.toList then (if a0_2.toList = a1_2.toList then (if a0_3.toList = a1_3.toList then (if a0_4 = a1_4 then (if a0_5 = a1_5 then (some (a0_6 == a1_6)) else (some false)) else (some false)) else (some false)) else (some false)) else (some false)) else (some false)) else (some false)) else (some false)))
set_option maxHeartbeats 8000000 in
set_option maxRecDepth 100000 in
theorem pannierref14_Equal.calls (k : Nat) (a0_0 : Int) (a0_1 : ByteArray) (a0_2 : ByteArray) (a0_3 : ByteArray) (a0_4 : Int) (a0_5 : Int) (a0_6 : Int) (A0_7 : Option Addr) (c0_7 : Nat) (l0_7 : List (S34)) (A0_8 : Option Addr) (c0_8 : Nat) (l0_8 : List (S36)) (a1_0 : Int) (a1_1 : ByteArray) (a1_2 : ByteArray) (a1_3 : ByteArray) (a1_4 : Int) (a1_5 : Int) (a1_6 : Int) (A1_7 : Option Addr) (c1_7 : Nat) (l1_7 : List (S34)) (A1_8 : Option Addr) (c1_8 : Nat) (l1_8 : List (S36)) (r : Bool) (w : World) (hr0_7 : Kd.C k34 w A0_7 l0_7.length l0_7) (hc0_7 : l0_7.length ≤ c0_7) (hr0_8 : Kd.C k36 w A0_8 l0_8.length l0_8) (hc0_8 : l0_8.length ≤ c0_8) (hr1_7 : Kd.C k34 w A1_7 l1_7.length l1_7) (hc1_7 : l1_7.length ≤ c1_7) (hr1_8 : Kd.C k36 w A1_8 l1_8.length l1_8) (hc1_8 : l1_8.length ≤ c1_8) (h : pannierref14_Equal.f k a0_0 a0_1 a0_2 a0_3 a0_4 a0_5 a0_6 l0_7 l0_8 a1_0 a1_1 a1_2 a1_3 a1_4 a1_5 a1_6 l1_7 l1_8 = some r) :
 Calls Try.prog 34 #[.agg #[.int .i64 a0_0, .string a0_1, .string a0_2, .string a0_3, .int .i64 a0_4, .int .i64 a0_5, .int .i64 a0_6, .slice A0_7 l0_7.length c0_7, .slice A0_8 l0_8.length c0_8], .agg #[.int .i64 a1_0, .string a1_1, .string a1_2, .string a1_3, .int .i64 a1_4, .int .i64 a1_5, .int .i64 a1_6, .slice A1_7 l1_7.length c1_7, .slice A1_8 l1_8.length c1_8]] w fun e w' => e = .returned (.bool r) ∧ Below w.heap.size w w' := by
 have hu54 := Try.underlying54
 have HR0_7 := Aside0.mk hr0_7
 have HC0_7 := Aside0.mk hc0_7
 clear hr0_7 hc0_7
 have HR0_8 := Aside0.mk hr0_8
 have HC0_8 := Aside0.mk hc0_8
 clear hr0_8 hc0_8
 have HR1_7 := Aside0.mk hr1_7
 have HC1_7 := Aside0.mk hc1_7
 clear hr1_7 hc1_7
 have HR1_8 := Aside0.mk hr1_8
 have HC1_8 := Aside0.mk hc1_8
 clear hr1_8 hc1_8
 have HB := Aside0.mk (Below.refl w.heap.size w)
 have H : ((pannierref07_Same.f k l0_7 l1_7).bind fun t233 => ((pannierref08_SameOps.f k l0_8 l1_8).bind fun t234 => (if t233 = true then (if t234 = true then (if a0_0 = a1_0 then (if a0_1.toList = a1_1.toList then (if a0_2.toList = a1_2.toList then (if a0_3.toList = a1_3.toList then (if a0_4 = a1_4 then (if a0_5 = a1_5 then (some (a0_6 == a1_6)) else (some false)) else (some false)) else (some false)) else (some false)) else (some false)) else (some false)) else (some false)) else (some false)))) = some r := h
 clear h
 replace H := Option.bind_eq_some_iff.mp H
 obtain ⟨t233, A30, H⟩ := H
 replace H : ((pannierref08_SameOps.f k l0_8 l1_8).bind fun t234 => (if t233 = true then (if t234 = true then (if a0_0 = a1_0 then (if a0_1.toList = a1_1.toList then (if a0_2.toList = a1_2.toList then (if a0_3.toList = a1_3.toList then (if a0_4 = a1_4 then (if a0_5 = a1_5 then (some (a0_6 == a1_6)) else (some false)) else (some false)) else (some false)) else (some false)) else (some false)) else (some false)) else (some false)) else (some false))) = some r := H
 have A3 := Aside0.mk A30
 clear A30
 replace H := Option.bind_eq_some_iff.mp H
 obtain ⟨t234, A40, H⟩ := H
 replace H : (if t233 = true then (if t234 = true then (if a0_0 = a1_0 then (if a0_1.toList = a1_1.toList then (if a0_2.toList = a1_2.toList then (if a0_3.toList = a1_3.toList then (if a0_4 = a1_4 then (if a0_5 = a1_5 then (some (a0_6 == a1_6)) else (some false)) else (some false)) else (some false)) else (some false)) else (some false)) else (some false)) else (some false)) else (some false)) = some r := H
 have A4 := Aside0.mk A40
 clear A40
 by_cases c5 : t233 = true
 subst c5
 have H1 : (if t234 = true then (if a0_0 = a1_0 then (if a0_1.toList = a1_1.toList then (if a0_2.toList = a1_2.toList then (if a0_3.toList = a1_3.toList then (if a0_4 = a1_4 then (if a0_5 = a1_5 then (some (a0_6 == a1_6)) else (some false)) else (some false)) else (some false)) else (some false)) else (some false)) else (some false)) else (some false)) = some r := by rw [if_pos rfl] at H; exact H
 clear H
 have H := H1
 clear H1
 by_cases c6 : t234 = true
 subst c6
 have H1 : (if a0_0 = a1_0 then (if a0_1.toList = a1_1.toList then (if a0_2.toList = a1_2.toList then (if a0_3.toList = a1_3.toList then (if a0_4 = a1_4 then (if a0_5 = a1_5 then (some (a0_6 == a1_6)) else (some false)) else (some false)) else (some false)) else (some false)) else (some false)) else (some false)) = some r := by rw [if_pos rfl] at H; exact H
 clear H
 have H := H1
 clear H1
 by_cases c7 : a0_0 = a1_0
 rw [if_pos c7] at H
 have c7b0 : (a0_0 == a1_0) = true := beq_iff_eq.mpr c7
 have c7b1 : (a0_0 != a1_0) = false := bne_eq_false_iff_eq.mpr c7
 clear c7
 by_cases c8 : a0_1.toList = a1_1.toList
 rw [if_pos c8] at H
 have c8b0 : (a0_1.toList == a1_1.toList) = true := beq_iff_eq.mpr c8
 have c8b1 : (a0_1.toList != a1_1.toList) = false := bne_eq_false_iff_eq.mpr c8
 clear c8
 by_cases c9 : a0_2.toList = a1_2.toList
 rw [if_pos c9] at H
 have c9b0 : (a0_2.toList == a1_2.toList) = true := beq_iff_eq.mpr c9
 have c9b1 : (a0_2.toList != a1_2.toList) = false := bne_eq_false_iff_eq.mpr c9
 clear c9
 by_cases c10 : a0_3.toList = a1_3.toList
 rw [if_pos c10] at H
 have c10b0 : (a0_3.toList == a1_3.toList) = true := beq_iff_eq.mpr c10
 have c10b1 : (a0_3.toList != a1_3.toList) = false := bne_eq_false_iff_eq.mpr c10
 clear c10
 by_cases c11 : a0_4 = a1_4
 rw [if_pos c11] at H
 have c11b0 : (a0_4 == a1_4) = true := beq_iff_eq.mpr c11
 have c11b1 : (a0_4 != a1_4) = false := bne_eq_false_iff_eq.mpr c11
 clear c11
 by_cases c12 : a0_5 = a1_5
 rw [if_pos c12] at H
 have c12b0 : (a0_5 == a1_5) = true := beq_iff_eq.mpr c12
 have c12b1 : (a0_5 != a1_5) = false := bne_eq_false_iff_eq.mpr c12
 clear c12
 obtain rfl := Option.some.inj H
 rotate_left
 rw [if_neg c12] at H
 have c12b0 : (a0_5 == a1_5) = false := beq_eq_false_iff_ne.mpr c12
 have c12b1 : (a0_5 != a1_5) = true := bne_iff_ne.mpr c12
 obtain rfl := Option.some.inj H
 rotate_left
 rw [if_neg c11] at H
 have c11b0 : (a0_4 == a1_4) = false := beq_eq_false_iff_ne.mpr c11
 have c11b1 : (a0_4 != a1_4) = true := bne_iff_ne.mpr c11
 obtain rfl := Option.some.inj H
 rotate_left
 rw [if_neg c10] at H
 have c10b0 : (a0_3.toList == a1_3.toList) = false := beq_eq_false_iff_ne.mpr c10
 have c10b1 : (a0_3.toList != a1_3.toList) = true := bne_iff_ne.mpr c10
 obtain rfl := Option.some.inj H
 rotate_left
 rw [if_neg c9] at H
 have c9b0 : (a0_2.toList == a1_2.toList) = false := beq_eq_false_iff_ne.mpr c9
 have c9b1 : (a0_2.toList != a1_2.toList) = true := bne_iff_ne.mpr c9
 obtain rfl := Option.some.inj H
 rotate_left
 rw [if_neg c8] at H
 have c8b0 : (a0_1.toList == a1_1.toList) = false := beq_eq_false_iff_ne.mpr c8
 have c8b1 : (a0_1.toList != a1_1.toList) = true := bne_iff_ne.mpr c8
 obtain rfl := Option.some.inj H
 rotate_left
 rw [if_neg c7] at H
 have c7b0 : (a0_0 == a1_0) = false := beq_eq_false_iff_ne.mpr c7
 have c7b1 : (a0_0 != a1_0) = true := bne_iff_ne.mpr c7
 obtain rfl := Option.some.inj H
 rotate_left
 · replace c6 := Bool.eq_false_iff.mpr c6
   subst c6
   have H1 : (some false) = some r := by rw [if_neg (show ¬ (false = true) by decide)] at H; exact H
   clear H
   have H := H1
   clear H1
   obtain rfl := Option.some.inj H
   go_enter Try.func34, Try.ntmps34
   go_wp2_with (first | ((with_reducible refine gate_dst (N := 2) rfl ?_); refine box_event ?hg (N := 2) ?hd (cs := #[.int .i64 a0_0, .string a0_1, .string a0_2, .string a0_3, .int .i64 a0_4, .int .i64 a0_5, .int .i64 a0_6, .slice A0_7 l0_7.length c0_7, .slice A0_8 l0_8.length c0_8]) (t := 54) ?hr ?_; (case hd => rfl); (case hg => rfl); (case hr => first | (go_simp; done) | (go_simp; rfl)); intro gb231 hg w69 hbox hb; have n0_ := Aside0.mk (below_step (by repeat (first | (with_reducible first | exact HB.out | apply below_alloc | apply pw_below_drewN | apply below_drew1) | exact HB.out)) hb); have n1_ := Aside0.mk (hbox); have n2_ := Aside0.mk ((by rw [hg]; exact (below_size (by repeat (first | (with_reducible first | exact HB.out | apply below_alloc | apply pw_below_drewN | apply below_drew1) | exact HB.out))) : w.heap.size ≤ gb231)); have n3_ := Aside0.mk ((by rw [hg]; exact (below_size (by repeat (first | (with_reducible first | exact HB.out | apply below_alloc | apply pw_below_drewN | apply below_drew1) | exact HB.out))) : w.heap.size ≤ gb231)); clear HB; have HB := n0_; have BK231 := n1_; have GW231 := n2_; have GE231 := n3_; clear n0_ n1_ n2_ n3_; clear hb hbox hg) | ((with_reducible refine gate_dst (N := 3) rfl ?_); refine box_event ?hg (N := 3) ?hd (cs := #[.int .i64 a1_0, .string a1_1, .string a1_2, .string a1_3, .int .i64 a1_4, .int .i64 a1_5, .int .i64 a1_6, .slice A1_7 l1_7.length c1_7, .slice A1_8 l1_8.length c1_8]) (t := 54) ?hr ?_; (case hd => rfl); (case hg => rfl); (case hr => first | (go_simp; done) | (go_simp; rfl)); intro gb232 hg w70 hbox hb; have n0_ := Aside0.mk (blk_below (g := gb231) (o := .cells #[.int .i64 a0_0, .string a0_1, .string a0_2, .string a0_3, .int .i64 a0_4, .int .i64 a0_5, .int .i64 a0_6, .slice A0_7 l0_7.length c0_7, .slice A0_8 l0_8.length c0_8] 54 (0, 0)) (by (with_reducible repeat (first | refine blk_drewN ?_ _ | refine blk_drew ?_ | refine blk_alloc ?_ _)); exact BK231.out) hb); have n1_ := Aside0.mk (below_step (by repeat (first | (with_reducible first | exact HB.out | apply below_alloc | apply pw_below_drewN | apply below_drew1 | refine below_set ?_ GE231.out) | exact HB.out)) hb); have n2_ := Aside0.mk (hbox); have n3_ := Aside0.mk ((by rw [hg]; exact (below_size (by repeat (first | (with_reducible first | exact HB.out | apply below_alloc | apply pw_below_drewN | apply below_drew1 | refine below_set ?_ GE231.out) | exact HB.out))) : w.heap.size ≤ gb232)); have n4_ := Aside0.mk ((by rw [hg]; exact (below_size (by repeat (first | (with_reducible first | exact HB.out | apply below_alloc | apply pw_below_drewN | apply below_drew1 | refine below_set ?_ GE231.out) | exact HB.out))) : w.heap.size ≤ gb232)); have n5_ := Aside0.mk ((by rw [hg]; exact Nat.ne_of_lt (blk_lt (g := gb231) (o := .cells #[.int .i64 a0_0, .string a0_1, .string a0_2, .string a0_3, .int .i64 a0_4, .int .i64 a0_5, .int .i64 a0_6, .slice A0_7 l0_7.length c0_7, .slice A0_8 l0_8.length c0_8] 54 (0, 0)) (by (with_reducible repeat (first | refine blk_drewN ?_ _ | refine blk_drew ?_ | refine blk_alloc ?_ _)); exact BK231.out)) : gb231 ≠ gb232)); have n6_ := Aside0.mk ((by rw [hg]; exact Nat.ne_of_gt (blk_lt (g := gb231) (o := .cells #[.int .i64 a0_0, .string a0_1, .string a0_2, .string a0_3, .int .i64 a0_4, .int .i64 a0_5, .int .i64 a0_6, .slice A0_7 l0_7.length c0_7, .slice A0_8 l0_8.length c0_8] 54 (0, 0)) (by (with_reducible repeat (first | refine blk_drewN ?_ _ | refine blk_drew ?_ | refine blk_alloc ?_ _)); exact BK231.out)) : gb232 ≠ gb231)); clear BK231; clear HB; have BK231 := n0_; have HB := n1_; have BK232 := n2_; have GW232 := n3_; have GE232 := n4_; have NB231_232 := n5_; have NB232_231 := n6_; clear n0_ n1_ n2_ n3_ n4_ n5_ n6_; clear hb hbox hg; have hnb71 := NB231_232.out; have hnc71 := NB232_231.out; have hcz72_0 : w70.cell? ⟨gb231, 0, none⟩ = some (.int .i64 a0_0) := (blk_cell BK231.out 0).trans rfl; have hcz72_1 : w70.cell? ⟨gb231, 1, none⟩ = some (.string a0_1) := (blk_cell BK231.out 1).trans rfl; have hcz72_2 : w70.cell? ⟨gb231, 2, none⟩ = some (.string a0_2) := (blk_cell BK231.out 2).trans rfl; have hcz72_3 : w70.cell? ⟨gb231, 3, none⟩ = some (.string a0_3) := (blk_cell BK231.out 3).trans rfl; have hcz72_4 : w70.cell? ⟨gb231, 4, none⟩ = some (.int .i64 a0_4) := (blk_cell BK231.out 4).trans rfl; have hcz72_5 : w70.cell? ⟨gb231, 5, none⟩ = some (.int .i64 a0_5) := (blk_cell BK231.out 5).trans rfl; have hcz72_6 : w70.cell? ⟨gb231, 6, none⟩ = some (.int .i64 a0_6) := (blk_cell BK231.out 6).trans rfl; have hcz72_7 : w70.cell? ⟨gb231, 7, none⟩ = some (.slice A0_7 l0_7.length c0_7) := (blk_cell BK231.out 7).trans rfl; have hcz72_8 : w70.cell? ⟨gb231, 8, none⟩ = some (.slice A0_8 l0_8.length c0_8) := (blk_cell BK231.out 8).trans rfl; have hfz72_0 := blk_frozen BK231.out 0; have hfz72_1 := blk_frozen BK231.out 1; have hfz72_2 := blk_frozen BK231.out 2; have hfz72_3 := blk_frozen BK231.out 3; have hfz72_4 := blk_frozen BK231.out 4; have hfz72_5 := blk_frozen BK231.out 5; have hfz72_6 := blk_frozen BK231.out 6; have hfz72_7 := blk_frozen BK231.out 7; have hfz72_8 := blk_frozen BK231.out 8; have hcz73_0 : w70.cell? ⟨gb232, 0, none⟩ = some (.int .i64 a1_0) := (blk_cell BK232.out 0).trans rfl; have hcz73_1 : w70.cell? ⟨gb232, 1, none⟩ = some (.string a1_1) := (blk_cell BK232.out 1).trans rfl; have hcz73_2 : w70.cell? ⟨gb232, 2, none⟩ = some (.string a1_2) := (blk_cell BK232.out 2).trans rfl; have hcz73_3 : w70.cell? ⟨gb232, 3, none⟩ = some (.string a1_3) := (blk_cell BK232.out 3).trans rfl; have hcz73_4 : w70.cell? ⟨gb232, 4, none⟩ = some (.int .i64 a1_4) := (blk_cell BK232.out 4).trans rfl; have hcz73_5 : w70.cell? ⟨gb232, 5, none⟩ = some (.int .i64 a1_5) := (blk_cell BK232.out 5).trans rfl; have hcz73_6 : w70.cell? ⟨gb232, 6, none⟩ = some (.int .i64 a1_6) := (blk_cell BK232.out 6).trans rfl; have hcz73_7 : w70.cell? ⟨gb232, 7, none⟩ = some (.slice A1_7 l1_7.length c1_7) := (blk_cell BK232.out 7).trans rfl; have hcz73_8 : w70.cell? ⟨gb232, 8, none⟩ = some (.slice A1_8 l1_8.length c1_8) := (blk_cell BK232.out 8).trans rfl; have hfz73_0 := blk_frozen BK232.out 0; have hfz73_1 := blk_frozen BK232.out 1; have hfz73_2 := blk_frozen BK232.out 2; have hfz73_3 := blk_frozen BK232.out 3; have hfz73_4 := blk_frozen BK232.out 4; have hfz73_5 := blk_frozen BK232.out 5; have hfz73_6 := blk_frozen BK232.out 6; have hfz73_7 := blk_frozen BK232.out 7; have hfz73_8 := blk_frozen BK232.out 8) | ((with_reducible refine gate_callee (f := 26) rfl ?_); refine goesL_ (some 11) rfl rfl Try.func26 (by kernel_rfl) rfl #[.slice A0_7 l0_7.length c0_7, .slice A1_7 l1_7.length c1_7] rfl (by (try simp only [List.map_toArray, List.map_cons, List.map_nil]); first | done | rfl | (simp only [List.length_drop, List.length_take]; rfl)) ?_; (with_reducible refine (pannierref07_Same.calls k _ _ l0_7 _ _ l1_7 true _ ?side1 ?side2 ?side3 ?side4 A3.out).mono ?_); (case side1 => repeat (first | exact (Kd.C_below HR0_7.out HB.out) | (with_reducible refine Kd.C_alloc ?_ _) | (with_reducible refine Kd.C_drewN ?_ _) | (with_reducible refine Kd.C_drew ?_))); (case side2 => exact HC0_7.out); (case side3 => repeat (first | exact (Kd.C_below HR1_7.out HB.out) | (with_reducible refine Kd.C_alloc ?_ _) | (with_reducible refine Kd.C_drewN ?_ _) | (with_reducible refine Kd.C_drew ?_))); (case side4 => exact HC1_7.out); rintro e w' ⟨rfl, ⟨nd, rfl⟩⟩; refine ⟨_, rfl, ?_⟩) | ((with_reducible refine gate_callee (f := 21) rfl ?_); refine goesL_ (some 16) rfl rfl Try.func21 (by kernel_rfl) rfl #[.slice A0_8 l0_8.length c0_8, .slice A1_8 l1_8.length c1_8] rfl (by (try simp only [List.map_toArray, List.map_cons, List.map_nil]); first | done | rfl | (simp only [List.length_drop, List.length_take]; rfl)) ?_; (with_reducible refine (pannierref08_SameOps.calls k _ _ l0_8 _ _ l1_8 false _ ?side1 ?side2 ?side3 ?side4 A4.out).mono ?_); (case side1 => repeat (first | exact (Kd.C_below HR0_8.out (by repeat (first | (with_reducible first | exact HB.out | apply below_alloc | apply pw_below_drewN | apply below_drew1 | refine below_set ?_ GE231.out | refine below_set ?_ GE232.out) | exact HB.out))) | (with_reducible refine Kd.C_alloc ?_ _) | (with_reducible refine Kd.C_drewN ?_ _) | (with_reducible refine Kd.C_drew ?_))); (case side2 => exact HC0_8.out); (case side3 => repeat (first | exact (Kd.C_below HR1_8.out (by repeat (first | (with_reducible first | exact HB.out | apply below_alloc | apply pw_below_drewN | apply below_drew1 | refine below_set ?_ GE231.out | refine below_set ?_ GE232.out) | exact HB.out))) | (with_reducible refine Kd.C_alloc ?_ _) | (with_reducible refine Kd.C_drewN ?_ _) | (with_reducible refine Kd.C_drew ?_))); (case side4 => exact HC1_8.out); rintro e w74 ⟨rfl, hb⟩; refine ⟨_, rfl, ?_⟩; have n0_ := Aside0.mk (blk_below (g := gb231) (o := .cells #[.int .i64 a0_0, .string a0_1, .string a0_2, .string a0_3, .int .i64 a0_4, .int .i64 a0_5, .int .i64 a0_6, .slice A0_7 l0_7.length c0_7, .slice A0_8 l0_8.length c0_8] 54 (0, 0)) (by (with_reducible repeat (first | refine blk_drewN ?_ _ | refine blk_drew ?_ | refine blk_alloc ?_ _)); exact BK231.out) hb); have n1_ := Aside0.mk (blk_below (g := gb232) (o := .cells #[.int .i64 a1_0, .string a1_1, .string a1_2, .string a1_3, .int .i64 a1_4, .int .i64 a1_5, .int .i64 a1_6, .slice A1_7 l1_7.length c1_7, .slice A1_8 l1_8.length c1_8] 54 (0, 0)) (by (with_reducible repeat (first | refine blk_drewN ?_ _ | refine blk_drew ?_ | refine blk_alloc ?_ _)); exact BK232.out) hb); have n2_ := Aside0.mk (below_step (by repeat (first | (with_reducible first | exact HB.out | apply below_alloc | apply pw_below_drewN | apply below_drew1 | refine below_set ?_ GE231.out | refine below_set ?_ GE232.out) | exact HB.out)) hb); clear BK231; clear BK232; clear HB; have BK231 := n0_; have BK232 := n1_; have HB := n2_; clear n0_ n1_ n2_; (try clear hb); (try clear hb2); (try clear hk); (try clear hi)))
   go_ret
   exact ⟨by first | rfl | (simp [errW_none, errW_some] <;> rfl) | (simp [*, errW_none, errW_some] <;> rfl), by repeat (first | (with_reducible first | exact HB.out | apply below_alloc | apply pw_below_drewN | apply below_drew1 | refine below_set ?_ GE231.out | refine below_set ?_ GE232.out) | exact HB.out)⟩
 · replace c5 := Bool.eq_false_iff.mpr c5
   subst c5
   have H1 : (some false) = some r := by rw [if_neg (show ¬ (false = true) by decide)] at H; exact H
   clear H
   have H := H1
   clear H1
   obtain rfl := Option.some.inj H
   go_enter Try.func34, Try.ntmps34
   go_wp2_with (first | ((with_reducible refine gate_dst (N := 2) rfl ?_); refine box_event ?hg (N := 2) ?hd (cs := #[.int .i64 a0_0, .string a0_1, .string a0_2, .string a0_3, .int .i64 a0_4, .int .i64 a0_5, .int .i64 a0_6, .slice A0_7 l0_7.length c0_7, .slice A0_8 l0_8.length c0_8]) (t := 54) ?hr ?_; (case hd => rfl); (case hg => rfl); (case hr => first | (go_simp; done) | (go_simp; rfl)); intro gb231 hg w75 hbox hb; have n0_ := Aside0.mk (below_step (by repeat (first | (with_reducible first | exact HB.out | apply below_alloc | apply pw_below_drewN | apply below_drew1) | exact HB.out)) hb); have n1_ := Aside0.mk (hbox); have n2_ := Aside0.mk ((by rw [hg]; exact (below_size (by repeat (first | (with_reducible first | exact HB.out | apply below_alloc | apply pw_below_drewN | apply below_drew1) | exact HB.out))) : w.heap.size ≤ gb231)); have n3_ := Aside0.mk ((by rw [hg]; exact (below_size (by repeat (first | (with_reducible first | exact HB.out | apply below_alloc | apply pw_below_drewN | apply below_drew1) | exact HB.out))) : w.heap.size ≤ gb231)); clear HB; have HB := n0_; have BK231 := n1_; have GW231 := n2_; have GE231 := n3_; clear n0_ n1_ n2_ n3_; clear hb hbox hg) | ((with_reducible refine gate_dst (N := 3) rfl ?_); refine box_event ?hg (N := 3) ?hd (cs := #[.int .i64 a1_0, .string a1_1, .string a1_2, .string a1_3, .int .i64 a1_4, .int .i64 a1_5, .int .i64 a1_6, .slice A1_7 l1_7.length c1_7, .slice A1_8 l1_8.length c1_8]) (t := 54) ?hr ?_; (case hd => rfl); (case hg => rfl); (case hr => first | (go_simp; done) | (go_simp; rfl)); intro gb232 hg w76 hbox hb; have n0_ := Aside0.mk (blk_below (g := gb231) (o := .cells #[.int .i64 a0_0, .string a0_1, .string a0_2, .string a0_3, .int .i64 a0_4, .int .i64 a0_5, .int .i64 a0_6, .slice A0_7 l0_7.length c0_7, .slice A0_8 l0_8.length c0_8] 54 (0, 0)) (by (with_reducible repeat (first | refine blk_drewN ?_ _ | refine blk_drew ?_ | refine blk_alloc ?_ _)); exact BK231.out) hb); have n1_ := Aside0.mk (below_step (by repeat (first | (with_reducible first | exact HB.out | apply below_alloc | apply pw_below_drewN | apply below_drew1 | refine below_set ?_ GE231.out) | exact HB.out)) hb); have n2_ := Aside0.mk (hbox); have n3_ := Aside0.mk ((by rw [hg]; exact (below_size (by repeat (first | (with_reducible first | exact HB.out | apply below_alloc | apply pw_below_drewN | apply below_drew1 | refine below_set ?_ GE231.out) | exact HB.out))) : w.heap.size ≤ gb232)); have n4_ := Aside0.mk ((by rw [hg]; exact (below_size (by repeat (first | (with_reducible first | exact HB.out | apply below_alloc | apply pw_below_drewN | apply below_drew1 | refine below_set ?_ GE231.out) | exact HB.out))) : w.heap.size ≤ gb232)); have n5_ := Aside0.mk ((by rw [hg]; exact Nat.ne_of_lt (blk_lt (g := gb231) (o := .cells #[.int .i64 a0_0, .string a0_1, .string a0_2, .string a0_3, .int .i64 a0_4, .int .i64 a0_5, .int .i64 a0_6, .slice A0_7 l0_7.length c0_7, .slice A0_8 l0_8.length c0_8] 54 (0, 0)) (by (with_reducible repeat (first | refine blk_drewN ?_ _ | refine blk_drew ?_ | refine blk_alloc ?_ _)); exact BK231.out)) : gb231 ≠ gb232)); have n6_ := Aside0.mk ((by rw [hg]; exact Nat.ne_of_gt (blk_lt (g := gb231) (o := .cells #[.int .i64 a0_0, .string a0_1, .string a0_2, .string a0_3, .int .i64 a0_4, .int .i64 a0_5, .int .i64 a0_6, .slice A0_7 l0_7.length c0_7, .slice A0_8 l0_8.length c0_8] 54 (0, 0)) (by (with_reducible repeat (first | refine blk_drewN ?_ _ | refine blk_drew ?_ | refine blk_alloc ?_ _)); exact BK231.out)) : gb232 ≠ gb231)); clear BK231; clear HB; have BK231 := n0_; have HB := n1_; have BK232 := n2_; have GW232 := n3_; have GE232 := n4_; have NB231_232 := n5_; have NB232_231 := n6_; clear n0_ n1_ n2_ n3_ n4_ n5_ n6_; clear hb hbox hg; have hnb77 := NB231_232.out; have hnc77 := NB232_231.out; have hcz78_0 : w76.cell? ⟨gb231, 0, none⟩ = some (.int .i64 a0_0) := (blk_cell BK231.out 0).trans rfl; have hcz78_1 : w76.cell? ⟨gb231, 1, none⟩ = some (.string a0_1) := (blk_cell BK231.out 1).trans rfl; have hcz78_2 : w76.cell? ⟨gb231, 2, none⟩ = some (.string a0_2) := (blk_cell BK231.out 2).trans rfl; have hcz78_3 : w76.cell? ⟨gb231, 3, none⟩ = some (.string a0_3) := (blk_cell BK231.out 3).trans rfl; have hcz78_4 : w76.cell? ⟨gb231, 4, none⟩ = some (.int .i64 a0_4) := (blk_cell BK231.out 4).trans rfl; have hcz78_5 : w76.cell? ⟨gb231, 5, none⟩ = some (.int .i64 a0_5) := (blk_cell BK231.out 5).trans rfl; have hcz78_6 : w76.cell? ⟨gb231, 6, none⟩ = some (.int .i64 a0_6) := (blk_cell BK231.out 6).trans rfl; have hcz78_7 : w76.cell? ⟨gb231, 7, none⟩ = some (.slice A0_7 l0_7.length c0_7) := (blk_cell BK231.out 7).trans rfl; have hcz78_8 : w76.cell? ⟨gb231, 8, none⟩ = some (.slice A0_8 l0_8.length c0_8) := (blk_cell BK231.out 8).trans rfl; have hfz78_0 := blk_frozen BK231.out 0; have hfz78_1 := blk_frozen BK231.out 1; have hfz78_2 := blk_frozen BK231.out 2; have hfz78_3 := blk_frozen BK231.out 3; have hfz78_4 := blk_frozen BK231.out 4; have hfz78_5 := blk_frozen BK231.out 5; have hfz78_6 := blk_frozen BK231.out 6; have hfz78_7 := blk_frozen BK231.out 7; have hfz78_8 := blk_frozen BK231.out 8; have hcz79_0 : w76.cell? ⟨gb232, 0, none⟩ = some (.int .i64 a1_0) := (blk_cell BK232.out 0).trans rfl; have hcz79_1 : w76.cell? ⟨gb232, 1, none⟩ = some (.string a1_1) := (blk_cell BK232.out 1).trans rfl; have hcz79_2 : w76.cell? ⟨gb232, 2, none⟩ = some (.string a1_2) := (blk_cell BK232.out 2).trans rfl; have hcz79_3 : w76.cell? ⟨gb232, 3, none⟩ = some (.string a1_3) := (blk_cell BK232.out 3).trans rfl; have hcz79_4 : w76.cell? ⟨gb232, 4, none⟩ = some (.int .i64 a1_4) := (blk_cell BK232.out 4).trans rfl; have hcz79_5 : w76.cell? ⟨gb232, 5, none⟩ = some (.int .i64 a1_5) := (blk_cell BK232.out 5).trans rfl; have hcz79_6 : w76.cell? ⟨gb232, 6, none⟩ = some (.int .i64 a1_6) := (blk_cell BK232.out 6).trans rfl; have hcz79_7 : w76.cell? ⟨gb232, 7, none⟩ = some (.slice A1_7 l1_7.length c1_7) := (blk_cell BK232.out 7).trans rfl; have hcz79_8 : w76.cell? ⟨gb232, 8, none⟩ = some (.slice A1_8 l1_8.length c1_8) := (blk_cell BK232.out 8).trans rfl; have hfz79_0 := blk_frozen BK232.out 0; have hfz79_1 := blk_frozen BK232.out 1; have hfz79_2 := blk_frozen BK232.out 2; have hfz79_3 := blk_frozen BK232.out 3; have hfz79_4 := blk_frozen BK232.out 4; have hfz79_5 := blk_frozen BK232.out 5; have hfz79_6 := blk_frozen BK232.out 6; have hfz79_7 := blk_frozen BK232.out 7; have hfz79_8 := blk_frozen BK232.out 8) | ((with_reducible refine gate_callee (f := 26) rfl ?_); refine goesL_ (some 11) rfl rfl Try.func26 (by kernel_rfl) rfl #[.slice A0_7 l0_7.length c0_7, .slice A1_7 l1_7.length c1_7] rfl (by (try simp only [List.map_toArray, List.map_cons, List.map_nil]); first | done | rfl | (simp only [List.length_drop, List.length_take]; rfl)) ?_; (with_reducible refine (pannierref07_Same.calls k _ _ l0_7 _ _ l1_7 false _ ?side1 ?side2 ?side3 ?side4 A3.out).mono ?_); (case side1 => repeat (first | exact (Kd.C_below HR0_7.out HB.out) | (with_reducible refine Kd.C_alloc ?_ _) | (with_reducible refine Kd.C_drewN ?_ _) | (with_reducible refine Kd.C_drew ?_))); (case side2 => exact HC0_7.out); (case side3 => repeat (first | exact (Kd.C_below HR1_7.out HB.out) | (with_reducible refine Kd.C_alloc ?_ _) | (with_reducible refine Kd.C_drewN ?_ _) | (with_reducible refine Kd.C_drew ?_))); (case side4 => exact HC1_7.out); rintro e w' ⟨rfl, ⟨nd, rfl⟩⟩; refine ⟨_, rfl, ?_⟩) | ((with_reducible refine gate_callee (f := 21) rfl ?_); refine goesL_ (some 16) rfl rfl Try.func21 (by kernel_rfl) rfl #[.slice A0_8 l0_8.length c0_8, .slice A1_8 l1_8.length c1_8] rfl (by (try simp only [List.map_toArray, List.map_cons, List.map_nil]); first | done | rfl | (simp only [List.length_drop, List.length_take]; rfl)) ?_; (with_reducible refine (pannierref08_SameOps.calls k _ _ l0_8 _ _ l1_8 t234 _ ?side1 ?side2 ?side3 ?side4 A4.out).mono ?_); (case side1 => repeat (first | exact (Kd.C_below HR0_8.out (by repeat (first | (with_reducible first | exact HB.out | apply below_alloc | apply pw_below_drewN | apply below_drew1 | refine below_set ?_ GE231.out | refine below_set ?_ GE232.out) | exact HB.out))) | (with_reducible refine Kd.C_alloc ?_ _) | (with_reducible refine Kd.C_drewN ?_ _) | (with_reducible refine Kd.C_drew ?_))); (case side2 => exact HC0_8.out); (case side3 => repeat (first | exact (Kd.C_below HR1_8.out (by repeat (first | (with_reducible first | exact HB.out | apply below_alloc | apply pw_below_drewN | apply below_drew1 | refine below_set ?_ GE231.out | refine below_set ?_ GE232.out) | exact HB.out))) | (with_reducible refine Kd.C_alloc ?_ _) | (with_reducible refine Kd.C_drewN ?_ _) | (with_reducible refine Kd.C_drew ?_))); (case side4 => exact HC1_8.out); rintro e w80 ⟨rfl, hb⟩; refine ⟨_, rfl, ?_⟩; have n0_ := Aside0.mk (blk_below (g := gb231) (o := .cells #[.int .i64 a0_0, .string a0_1, .string a0_2, .string a0_3, .int .i64 a0_4, .int .i64 a0_5, .int .i64 a0_6, .slice A0_7 l0_7.length c0_7, .slice A0_8 l0_8.length c0_8] 54 (0, 0)) (by (with_reducible repeat (first | refine blk_drewN ?_ _ | refine blk_drew ?_ | refine blk_alloc ?_ _)); exact BK231.out) hb); have n1_ := Aside0.mk (blk_below (g := gb232) (o := .cells #[.int .i64 a1_0, .string a1_1, .string a1_2, .string a1_3, .int .i64 a1_4, .int .i64 a1_5, .int .i64 a1_6, .slice A1_7 l1_7.length c1_7, .slice A1_8 l1_8.length c1_8] 54 (0, 0)) (by (with_reducible repeat (first | refine blk_drewN ?_ _ | refine blk_drew ?_ | refine blk_alloc ?_ _)); exact BK232.out) hb); have n2_ := Aside0.mk (below_step (by repeat (first | (with_reducible first | exact HB.out | apply below_alloc | apply pw_below_drewN | apply below_drew1 | refine below_set ?_ GE231.out | refine below_set ?_ GE232.out) | exact HB.out)) hb); clear BK231; clear BK232; clear HB; have BK231 := n0_; have BK232 := n1_; have HB := n2_; clear n0_ n1_ n2_; (try clear hb); (try clear hb2); (try clear hk); (try clear hi)))
   go_ret
   exact ⟨by first | rfl | (simp [errW_none, errW_some] <;> rfl) | (simp [*, errW_none, errW_some] <;> rfl), by repeat (first | (with_reducible first | exact HB.out | apply below_alloc | apply pw_below_drewN | apply below_drew1 | refine below_set ?_ GE231.out | refine below_set ?_ GE232.out) | exact HB.out)⟩
 all_goals (
  go_enter Try.func34, Try.ntmps34
  go_wp2_with (first | ((with_reducible refine gate_dst (N := 2) rfl ?_); refine box_event ?hg (N := 2) ?hd (cs := #[.int .i64 a0_0, .string a0_1, .string a0_2, .string a0_3, .int .i64 a0_4, .int .i64 a0_5, .int .i64 a0_6, .slice A0_7 l0_7.length c0_7, .slice A0_8 l0_8.length c0_8]) (t := 54) ?hr ?_; (case hd => rfl); (case hg => rfl); (case hr => first | (go_simp; done) | (go_simp; rfl)); intro gb9001 hg w9002 hbox hb; have n9003_ := Aside0.mk (below_step (by repeat (first | (with_reducible first | exact HB.out | apply below_alloc | apply pw_below_drewN | apply below_drew1) | exact HB.out)) hb); have n9004_ := Aside0.mk (hbox); have n9005_ := Aside0.mk ((by rw [hg]; exact (below_size (by repeat (first | (with_reducible first | exact HB.out | apply below_alloc | apply pw_below_drewN | apply below_drew1) | exact HB.out))) : w.heap.size ≤ gb9001)); have n9006_ := Aside0.mk ((by rw [hg]; exact (below_size (by repeat (first | (with_reducible first | exact HB.out | apply below_alloc | apply pw_below_drewN | apply below_drew1) | exact HB.out))) : w.heap.size ≤ gb9001)); clear HB; have HB := n9003_; have BK9001 := n9004_; have GW9001 := n9005_; have GE9001 := n9006_; clear n9003_ n9004_ n9005_ n9006_; clear hb hbox hg) | ((with_reducible refine gate_dst (N := 3) rfl ?_); refine box_event ?hg (N := 3) ?hd (cs := #[.int .i64 a1_0, .string a1_1, .string a1_2, .string a1_3, .int .i64 a1_4, .int .i64 a1_5, .int .i64 a1_6, .slice A1_7 l1_7.length c1_7, .slice A1_8 l1_8.length c1_8]) (t := 54) ?hr ?_; (case hd => rfl); (case hg => rfl); (case hr => first | (go_simp; done) | (go_simp; rfl)); intro gb9007 hg w9008 hbox hb; have n9003_ := Aside0.mk (blk_below (g := gb9001) (o := .cells #[.int .i64 a0_0, .string a0_1, .string a0_2, .string a0_3, .int .i64 a0_4, .int .i64 a0_5, .int .i64 a0_6, .slice A0_7 l0_7.length c0_7, .slice A0_8 l0_8.length c0_8] 54 (0, 0)) (by (with_reducible repeat (first | refine blk_drewN ?_ _ | refine blk_drew ?_ | refine blk_alloc ?_ _)); exact BK9001.out) hb); have n9004_ := Aside0.mk (below_step (by repeat (first | (with_reducible first | exact HB.out | apply below_alloc | apply pw_below_drewN | apply below_drew1 | refine below_set ?_ GE9001.out) | exact HB.out)) hb); have n9005_ := Aside0.mk (hbox); have n9006_ := Aside0.mk ((by rw [hg]; exact (below_size (by repeat (first | (with_reducible first | exact HB.out | apply below_alloc | apply pw_below_drewN | apply below_drew1 | refine below_set ?_ GE9001.out) | exact HB.out))) : w.heap.size ≤ gb9007)); have n9009_ := Aside0.mk ((by rw [hg]; exact (below_size (by repeat (first | (with_reducible first | exact HB.out | apply below_alloc | apply pw_below_drewN | apply below_drew1 | refine below_set ?_ GE9001.out) | exact HB.out))) : w.heap.size ≤ gb9007)); have n9010_ := Aside0.mk ((by rw [hg]; exact Nat.ne_of_lt (blk_lt (g := gb9001) (o := .cells #[.int .i64 a0_0, .string a0_1, .string a0_2, .string a0_3, .int .i64 a0_4, .int .i64 a0_5, .int .i64 a0_6, .slice A0_7 l0_7.length c0_7, .slice A0_8 l0_8.length c0_8] 54 (0, 0)) (by (with_reducible repeat (first | refine blk_drewN ?_ _ | refine blk_drew ?_ | refine blk_alloc ?_ _)); exact BK9001.out)) : gb9001 ≠ gb9007)); have n9011_ := Aside0.mk ((by rw [hg]; exact Nat.ne_of_gt (blk_lt (g := gb9001) (o := .cells #[.int .i64 a0_0, .string a0_1, .string a0_2, .string a0_3, .int .i64 a0_4, .int .i64 a0_5, .int .i64 a0_6, .slice A0_7 l0_7.length c0_7, .slice A0_8 l0_8.length c0_8] 54 (0, 0)) (by (with_reducible repeat (first | refine blk_drewN ?_ _ | refine blk_drew ?_ | refine blk_alloc ?_ _)); exact BK9001.out)) : gb9007 ≠ gb9001)); clear BK9001; clear HB; have BK9001 := n9003_; have HB := n9004_; have BK9007 := n9005_; have GW9007 := n9006_; have GE9007 := n9009_; have NB9001_232 := n9010_; have NB9007_231 := n9011_; clear n9003_ n9004_ n9005_ n9006_ n9009_ n9010_ n9011_; clear hb hbox hg; have hnb9012 := NB9001_232.out; have hnc9012 := NB9007_231.out; have hcz9013_0 : w9008.cell? ⟨gb9001, 0, none⟩ = some (.int .i64 a0_0) := (blk_cell BK9001.out 0).trans rfl; have hcz9013_1 : w9008.cell? ⟨gb9001, 1, none⟩ = some (.string a0_1) := (blk_cell BK9001.out 1).trans rfl; have hcz9013_2 : w9008.cell? ⟨gb9001, 2, none⟩ = some (.string a0_2) := (blk_cell BK9001.out 2).trans rfl; have hcz9013_3 : w9008.cell? ⟨gb9001, 3, none⟩ = some (.string a0_3) := (blk_cell BK9001.out 3).trans rfl; have hcz9013_4 : w9008.cell? ⟨gb9001, 4, none⟩ = some (.int .i64 a0_4) := (blk_cell BK9001.out 4).trans rfl; have hcz9013_5 : w9008.cell? ⟨gb9001, 5, none⟩ = some (.int .i64 a0_5) := (blk_cell BK9001.out 5).trans rfl; have hcz9013_6 : w9008.cell? ⟨gb9001, 6, none⟩ = some (.int .i64 a0_6) := (blk_cell BK9001.out 6).trans rfl; have hcz9013_7 : w9008.cell? ⟨gb9001, 7, none⟩ = some (.slice A0_7 l0_7.length c0_7) := (blk_cell BK9001.out 7).trans rfl; have hcz9013_8 : w9008.cell? ⟨gb9001, 8, none⟩ = some (.slice A0_8 l0_8.length c0_8) := (blk_cell BK9001.out 8).trans rfl; have hfz9013_0 := blk_frozen BK9001.out 0; have hfz9013_1 := blk_frozen BK9001.out 1; have hfz9013_2 := blk_frozen BK9001.out 2; have hfz9013_3 := blk_frozen BK9001.out 3; have hfz9013_4 := blk_frozen BK9001.out 4; have hfz9013_5 := blk_frozen BK9001.out 5; have hfz9013_6 := blk_frozen BK9001.out 6; have hfz9013_7 := blk_frozen BK9001.out 7; have hfz9013_8 := blk_frozen BK9001.out 8; have hcz9014_0 : w9008.cell? ⟨gb9007, 0, none⟩ = some (.int .i64 a1_0) := (blk_cell BK9007.out 0).trans rfl; have hcz9014_1 : w9008.cell? ⟨gb9007, 1, none⟩ = some (.string a1_1) := (blk_cell BK9007.out 1).trans rfl; have hcz9014_2 : w9008.cell? ⟨gb9007, 2, none⟩ = some (.string a1_2) := (blk_cell BK9007.out 2).trans rfl; have hcz9014_3 : w9008.cell? ⟨gb9007, 3, none⟩ = some (.string a1_3) := (blk_cell BK9007.out 3).trans rfl; have hcz9014_4 : w9008.cell? ⟨gb9007, 4, none⟩ = some (.int .i64 a1_4) := (blk_cell BK9007.out 4).trans rfl; have hcz9014_5 : w9008.cell? ⟨gb9007, 5, none⟩ = some (.int .i64 a1_5) := (blk_cell BK9007.out 5).trans rfl; have hcz9014_6 : w9008.cell? ⟨gb9007, 6, none⟩ = some (.int .i64 a1_6) := (blk_cell BK9007.out 6).trans rfl; have hcz9014_7 : w9008.cell? ⟨gb9007, 7, none⟩ = some (.slice A1_7 l1_7.length c1_7) := (blk_cell BK9007.out 7).trans rfl; have hcz9014_8 : w9008.cell? ⟨gb9007, 8, none⟩ = some (.slice A1_8 l1_8.length c1_8) := (blk_cell BK9007.out 8).trans rfl; have hfz9014_0 := blk_frozen BK9007.out 0; have hfz9014_1 := blk_frozen BK9007.out 1; have hfz9014_2 := blk_frozen BK9007.out 2; have hfz9014_3 := blk_frozen BK9007.out 3; have hfz9014_4 := blk_frozen BK9007.out 4; have hfz9014_5 := blk_frozen BK9007.out 5; have hfz9014_6 := blk_frozen BK9007.out 6; have hfz9014_7 := blk_frozen BK9007.out 7; have hfz9014_8 := blk_frozen BK9007.out 8) | ((with_reducible refine gate_callee (f := 26) rfl ?_); refine goesL_ (some 11) rfl rfl Try.func26 (by kernel_rfl) rfl #[.slice A0_7 l0_7.length c0_7, .slice A1_7 l1_7.length c1_7] rfl (by (try simp only [List.map_toArray, List.map_cons, List.map_nil]); first | done | rfl | (simp only [List.length_drop, List.length_take]; rfl)) ?_; (with_reducible refine (pannierref07_Same.calls k _ _ l0_7 _ _ l1_7 true _ ?side1 ?side2 ?side3 ?side4 A3.out).mono ?_); (case side1 => repeat (first | exact (Kd.C_below HR0_7.out HB.out) | (with_reducible refine Kd.C_alloc ?_ _) | (with_reducible refine Kd.C_drewN ?_ _) | (with_reducible refine Kd.C_drew ?_))); (case side2 => exact HC0_7.out); (case side3 => repeat (first | exact (Kd.C_below HR1_7.out HB.out) | (with_reducible refine Kd.C_alloc ?_ _) | (with_reducible refine Kd.C_drewN ?_ _) | (with_reducible refine Kd.C_drew ?_))); (case side4 => exact HC1_7.out); rintro e w' ⟨rfl, ⟨nd, rfl⟩⟩; refine ⟨_, rfl, ?_⟩) | ((with_reducible refine gate_callee (f := 21) rfl ?_); refine goesL_ (some 16) rfl rfl Try.func21 (by kernel_rfl) rfl #[.slice A0_8 l0_8.length c0_8, .slice A1_8 l1_8.length c1_8] rfl (by (try simp only [List.map_toArray, List.map_cons, List.map_nil]); first | done | rfl | (simp only [List.length_drop, List.length_take]; rfl)) ?_; (with_reducible refine (pannierref08_SameOps.calls k _ _ l0_8 _ _ l1_8 true _ ?side1 ?side2 ?side3 ?side4 A4.out).mono ?_); (case side1 => repeat (first | exact (Kd.C_below HR0_8.out (by repeat (first | (with_reducible first | exact HB.out | apply below_alloc | apply pw_below_drewN | apply below_drew1 | refine below_set ?_ GE9001.out | refine below_set ?_ GE9007.out) | exact HB.out))) | (with_reducible refine Kd.C_alloc ?_ _) | (with_reducible refine Kd.C_drewN ?_ _) | (with_reducible refine Kd.C_drew ?_))); (case side2 => exact HC0_8.out); (case side3 => repeat (first | exact (Kd.C_below HR1_8.out (by repeat (first | (with_reducible first | exact HB.out | apply below_alloc | apply pw_below_drewN | apply below_drew1 | refine below_set ?_ GE9001.out | refine below_set ?_ GE9007.out) | exact HB.out))) | (with_reducible refine Kd.C_alloc ?_ _) | (with_reducible refine Kd.C_drewN ?_ _) | (with_reducible refine Kd.C_drew ?_))); (case side4 => exact HC1_8.out); rintro e w9015 ⟨rfl, hb⟩; refine ⟨_, rfl, ?_⟩; have n9003_ := Aside0.mk (blk_below (g := gb9001) (o := .cells #[.int .i64 a0_0, .string a0_1, .string a0_2, .string a0_3, .int .i64 a0_4, .int .i64 a0_5, .int .i64 a0_6, .slice A0_7 l0_7.length c0_7, .slice A0_8 l0_8.length c0_8] 54 (0, 0)) (by (with_reducible repeat (first | refine blk_drewN ?_ _ | refine blk_drew ?_ | refine blk_alloc ?_ _)); exact BK9001.out) hb); have n9004_ := Aside0.mk (blk_below (g := gb9007) (o := .cells #[.int .i64 a1_0, .string a1_1, .string a1_2, .string a1_3, .int .i64 a1_4, .int .i64 a1_5, .int .i64 a1_6, .slice A1_7 l1_7.length c1_7, .slice A1_8 l1_8.length c1_8] 54 (0, 0)) (by (with_reducible repeat (first | refine blk_drewN ?_ _ | refine blk_drew ?_ | refine blk_alloc ?_ _)); exact BK9007.out) hb); have n9005_ := Aside0.mk (below_step (by repeat (first | (with_reducible first | exact HB.out | apply below_alloc | apply pw_below_drewN | apply below_drew1 | refine below_set ?_ GE9001.out | refine below_set ?_ GE9007.out) | exact HB.out)) hb); clear BK9001; clear BK9007; clear HB; have BK9001 := n9003_; have BK9007 := n9004_; have HB := n9005_; clear n9003_ n9004_ n9005_; (try clear hb); (try clear hb2); (try clear hk); (try clear hi); have hcz9016_0 : w9015.cell? ⟨gb9001, 0, none⟩ = some (.int .i64 a0_0) := (blk_cell BK9001.out 0).trans rfl; have hcz9016_1 : w9015.cell? ⟨gb9001, 1, none⟩ = some (.string a0_1) := (blk_cell BK9001.out 1).trans rfl; have hcz9016_2 : w9015.cell? ⟨gb9001, 2, none⟩ = some (.string a0_2) := (blk_cell BK9001.out 2).trans rfl; have hcz9016_3 : w9015.cell? ⟨gb9001, 3, none⟩ = some (.string a0_3) := (blk_cell BK9001.out 3).trans rfl; have hcz9016_4 : w9015.cell? ⟨gb9001, 4, none⟩ = some (.int .i64 a0_4) := (blk_cell BK9001.out 4).trans rfl; have hcz9016_5 : w9015.cell? ⟨gb9001, 5, none⟩ = some (.int .i64 a0_5) := (blk_cell BK9001.out 5).trans rfl; have hcz9016_6 : w9015.cell? ⟨gb9001, 6, none⟩ = some (.int .i64 a0_6) := (blk_cell BK9001.out 6).trans rfl; have hcz9016_7 : w9015.cell? ⟨gb9001, 7, none⟩ = some (.slice A0_7 l0_7.length c0_7) := (blk_cell BK9001.out 7).trans rfl; have hcz9016_8 : w9015.cell? ⟨gb9001, 8, none⟩ = some (.slice A0_8 l0_8.length c0_8) := (blk_cell BK9001.out 8).trans rfl; have hfz9016_0 := blk_frozen BK9001.out 0; have hfz9016_1 := blk_frozen BK9001.out 1; have hfz9016_2 := blk_frozen BK9001.out 2; have hfz9016_3 := blk_frozen BK9001.out 3; have hfz9016_4 := blk_frozen BK9001.out 4; have hfz9016_5 := blk_frozen BK9001.out 5; have hfz9016_6 := blk_frozen BK9001.out 6; have hfz9016_7 := blk_frozen BK9001.out 7; have hfz9016_8 := blk_frozen BK9001.out 8; have hcz9017_0 : w9015.cell? ⟨gb9007, 0, none⟩ = some (.int .i64 a1_0) := (blk_cell BK9007.out 0).trans rfl; have hcz9017_1 : w9015.cell? ⟨gb9007, 1, none⟩ = some (.string a1_1) := (blk_cell BK9007.out 1).trans rfl; have hcz9017_2 : w9015.cell? ⟨gb9007, 2, none⟩ = some (.string a1_2) := (blk_cell BK9007.out 2).trans rfl; have hcz9017_3 : w9015.cell? ⟨gb9007, 3, none⟩ = some (.string a1_3) := (blk_cell BK9007.out 3).trans rfl; have hcz9017_4 : w9015.cell? ⟨gb9007, 4, none⟩ = some (.int .i64 a1_4) := (blk_cell BK9007.out 4).trans rfl; have hcz9017_5 : w9015.cell? ⟨gb9007, 5, none⟩ = some (.int .i64 a1_5) := (blk_cell BK9007.out 5).trans rfl; have hcz9017_6 : w9015.cell? ⟨gb9007, 6, none⟩ = some (.int .i64 a1_6) := (blk_cell BK9007.out 6).trans rfl; have hcz9017_7 : w9015.cell? ⟨gb9007, 7, none⟩ = some (.slice A1_7 l1_7.length c1_7) := (blk_cell BK9007.out 7).trans rfl; have hcz9017_8 : w9015.cell? ⟨gb9007, 8, none⟩ = some (.slice A1_8 l1_8.length c1_8) := (blk_cell BK9007.out 8).trans rfl; have hfz9017_0 := blk_frozen BK9007.out 0; have hfz9017_1 := blk_frozen BK9007.out 1; have hfz9017_2 := blk_frozen BK9007.out 2; have hfz9017_3 := blk_frozen BK9007.out 3; have hfz9017_4 := blk_frozen BK9007.out 4; have hfz9017_5 := blk_frozen BK9007.out 5; have hfz9017_6 := blk_frozen BK9007.out 6; have hfz9017_7 := blk_frozen BK9007.out 7; have hfz9017_8 := blk_frozen BK9007.out 8))
  go_ret
  exact ⟨by first | rfl | (simp [errW_none, errW_some] <;> rfl) | (simp [*, errW_none, errW_some] <;> rfl), by repeat (first | (with_reducible first | exact HB.out | apply below_alloc | apply pw_below_drewN | apply below_drew1 | refine below_set ?_ GE9001.out | refine below_set ?_ GE9007.out) | exact HB.out)⟩
  )
end Go.Proofs.Ytenbkljgmgdegaa.PO
end
