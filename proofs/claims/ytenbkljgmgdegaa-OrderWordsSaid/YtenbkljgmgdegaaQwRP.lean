/- What the rows of this claim use, out of the texts of this work (RP, RG). No condition beyond those that each statement names. -/
import Derived.Test.YtenbkljgmgdegaaQwRD
import Derived.Test.YtenbkljgmgdegaaQwOF
import Derived.Test.YtenbkljgmgdegaaQwOV
section
namespace Go.Proofs.Ytenbkljgmgdegaa.PO
open Go.RowKit Go.Proofs.YtenbkljgmgdegaaW.PrintWords Go.Proofs.YtenbkljgmgdegaaW.PrintLast Go.Proofs.YtenbkljgmgdegaaW.PrintMore Go.Proofs.Ytenbkljgmgdegaa.XW
set_option linter.unusedVariables false
set_option linter.unusedSimpArgs false
def numT (b : List Int) (most : Int) (p : Int) (bad : Bool) : Int × Int × Bool :=
 if bad = true then (0, p, true) else if (takeS b p).2.2 = 0 then (if (takeS b p).1 > most then (0, p, true) else ((takeS b p).1, (takeS b p).2.1, false)) else (0, p, true)
theorem numT_at {b : List Int} {p n q most : Int} (h : takeS b p = (n, q, 0)) (hn : n ≤ most) : numT b most p false = (n, q, false) := by
 unfold numT; rw [h]; simp; omega
theorem numT_is {b : List Int} {most : Int} (hB : isB b) {p : Int} {bad : Bool} (h : (numT b most p bad).2.2 = false) : bad = false ∧ 0 ≤ p ∧ p.toNat ≤ b.length ∧ 0 ≤ (numT b most p bad).1 ∧ (numT b most p bad).1 ≤ most ∧ 0 ≤ (numT b most p bad).2.1 ∧ (numT b most p bad).2.1 ≤ (b.length : Int) ∧ b.take (numT b most p bad).2.1.toNat = b.take p.toNat ++ encN (numT b most p bad).1 := by
 unfold numT at h ⊢
 cases bad with
 | true => simp at h
 | false =>
   rw [if_neg (by decide)] at h ⊢
   by_cases h0 : (takeS b p).2.2 = 0
   case neg => rw [if_neg h0] at h; cases h
   rw [if_pos h0] at h ⊢
   by_cases h1 : (takeS b p).1 > most
   · rw [if_pos h1] at h; cases h
   rw [if_neg h1] at ⊢
   have hk := takeS_ok hB h0
   obtain ⟨a1, a2, a3⟩ := take_is hB h0
   exact ⟨rfl, a1, a2, hk.2.2.1, by show (takeS b p).1 ≤ _; omega, hk.1, hk.2.1, a3⟩
def texD (b : List Int) (p : Int) (bad : Bool) : ByteArray × Int × Bool :=
 if bad = true then (⟨#[]⟩, p, true) else if (textT b p).2.2 = 0 then ((textT b p).1, (textT b p).2.1, false) else (⟨#[]⟩, p, true)
theorem texD_at {b : List Int} {p q : Int} {s : ByteArray} (h : textT b p = (s, q, 0)) : texD b p false = (s, q, false) := by
 unfold texD; rw [h]; simp
theorem texD_is {b : List Int} (hB : isB b) {p : Int} {bad : Bool} (h : (texD b p bad).2.2 = false) : bad = false ∧ 0 ≤ p ∧ p.toNat ≤ b.length ∧ (texD b p bad).1.size ≤ 24 ∧ 0 ≤ (texD b p bad).2.1 ∧ b.take (texD b p bad).2.1.toNat = b.take p.toNat ++ textB (texD b p bad).1 := by
 unfold texD at h ⊢
 cases bad with
 | true => simp at h
 | false =>
   rw [if_neg (by decide)] at h ⊢
   by_cases h0 : (textT b p).2.2 = 0
   case neg => rw [if_neg h0] at h; cases h
   rw [if_pos h0]
   obtain ⟨a1, a2, a3, a4, a5⟩ := text_is hB h0
   exact ⟨rfl, a1, a2, a3, a4, a5⟩
def dotT (b : List Int) (p : Int) (bad : Bool) : S34 × Int × Bool :=
 (⟨(texD b p bad).1, (numT b 4611686018427387904 (texD b p bad).2.1 (texD b p bad).2.2).1⟩, (numT b 4611686018427387904 (texD b p bad).2.1 (texD b p bad).2.2).2.1, (numT b 4611686018427387904 (texD b p bad).2.1 (texD b p bad).2.2).2.2)
theorem dotT_enc (a r : List Int) (ha : isB a) (hr : isB r) (d : S34) (h0 : d.f0.size ≤ 24) (h1 : 0 ≤ d.f1) (h2 : d.f1 ≤ 4611686018427387904) :
 dotT (a ++ (textB d.f0 ++ encN d.f1) ++ r) (a.length : Int) false = (d, ((a ++ (textB d.f0 ++ encN d.f1)).length : Int), false) := by
 have hB : isB (encN d.f1) := enc_B h1 (by omega)
 have ht := take_text a (encN d.f1 ++ r) ha (app_B hB hr) d.f0 h0
 have e1 : a ++ textB d.f0 ++ (encN d.f1 ++ r) = a ++ (textB d.f0 ++ encN d.f1) ++ r := by simp
 rw [e1] at ht
 have hn := take_enc (a ++ textB d.f0) r (app_B ha (textB_B _ (by omega))) hr d.f1 h1 (by omega)
 have e2 : a ++ textB d.f0 ++ encN d.f1 ++ r = a ++ (textB d.f0 ++ encN d.f1) ++ r := by simp
 rw [e2] at hn
 unfold dotT
 rw [texD_at ht]
 show (_, _, _) = _
 rw [numT_at hn h2]
 show (_, _, _) = _
 simp only [Prod.mk.injEq]
 exact ⟨by first | trivial | (cases d; rfl), by simp; omega, trivial⟩
theorem dotT_is {b : List Int} (hB : isB b) {p : Int} {bad : Bool} (h : (dotT b p bad).2.2 = false) : bad = false ∧ 0 ≤ p ∧ 0 ≤ (dotT b p bad).2.1 ∧ (dotT b p bad).2.1 ≤ (b.length : Int) ∧ b.take (dotT b p bad).2.1.toNat = b.take p.toNat ++ (textB (dotT b p bad).1.f0 ++ encN (dotT b p bad).1.f1) := by
 obtain ⟨n1, n2, n3, n4, n5, n6, n7, n8⟩ := numT_is hB (show (numT b 4611686018427387904 (texD b p bad).2.1 (texD b p bad).2.2).2.2 = false from h)
 obtain ⟨t1, t2, t3, t4, t5, t6⟩ := texD_is hB n1
 refine ⟨t1, t2, n6, n7, ?_⟩
 show b.take (numT b 4611686018427387904 (texD b p bad).2.1 (texD b p bad).2.2).2.1.toNat = _
 rw [n8, t6]
 show _ = b.take p.toNat ++ (textB (texD b p bad).1 ++ encN (numT b 4611686018427387904 (texD b p bad).2.1 (texD b p bad).2.2).1)
 simp
def seenT (b : List Int) : Nat → Int → Bool → List S34 → List S34 × Int × Bool
 | 0, p, bad, v => (v, p, bad)
 | c + 1, p, bad, v => if bad = true then (v, p, true) else seenT b c (dotT b p bad).2.1 (dotT b p bad).2.2 (v ++ [(dotT b p bad).1])
theorem seenT_s (b : List Int) (c : Nat) (p : Int) (v : List S34) : seenT b (c + 1) p false v = seenT b c (dotT b p false).2.1 (dotT b p false).2.2 (v ++ [(dotT b p false).1]) := rfl
theorem seenT_bad (b : List Int) (c : Nat) (p : Int) (v : List S34) : seenT b c p true v = (v, p, true) := by cases c <;> rfl
theorem seenT_enc (r : List Int) (hr : isB r) : ∀ (l : List S34) (a : List Int) (v : List S34), isB a → fine l → seenT (a ++ layL [] l ++ r) l.length (a.length : Int) false v = (v ++ l, ((a ++ layL [] l).length : Int), false)
 | [], a, v, ha, _ => by simp [seenT, layL]
 | x :: l, a, v, ha, hf => by
   have h1 := hf x List.mem_cons_self
   have hf' : fine l := fun y hy => hf y (List.mem_cons_of_mem _ hy)
   have hd := dotT_enc a (layL [] l ++ r) ha (app_B (lay_B l hf') hr) x h1.1 (by omega) h1.2.2
   have e1 : a ++ (textB x.f0 ++ encN x.f1) ++ (layL [] l ++ r) = a ++ layL [] (x :: l) ++ r := by rw [seen_cons]; simp
   rw [e1] at hd
   have ih := seenT_enc r hr l (a ++ (textB x.f0 ++ encN x.f1)) (v ++ [x]) (app_B ha (app_B (textB_B _ (by omega)) (enc_B (by omega) (by omega)))) hf'
   have e2 : a ++ (textB x.f0 ++ encN x.f1) ++ layL [] l ++ r = a ++ layL [] (x :: l) ++ r := by rw [seen_cons]; simp
   have e3 : a ++ (textB x.f0 ++ encN x.f1) ++ layL [] l = a ++ layL [] (x :: l) := by rw [seen_cons]; simp
   rw [e2, e3] at ih
   rw [List.length_cons, seenT_s, hd, ih]
   simp
theorem seenT_is {b : List Int} (hB : isB b) : ∀ (c : Nat) (p : Int) (bad : Bool) (v : List S34), (bad = false → 0 ≤ p ∧ p ≤ (b.length : Int)) → (seenT b c p bad v).2.2 = false →
 bad = false ∧ ∃ l, (seenT b c p bad v).1 = v ++ l ∧ l.length = c ∧ 0 ≤ (seenT b c p bad v).2.1 ∧ (seenT b c p bad v).2.1 ≤ (b.length : Int) ∧ b.take (seenT b c p bad v).2.1.toNat = b.take p.toNat ++ layL [] l
 | 0, p, bad, v, hp, h => by
   have h' : bad = false := h
   exact ⟨h', [], by simp [seenT], rfl, (hp h').1, (hp h').2, by simp [seenT, layL]⟩
 | c + 1, p, true, v, hp, h => by rw [seenT_bad] at h; cases h
 | c + 1, p, false, v, hp, h => by
   rw [seenT_s] at h ⊢
   cases hd : (dotT b p false).2.2 with
   | true => rw [hd, seenT_bad] at h; cases h
   | false =>
     obtain ⟨d1, d2, d3, d4, d5⟩ := dotT_is hB hd
     rw [hd] at h
     obtain ⟨_, l, e1, e2, e3, e4, e5⟩ := seenT_is hB c _ false _ (fun _ => ⟨d3, d4⟩) h
     refine ⟨rfl, (dotT b p false).1 :: l, by rw [e1]; simp, by simp [e2], e3, e4, ?_⟩
     rw [e5, d5, seen_cons]
     simp
def refO (b : List Int) : S36 × Int :=
 if (dotT b 0 false).2.2 = true ∨ (vecS b (dotT b 0 false).2.1).2.2 ≠ 0 then (z36, 80) else
 let c := texR b (vecS b (dotT b 0 false).2.1).2.1 false
 let i := texR b c.2.1 c.2.2
 let kd := numT b 3 i.2.1 i.2.2
 let q := numT b 9999 kd.2.1 kd.2.2
 let m := numT b 128 q.2.1 q.2.2
 let s := seenT b m.1.toNat m.2.1 m.2.2 []
 if s.2.2 = true ∨ rightO ⟨(dotT b 0 false).1, (vecS b (dotT b 0 false).2.1).1, c.1, kd.1, i.1, q.1, s.1⟩ = false ∨ s.2.1 ≠ (b.length : Int) then (z36, 80) else
 (⟨(dotT b 0 false).1, (vecS b (dotT b 0 false).2.1).1, c.1, kd.1, i.1, q.1, s.1⟩, 0)
theorem refO_wf (b : List Int) : (refO b).2 = 0 ∨ refO b = (z36, 80) := by
 unfold refO
 split
 · exact .inr rfl
 · dsimp only
   split
   · exact .inr rfl
   · exact .inl rfl
theorem refO_is {b : List Int} (hB : isB b) (h : (refO b).2 = 0) : rightO (refO b).1 = true ∧ layO (refO b).1 = b := by
 unfold refO at h ⊢
 by_cases h0 : (dotT b 0 false).2.2 = true ∨ (vecS b (dotT b 0 false).2.1).2.2 ≠ 0
 · rw [if_pos h0] at h; cases h
 rw [if_neg h0] at h ⊢
 dsimp only at h ⊢
 obtain ⟨c, hc⟩ : ∃ c, texR b (vecS b (dotT b 0 false).2.1).2.1 false = c := ⟨_, rfl⟩
 rw [hc] at h ⊢
 obtain ⟨i, hi⟩ : ∃ i, texR b c.2.1 c.2.2 = i := ⟨_, rfl⟩
 rw [hi] at h ⊢
 obtain ⟨kd, hkd⟩ : ∃ kd, numT b 3 i.2.1 i.2.2 = kd := ⟨_, rfl⟩
 rw [hkd] at h ⊢
 obtain ⟨q, hq⟩ : ∃ q, numT b 9999 kd.2.1 kd.2.2 = q := ⟨_, rfl⟩
 rw [hq] at h ⊢
 obtain ⟨m, hm⟩ : ∃ m, numT b 128 q.2.1 q.2.2 = m := ⟨_, rfl⟩
 rw [hm] at h ⊢
 obtain ⟨s, hs⟩ : ∃ s, seenT b m.1.toNat m.2.1 m.2.2 [] = s := ⟨_, rfl⟩
 rw [hs] at h ⊢
 by_cases h2 : s.2.2 = true ∨ rightO ⟨(dotT b 0 false).1, (vecS b (dotT b 0 false).2.1).1, c.1, kd.1, i.1, q.1, s.1⟩ = false ∨ s.2.1 ≠ (b.length : Int)
 · rw [if_pos h2] at h; cases h
 rw [if_neg h2]
 have hr : rightO ⟨(dotT b 0 false).1, (vecS b (dotT b 0 false).2.1).1, c.1, kd.1, i.1, q.1, s.1⟩ = true := by
  cases hh : rightO ⟨(dotT b 0 false).1, (vecS b (dotT b 0 false).2.1).1, c.1, kd.1, i.1, q.1, s.1⟩ with
  | true => rfl
  | false => exact absurd (Or.inr (Or.inl hh)) h2
 refine ⟨hr, ?_⟩
 have hs2 : s.2.2 = false := by cases hh : s.2.2 with | false => rfl | true => exact absurd (Or.inl hh) h2
 have hse : s.2.1 = (b.length : Int) := Classical.byContradiction (fun hh => h2 (Or.inr (Or.inr hh)))
 have hm2 : m.2.2 = false := by
  cases hh : m.2.2 with
  | false => rfl
  | true => rw [hh, seenT_bad] at hs; rw [← hs] at hs2; cases hs2
 have hv0 : (vecS b (dotT b 0 false).2.1).2.2 = 0 := Classical.byContradiction (fun hh => h0 (Or.inr hh))
 have hd0 : (dotT b 0 false).2.2 = false := by cases hh : (dotT b 0 false).2.2 with | false => rfl | true => exact absurd (Or.inl hh) h0
 obtain ⟨m1, m2, m3, m4, m5, m6, m7, m8⟩ := numT_is hB (show (numT b 128 q.2.1 q.2.2).2.2 = false by rw [hm]; exact hm2)
 obtain ⟨q1, q2, q3, q4, q5, q6, q7, q8⟩ := numT_is hB (show (numT b 9999 kd.2.1 kd.2.2).2.2 = false by rw [hq]; exact m1)
 obtain ⟨k1, k2, k3, k4, k5, k6, k7, k8⟩ := numT_is hB (show (numT b 3 i.2.1 i.2.2).2.2 = false by rw [hkd]; exact q1)
 obtain ⟨i1, i2, i3, i4, i5, i6⟩ := texR_is hB (show (texR b c.2.1 c.2.2).2.2 = false by rw [hi]; exact k1)
 obtain ⟨c1, c2, c3, c4, c5, c6⟩ := texR_is hB (show (texR b (vecS b (dotT b 0 false).2.1).2.1 false).2.2 = false by rw [hc]; exact i1)
 obtain ⟨v1, v2, v3⟩ := vec_is_at hB hv0
 obtain ⟨d1, d2, d3, d4, d5⟩ := dotT_is hB hd0
 rw [hm] at m4 m6 m7 m8
 rw [hq] at q8
 rw [hkd] at k8
 rw [hi] at i6
 rw [hc] at c6
 obtain ⟨s1, l, e1, e2, e3, e4, e5⟩ := seenT_is hB m.1.toNat m.2.1 m.2.2 [] (fun _ => ⟨m6, m7⟩) (by rw [hs]; exact hs2)
 rw [hs] at e1 e3 e4 e5
 have hl : (s.1.length : Int) = m.1 := by rw [e1]; simp [e2]; omega
 have e6 : b.take s.2.1.toNat = b := by rw [hse, Int.toNat_natCast]; exact List.take_length
 unfold layO
 show textB (dotT b 0 false).1.f0 ++ encN (dotT b 0 false).1.f1 ++ (layS [] (vecS b (dotT b 0 false).2.1).1).1 ++ textB c.1 ++ textB i.1 ++ encN kd.1 ++ encN q.1 ++ encN (s.1.length : Int) ++ layL [] s.1 = b
 have e7 : s.1 = l := by rw [e1]; simp
 rw [hl, e7]
 rw [e6, m8, q8, k8, i6, c6, v3, d5, show b.take (0 : Int).toNat = [] from rfl, List.nil_append] at e5
 simp only [List.append_assoc] at e5 ⊢
 exact e5.symm
theorem seenS_fine24 (deps : List S34) : ∀ (l : List S34) (p : Option S34), seenS deps p l = true → fine l
 | [], p, _ => fun x hx => by cases hx
 | y :: l, p, h => fun x hx => by
   have h' : hasS deps y.f0 y.f1 = true ∧ seenS deps (some y) l = true := by
    unfold seenS at h
    simp only [Bool.and_eq_true] at h
    exact ⟨h.1.1, h.2⟩
   rcases List.mem_cons.1 hx with rfl | hx
   · have h1 := h'.1
     unfold hasS at h1
     simp only [Bool.and_eq_true] at h1
     have h3 : x.f0.size ≤ 24 ∧ 1 ≤ x.f1 ∧ x.f1 ≤ 4611686018427387904 := dotOk_32 h1.1.2
     exact h3
   · exact seenS_fine24 deps l (some y) h'.2 x hx
theorem rightO_seen {o : S36} (h : rightO o = true) : fine o.f6 := by
 unfold rightO at h
 simp only [Bool.and_eq_true, decide_eq_true_eq] at h
 exact seenS_fine24 _ _ _ h.1.2
theorem refO_enc {x : S36} (h : rightO x = true) : refO (layO x) = (x, 0) := by
 obtain ⟨h1, h2, h3, h4, h5, h6, h7, h8, h9⟩ := rightO_all h
 have hd := dotOk_32 h1
 obtain ⟨D, hD⟩ : ∃ D, textB x.f0.f0 ++ encN x.f0.f1 = D := ⟨_, rfl⟩
 obtain ⟨V, hV⟩ : ∃ V, (layS [] x.f1).1 = V := ⟨_, rfl⟩
 obtain ⟨C, hC⟩ : ∃ C, textB x.f2 = C := ⟨_, rfl⟩
 obtain ⟨I, hI⟩ : ∃ I, textB x.f4 = I := ⟨_, rfl⟩
 obtain ⟨K, hK⟩ : ∃ K, encN x.f3 = K := ⟨_, rfl⟩
 obtain ⟨Q, hQ⟩ : ∃ Q, encN x.f5 = Q := ⟨_, rfl⟩
 obtain ⟨M, hM⟩ : ∃ M, encN (x.f6.length : Int) = M := ⟨_, rfl⟩
 obtain ⟨L, hL⟩ : ∃ L, layL [] x.f6 = L := ⟨_, rfl⟩
 have bD : isB D := by rw [← hD]; exact app_B (textB_B _ (by omega)) (enc_B (by omega) (by omega))
 have bV : isB V := by rw [← hV]; exact layV_B h2
 have bC : isB C := by rw [← hC]; exact textB_B _ (by omega)
 have bI : isB I := by rw [← hI]; exact textB_B _ (by omega)
 have bK : isB K := by rw [← hK]; exact enc_B (by omega) (by omega)
 have bQ : isB Q := by rw [← hQ]; exact enc_B (by omega) (by omega)
 have bM : isB M := by rw [← hM]; exact enc_B (by omega) (by omega)
 have bL : isB L := by rw [← hL]; exact seenL_B _ h6
 have bN : isB ([] : List Int) := fun x hx => by cases hx
 obtain ⟨b, hb⟩ : ∃ b, layO x = b := ⟨_, rfl⟩
 have hbe : b = D ++ V ++ C ++ I ++ K ++ Q ++ M ++ L := by rw [← hb]; unfold layO; rw [hD, hV, hC, hI, hK, hQ, hM, hL]
 have e1 := dotT_enc [] (V ++ C ++ I ++ K ++ Q ++ M ++ L) bN (app_B (app_B (app_B (app_B (app_B (app_B bV bC) bI) bK) bQ) bM) bL) x.f0 (by omega) (by omega) (by omega)
 have e2 := vec_enc_at D (C ++ I ++ K ++ Q ++ M ++ L) bD (app_B (app_B (app_B (app_B (app_B bC bI) bK) bQ) bM) bL) x.f1 h2
 have e3 := take_text32 (D ++ V) (I ++ K ++ Q ++ M ++ L) (app_B bD bV) (app_B (app_B (app_B (app_B bI bK) bQ) bM) bL) x.f2 h3
 have e4 := take_text32 (D ++ V ++ C) (K ++ Q ++ M ++ L) (app_B (app_B bD bV) bC) (app_B (app_B (app_B bK bQ) bM) bL) x.f4 h4
 have e5 := take_enc (D ++ V ++ C ++ I) (Q ++ M ++ L) (app_B (app_B (app_B bD bV) bC) bI) (app_B (app_B bQ bM) bL) x.f3 (by omega) (by omega)
 have e6 := take_enc (D ++ V ++ C ++ I ++ K) (M ++ L) (app_B (app_B (app_B (app_B bD bV) bC) bI) bK) (app_B bM bL) x.f5 (by omega) (by omega)
 have e7 := take_enc (D ++ V ++ C ++ I ++ K ++ Q) L (app_B (app_B (app_B (app_B (app_B bD bV) bC) bI) bK) bQ) bL (x.f6.length : Int) (by omega) (by omega)
 have e8 := seenT_enc [] bN x.f6 (D ++ V ++ C ++ I ++ K ++ Q ++ M) [] (app_B (app_B (app_B (app_B (app_B (app_B bD bV) bC) bI) bK) bQ) bM) (rightO_seen h)
 rw [hD] at e1
 rw [hV] at e2
 rw [hC] at e3
 rw [hI] at e4
 rw [hK] at e5
 rw [hQ] at e6
 rw [hM] at e7
 rw [hL] at e8
 rw [show [] ++ D ++ (V ++ C ++ I ++ K ++ Q ++ M ++ L) = b by rw [hbe]; simp] at e1
 rw [show D ++ V ++ (C ++ I ++ K ++ Q ++ M ++ L) = b by rw [hbe]; simp] at e2
 rw [show D ++ V ++ C ++ (I ++ K ++ Q ++ M ++ L) = b by rw [hbe]; simp] at e3
 rw [show D ++ V ++ C ++ I ++ (K ++ Q ++ M ++ L) = b by rw [hbe]; simp] at e4
 rw [show D ++ V ++ C ++ I ++ K ++ (Q ++ M ++ L) = b by rw [hbe]; simp] at e5
 rw [show D ++ V ++ C ++ I ++ K ++ Q ++ (M ++ L) = b by rw [hbe]; simp] at e6
 rw [show D ++ V ++ C ++ I ++ K ++ Q ++ M ++ L = b by rw [hbe]] at e7
 rw [show D ++ V ++ C ++ I ++ K ++ Q ++ M ++ L ++ [] = b by rw [hbe]; simp, show D ++ V ++ C ++ I ++ K ++ Q ++ M ++ L = b by rw [hbe]] at e8
 have e5' := numT_at (most := 3) e5 (by omega)
 have e6' := numT_at (most := 9999) e6 (by omega)
 have e7' := numT_at (most := 128) e7 (by omega)
 have e3' := texR_at e3
 have e4' := texR_at e4
 rw [← Int.natCast_add, ← List.length_append] at e5' e6' e7'
 rw [show ((([] : List Int).length : Nat) : Int) = 0 from rfl, List.nil_append] at e1
 unfold refO
 rw [hb, e1]
 dsimp only
 rw [e2]
 dsimp only
 rw [if_neg (by simp), e3']
 dsimp only
 rw [e4']
 dsimp only
 rw [e5']
 dsimp only
 rw [e6']
 dsimp only
 rw [e7']
 dsimp only
 rw [Int.toNat_natCast, e8]
 dsimp only
 rw [List.nil_append, if_neg (by
  have : rightO ⟨x.f0, x.f1, x.f2, x.f3, x.f4, x.f5, x.f6⟩ = true := h
  rw [this]
  simp)]
theorem refO_eq {b : List Int} (hB : isB b) : refO b = readO b := by
 by_cases h : (readO b).2 = 0
 · obtain ⟨h1, h2⟩ := readO_is hB h
   have h3 := refO_enc h1
   have h4 := readO_enc h1
   rw [h2] at h3 h4
   rw [h3, h4]
 · rcases refO_wf b with h0 | h0
   · obtain ⟨h1, h2⟩ := refO_is hB h0
     have h4 := readO_enc h1
     rw [h2] at h4
     rw [h4] at h
     exact absurd rfl h
   · rw [h0]
     unfold readO at h ⊢
     split
     · rfl
     · rename_i q1
       rw [if_neg q1] at h
       dsimp only at h ⊢
       split
       · rfl
       · rename_i q2
         rw [if_neg q2] at h
         split
         · rfl
         · rename_i q3
           rw [if_neg q3] at h
           exact absurd rfl h
end Go.Proofs.Ytenbkljgmgdegaa.PO
end
section
namespace Go.Proofs.Ytenbkljgmgdegaa.PO
open Go.RowKit Go.Proofs.YtenbkljgmgdegaaW.PrintWords Go.Proofs.YtenbkljgmgdegaaW.PrintLast Go.Proofs.YtenbkljgmgdegaaW.PrintMore Go.Proofs.Ytenbkljgmgdegaa.XW
open Go.Proofs.Ytenbkljgmgdegaa.XRange
set_option linter.unusedVariables false
set_option linter.unusedSimpArgs false
set_option maxHeartbeats 8000000 in
set_option maxRecDepth 100000 in
theorem refHasS_calls (l : List S34) (d : S34) (A : Option Addr) (c : Nat) (w : World) (hl : l.length ≤ c) (hg : Kd.C k34 w A l.length l) (m : Nat) (hm : m ≤ 9223372036854775807) (hz : sizes m l) (hn : d.f0.size ≤ m) :
 Calls Try.prog 63 #[.slice A l.length c, .agg #[.string d.f0, .int .i64 d.f1]] w fun e w' => e = .returned (.bool (hasS l d.f0 d.f1)) ∧ Below w.heap.size w w' := by
 have HL := Aside0.mk hl
 have HG := Aside0.mk hg
 have HR := Aside0.mk (refRight_f l hg.2.1 m hm hz (l.length + m + 3) (by omega))
 have HD := Aside0.mk (refDot_f d.f0 (by omega) d.f1 (m + 1) (by omega))
 have HA := Aside0.mk (refAt_f d.f0 l hg.2.1 (l.length + 1) (by omega))
 have e0 : hasS l d.f0 d.f1 = (rightS l && dotOk d && decide (d.f1 ≤ atS d.f0 l)) := rfl
 rw [e0]
 obtain ⟨b1, hb1⟩ : ∃ b, rightS l = b := ⟨_, rfl⟩
 obtain ⟨b2, hb2⟩ : ∃ b, dotOk d = b := ⟨_, rfl⟩
 rw [hb1] at HR ⊢
 rw [hb2]
 have HD := Aside0.mk (show pannierref07_IsDot.f (m + 1) d.f0 d.f1 = some b2 from by rw [HD.out]; exact congrArg some hb2)
 clear hl hg hm hz hn e0 hb1 hb2
 obtain ⟨N, hN⟩ : ∃ N, w.heap.size = N := ⟨_, rfl⟩
 go_enter Try.func63, Try.ntmps63
 go_wp2_with fail
 obtain ⟨w0, hw0⟩ : ∃ w0, w.alloc (.cells #[.string d.f0, .int .i64 d.f1] 34) = w0 := ⟨_, rfl⟩
 have HB := Aside0.mk (show Below w.heap.size w w0 from by rw [← hw0]; exact (Below.refl _ w).alloc (Nat.le_refl _) _)
 have KD := Aside0.mk (show w0.heap[N]? = some (.cells #[.string d.f0, .int .i64 d.f1] 34 (0, 0)) from by rw [← hw0, ← hN]; exact World.alloc_heap_new w _)
 try rw [hw0]
 try rw [hN]
 clear hw0
 refine (pannierref07_Right.calls _ A c l _ _ (Kd.C_below HG.out HB.out) HL.out HR.out).mono ?_
 rintro e w1 ⟨rfl, hb1⟩
 have HB1 := Aside0.mk (HB.out.trans (hb1.mono HB.out.size))
 have KD1 := Aside0.mk (blk_below KD.out hb1)
 have d0 : w1.cell? ⟨N, 0, none⟩ = some (.string d.f0) := (blk_cell KD1.out 0).trans rfl
 have d1 : w1.cell? ⟨N, 1, none⟩ = some (.int .i64 d.f1) := (blk_cell KD1.out 1).trans rfl
 clear hb1 HB KD
 go_wp2_with fail
 refine (pannierref07_IsDot.calls _ d.f0 d.f1 _ _ HD.out).mono ?_
 rintro e w2 ⟨rfl, hb2⟩
 have HB2 := Aside0.mk (HB1.out.trans (hb2.mono HB1.out.size))
 have KD2 := Aside0.mk (blk_below KD1.out hb2)
 clear hb2 HB1 KD1 d0 d1
 clear HR HD
 go_wp2
 have HBd := Aside0.mk (below_drew1 HB2.out)
 refine start_ (n := 14) (ds := []) (S := fun w' => w'.cell? ⟨N, 0, none⟩ = some (.string d.f0) ∧ w'.cell? ⟨N, 1, none⟩ = some (.int .i64 d.f1)) _ (by kernel_rfl) rfl rfl ⟨(blk_cell (blk_drew KD2.out) 0).trans rfl, (blk_cell (blk_drew KD2.out) 1).trans rfl⟩ (fun hH => ?_)
 refine XReg.pu 0 11 (h := ?_)
 refine XReg.pu 1 12 (h := ?_)
 cases b1 with
 | false =>
   refine XReg.pn 2 13 (h := ?_)
   refine XReg.pu 3 14 (h := ?_)
   refine XReg.pu 4 15 (h := ?_)
   refine XReg.pn 5 16 (h := ?_)
   refine XReg.pn 6 17 (h := ?_)
   refine XReg.pn 7 18 (h := ?_)
   refine XReg.pn 8 19 (h := ?_)
   refine XReg.pn 9 20 (h := ?_)
   refine XReg.pn 10 21 (h := ?_)
   refine XReg.pn 11 22 (h := ?_)
   refine XReg.pu 12 23 (h := ?_)
   refine XReg.pu 13 4 (h := ?_)
   refine done_ (by kernel_rfl) ?_
   go_wp2
   go_ret
   exact ⟨rfl, by first | exact HBd.out | (rw [← hN]; exact HBd.out)⟩
 | true =>
   refine XReg.pu 2 13 (h := ?_)
   cases b2 with
   | false =>
     refine XReg.pu 3 14 (h := ?_)
     refine XReg.pu 4 15 (h := ?_)
     refine XReg.pn 5 16 (h := ?_)
     refine XReg.pn 6 17 (h := ?_)
     refine XReg.pn 7 18 (h := ?_)
     refine XReg.pn 8 19 (h := ?_)
     refine XReg.pn 9 20 (h := ?_)
     refine XReg.pn 10 21 (h := ?_)
     refine XReg.pn 11 22 (h := ?_)
     refine XReg.pu 12 23 (h := ?_)
     refine XReg.pu 13 4 (h := ?_)
     refine done_ (by kernel_rfl) ?_
     go_wp2
     go_ret
     exact ⟨rfl, by first | exact HBd.out | (rw [← hN]; exact HBd.out)⟩
   | true =>
     refine XReg.pu 3 14 (h := ?_)
     refine XReg.pu 4 15 (h := ?_)
     refine XReg.pu 5 16 (h := ?_)
     refine XReg.tk 6 17 (h := ?_)
     refine XReg.pu 7 18 (h := ?_)
     refine XReg.pu 8 19 (h := ?_)
     refine XReg.tk 9 20 (h := ?_)
     refine XReg.one (i := 10) (some 21) rfl rfl (by kernel_rfl) (by decide) (fun Kc hKc => ?_)
     refine goes_ Try.func57 (by kernel_rfl) rfl #[.slice A l.length c, .string d.f0] (by rfl) rfl rfl (by (try simp only [List.map_toArray, List.map_cons, List.map_nil]); first | done | rfl) ?_
     refine (pannierref07_At.calls _ A c l d.f0 _ _ (Kd.C_drew (Kd.C_below HG.out HB2.out)) HL.out HA.out).mono ?_
     rintro e w3 ⟨rfl, hb3⟩
     refine ⟨_, rfl, ?_⟩
     have KD3 := Aside0.mk (blk_below (blk_drew KD2.out) hb3.below)
     refine hKc.out _ _ ⟨(blk_cell KD3.out 0).trans rfl, (blk_cell KD3.out 1).trans rfl⟩ (fun hH2 => ?_)
     refine XReg.pu 11 22 (h := ?_)
     refine XReg.pu 12 23 (h := ?_)
     refine XReg.pu 13 4 (h := ?_)
     refine done_ (by kernel_rfl) ?_
     go_wp2
     go_ret
     exact ⟨rfl, HBd.out.trans (hb3.below.mono HBd.out.size)⟩
set_option maxHeartbeats 8000000 in
set_option maxRecDepth 100000 in
theorem refRightO_calls (x : S36) (A2 : Option Addr) (c2 : Nat) (A7 : Option Addr) (c7 : Nat) (w : World) (l2 : x.f1.length ≤ c2) (g2 : Kd.C k34 w A2 x.f1.length x.f1) (l7 : x.f6.length ≤ c7) (g7 : Kd.C k34 w A7 x.f6.length x.f6) (m : Nat) (hm : m ≤ 9223372036854775807) (hz0 : x.f0.f0.size ≤ m) (hz1 : sizes m x.f1) (hz6 : sizes m x.f6) :
 Calls Try.prog 46 #[.agg #[.string x.f0.f0, .int .i64 x.f0.f1, .slice A2 x.f1.length c2, .string x.f2, .int .i64 x.f3, .string x.f4, .int .i64 x.f5, .slice A7 x.f6.length c7]] w fun e w' => e = .returned (.bool (rightO x)) ∧ Below w.heap.size w w' := by
 have HL2 := Aside0.mk l2
 have HL7 := Aside0.mk l7
 have HG2 := Aside0.mk g2
 have HG7 := Aside0.mk g7
 have HM2 := Aside0.mk g2.2.1
 have HM7 := Aside0.mk g7.2.1
 have HM := Aside0.mk hm
 have HZ1 := Aside0.mk hz1
 have HZ6 := Aside0.mk hz6
 have HD := Aside0.mk (refDot_f x.f0.f0 (by omega) x.f0.f1 (m + 1) (by omega))
 have HR := Aside0.mk (refRight_f x.f1 g2.2.1 m hm hz1 (x.f1.length + m + 3) (by omega))
 have HA := Aside0.mk (refAt_f x.f0.f0 x.f1 g2.2.1 (x.f1.length + 1) (by omega))
 obtain ⟨N, hN⟩ : ∃ N, w.heap.size = N := ⟨_, rfl⟩
 obtain ⟨b1, hb1⟩ : ∃ b, dotOk x.f0 = b := ⟨_, rfl⟩
 obtain ⟨b2, hb2⟩ : ∃ b, rightS x.f1 = b := ⟨_, rfl⟩
 have HD := Aside0.mk (show pannierref07_IsDot.f (m + 1) x.f0.f0 x.f0.f1 = some b1 from by rw [HD.out]; exact congrArg some hb1)
 rw [hb2] at HR
 have HO1 := Aside0.mk hb1
 have HO2 := Aside0.mk hb2
 clear l2 l7 g2 g7 hm hz0 hz1 hz6 hb1 hb2
 go_enter Try.func46, Try.ntmps46
 obtain ⟨w3, hw3⟩ : ∃ w3, w.alloc (.cells #[.string x.f0.f0, .int .i64 x.f0.f1, .slice A2 x.f1.length c2, .string x.f2, .int .i64 x.f3, .string x.f4, .int .i64 x.f5, .slice A7 x.f6.length c7] 36) = w3 := ⟨_, rfl⟩
 have HB3 := Aside0.mk (show Below w.heap.size w w3 from by rw [← hw3]; exact (Below.refl _ w).alloc (Nat.le_refl _) _)
 have HX3 := Aside0.mk (show w3.heap[N]? = some (.cells #[.string x.f0.f0, .int .i64 x.f0.f1, .slice A2 x.f1.length c2, .string x.f2, .int .i64 x.f3, .string x.f4, .int .i64 x.f5, .slice A7 x.f6.length c7] 36 (0, 0)) from by rw [← hw3, ← hN]; exact World.alloc_heap_new w _)
 obtain ⟨n0, n1, n2, n3, n4, n5, n6, n7⟩ := cells8 HX3.out
 go_wp2_with fail
 refine (pannierref07_IsDot.calls _ x.f0.f0 x.f0.f1 _ _ HD.out).mono ?_
 rintro e w4 ⟨rfl, hb4⟩
 have HB4 := Aside0.mk (HB3.out.trans (hb4.mono HB3.out.size))
 have HX4 := Aside0.mk (blk_below HX3.out hb4)
 clear n0 n1 n2 n3 n4 n5 n6 n7 hb4 HX3 HB3 hw3
 obtain ⟨n0, n1, n2, n3, n4, n5, n6, n7⟩ := cells8 HX4.out
 go_wp2_with fail
 refine (pannierref07_Right.calls _ A2 c2 x.f1 _ _ (Kd.C_below HG2.out HB4.out) HL2.out HR.out).mono ?_
 rintro e w5 ⟨rfl, hb5⟩
 have HB5 := Aside0.mk (HB4.out.trans (hb5.mono HB4.out.size))
 have HX5 := Aside0.mk (blk_below HX4.out hb5)
 clear n0 n1 n2 n3 n4 n5 n6 n7 hb5 HX4 HB4 HD HR
 go_wp2
 have s6d : ∀ w' : World, w'.heap[N]? = some (.cells #[.string x.f0.f0, .int .i64 x.f0.f1, .slice A2 x.f1.length c2, .string x.f2, .int .i64 x.f3, .string x.f4, .int .i64 x.f5, .slice A7 x.f6.length c7] 36 (0, 0)) → S6 N x A2 c2 A7 c7 w' := fun w' h => ⟨(blk_cell h 0).trans rfl, (blk_cell h 1).trans rfl, (blk_cell h 2).trans rfl, (blk_cell h 3).trans rfl, (blk_cell h 5).trans rfl, (blk_cell h 7).trans rfl⟩
 have SX := Aside0.mk s6d
 clear s6d
 have HBd := Aside0.mk (below_drew1 HB5.out)
 refine start_ (n := 25) (ds := []) (S := S6 N x A2 c2 A7 c7) _ (by kernel_rfl) rfl rfl (SX.out _ (blk_drew HX5.out)) (fun hH => ?_)
 refine XReg.pu 0 14 (h := ?_)
 refine XReg.pu 1 15 (h := ?_)
 refine XReg.pu 2 16 (h := ?_)
 cases b1 with
 | false =>
   have HF := Aside0.mk (not_right (x := x) (fun h _ _ _ _ _ _ _ => by rw [HO1.out] at h; cases h))
   refine XReg.pn 3 17 (h := ?_)
   refine XReg.pn 4 18 (h := ?_)
   refine XReg.pu 5 19 (h := ?_)
   refine XReg.pu 6 20 (h := ?_)
   refine XReg.pn 7 21 (h := ?_)
   refine XReg.pn 8 22 (h := ?_)
   refine XReg.pn 9 23 (h := ?_)
   refine XReg.pn 10 24 (h := ?_)
   refine XReg.pn 11 25 (h := ?_)
   refine XReg.pn 12 26 (h := ?_)
   refine XReg.pn 13 27 (h := ?_)
   refine XReg.pn 14 28 (h := ?_)
   refine XReg.pn 15 29 (h := ?_)
   refine XReg.pn 16 30 (h := ?_)
   refine XReg.pn 17 31 (h := ?_)
   refine XReg.pu 18 32 (h := ?_)
   refine XReg.pu 19 33 (h := ?_)
   refine XReg.pn 20 34 (h := ?_)
   refine XReg.pn 21 35 (h := ?_)
   refine XReg.pn 22 36 (h := ?_)
   refine XReg.pn 23 37 (h := ?_)
   refine XReg.pu 24 38 (h := ?_)
   refine done_ (by kernel_rfl) ?_
   go_wp2
   go_ret
   exact ⟨by rw [HF.out]; rfl, by first | exact HBd.out | (rw [← hN]; exact HBd.out)⟩
 | true =>
   refine XReg.pu 3 17 (h := ?_)
   refine XReg.pu 4 18 (h := ?_)
   refine XReg.pu 5 19 (h := ?_)
   refine XReg.pu 6 20 (h := ?_)
   cases b2 with
   | false =>
     have HF := Aside0.mk (not_right (x := x) (fun _ h _ _ _ _ _ _ => by rw [HO2.out] at h; cases h))
     refine XReg.pn 7 21 (h := ?_)
     refine XReg.pn 8 22 (h := ?_)
     refine XReg.pn 9 23 (h := ?_)
     refine XReg.pn 10 24 (h := ?_)
     refine XReg.pn 11 25 (h := ?_)
     refine XReg.pn 12 26 (h := ?_)
     refine XReg.pn 13 27 (h := ?_)
     refine XReg.pn 14 28 (h := ?_)
     refine XReg.pn 15 29 (h := ?_)
     refine XReg.pn 16 30 (h := ?_)
     refine XReg.pn 17 31 (h := ?_)
     refine XReg.pu 18 32 (h := ?_)
     refine XReg.pu 19 33 (h := ?_)
     refine XReg.pn 20 34 (h := ?_)
     refine XReg.pn 21 35 (h := ?_)
     refine XReg.pn 22 36 (h := ?_)
     refine XReg.pn 23 37 (h := ?_)
     refine XReg.pu 24 38 (h := ?_)
     refine done_ (by kernel_rfl) ?_
     go_wp2
     go_ret
     exact ⟨by rw [HF.out]; rfl, by first | exact HBd.out | (rw [← hN]; exact HBd.out)⟩
   | true =>
     refine XReg.pu 7 21 (h := ?_)
     refine XReg.tk 8 22 (hy := by (intro w' hS_; obtain ⟨s0, s1, s2, s3, s4, s5⟩ := hS_; go_simp; with_reducible rfl)) (h := ?_)
     refine XReg.pu 9 23 (h := ?_)
     refine XReg.pu 10 24 (h := ?_)
     refine XReg.tk 11 25 (hy := by (intro w' hS_; obtain ⟨s0, s1, s2, s3, s4, s5⟩ := hS_; go_simp; with_reducible rfl)) (h := ?_)
     refine XReg.pu 13 27 (h := ?_)
     refine XReg.pu 14 28 (h := ?_)
     refine XReg.tk 15 29 (hy := by (intro w' hS_; obtain ⟨s0, s1, s2, s3, s4, s5⟩ := hS_; go_simp; with_reducible rfl)) (h := ?_)
     refine XReg.pu 16 30 (h := ?_)
     refine XReg.one (i := 12) (some 26) rfl rfl (by kernel_rfl) (by decide) (fun Kc hKc => ?_)
     refine goes_ Try.func57 (by kernel_rfl) rfl #[.slice A2 x.f1.length c2, .string x.f0.f0] (by rfl) rfl rfl (by (try simp only [List.map_toArray, List.map_cons, List.map_nil]); first | done | rfl) ?_
     refine (pannierref07_At.calls _ A2 c2 x.f1 x.f0.f0 _ _ (Kd.C_drew (Kd.C_below HG2.out HB5.out)) HL2.out HA.out).mono ?_
     rintro e w6 ⟨rfl, hb6⟩
     refine ⟨_, rfl, ?_⟩
     have HB6 := Aside0.mk (HBd.out.trans (hb6.below.mono HBd.out.size))
     have HX6 := Aside0.mk (blk_below (blk_drew HX5.out) hb6.below)
     refine hKc.out _ _ (SX.out _ HX6.out) (fun hH2 => ?_)
     clear hKc Kc hH hb6 HBd HX5 HB5
     have hwr : wrap64 (x.f0.f1 - 1) = x.f0.f1 - 1 := by have := dot_parts (n := x.f0.f0) (d := x.f0.f1) HO1.out; unfold wrap64; omega
     rw [hwr]
     clear hwr
     refine XReg.pu 17 31 (h := ?_)
     obtain ⟨b3, hb3⟩ : ∃ b, (atS x.f0.f0 x.f1 != x.f0.f1 - 1) = b := ⟨_, rfl⟩
     rw [hb3]
     refine XReg.pu 18 32 (h := ?_)
     refine XReg.pu 19 33 (h := ?_)
     cases b3 with
     | true =>
       have HF := Aside0.mk (not_right (x := x) (fun _ _ h _ _ _ _ _ => by rw [h] at hb3; simp at hb3))
       clear hb3
       refine XReg.pn 20 34 (h := ?_)
       refine XReg.pn 21 35 (h := ?_)
       refine XReg.pn 22 36 (h := ?_)
       refine XReg.pn 23 37 (h := ?_)
       refine XReg.pu 24 38 (h := ?_)
       refine done_ (by kernel_rfl) ?_
       go_wp2
       go_ret
       exact ⟨by rw [HF.out]; rfl, by first | exact HB6.out | (rw [← hN]; exact HB6.out)⟩
     | false =>
       have HO3 := Aside0.mk (show atS x.f0.f0 x.f1 = x.f0.f1 - 1 from by simpa using hb3)
       clear hb3
       refine XReg.pu 20 34 (h := ?_)
       refine XReg.tk 21 35 (hy := by (intro w' hS_; obtain ⟨s0, s1, s2, s3, s4, s5⟩ := hS_; go_simp; with_reducible rfl)) (h := ?_)
       refine XReg.pu 22 36 (h := ?_)
       refine XReg.pu 23 37 (h := ?_)
       obtain ⟨b6, hb6⟩ : ∃ b, decide ((128 : Int) < (x.f6.length : Int)) = b := ⟨_, rfl⟩
       rw [hb6]
       refine XReg.pu 24 38 (h := ?_)
       refine done_ (by kernel_rfl) ?_
       cases b6 with
       | true =>
         have HF := Aside0.mk (not_right (x := x) (fun _ _ _ _ _ h _ _ => by simp at hb6; omega))
         clear hb6
         go_wp2
         go_ret
         exact ⟨by rw [HF.out]; rfl, by first | exact HB6.out | (rw [← hN]; exact HB6.out)⟩
       | false =>
         have HO6 := Aside0.mk (show x.f6.length ≤ 128 from by simp at hb6; omega)
         clear hb6 hH2
         obtain ⟨n0, n1, n2, n3, n4, n5, n6, n7⟩ := cells8 HX6.out
         go_wp2
         all_goals try (go_ret; exact ⟨by rw [not_right (x := x) (fun _ _ _ h4 h5 _ _ _ => by simp only [Bool.and_eq_true, decide_eq_true_eq] at h4 h5; omega)]; rfl, by first | exact HB6.out | (rw [← hN]; exact HB6.out)⟩)
         clear n0 n1 n2 n3 n4 n5 n6 n7
         have HO4 := Aside0.mk (show (decide (1 ≤ x.f2.size) && decide (x.f2.size ≤ 32)) = true from by simp only [Bool.and_eq_true, decide_eq_true_eq]; omega)
         have HO5 := Aside0.mk (show (decide (1 ≤ x.f4.size) && decide (x.f4.size ≤ 32)) = true from by simp only [Bool.and_eq_true, decide_eq_true_eq]; omega)
         have HW6 := Aside0.mk (Below.refl w6.heap.size w6)
         go_loopw [5] (fun v5 wr => ∃ i : Nat, v5 = .int .i64 i ∧ i ≤ x.f6.length ∧ Aside0 (seenS x.f1 none x.f6 = seenS x.f1 (if i = 0 then none else some (rd_T34 x.f6 ((i - 1 : Nat) : Int))) (x.f6.drop i)) ∧ Aside0 (Below w6.heap.size w6 wr)) (fun v5 _ => x.f6.length - (intOf v5).toNat)
         case atStart => exact ⟨0, rfl, by omega, ⟨rfl⟩, HW6⟩
         case round =>
          clear HW6
          obtain ⟨i, rfl, hile, HSi, HBi⟩ := hrel
          have HXi := Aside0.mk (blk_below HX6.out HBi.out)
          have e7 : wr.cell? ⟨N, 7, none⟩ = some (.slice A7 x.f6.length c7) := (blk_cell HXi.out 7).trans rfl
          have hib : i ≤ 128 := by have := HO6.out; omega
          by_cases hlt : i < x.f6.length
          · have q1 : decide ((i : Int) < (x.f6.length : Int)) = true := by simp; omega
            go_wp2
            obtain ⟨ad, had, _, _⟩ := at_T34 (Kd.C_below HG7.out (HB6.out.trans (HBi.out.mono HB6.out.size))) (i : Int) (by omega) (by omega)
            subst had
            obtain ⟨d, hd⟩ : ∃ d, rd_T34 x.f6 (i : Int) = d := ⟨_, rfl⟩
            have hsn := HSi.out
            rw [rd_drop x.f6 i hlt, hd, seenS_cons] at hsn
            have HSN := Aside0.mk hsn
            have hzd : d.f0.size ≤ m := by rw [← hd]; exact HZ6.out _ (by unfold rd_T34; rw [Int.toNat_natCast, List.getD_eq_getElem?_getD, List.getElem?_eq_getElem hlt]; exact List.getElem_mem hlt)
            have HZD := Aside0.mk hzd
            have hb3 : 0 ≤ (i : Int) ∧ (i : Int) < (x.f6.length : Int) := by omega
            have cellsT : ∀ w' : World, Below w6.heap.size w6 w' → S6 N x A2 c2 (some ad) c7 w' ∧ ∀ q : Nat, q < x.f6.length → w'.cell? (ad.add (q * 2)) = some (.string (rd_T34 x.f6 (q : Int)).f0) ∧ w'.cell? ⟨(ad.add (q * 2)).block, (ad.add (q * 2)).off + 1, none⟩ = some (.int .i64 (rd_T34 x.f6 (q : Int)).f1) := fun w' hb => ⟨SX.out _ (blk_below HX6.out hb), fun q hq => by
             obtain ⟨ad', had', f0, f1⟩ := at_T34 (Kd.C_below HG7.out (HB6.out.trans (hb.mono HB6.out.size))) (q : Int) (by omega) (by omega)
             cases had'
             exact ⟨f0, f1⟩⟩
            have CT := Aside0.mk cellsT
            have HBid := Aside0.mk (HBi.out.trans ((below_drew1 (Below.refl _ wr)).mono HBi.out.size))
            clear hsn hzd cellsT e7 q1
            refine start_ (n := 9) (ds := []) (S := fun w' => S6 N x A2 c2 (some ad) c7 w' ∧ ∀ q : Nat, q < x.f6.length → w'.cell? (ad.add (q * 2)) = some (.string (rd_T34 x.f6 (q : Int)).f0) ∧ w'.cell? ⟨(ad.add (q * 2)).block, (ad.add (q * 2)).off + 1, none⟩ = some (.int .i64 (rd_T34 x.f6 (q : Int)).f1)) _ (by kernel_rfl) rfl rfl (CT.out _ HBid.out) (fun hH => ?_)
            refine XReg.pu 0 68 (h := ?_)
            refine XReg.tk 1 69 (hy := by (intro w' hS_; obtain ⟨⟨s0, s1, s2, s3, s4, s5⟩, _⟩ := hS_; go_simp; with_reducible rfl)) (h := ?_)
            refine XReg.pu 2 70 (h := ?_)
            refine XReg.tk 3 71 (hy := by (intro w' hS_; obtain ⟨⟨s0, s1, s2, s3, s4, s5⟩, _⟩ := hS_; go_simp; with_reducible rfl)) (h := ?_)
            refine XReg.pu 4 72 (h := ?_)
            refine XReg.pu 5 73 (h := ?_)
            refine XReg.tk 6 74 (hy := by (intro w' hS_; obtain ⟨_, s8⟩ := hS_; go_simp; with_reducible rfl)) (h := ?_)
            try rw [hd]
            refine XReg.one (i := 7) (some 75) rfl rfl (by kernel_rfl) (by decide) (fun Kc hKc => ?_)
            refine goes_ Try.func63 (by kernel_rfl) rfl #[.slice A2 x.f1.length c2, .agg #[.string d.f0, .int .i64 d.f1]] (by rfl) rfl rfl (by (try simp only [List.map_toArray, List.map_cons, List.map_nil]); first | done | rfl) ?_
            refine (refHasS_calls x.f1 d A2 c2 _ HL2.out (Kd.C_below HG2.out (HB6.out.trans (HBid.out.mono HB6.out.size))) m HM.out HZ1.out HZD.out).mono ?_
            rintro e wb ⟨rfl, hbb⟩
            refine ⟨_, rfl, ?_⟩
            have HBb := Aside0.mk (HBid.out.trans (hbb.mono HBid.out.size))
            refine hKc.out _ _ (CT.out _ HBb.out) (fun hH2 => ?_)
            refine XReg.pu 8 6 (h := ?_)
            refine done_ (by kernel_rfl) ?_
            clear hKc Kc hH hH2 hbb HBid
            obtain ⟨bh, hbh⟩ : ∃ b, hasS x.f1 d.f0 d.f1 = b := ⟨_, rfl⟩
            rw [hbh]
            have hsn := HSN.out
            rw [hbh] at hsn
            go_wp2
            have HBbd := Aside0.mk (HBb.out.trans ((below_drew1 (Below.refl _ wb)).mono HBb.out.size))
            refine start_ (n := 21) (ds := []) (S := fun w' => S6 N x A2 c2 (some ad) c7 w' ∧ ∀ q : Nat, q < x.f6.length → w'.cell? (ad.add (q * 2)) = some (.string (rd_T34 x.f6 (q : Int)).f0) ∧ w'.cell? ⟨(ad.add (q * 2)).block, (ad.add (q * 2)).off + 1, none⟩ = some (.int .i64 (rd_T34 x.f6 (q : Int)).f1)) _ (by kernel_rfl) rfl rfl (CT.out _ HBbd.out) (fun hH => ?_)
            refine XReg.pu 0 76 (h := ?_)
            refine XReg.pu 1 77 (h := ?_)
            refine XReg.pu 2 78 (h := ?_)
            cases bh with
            | false =>
              have HF := Aside0.mk (not_right (x := x) (fun _ _ _ _ _ _ h _ => by rw [hsn] at h; simp at h))
              clear hbh hsn
              refine XReg.pn 3 79 (h := ?_)
              refine XReg.pn 4 80 (h := ?_)
              refine XReg.pn 5 81 (h := ?_)
              refine XReg.pn 6 82 (h := ?_)
              refine XReg.pn 7 83 (h := ?_)
              refine XReg.pn 8 84 (h := ?_)
              refine XReg.pn 9 85 (h := ?_)
              refine XReg.pn 10 86 (h := ?_)
              refine XReg.pn 11 87 (h := ?_)
              refine XReg.pn 12 88 (h := ?_)
              refine XReg.pn 13 89 (h := ?_)
              refine XReg.pn 14 90 (h := ?_)
              refine XReg.pn 15 91 (h := ?_)
              refine XReg.pn 16 92 (h := ?_)
              refine XReg.pn 17 93 (h := ?_)
              refine XReg.pn 18 94 (h := ?_)
              refine XReg.pn 19 95 (h := ?_)
              refine XReg.pu 20 96 (h := ?_)
              refine done_ (by kernel_rfl) ?_
              go_wp2
              go_ret
              exact ⟨by rw [HF.out]; rfl, HB6.out.trans (HBbd.out.mono HB6.out.size)⟩
            | true =>
              by_cases h0 : i = 0
              · have HSN' := Aside0.mk (show seenS x.f1 none x.f6 = seenS x.f1 (some d) (x.f6.drop (i + 1)) from by rw [hsn, if_pos h0]; simp)
                have hz : decide (0 < i) = false := by simp; omega
                clear hsn hbh h0
                refine XReg.pu 3 79 (h := ?_)
                refine XReg.pu 4 80 (h := ?_)
                refine XReg.pu 5 81 (h := ?_)
                refine XReg.pn 6 82 (h := ?_)
                refine XReg.pn 7 83 (h := ?_)
                refine XReg.pn 8 84 (h := ?_)
                refine XReg.pn 9 85 (h := ?_)
                refine XReg.pn 10 86 (h := ?_)
                refine XReg.pn 11 87 (h := ?_)
                refine XReg.pn 12 88 (h := ?_)
                refine XReg.pn 13 89 (h := ?_)
                refine XReg.pn 14 90 (h := ?_)
                refine XReg.pn 15 91 (h := ?_)
                refine XReg.pn 16 92 (h := ?_)
                refine XReg.pn 17 93 (h := ?_)
                refine XReg.pn 18 94 (h := ?_)
                refine XReg.pu 19 95 (h := ?_)
                refine XReg.pu 20 96 (h := ?_)
                refine done_ (by kernel_rfl) ?_
                go_wp2
                go_round
                case rel => exact ⟨i + 1, by go_num, by omega, ⟨by rw [if_neg (by omega), Nat.add_sub_cancel, hd]; exact HSN'.out⟩, HBbd⟩
                case measure => simp [intOf]; omega
              · obtain ⟨c, hcc⟩ : ∃ c, rd_T34 x.f6 ((i - 1 : Nat) : Int) = c := ⟨_, rfl⟩
                rw [if_neg h0, hcc] at hsn
                simp only [Bool.true_and] at hsn
                have hz : decide (0 < i) = true := by simp; omega
                have hwr : wrap64 ((i : Int) - 1) = ((i - 1 : Nat) : Int) := by unfold wrap64; omega
                have hb4 : 0 ≤ ((i - 1 : Nat) : Int) ∧ ((i - 1 : Nat) : Int) < (x.f6.length : Int) := by omega
                have hlt1 : i - 1 < x.f6.length := by omega
                clear hbh
                refine XReg.pu 3 79 (h := ?_)
                refine XReg.pu 4 80 (h := ?_)
                refine XReg.pu 5 81 (h := ?_)
                refine XReg.pu 6 82 (h := ?_)
                refine XReg.tk 7 83 (hy := by (intro w' hS_; obtain ⟨⟨s0, s1, s2, s3, s4, s5⟩, _⟩ := hS_; go_simp; with_reducible rfl)) (h := ?_)
                refine XReg.pu 8 84 (h := ?_)
                refine XReg.pu 9 85 (h := ?_)
                try rw [hwr]
                refine XReg.pu 10 86 (h := ?_)
                refine XReg.tk 11 87 (hy := by (intro w' hS_; obtain ⟨_, s8⟩ := hS_; go_simp; with_reducible rfl)) (h := ?_)
                try rw [hcc]
                refine XReg.pu 12 88 (h := ?_)
                refine XReg.tk 13 89 (hy := by (intro w' hS_; obtain ⟨⟨s0, s1, s2, s3, s4, s5⟩, _⟩ := hS_; go_simp; with_reducible rfl)) (h := ?_)
                refine XReg.pu 14 90 (h := ?_)
                refine XReg.pu 15 91 (h := ?_)
                refine XReg.tk 16 92 (hy := by (intro w' hS_; obtain ⟨_, s8⟩ := hS_; go_simp; with_reducible rfl)) (h := ?_)
                try rw [hd]
                refine XReg.one (i := 17) (some 93) rfl rfl (by kernel_rfl) (by decide) (fun Kc hKc => ?_)
                refine goes_ Try.func105 (by kernel_rfl) rfl #[.agg #[.string c.f0, .int .i64 c.f1], .agg #[.string d.f0, .int .i64 d.f1]] (by rfl) rfl rfl (by (try simp only [List.map_toArray, List.map_cons, List.map_nil]); first | done | rfl) ?_
                refine (pannierref08_ahead.calls c.f0 c.f1 d.f0 d.f1 _ _ (ahead_f c d)).mono ?_
                rintro e wc ⟨rfl, hbc⟩
                refine ⟨_, rfl, ?_⟩
                have HBc := Aside0.mk (HBbd.out.trans (hbc.mono HBbd.out.size))
                refine hKc.out _ _ (CT.out _ HBc.out) (fun hH2 => ?_)
                clear hKc Kc hH hbc
                obtain ⟨bt, hbt⟩ : ∃ b, lessD c d = b := ⟨_, rfl⟩
                rw [hbt] at hsn ⊢
                refine XReg.pu 18 94 (h := ?_)
                refine XReg.pu 19 95 (h := ?_)
                refine XReg.pu 20 96 (h := ?_)
                refine done_ (by kernel_rfl) ?_
                clear hH2 hbt
                cases bt with
                | false =>
                  have HF := Aside0.mk (not_right (x := x) (fun _ _ _ _ _ _ h _ => by rw [hsn] at h; simp at h))
                  clear hsn
                  go_wp2
                  go_ret
                  exact ⟨by rw [HF.out]; rfl, HB6.out.trans (HBc.out.mono HB6.out.size)⟩
                | true =>
                  simp only [Bool.true_and] at hsn
                  have HSN' := Aside0.mk hsn
                  clear hsn
                  go_wp2
                  go_round
                  case rel => exact ⟨i + 1, by go_num, by omega, ⟨by rw [if_neg (by omega), Nat.add_sub_cancel, hd]; exact HSN'.out⟩, HBc⟩
                  case measure => simp [intOf]; omega
          · have q1 : decide ((i : Int) < (x.f6.length : Int)) = false := by simp; omega
            have hsn := HSi.out
            rw [List.drop_eq_nil_of_le (by omega)] at hsn
            have HS := Aside0.mk (show seenS x.f1 none x.f6 = true from by rw [hsn]; rfl)
            have HK := Aside0.mk (show rightO x = kindS x from by
             unfold rightO
             rw [HO1.out, HO2.out, HS.out]
             have h4 := HO4.out
             have h5 := HO5.out
             rw [h4, h5]
             simp [HO3.out, HO6.out])
            have e4 : wr.cell? ⟨N, 4, none⟩ = some (.int .i64 x.f3) := (blk_cell HXi.out 4).trans rfl
            have e6 : wr.cell? ⟨N, 6, none⟩ = some (.int .i64 x.f5) := (blk_cell HXi.out 6).trans rfl
            have HBf := Aside0.mk (HB6.out.trans (HBi.out.mono HB6.out.size))
            clear hsn
            go_wp2
            all_goals
             go_ret
             refine ⟨?_, by first | exact HBf.out | (rw [← hN]; exact HBf.out)⟩
             rw [HK.out]
             refine congrArg (fun b => Ending.returned (Value.bool b)) ?_
             unfold kindS
             first | (simp_all; done) | (rw [Bool.eq_iff_iff]; simp_all; done) | (rw [Bool.eq_iff_iff]; simp_all; omega)
end Go.Proofs.Ytenbkljgmgdegaa.PO
end
