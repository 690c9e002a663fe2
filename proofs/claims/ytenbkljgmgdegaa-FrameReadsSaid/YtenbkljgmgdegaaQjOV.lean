/- What the rows of this claim use, out of the texts of this work (OV, OVE, PD9). No condition beyond those that each statement names. -/
import Derived.Test.YtenbkljgmgdegaaQjOH
import Derived.Test.YtenbkljgmgdegaaQjX
import Derived.Test.YtenbkljgmgdegaaQjPOx7
import Derived.Test.YtenbkljgmgdegaaQjPOx0
import Derived.Test.YtenbkljgmgdegaaQjPOx2
import Derived.Test.YtenbkljgmgdegaaQjPOx10
section
namespace Go.Proofs.Ytenbkljgmgdegaa.PO
open Go.RowKit Go.Proofs.YtenbkljgmgdegaaW.PrintWords Go.Proofs.YtenbkljgmgdegaaW.PrintLast Go.Proofs.YtenbkljgmgdegaaW.PrintMore Go.Proofs.Ytenbkljgmgdegaa.XW
open Go.Proofs.Ytenbkljgmgdegaa.XRange
set_option linter.unusedVariables false
set_option linter.unusedSimpArgs false
theorem seenS_cons (deps : List S34) (p : Option S34) (x : S34) (l : List S34) : seenS deps p (x :: l) = (hasS deps x.f0 x.f1 && (match p with | none => true | some q => lessD q x) && seenS deps (some x) l) := rfl
structure BoxR (w : World) (N M : Nat) (x : S36) (A2 : Option Addr) (c2 : Nat) (A7 : Option Addr) (c7 : Nat) : Prop where
 b : w.heap[N]? = some (.cells #[.string x.f0.f0, .int .i64 x.f0.f1, .slice A2 x.f1.length c2, .string x.f2, .int .i64 x.f3, .string x.f4, .int .i64 x.f5, .slice A7 x.f6.length c7] 36 (0, 0))
 d : w.heap[M]? = some (.cells #[.string x.f0.f0, .int .i64 x.f0.f1] 34 (0, 0))
 g2 : Kd.C k34 w A2 x.f1.length x.f1
 g7 : Kd.C k34 w A7 x.f6.length x.f6
theorem BoxR.below {w w1 : World} {N M : Nat} {x : S36} {A2 A7 : Option Addr} {c2 c7 : Nat} (h : BoxR w N M x A2 c2 A7 c7) (hb : Below w.heap.size w w1) : BoxR w1 N M x A2 c2 A7 c7 :=
 ⟨blk_below h.b hb, blk_below h.d hb, Kd.C_below h.g2 hb, Kd.C_below h.g7 hb⟩
def S6 (N : Nat) (x : S36) (A2 : Option Addr) (c2 : Nat) (A7 : Option Addr) (c7 : Nat) (w' : World) : Prop :=
 w'.cell? ⟨N, 0, none⟩ = some (.string x.f0.f0) ∧ w'.cell? ⟨N, 1, none⟩ = some (.int .i64 x.f0.f1) ∧ w'.cell? ⟨N, 2, none⟩ = some (.slice A2 x.f1.length c2) ∧ w'.cell? ⟨N, 3, none⟩ = some (.string x.f2) ∧ w'.cell? ⟨N, 5, none⟩ = some (.string x.f4) ∧ w'.cell? ⟨N, 7, none⟩ = some (.slice A7 x.f6.length c7)
theorem BoxR.s6 {w : World} {N M : Nat} {x : S36} {A2 A7 : Option Addr} {c2 c7 : Nat} (h : BoxR w N M x A2 c2 A7 c7) : S6 N x A2 c2 A7 c7 w :=
 ⟨(blk_cell h.b 0).trans rfl, (blk_cell h.b 1).trans rfl, (blk_cell h.b 2).trans rfl, (blk_cell h.b 3).trans rfl, (blk_cell h.b 5).trans rfl, (blk_cell h.b 7).trans rfl⟩
theorem not_right {x : S36} (h : dotOk x.f0 = true → rightS x.f1 = true → atS x.f0.f0 x.f1 = x.f0.f1 - 1 → (decide (1 ≤ x.f2.size) && decide (x.f2.size ≤ 32)) = true → (decide (1 ≤ x.f4.size) && decide (x.f4.size ≤ 32)) = true → x.f6.length ≤ 128 → seenS x.f1 none x.f6 = true → kindS x = true → False) : rightO x = false := by
 cases hr : rightO x with
 | false => rfl
 | true =>
   unfold rightO at hr
   simp only [Bool.and_eq_true, decide_eq_true_eq] at hr
   obtain ⟨⟨⟨⟨⟨⟨⟨h1, h2⟩, h3⟩, h4⟩, h5⟩, h6⟩, h7⟩, h8⟩ := hr
   exact (h h1 h2 h3 (by simp [h4]) (by simp [h5]) h6 h7 h8).elim
theorem C_lit34 {w : World} {M : Nat} {n : ByteArray} {d : Int} (h : w.heap[M]? = some (.cells #[.string n, .int .i64 d] 34 (0, 0))) : Kd.C k34 w (some ⟨M, 0, none⟩) 1 [⟨n, d⟩] :=
 ⟨rfl, by decide, fun _ => ⟨_, rfl, fun j p hj => by
  cases j with
  | zero =>
    simp only [List.getElem?_cons_zero, Option.some.injEq] at hj
    subst hj
    refine ⟨[.string n, .int .i64 d], rfl, k34_mk _ _, fun i u hu => ?_⟩
    have h0 := (blk_cell h i).trans (by simpa using hu)
    have e : (⟨M, 0, none⟩ : Addr).add (0 * k34.sz + i) = ⟨M, i, none⟩ := by
     rw [show 0 * k34.sz + i = i from by omega]
     cases i <;> simp [Addr.add]
    rw [e]
    exact h0
  | succ j => simp at hj⟩⟩
set_option maxHeartbeats 8000000 in
set_option maxRecDepth 100000 in
theorem orderRight_calls (x : S36) (A2 : Option Addr) (c2 : Nat) (A7 : Option Addr) (c7 : Nat) (w : World) (l2 : x.f1.length ≤ c2) (g2 : Kd.C k34 w A2 x.f1.length x.f1) (l7 : x.f6.length ≤ c7) (g7 : Kd.C k34 w A7 x.f6.length x.f6) :
 Calls Try.prog 45 #[.agg #[.string x.f0.f0, .int .i64 x.f0.f1, .slice A2 x.f1.length c2, .string x.f2, .int .i64 x.f3, .string x.f4, .int .i64 x.f5, .slice A7 x.f6.length c7]] w fun e w' => e = .returned (.bool (rightO x)) ∧ Below w.heap.size w w' := by
 have m2 := g2.2.1
 have m7 := g7.2.1
 have HL2 := Aside0.mk l2
 have HL7 := Aside0.mk l7
 have HG2 := Aside0.mk g2
 have HG7 := Aside0.mk g7
 have HM2 := Aside0.mk m2
 have HM7 := Aside0.mk m7
 obtain ⟨N, hN⟩ : ∃ N, w.heap.size = N := ⟨_, rfl⟩
 clear l2 l7 g2 g7 m2 m7
 go_enter Try.func45, Try.ntmps45
 go_wp2
 obtain ⟨w3, hw3⟩ : ∃ w3, (w.alloc (.cells #[.string x.f0.f0, .int .i64 x.f0.f1, .slice A2 x.f1.length c2, .string x.f2, .int .i64 x.f3, .string x.f4, .int .i64 x.f5, .slice A7 x.f6.length c7] 36)).alloc (.cells #[.string x.f0.f0, .int .i64 x.f0.f1] 34) = w3 := ⟨_, rfl⟩
 have hb3 : Below w.heap.size w w3 := by rw [← hw3]; exact ((Below.refl _ _).alloc (Nat.le_refl _) _).alloc (by simp) _
 have hx3 : BoxR w3 N (N + 1) x A2 c2 A7 c7 := ⟨by rw [← hw3, ← hN]; exact blk_alloc (World.alloc_heap_new w _) _,
  by rw [← hw3, ← hN]; have := World.alloc_heap_new (w.alloc (.cells #[.string x.f0.f0, .int .i64 x.f0.f1, .slice A2 x.f1.length c2, .string x.f2, .int .i64 x.f3, .string x.f4, .int .i64 x.f5, .slice A7 x.f6.length c7] 36)) (.cells #[.string x.f0.f0, .int .i64 x.f0.f1] 34); rwa [World.size_alloc] at this, Kd.C_below HG2.out hb3, Kd.C_below HG7.out hb3⟩
 first | rw [hw3] | (rw [hN] at hw3; rw [hw3]) | skip
 try rw [hN]
 have HB3 := Aside0.mk hb3
 have HX3 := Aside0.mk hx3
 clear hw3 hb3 hx3 HG2 HG7
 refine start_ (n := 40) (ds := []) (S := S6 N x A2 c2 A7 c7) _ (by kernel_rfl) rfl rfl (HX3.out.below (below_drew1 (Below.refl _ w3))).s6 (fun hH => ?_)
 refine XReg.pu 0 9 (h := ?_)
 refine XReg.one (i := 1) (some 10) rfl rfl (by kernel_rfl) (by decide) (fun Kc hKc => ?_)
 refine goes_ Try.func61 (by kernel_rfl) rfl #[.slice (some ⟨N + 1, 0, none⟩) 1 1] (by rfl) rfl rfl (by (try simp only [List.map_toArray, List.map_cons, List.map_nil]); first | done | rfl) ?_
 refine (vector_Right.calls 2 _ 1 [x.f0] (rightS [x.f0]) _ (Kd.C_drew (C_lit34 HX3.out.d)) (by simp) (right_f _ (by simp) 2 (by simp))).mono ?_
 rintro e w4 ⟨rfl, hb4⟩
 refine ⟨_, rfl, ?_⟩
 have hb4' : Below w3.heap.size w3 w4 := ⟨hb4.os, hb4.tape, hb4.output, hb4.size, hb4.block⟩
 have HB4 := Aside0.mk (show Below w.heap.size w w4 from HB3.out.trans (hb4'.mono HB3.out.size))
 have HX4 := Aside0.mk (HX3.out.below hb4')
 refine hKc.out _ _ HX4.out.s6 (fun hH2 => ?_)
 clear hKc Kc hH hb4 hb4' HB3 HX3
 rw [rightS_one]
 obtain ⟨b1, hb1⟩ : ∃ b, dotOk x.f0 = b := ⟨_, rfl⟩
 rw [hb1]
 cases b1 with
 | false =>
   have HF := Aside0.mk (not_right (x := x) (fun h _ _ _ _ _ _ _ => by rw [hb1] at h; cases h))
   clear hb1
   refine XReg.pu 2 11 (h := ?_)
   refine XReg.pu 3 12 (h := ?_)
   refine XReg.pn 4 13 (h := ?_)
   refine XReg.pn 5 14 (h := ?_)
   refine XReg.pn 6 15 (h := ?_)
   refine XReg.pn 7 16 (h := ?_)
   refine XReg.pu 8 17 (h := ?_)
   refine XReg.pu 9 18 (h := ?_)
   refine XReg.pn 10 19 (h := ?_)
   refine XReg.pn 11 20 (h := ?_)
   refine XReg.pn 12 21 (h := ?_)
   refine XReg.pn 13 22 (h := ?_)
   refine XReg.pn 14 23 (h := ?_)
   refine XReg.pn 15 24 (h := ?_)
   refine XReg.pn 16 25 (h := ?_)
   refine XReg.pn 17 26 (h := ?_)
   refine XReg.pn 18 27 (h := ?_)
   refine XReg.pn 19 28 (h := ?_)
   refine XReg.pn 20 29 (h := ?_)
   refine XReg.pu 21 30 (h := ?_)
   refine XReg.pu 22 31 (h := ?_)
   refine XReg.pn 23 32 (h := ?_)
   refine XReg.pn 24 33 (h := ?_)
   refine XReg.pn 25 34 (h := ?_)
   refine XReg.pn 26 35 (h := ?_)
   refine XReg.pu 27 36 (h := ?_)
   refine XReg.pu 28 37 (h := ?_)
   refine XReg.pn 29 38 (h := ?_)
   refine XReg.pn 30 39 (h := ?_)
   refine XReg.pn 31 40 (h := ?_)
   refine XReg.pn 32 41 (h := ?_)
   refine XReg.pu 33 42 (h := ?_)
   refine XReg.pu 34 43 (h := ?_)
   refine XReg.pn 35 44 (h := ?_)
   refine XReg.pn 36 45 (h := ?_)
   refine XReg.pn 37 46 (h := ?_)
   refine XReg.pn 38 47 (h := ?_)
   refine XReg.pu 39 48 (h := ?_)
   refine done_ (by kernel_rfl) ?_
   go_wp2
   go_ret
   exact ⟨by rw [HF.out]; rfl, HB4.out⟩
 | true =>
   have HO1 := Aside0.mk hb1
   clear hb1
   refine XReg.pu 2 11 (h := ?_)
   refine XReg.pu 3 12 (h := ?_)
   refine XReg.pu 4 13 (h := ?_)
   refine XReg.tk 5 14 (hy := by (intro w' hS_; obtain ⟨s0, s1, s2, s3, s4, s5⟩ := hS_; go_simp; with_reducible rfl)) (h := ?_)
   refine XReg.one (i := 6) (some 15) rfl rfl (by kernel_rfl) (by decide) (fun Kc hKc => ?_)
   refine goes_ Try.func61 (by kernel_rfl) rfl #[.slice A2 x.f1.length c2] (by rfl) rfl rfl (by (try simp only [List.map_toArray, List.map_cons, List.map_nil]); first | done | rfl) ?_
   refine (vector_Right.calls (x.f1.length + 1) A2 c2 x.f1 (rightS x.f1) _ HX4.out.g2 HL2.out (right_f _ HM2.out _ (by omega))).mono ?_
   rintro e w5 ⟨rfl, hb5⟩
   refine ⟨_, rfl, ?_⟩
   have HB5 := Aside0.mk (show Below w.heap.size w w5 from HB4.out.trans (hb5.mono HB4.out.size))
   have HX5 := Aside0.mk (HX4.out.below hb5)
   refine hKc.out _ _ HX5.out.s6 (fun hH => ?_)
   clear hKc Kc hH2 hb5 HB4 HX4
   obtain ⟨b2, hb2⟩ : ∃ b, rightS x.f1 = b := ⟨_, rfl⟩
   rw [hb2]
   cases b2 with
   | false =>
     have HF := Aside0.mk (not_right (x := x) (fun _ h _ _ _ _ _ _ => by rw [hb2] at h; cases h))
     clear hb2
     refine XReg.pu 7 16 (h := ?_)
     refine XReg.pu 8 17 (h := ?_)
     refine XReg.pu 9 18 (h := ?_)
     refine XReg.pn 10 19 (h := ?_)
     refine XReg.pn 11 20 (h := ?_)
     refine XReg.pn 12 21 (h := ?_)
     refine XReg.pn 13 22 (h := ?_)
     refine XReg.pn 14 23 (h := ?_)
     refine XReg.pn 15 24 (h := ?_)
     refine XReg.pn 16 25 (h := ?_)
     refine XReg.pn 17 26 (h := ?_)
     refine XReg.pn 18 27 (h := ?_)
     refine XReg.pn 19 28 (h := ?_)
     refine XReg.pn 20 29 (h := ?_)
     refine XReg.pu 21 30 (h := ?_)
     refine XReg.pu 22 31 (h := ?_)
     refine XReg.pn 23 32 (h := ?_)
     refine XReg.pn 24 33 (h := ?_)
     refine XReg.pn 25 34 (h := ?_)
     refine XReg.pn 26 35 (h := ?_)
     refine XReg.pu 27 36 (h := ?_)
     refine XReg.pu 28 37 (h := ?_)
     refine XReg.pn 29 38 (h := ?_)
     refine XReg.pn 30 39 (h := ?_)
     refine XReg.pn 31 40 (h := ?_)
     refine XReg.pn 32 41 (h := ?_)
     refine XReg.pu 33 42 (h := ?_)
     refine XReg.pu 34 43 (h := ?_)
     refine XReg.pn 35 44 (h := ?_)
     refine XReg.pn 36 45 (h := ?_)
     refine XReg.pn 37 46 (h := ?_)
     refine XReg.pn 38 47 (h := ?_)
     refine XReg.pu 39 48 (h := ?_)
     refine done_ (by kernel_rfl) ?_
     go_wp2
     go_ret
     exact ⟨by rw [HF.out]; rfl, HB5.out⟩
   | true =>
     have HO2 := Aside0.mk hb2
     clear hb2
     refine XReg.pu 7 16 (h := ?_)
     refine XReg.pu 8 17 (h := ?_)
     refine XReg.pu 9 18 (h := ?_)
     refine XReg.pu 10 19 (h := ?_)
     refine XReg.tk 11 20 (hy := by (intro w' hS_; obtain ⟨s0, s1, s2, s3, s4, s5⟩ := hS_; go_simp; with_reducible rfl)) (h := ?_)
     refine XReg.pu 12 21 (h := ?_)
     refine XReg.pu 13 22 (h := ?_)
     refine XReg.tk 14 23 (hy := by (intro w' hS_; obtain ⟨s0, s1, s2, s3, s4, s5⟩ := hS_; go_simp; with_reducible rfl)) (h := ?_)
     refine XReg.pu 16 25 (h := ?_)
     refine XReg.pu 17 26 (h := ?_)
     refine XReg.tk 18 27 (hy := by (intro w' hS_; obtain ⟨s0, s1, s2, s3, s4, s5⟩ := hS_; go_simp; with_reducible rfl)) (h := ?_)
     refine XReg.pu 19 28 (h := ?_)
     refine XReg.one (i := 15) (some 24) rfl rfl (by kernel_rfl) (by decide) (fun Kc hKc => ?_)
     refine goes_ Try.func51 (by kernel_rfl) rfl #[.slice A2 x.f1.length c2, .string x.f0.f0] (by rfl) rfl rfl (by (try simp only [List.map_toArray, List.map_cons, List.map_nil]); first | done | rfl) ?_
     refine (vector_At.calls (x.f1.length + 1) A2 c2 x.f1 x.f0.f0 (atS x.f0.f0 x.f1) _ HX5.out.g2 HL2.out (at_f _ _ HM2.out _ (by omega))).mono ?_
     rintro e w6 ⟨rfl, hb6⟩
     refine ⟨_, rfl, ?_⟩
     have HB6 := Aside0.mk (show Below w.heap.size w w6 from HB5.out.trans (hb6.mono HB5.out.size))
     have HX6 := Aside0.mk (HX5.out.below hb6)
     refine hKc.out _ _ HX6.out.s6 (fun hH2 => ?_)
     clear hKc Kc hH hb6 HB5 HX5
     have hwr : wrap64 (x.f0.f1 - 1) = x.f0.f1 - 1 := by have := dot_parts (n := x.f0.f0) (d := x.f0.f1) HO1.out; unfold wrap64; omega
     rw [hwr]
     clear hwr
     refine XReg.pu 20 29 (h := ?_)
     obtain ⟨b3, hb3⟩ : ∃ b, (atS x.f0.f0 x.f1 != x.f0.f1 - 1) = b := ⟨_, rfl⟩
     rw [hb3]
     cases b3 with
     | true =>
       have HF := Aside0.mk (not_right (x := x) (fun _ _ h _ _ _ _ _ => by rw [h] at hb3; simp at hb3))
       clear hb3
       refine XReg.pu 21 30 (h := ?_)
       refine XReg.pu 22 31 (h := ?_)
       refine XReg.pn 23 32 (h := ?_)
       refine XReg.pn 24 33 (h := ?_)
       refine XReg.pn 25 34 (h := ?_)
       refine XReg.pn 26 35 (h := ?_)
       refine XReg.pu 27 36 (h := ?_)
       refine XReg.pu 28 37 (h := ?_)
       refine XReg.pn 29 38 (h := ?_)
       refine XReg.pn 30 39 (h := ?_)
       refine XReg.pn 31 40 (h := ?_)
       refine XReg.pn 32 41 (h := ?_)
       refine XReg.pu 33 42 (h := ?_)
       refine XReg.pu 34 43 (h := ?_)
       refine XReg.pn 35 44 (h := ?_)
       refine XReg.pn 36 45 (h := ?_)
       refine XReg.pn 37 46 (h := ?_)
       refine XReg.pn 38 47 (h := ?_)
       refine XReg.pu 39 48 (h := ?_)
       refine done_ (by kernel_rfl) ?_
       go_wp2
       go_ret
       exact ⟨by rw [HF.out]; rfl, HB6.out⟩
     | false =>
       have HO3 := Aside0.mk (show atS x.f0.f0 x.f1 = x.f0.f1 - 1 from by simpa using hb3)
       clear hb3
       refine XReg.pu 21 30 (h := ?_)
       refine XReg.pu 22 31 (h := ?_)
       refine XReg.pu 23 32 (h := ?_)
       refine XReg.tk 24 33 (hy := by (intro w' hS_; obtain ⟨s0, s1, s2, s3, s4, s5⟩ := hS_; go_simp; with_reducible rfl)) (h := ?_)
       refine XReg.one (i := 25) (some 34) rfl rfl (by kernel_rfl) (by decide) (fun Kc hKc => ?_)
       refine goes_ Try.func102 (by kernel_rfl) rfl #[.string x.f2] (by rfl) rfl rfl (by (try simp only [List.map_toArray, List.map_cons, List.map_nil]); first | done | rfl) ?_
       refine (order_isText.calls x.f2 _ _ (text_f x.f2)).mono ?_
       rintro e w7 ⟨rfl, hd7⟩
       refine ⟨_, rfl, ?_⟩
       have HB7 := Aside0.mk (show Below w.heap.size w w7 from HB6.out.trans (hd7.below.mono HB6.out.size))
       have HX7 := Aside0.mk (HX6.out.below hd7.below)
       refine hKc.out _ _ HX7.out.s6 (fun hH => ?_)
       clear hKc Kc hH2 hd7 HB6 HX6
       obtain ⟨b4, hb4⟩ : ∃ b, (decide (1 ≤ x.f2.size) && decide (x.f2.size ≤ 32)) = b := ⟨_, rfl⟩
       rw [hb4]
       cases b4 with
       | false =>
         have HF := Aside0.mk (not_right (x := x) (fun _ _ _ h _ _ _ _ => by rw [hb4] at h; cases h))
         clear hb4
         refine XReg.pu 26 35 (h := ?_)
         refine XReg.pu 27 36 (h := ?_)
         refine XReg.pu 28 37 (h := ?_)
         refine XReg.pn 29 38 (h := ?_)
         refine XReg.pn 30 39 (h := ?_)
         refine XReg.pn 31 40 (h := ?_)
         refine XReg.pn 32 41 (h := ?_)
         refine XReg.pu 33 42 (h := ?_)
         refine XReg.pu 34 43 (h := ?_)
         refine XReg.pn 35 44 (h := ?_)
         refine XReg.pn 36 45 (h := ?_)
         refine XReg.pn 37 46 (h := ?_)
         refine XReg.pn 38 47 (h := ?_)
         refine XReg.pu 39 48 (h := ?_)
         refine done_ (by kernel_rfl) ?_
         go_wp2
         go_ret
         exact ⟨by rw [HF.out]; rfl, HB7.out⟩
       | true =>
         have HO4 := Aside0.mk hb4
         clear hb4
         refine XReg.pu 26 35 (h := ?_)
         refine XReg.pu 27 36 (h := ?_)
         refine XReg.pu 28 37 (h := ?_)
         refine XReg.pu 29 38 (h := ?_)
         refine XReg.tk 30 39 (hy := by (intro w' hS_; obtain ⟨s0, s1, s2, s3, s4, s5⟩ := hS_; go_simp; with_reducible rfl)) (h := ?_)
         refine XReg.one (i := 31) (some 40) rfl rfl (by kernel_rfl) (by decide) (fun Kc hKc => ?_)
         refine goes_ Try.func102 (by kernel_rfl) rfl #[.string x.f4] (by rfl) rfl rfl (by (try simp only [List.map_toArray, List.map_cons, List.map_nil]); first | done | rfl) ?_
         refine (order_isText.calls x.f4 _ _ (text_f x.f4)).mono ?_
         rintro e w8 ⟨rfl, hd8⟩
         refine ⟨_, rfl, ?_⟩
         have HB8 := Aside0.mk (show Below w.heap.size w w8 from HB7.out.trans (hd8.below.mono HB7.out.size))
         have HX8 := Aside0.mk (HX7.out.below hd8.below)
         refine hKc.out _ _ HX8.out.s6 (fun hH2 => ?_)
         clear hKc Kc hH hd8 HB7 HX7
         obtain ⟨b5, hb5⟩ : ∃ b, (decide (1 ≤ x.f4.size) && decide (x.f4.size ≤ 32)) = b := ⟨_, rfl⟩
         rw [hb5]
         cases b5 with
         | false =>
           have HF := Aside0.mk (not_right (x := x) (fun _ _ _ _ h _ _ _ => by rw [hb5] at h; cases h))
           clear hb5
           refine XReg.pu 32 41 (h := ?_)
           refine XReg.pu 33 42 (h := ?_)
           refine XReg.pu 34 43 (h := ?_)
           refine XReg.pn 35 44 (h := ?_)
           refine XReg.pn 36 45 (h := ?_)
           refine XReg.pn 37 46 (h := ?_)
           refine XReg.pn 38 47 (h := ?_)
           refine XReg.pu 39 48 (h := ?_)
           refine done_ (by kernel_rfl) ?_
           go_wp2
           go_ret
           exact ⟨by rw [HF.out]; rfl, HB8.out⟩
         | true =>
           have HO5 := Aside0.mk hb5
           clear hb5
           refine XReg.pu 32 41 (h := ?_)
           refine XReg.pu 33 42 (h := ?_)
           refine XReg.pu 34 43 (h := ?_)
           refine XReg.pu 35 44 (h := ?_)
           refine XReg.tk 36 45 (hy := by (intro w' hS_; obtain ⟨s0, s1, s2, s3, s4, s5⟩ := hS_; go_simp; with_reducible rfl)) (h := ?_)
           refine XReg.pu 37 46 (h := ?_)
           refine XReg.pu 38 47 (h := ?_)
           obtain ⟨b6, hb6⟩ : ∃ b, decide ((128 : Int) < (x.f6.length : Int)) = b := ⟨_, rfl⟩
           rw [hb6]
           refine XReg.pu 39 48 (h := ?_)
           refine done_ (by kernel_rfl) ?_
           cases b6 with
           | true =>
             have HF := Aside0.mk (not_right (x := x) (fun _ _ _ _ _ h _ _ => by simp at hb6; omega))
             clear hb6
             go_wp2
             go_ret
             exact ⟨by rw [HF.out]; rfl, HB8.out⟩
           | false =>
             have HO6 := Aside0.mk (show x.f6.length ≤ 128 from by simp at hb6; omega)
             clear hb6 hH2
             have e7 : w8.cell? ⟨N, 7, none⟩ = some (.slice A7 x.f6.length c7) := (blk_cell HX8.out.b 7).trans rfl
             have HW8 := Aside0.mk (Below.refl w8.heap.size w8)
             go_wp2
             clear e7
             go_loopw [52] (fun v52 wr => ∃ i : Nat, v52 = .int .i64 i ∧ i ≤ x.f6.length ∧ Aside0 (seenS x.f1 none x.f6 = seenS x.f1 (if i = 0 then none else some (rd_T34 x.f6 ((i - 1 : Nat) : Int))) (x.f6.drop i)) ∧ Aside0 (Below w8.heap.size w8 wr)) (fun v52 _ => x.f6.length - (intOf v52).toNat)
             case atStart => exact ⟨0, rfl, by omega, ⟨rfl⟩, HW8⟩
             case round =>
              clear HW8
              obtain ⟨i, rfl, hile, HSi, HBi⟩ := hrel
              by_cases hlt : i < x.f6.length
              · obtain ⟨ad, had, f0, f1⟩ := at_T34 (Kd.C_below HX8.out.g7 HBi.out) (i : Int) (by omega) (by omega)
                obtain ⟨d, hd⟩ : ∃ d, rd_T34 x.f6 (i : Int) = d := ⟨_, rfl⟩
                have hsn := HSi.out
                rw [rd_drop x.f6 i hlt, hd, seenS_cons] at hsn
                rw [hd] at f0 f1
                simp only [Int.toNat_natCast] at f0 f1
                subst had
                have HD := Aside0.mk hd
                have HSN := Aside0.mk hsn
                have hb3 : 0 ≤ (i : Int) ∧ (i : Int) < (x.f6.length : Int) := by omega
                clear hd hsn
                obtain ⟨M, hM⟩ : ∃ M, wr.heap.size = M := ⟨_, rfl⟩
                go_wp2
                obtain ⟨wa, hwa⟩ : ∃ wa, wr.alloc (.cells #[.string d.f0, .int .i64 d.f1] 34) = wa := ⟨_, rfl⟩
                have hba : Below wr.heap.size wr wa := by rw [← hwa]; exact (Below.refl _ wr).alloc (Nat.le_refl _) _
                have hbk : wa.heap[M]? = some (.cells #[.string d.f0, .int .i64 d.f1] 34 (0, 0)) := by rw [← hwa, ← hM]; exact World.alloc_heap_new wr _
                first | rw [hwa] | (rw [hM] at hwa; rw [hwa]) | skip
                have HBa := Aside0.mk (show Below w8.heap.size w8 wa from HBi.out.trans (hba.mono HBi.out.size))
                have HBK := Aside0.mk hbk
                have HXa := Aside0.mk (HX8.out.below HBa.out)
                clear hwa hba hbk f0 f1 hM
                refine start_ (n := 20) (ds := []) (S := fun w' => S6 N x A2 c2 (some ad) c7 w' ∧ w'.cell? ⟨M, 0, none⟩ = some (.string d.f0) ∧ w'.cell? ⟨M, 1, none⟩ = some (.int .i64 d.f1) ∧ (∀ q : Nat, q < x.f6.length → w'.cell? (ad.add (q * 2)) = some (.string (rd_T34 x.f6 (q : Int)).f0) ∧ w'.cell? ⟨(ad.add (q * 2)).block, (ad.add (q * 2)).off + 1, none⟩ = some (.int .i64 (rd_T34 x.f6 (q : Int)).f1))) _ (by kernel_rfl) rfl rfl ?_ (fun hH => ?_)
                · exact ⟨(HXa.out.below (below_drew1 (Below.refl _ wa))).s6, (blk_cell (blk_drew HBK.out) 0).trans rfl, (blk_cell (blk_drew HBK.out) 1).trans rfl, fun q hq => by
                   obtain ⟨ad', had', f0, f1⟩ := at_T34 (Kd.C_drew HXa.out.g7) (q : Int) (by omega) (by omega)
                   cases had'
                   exact ⟨f0, f1⟩⟩
                refine XReg.pu 0 57 (h := ?_)
                refine XReg.tk 1 58 (hy := by (intro w' hS_; obtain ⟨⟨s0, s1, s2, s3, s4, s5⟩, _⟩ := hS_; go_simp; with_reducible rfl)) (h := ?_)
                refine XReg.tk 2 59 (hy := by (intro w' hS_; obtain ⟨_, s6, s7, _⟩ := hS_; go_simp; with_reducible rfl)) (h := ?_)
                refine XReg.one (i := 3) (some 60) rfl rfl (by kernel_rfl) (by decide) (fun Kc hKc => ?_)
                refine goes_ Try.func103 (by kernel_rfl) rfl #[.slice A2 x.f1.length c2, .agg #[.string d.f0, .int .i64 d.f1]] (by rfl) rfl rfl (by (try simp only [List.map_toArray, List.map_cons, List.map_nil]); first | done | rfl) ?_
                refine (vector_Has.calls (x.f1.length + 1) A2 c2 x.f1 d.f0 d.f1 (hasS x.f1 d.f0 d.f1) _ (Kd.C_drew HXa.out.g2) HL2.out (has_f _ HM2.out _ _ _ (by omega))).mono ?_
                rintro e wb ⟨rfl, hbb⟩
                refine ⟨_, rfl, ?_⟩
                have hbb' : Below wa.heap.size wa wb := ⟨hbb.os, hbb.tape, hbb.output, hbb.size, hbb.block⟩
                have HBb := Aside0.mk (show Below w8.heap.size w8 wb from HBa.out.trans (hbb'.mono HBa.out.size))
                have HXb := Aside0.mk (HXa.out.below hbb')
                have BKb := Aside0.mk (blk_below HBK.out hbb')
                refine hKc.out _ _ ⟨HXb.out.s6, (blk_cell BKb.out 0).trans rfl, (blk_cell BKb.out 1).trans rfl, fun q hq => by
                 obtain ⟨ad', had', f0, f1⟩ := at_T34 HXb.out.g7 (q : Int) (by omega) (by omega)
                 cases had'
                 exact ⟨f0, f1⟩⟩ (fun hH2 => ?_)
                clear hKc Kc hH hbb hbb' HBa HXa HBK
                have hib : i < 128 := by have := HO6.out; omega
                obtain ⟨bh, hbh⟩ : ∃ b, hasS x.f1 d.f0 d.f1 = b := ⟨_, rfl⟩
                have hsn := HSN.out
                rw [hbh] at hsn ⊢
                cases bh with
                | false =>
                  have HF := Aside0.mk (not_right (x := x) (fun _ _ _ _ _ _ h _ => by rw [hsn] at h; simp at h))
                  clear hbh hsn
                  refine XReg.pu 4 61 (h := ?_)
                  refine XReg.pu 5 62 (h := ?_)
                  refine XReg.pn 6 63 (h := ?_)
                  refine XReg.pn 7 64 (h := ?_)
                  refine XReg.pn 8 65 (h := ?_)
                  refine XReg.pn 9 66 (h := ?_)
                  refine XReg.pn 10 67 (h := ?_)
                  refine XReg.pn 11 68 (h := ?_)
                  refine XReg.pn 12 69 (h := ?_)
                  refine XReg.pn 13 70 (h := ?_)
                  refine XReg.pn 14 71 (h := ?_)
                  refine XReg.pn 15 72 (h := ?_)
                  refine XReg.pn 16 73 (h := ?_)
                  refine XReg.pn 17 74 (h := ?_)
                  refine XReg.pn 18 75 (h := ?_)
                  refine XReg.pu 19 76 (h := ?_)
                  refine done_ (by kernel_rfl) ?_
                  clear hH2
                  go_wp2
                  go_ret
                  exact ⟨by rw [HF.out]; rfl, HB8.out.trans (HBb.out.mono HB8.out.size)⟩
                | true =>
                  refine XReg.pu 4 61 (h := ?_)
                  refine XReg.pu 5 62 (h := ?_)
                  refine XReg.pu 6 63 (h := ?_)
                  by_cases h0 : i = 0
                  · have hsn' : seenS x.f1 none x.f6 = seenS x.f1 (some d) (x.f6.drop (i + 1)) := by rw [hsn, if_pos h0]; simp
                    have HSN' := Aside0.mk hsn'
                    have hz : decide (0 < i) = false := by simp; omega
                    clear hsn hsn' hbh h0
                    refine XReg.pu 7 64 (h := ?_)
                    refine XReg.pu 8 65 (h := ?_)
                    refine XReg.pn 9 66 (h := ?_)
                    refine XReg.pn 10 67 (h := ?_)
                    refine XReg.pn 11 68 (h := ?_)
                    refine XReg.pn 12 69 (h := ?_)
                    refine XReg.pn 13 70 (h := ?_)
                    refine XReg.pn 14 71 (h := ?_)
                    refine XReg.pn 15 72 (h := ?_)
                    refine XReg.pn 16 73 (h := ?_)
                    refine XReg.pn 17 74 (h := ?_)
                    refine XReg.pu 18 75 (h := ?_)
                    refine XReg.pu 19 76 (h := ?_)
                    refine done_ (by kernel_rfl) ?_
                    clear hH2 hz
                    go_wp2
                    go_round
                    case rel => exact ⟨i + 1, by go_num, by omega, ⟨by rw [if_neg (by omega), Nat.add_sub_cancel, HD.out]; exact HSN'.out⟩, HBb⟩
                    case measure => simp [intOf]; omega
                  · obtain ⟨c, hcc⟩ : ∃ c, rd_T34 x.f6 ((i - 1 : Nat) : Int) = c := ⟨_, rfl⟩
                    rw [if_neg h0, hcc] at hsn
                    simp only [Bool.true_and] at hsn
                    have HSN' := Aside0.mk hsn
                    have hz : decide (0 < i) = true := by simp; omega
                    have hwr : wrap64 ((i : Int) - 1) = ((i - 1 : Nat) : Int) := by unfold wrap64; omega
                    have hb4 : 0 ≤ ((i - 1 : Nat) : Int) ∧ ((i - 1 : Nat) : Int) < (x.f6.length : Int) := by omega
                    have HWR := Aside0.mk hwr
                    have HCC := Aside0.mk hcc
                    have hlt1 : i - 1 < x.f6.length := by omega
                    clear hsn hbh hwr hcc
                    refine XReg.pu 7 64 (h := ?_)
                    refine XReg.pu 8 65 (h := ?_)
                    refine XReg.pu 9 66 (h := ?_)
                    refine XReg.tk 10 67 (hy := by (intro w' hS_; obtain ⟨⟨s0, s1, s2, s3, s4, s5⟩, _⟩ := hS_; go_simp; with_reducible rfl)) (h := ?_)
                    refine XReg.pu 11 68 (h := ?_)
                    refine XReg.pu 12 69 (h := ?_)
                    rw [HWR.out]
                    refine XReg.pu 13 70 (h := ?_)
                    refine XReg.tk 14 71 (hy := by (intro w' hS_; obtain ⟨_, _, _, s8⟩ := hS_; go_simp; with_reducible rfl)) (h := ?_)
                    rw [HCC.out]
                    refine XReg.tk 15 72 (hy := by (intro w' hS_; obtain ⟨_, s6, s7, _⟩ := hS_; go_simp; with_reducible rfl)) (h := ?_)
                    obtain ⟨ts, hts, hts2⟩ := stands_f 3 (by omega) c d
                    have HTS := Aside0.mk hts
                    have HTS2 := Aside0.mk hts2
                    clear hts hts2 hz hb4 hlt1
                    refine XReg.one (i := 16) (some 73) rfl rfl (by kernel_rfl) (by decide) (fun Kc hKc => ?_)
                    refine goes_ Try.func104 (by kernel_rfl) rfl #[.agg #[.string c.f0, .int .i64 c.f1], .agg #[.string d.f0, .int .i64 d.f1]] (by rfl) rfl rfl (by (try simp only [List.map_toArray, List.map_cons, List.map_nil]); first | done | rfl) ?_
                    refine (order_stands.calls 3 c.f0 c.f1 d.f0 d.f1 ts _ HTS.out).mono ?_
                    rintro e wc ⟨rfl, hbc⟩
                    refine ⟨_, rfl, ?_⟩
                    have HBc := Aside0.mk (show Below w8.heap.size w8 wc from HBb.out.trans (hbc.mono HBb.out.size))
                    have HXc := Aside0.mk (HXb.out.below hbc)
                    have BKc := Aside0.mk (blk_below BKb.out hbc)
                    refine hKc.out _ _ ⟨HXc.out.s6, (blk_cell BKc.out 0).trans rfl, (blk_cell BKc.out 1).trans rfl, fun q hq => by
                     obtain ⟨ad', had', f0, f1⟩ := at_T34 HXc.out.g7 (q : Int) (by omega) (by omega)
                     cases had'
                     exact ⟨f0, f1⟩⟩ (fun hH => ?_)
                    clear hKc Kc hH2 hbc HBb HXb BKb
                    refine XReg.pu 17 74 (h := ?_)
                    obtain ⟨bt, hbt⟩ : ∃ b, decide (0 ≤ ts) = b := ⟨_, rfl⟩
                    rw [hbt]
                    refine XReg.pu 18 75 (h := ?_)
                    refine XReg.pu 19 76 (h := ?_)
                    refine done_ (by kernel_rfl) ?_
                    clear hH
                    have hsn := HSN'.out
                    have ht2 := HTS2.out
                    cases bt with
                    | true =>
                      have hl : lessD c d = false := ht2.1 (by simpa using hbt)
                      have HF := Aside0.mk (not_right (x := x) (fun _ _ _ _ _ _ h _ => by rw [hsn, hl] at h; simp at h))
                      clear hsn ht2 hl hbt
                      go_wp2
                      go_ret
                      exact ⟨by rw [HF.out]; rfl, HB8.out.trans (HBc.out.mono HB8.out.size)⟩
                    | false =>
                      have hl : lessD c d = true := by
                       cases h : lessD c d
                       · have := ht2.2 h; simp at hbt; omega
                       · rfl
                      rw [hl] at hsn
                      simp only [Bool.true_and] at hsn
                      have HSN2 := Aside0.mk hsn
                      clear hsn ht2 hl hbt
                      go_wp2
                      go_round
                      case rel => exact ⟨i + 1, by go_num, by omega, ⟨by rw [if_neg (by omega), Nat.add_sub_cancel, HD.out]; exact HSN2.out⟩, HBc⟩
                      case measure => simp [intOf]; omega
              · have hsn := HSi.out
                rw [List.drop_eq_nil_of_le (by omega)] at hsn
                have HS := Aside0.mk (show seenS x.f1 none x.f6 = true from by rw [hsn]; rfl)
                have HXr := Aside0.mk (HX8.out.below HBi.out)
                have HK := Aside0.mk (show rightO x = kindS x from by
                 unfold rightO
                 rw [HO1.out, HO2.out, HS.out]
                 have h4 := HO4.out
                 have h5 := HO5.out
                 rw [h4, h5]
                 simp [HO3.out, HO6.out])
                have e4 : wr.cell? ⟨N, 4, none⟩ = some (.int .i64 x.f3) := (blk_cell HXr.out.b 4).trans rfl
                have e6 : wr.cell? ⟨N, 6, none⟩ = some (.int .i64 x.f5) := (blk_cell HXr.out.b 6).trans rfl
                have e7 : wr.cell? ⟨N, 7, none⟩ = some (.slice A7 x.f6.length c7) := (blk_cell HXr.out.b 7).trans rfl
                have HBf := Aside0.mk (HB8.out.trans (HBi.out.mono HB8.out.size))
                clear hsn
                have fin : ∀ (b : Bool), kindS x = b → Ending.returned (Value.bool b) = Ending.returned (Value.bool (rightO x)) := fun b h => by rw [HK.out, h]
                have FIN := Aside0.mk fin
                clear fin
                by_cases k1 : x.f3 = 1
                · have q1 : (x.f3 == 1) = true := by simp [k1]
                  have K1 := Aside0.mk k1
                  clear k1
                  by_cases k2 : x.f6.length = 0
                  · have q2 : (x.f6.length == 0) = true := by rw [beq_iff_eq]; exact k2
                    have q2c : ((x.f6.length : Int) == 0) = true := by rw [beq_iff_eq]; omega
                    have q2d : x.f6 = [] := List.eq_nil_of_length_eq_zero k2
                    have K2 := Aside0.mk k2
                    clear k2
                    by_cases k3 : 1 ≤ x.f5
                    · have q3 : decide (1 ≤ x.f5) = true := by simp [k3]
                      have K3 := Aside0.mk k3
                      by_cases k4 : x.f5 ≤ 9999
                      · have q4 : decide (x.f5 ≤ 9999) = true := by simp [k4]
                        have K4 := Aside0.mk k4
                        go_wp2
                        all_goals
                         go_ret
                         exact ⟨FIN.out _ (by unfold kindS; rw [if_pos K1.out]; first | (simp [List.eq_nil_of_length_eq_zero K2.out, K3.out, K4.out]; done) | (simp [List.eq_nil_of_length_eq_zero K2.out, K3.out, K4.out]; omega)), (by first | exact HBf.out | (rw [← hN]; exact HBf.out))⟩
                      · have q4 : decide (x.f5 ≤ 9999) = false := by simp; omega
                        have K4 := Aside0.mk k4
                        go_wp2
                        all_goals
                         go_ret
                         exact ⟨FIN.out _ (by unfold kindS; rw [if_pos K1.out]; first | (simp [List.eq_nil_of_length_eq_zero K2.out, K3.out, K4.out]; done) | (simp [List.eq_nil_of_length_eq_zero K2.out, K3.out, K4.out]; omega)), (by first | exact HBf.out | (rw [← hN]; exact HBf.out))⟩
                    · have q3 : decide (1 ≤ x.f5) = false := by simp; omega
                      have K3 := Aside0.mk k3
                      go_wp2
                      all_goals
                       go_ret
                       exact ⟨FIN.out _ (by unfold kindS; rw [if_pos K1.out]; first | (simp [List.eq_nil_of_length_eq_zero K2.out, K3.out]; done) | (simp [List.eq_nil_of_length_eq_zero K2.out, K3.out]; omega)), (by first | exact HBf.out | (rw [← hN]; exact HBf.out))⟩
                  · have q2 : (x.f6.length == 0) = false := by rw [beq_eq_false_iff_ne]; exact k2
                    have q2c : ((x.f6.length : Int) == 0) = false := by rw [beq_eq_false_iff_ne]; omega
                    have K2 := Aside0.mk k2
                    go_wp2
                    all_goals
                     go_ret
                     exact ⟨FIN.out _ (by unfold kindS; rw [if_pos K1.out]; first | (simp [K2.out]; done) | (simp [K2.out]; omega)), (by first | exact HBf.out | (rw [← hN]; exact HBf.out))⟩
                · have q1 : (x.f3 == 1) = false := by simp [k1]
                  have K1 := Aside0.mk k1
                  clear k1
                  by_cases k2 : x.f3 = 2
                  · have q2 : (x.f3 == 2) = true := by simp [k2]
                    have K2 := Aside0.mk k2
                    clear k2
                    by_cases k3 : 1 ≤ x.f5
                    · have q3 : decide (1 ≤ x.f5) = true := by simp [k3]
                      have K3 := Aside0.mk k3
                      by_cases k4 : x.f5 ≤ 9999
                      · have q4 : decide (x.f5 ≤ 9999) = true := by simp [k4]
                        have K4 := Aside0.mk k4
                        go_wp2
                        all_goals
                         go_ret
                         exact ⟨FIN.out _ (by unfold kindS; rw [if_neg K1.out, if_pos K2.out]; first | (simp [K2.out, K3.out, K4.out]; done) | (simp [K2.out, K3.out, K4.out]; omega)), (by first | exact HBf.out | (rw [← hN]; exact HBf.out))⟩
                      · have q4 : decide (x.f5 ≤ 9999) = false := by simp; omega
                        have K4 := Aside0.mk k4
                        go_wp2
                        all_goals
                         go_ret
                         exact ⟨FIN.out _ (by unfold kindS; rw [if_neg K1.out, if_pos K2.out]; first | (simp [K2.out, K3.out, K4.out]; done) | (simp [K2.out, K3.out, K4.out]; omega)), (by first | exact HBf.out | (rw [← hN]; exact HBf.out))⟩
                    · have q3 : decide (1 ≤ x.f5) = false := by simp; omega
                      have K3 := Aside0.mk k3
                      go_wp2
                      all_goals
                       go_ret
                       exact ⟨FIN.out _ (by unfold kindS; rw [if_neg K1.out, if_pos K2.out]; first | (simp [K2.out, K3.out]; done) | (simp [K2.out, K3.out]; omega)), (by first | exact HBf.out | (rw [← hN]; exact HBf.out))⟩
                  · have q2 : (x.f3 == 2) = false := by simp [k2]
                    have K2 := Aside0.mk k2
                    clear k2
                    by_cases k3 : x.f3 = 3
                    · have q3 : (x.f3 == 3) = true := by simp [k3]
                      have K3 := Aside0.mk k3
                      clear k3
                      by_cases k4 : x.f5 = 0
                      · have q4 : (x.f5 == 0) = true := by simp [k4]
                        have K4 := Aside0.mk k4
                        clear k4
                        go_wp2
                        all_goals
                         go_ret
                         exact ⟨FIN.out _ (by unfold kindS; rw [if_neg K1.out, if_neg K2.out]; first | (simp [K3.out, K4.out]; done) | (simp [K3.out, K4.out]; omega)), (by first | exact HBf.out | (rw [← hN]; exact HBf.out))⟩
                      · have q4 : (x.f5 == 0) = false := by simp [k4]
                        have K4 := Aside0.mk k4
                        go_wp2
                        all_goals
                         go_ret
                         exact ⟨FIN.out _ (by unfold kindS; rw [if_neg K1.out, if_neg K2.out]; first | (simp [K3.out, K4.out]; done) | (simp [K3.out, K4.out]; omega)), (by first | exact HBf.out | (rw [← hN]; exact HBf.out))⟩
                    · have q3 : (x.f3 == 3) = false := by simp [k3]
                      have K3 := Aside0.mk k3
                      clear k3
                      go_wp2
                      all_goals
                       go_ret
                       exact ⟨FIN.out _ (by unfold kindS; rw [if_neg K1.out, if_neg K2.out]; first | (simp [K3.out]; done) | (simp [K3.out]; omega)), (by first | exact HBf.out | (rw [← hN]; exact HBf.out))⟩
theorem order_Right.calls (k : Nat) (a0_0 : ByteArray) (a0_1 : Int) (A0_2 : Option Addr) (c0_2 : Nat) (l0_2 : List (S34)) (a0_3 : ByteArray) (a0_4 : Int) (a0_5 : ByteArray) (a0_6 : Int) (A0_7 : Option Addr) (c0_7 : Nat) (l0_7 : List (S34)) (r : Bool) (w : World) (hr0_2 : Kd.C k34 w A0_2 l0_2.length l0_2) (hc0_2 : l0_2.length ≤ c0_2) (hr0_7 : Kd.C k34 w A0_7 l0_7.length l0_7) (hc0_7 : l0_7.length ≤ c0_7) (h : order_Right.f k a0_0 a0_1 l0_2 a0_3 a0_4 a0_5 a0_6 l0_7 = some r) :
 Calls Try.prog 45 #[.agg #[.string a0_0, .int .i64 a0_1, .slice A0_2 l0_2.length c0_2, .string a0_3, .int .i64 a0_4, .string a0_5, .int .i64 a0_6, .slice A0_7 l0_7.length c0_7]] w fun e w' => e = .returned (.bool r) ∧ Below w.heap.size w w' := by
 have h1 := orderRight_f ⟨⟨a0_0, a0_1⟩, l0_2, a0_3, a0_4, a0_5, a0_6, l0_7⟩ hr0_2.2.1 hr0_7.2.1 (k + (l0_7.length + l0_2.length + 5)) (by show l0_7.length + l0_2.length + 4 < _; omega)
 have up : ∀ m : Nat, order_Right.f (k + m) a0_0 a0_1 l0_2 a0_3 a0_4 a0_5 a0_6 l0_7 = some r := fun m => by
  induction m with
  | zero => exact h
  | succ m ih => exact order_Right.mono _ _ _ _ _ _ _ _ _ _ ih
 have h2 := up (l0_7.length + l0_2.length + 5)
 rw [h1] at h2
 have e : rightO ⟨⟨a0_0, a0_1⟩, l0_2, a0_3, a0_4, a0_5, a0_6, l0_7⟩ = r := Option.some.inj h2
 rw [← e]
 exact orderRight_calls ⟨⟨a0_0, a0_1⟩, l0_2, a0_3, a0_4, a0_5, a0_6, l0_7⟩ A0_2 c0_2 A0_7 c0_7 w hc0_2 hr0_2 hc0_7 hr0_7
end Go.Proofs.Ytenbkljgmgdegaa.PO
end
section
namespace Go.Proofs.Ytenbkljgmgdegaa.PO
open Go.RowKit Go.Proofs.YtenbkljgmgdegaaW.PrintWords Go.Proofs.YtenbkljgmgdegaaW.PrintLast Go.Proofs.YtenbkljgmgdegaaW.PrintMore Go.Proofs.Ytenbkljgmgdegaa.XW
set_option linter.unusedVariables false
set_option linter.unusedSimpArgs false
structure Cells8 (w : World) (N : Nat) (u0 u1 u2 u3 u4 u5 u6 u7 : Value) : Prop where
 e0 : w.cell? ⟨N, 0, none⟩ = some u0
 e1 : w.cell? ⟨N, 1, none⟩ = some u1
 e2 : w.cell? ⟨N, 2, none⟩ = some u2
 e3 : w.cell? ⟨N, 3, none⟩ = some u3
 e4 : w.cell? ⟨N, 4, none⟩ = some u4
 e5 : w.cell? ⟨N, 5, none⟩ = some u5
 e6 : w.cell? ⟨N, 6, none⟩ = some u6
 e7 : w.cell? ⟨N, 7, none⟩ = some u7
theorem cells8 {w : World} {N : Nat} {u0 u1 u2 u3 u4 u5 u6 u7 : Value} (h : w.heap[N]? = some (.cells #[u0, u1, u2, u3, u4, u5, u6, u7] 36 (0, 0))) : Cells8 w N u0 u1 u2 u3 u4 u5 u6 u7 :=
 ⟨(blk_cell h 0).trans rfl, (blk_cell h 1).trans rfl, (blk_cell h 2).trans rfl, (blk_cell h 3).trans rfl, (blk_cell h 4).trans rfl, (blk_cell h 5).trans rfl, (blk_cell h 6).trans rfl, (blk_cell h 7).trans rfl⟩
theorem injT (x y : ByteArray) : (x.toList = y.toList) ↔ x = y := ⟨bytes_inj, fun h => by rw [h]⟩
theorem eqO_iff (x y : S36) : x = y ↔ (x.f1 = y.f1 ∧ x.f6 = y.f6 ∧ x.f0.f0.toList = y.f0.f0.toList ∧ x.f0.f1 = y.f0.f1 ∧ x.f2.toList = y.f2.toList ∧ x.f3 = y.f3 ∧ x.f4.toList = y.f4.toList ∧ x.f5 = y.f5) := by
 constructor
 · rintro rfl; exact ⟨rfl, rfl, rfl, rfl, rfl, rfl, rfl, rfl⟩
 · obtain ⟨⟨a0, a1⟩, a2, a3, a4, a5, a6, a7⟩ := x
   obtain ⟨⟨b0, b1⟩, b2, b3, b4, b5, b6, b7⟩ := y
   simp only [injT]
   rintro ⟨rfl, rfl, rfl, rfl, rfl, rfl, rfl, rfl⟩
   rfl
end Go.Proofs.Ytenbkljgmgdegaa.PO
end
section
namespace Go.Proofs.Ytenbkljgmgdegaa.PO
open Go.RowKit Go.Proofs.YtenbkljgmgdegaaW.PrintWords Go.Proofs.YtenbkljgmgdegaaW.PrintLast Go.Proofs.YtenbkljgmgdegaaW.PrintMore
attribute [local go_sem] max2_int min2_int max_two min_two max_three min_three max_four min_four   -- for this text's walks alone
set_option linter.unusedVariables false
set_option linter.unusedSimpArgs false
section
variable {P : Program}
section
set_option maxHeartbeats 4000000
set_option maxRecDepth 100000
end
end
def bits_Len64.j0 : Nat → Int → Int → Option (Int)
 | 0, _, _ => none
 | k + 1, x0, x2 => if x0 ≥ 65536 then (if (x0 / 65536) ≥ 256 then (if 0 ≤ (((x0 / 65536) / 256) % 256) then (if (((x0 / 65536) / 256) % 256) < 256 then (some (wrap64 ((wrap64 ((wrap64 (x2 + 16)) + 8)) + (wrap64 (bt (⟨#[0, 1, 2, 2, 3, 3, 3, 3, 4, 4, 4, 4, 4, 4, 4, 4, 5, 5, 5, 5, 5, 5, 5, 5, 5, 5, 5, 5, 5, 5, 5, 5, 6, 6, 6, 6, 6, 6, 6, 6, 6, 6, 6, 6, 6, 6, 6, 6, 6, 6, 6, 6, 6, 6, 6, 6, 6, 6, 6, 6, 6, 6, 6, 6, 7, 7, 7, 7, 7, 7, 7, 7, 7, 7, 7, 7, 7, 7, 7, 7, 7, 7, 7, 7, 7, 7, 7, 7, 7, 7, 7, 7, 7, 7, 7, 7, 7, 7, 7, 7, 7, 7, 7, 7, 7, 7, 7, 7, 7, 7, 7, 7, 7, 7, 7, 7, 7, 7, 7, 7, 7, 7, 7, 7, 7, 7, 7, 7, 8, 8, 8, 8, 8, 8, 8, 8, 8, 8, 8, 8, 8, 8, 8, 8, 8, 8, 8, 8, 8, 8, 8, 8, 8, 8, 8, 8, 8, 8, 8, 8, 8, 8, 8, 8, 8, 8, 8, 8, 8, 8, 8, 8, 8, 8, 8, 8, 8, 8, 8, 8, 8, 8, 8, 8, 8, 8, 8, 8, 8, 8, 8, 8, 8, 8, 8, 8, 8, 8, 8, 8, 8, 8, 8, 8, 8, 8, 8, 8, 8, 8, 8, 8, 8, 8, 8, 8, 8, 8, 8, 8, 8, 8, 8, 8, 8, 8, 8, 8, 8, 8, 8, 8, 8, 8, 8, 8, 8, 8, 8, 8, 8, 8, 8, 8, 8, 8, 8, 8, 8, 8, 8, 8, 8, 8, 8, 8]⟩ : ByteArray) (((x0 / 65536) / 256) % 256)))))) else (none)) else (none)) else (if 0 ≤ ((x0 / 65536) % 256) then (if ((x0 / 65536) % 256) < 256 then (some (wrap64 ((wrap64 (x2 + 16)) + (wrap64 (bt (⟨#[0, 1, 2, 2, 3, 3, 3, 3, 4, 4, 4, 4, 4, 4, 4, 4, 5, 5, 5, 5, 5, 5, 5, 5, 5, 5, 5, 5, 5, 5, 5, 5, 6, 6, 6, 6, 6, 6, 6, 6, 6, 6, 6, 6, 6, 6, 6, 6, 6, 6, 6, 6, 6, 6, 6, 6, 6, 6, 6, 6, 6, 6, 6, 6, 7, 7, 7, 7, 7, 7, 7, 7, 7, 7, 7, 7, 7, 7, 7, 7, 7, 7, 7, 7, 7, 7, 7, 7, 7, 7, 7, 7, 7, 7, 7, 7, 7, 7, 7, 7, 7, 7, 7, 7, 7, 7, 7, 7, 7, 7, 7, 7, 7, 7, 7, 7, 7, 7, 7, 7, 7, 7, 7, 7, 7, 7, 7, 7, 8, 8, 8, 8, 8, 8, 8, 8, 8, 8, 8, 8, 8, 8, 8, 8, 8, 8, 8, 8, 8, 8, 8, 8, 8, 8, 8, 8, 8, 8, 8, 8, 8, 8, 8, 8, 8, 8, 8, 8, 8, 8, 8, 8, 8, 8, 8, 8, 8, 8, 8, 8, 8, 8, 8, 8, 8, 8, 8, 8, 8, 8, 8, 8, 8, 8, 8, 8, 8, 8, 8, 8, 8, 8, 8, 8, 8, 8, 8, 8, 8, 8, 8, 8, 8, 8, 8, 8, 8, 8, 8, 8, 8, 8, 8, 8, 8, 8, 8, 8, 8, 8, 8, 8, 8, 8, 8, 8, 8, 8, 8, 8, 8, 8, 8, 8, 8, 8, 8, 8, 8, 8, 8, 8, 8, 8, 8, 8]⟩ : ByteArray) ((x0 / 65536) % 256)))))) else (none)) else (none))) else (if x0 ≥ 256 then (if 0 ≤ ((x0 / 256) % 256) then (if ((x0 / 256) % 256) < 256 then (some (wrap64 ((wrap64 (x2 + 8)) + (wrap64 (bt (⟨#[0, 1, 2, 2, 3, 3, 3, 3, 4, 4, 4, 4, 4, 4, 4, 4, 5, 5, 5, 5, 5, 5, 5, 5, 5, 5, 5, 5, 5, 5, 5, 5, 6, 6, 6, 6, 6, 6, 6, 6, 6, 6, 6, 6, 6, 6, 6, 6, 6, 6, 6, 6, 6, 6, 6, 6, 6, 6, 6, 6, 6, 6, 6, 6, 7, 7, 7, 7, 7, 7, 7, 7, 7, 7, 7, 7, 7, 7, 7, 7, 7, 7, 7, 7, 7, 7, 7, 7, 7, 7, 7, 7, 7, 7, 7, 7, 7, 7, 7, 7, 7, 7, 7, 7, 7, 7, 7, 7, 7, 7, 7, 7, 7, 7, 7, 7, 7, 7, 7, 7, 7, 7, 7, 7, 7, 7, 7, 7, 8, 8, 8, 8, 8, 8, 8, 8, 8, 8, 8, 8, 8, 8, 8, 8, 8, 8, 8, 8, 8, 8, 8, 8, 8, 8, 8, 8, 8, 8, 8, 8, 8, 8, 8, 8, 8, 8, 8, 8, 8, 8, 8, 8, 8, 8, 8, 8, 8, 8, 8, 8, 8, 8, 8, 8, 8, 8, 8, 8, 8, 8, 8, 8, 8, 8, 8, 8, 8, 8, 8, 8, 8, 8, 8, 8, 8, 8, 8, 8, 8, 8, 8, 8, 8, 8, 8, 8, 8, 8, 8, 8, 8, 8, 8, 8, 8, 8, 8, 8, 8, 8, 8, 8, 8, 8, 8, 8, 8, 8, 8, 8, 8, 8, 8, 8, 8, 8, 8, 8, 8, 8, 8, 8, 8, 8, 8, 8]⟩ : ByteArray) ((x0 / 256) % 256)))))) else (none)) else (none)) else (if 0 ≤ ((x0) % 256) then (if ((x0) % 256) < 256 then (some (wrap64 (x2 + (wrap64 (bt (⟨#[0, 1, 2, 2, 3, 3, 3, 3, 4, 4, 4, 4, 4, 4, 4, 4, 5, 5, 5, 5, 5, 5, 5, 5, 5, 5, 5, 5, 5, 5, 5, 5, 6, 6, 6, 6, 6, 6, 6, 6, 6, 6, 6, 6, 6, 6, 6, 6, 6, 6, 6, 6, 6, 6, 6, 6, 6, 6, 6, 6, 6, 6, 6, 6, 7, 7, 7, 7, 7, 7, 7, 7, 7, 7, 7, 7, 7, 7, 7, 7, 7, 7, 7, 7, 7, 7, 7, 7, 7, 7, 7, 7, 7, 7, 7, 7, 7, 7, 7, 7, 7, 7, 7, 7, 7, 7, 7, 7, 7, 7, 7, 7, 7, 7, 7, 7, 7, 7, 7, 7, 7, 7, 7, 7, 7, 7, 7, 7, 8, 8, 8, 8, 8, 8, 8, 8, 8, 8, 8, 8, 8, 8, 8, 8, 8, 8, 8, 8, 8, 8, 8, 8, 8, 8, 8, 8, 8, 8, 8, 8, 8, 8, 8, 8, 8, 8, 8, 8, 8, 8, 8, 8, 8, 8, 8, 8, 8, 8, 8, 8, 8, 8, 8, 8, 8, 8, 8, 8, 8, 8, 8, 8, 8, 8, 8, 8, 8, 8, 8, 8, 8, 8, 8, 8, 8, 8, 8, 8, 8, 8, 8, 8, 8, 8, 8, 8, 8, 8, 8, 8, 8, 8, 8, 8, 8, 8, 8, 8, 8, 8, 8, 8, 8, 8, 8, 8, 8, 8, 8, 8, 8, 8, 8, 8, 8, 8, 8, 8, 8, 8, 8, 8, 8, 8, 8, 8]⟩ : ByteArray) ((x0) % 256)))))) else (none)) else (none)))
def bits_Len64.f (k : Nat) (a0 : Int) : Option (Int) := if a0 ≥ 4294967296 then (bits_Len64.j0 k (a0 / 4294967296) 32) else (bits_Len64.j0 k a0 0)
set_option maxHeartbeats 8000000 in
set_option maxRecDepth 100000 in
theorem bits_Len64.calls (k : Nat) (a0 : Int) (r : Int) (w : World) (h : bits_Len64.f k a0 = some r) :
 Calls Try.prog 134 #[.int .u64 a0] w fun e w' => e = .returned (.int .i64 r) ∧ Drawn0 w w' := by
 have H : (if a0 ≥ 4294967296 then (bits_Len64.j0 k (a0 / 4294967296) 32) else (bits_Len64.j0 k a0 0)) = some r := h
 clear h
 have HC2 := Aside0.mk H
 clear H
 go_enter Try.func134, Try.ntmps134
 go_upto_if 4 with (fail)
 go_cut [0, 2] (fun v0 v2 wc => ∃ (kq : Nat) (x0_1 : Int) (x2_1 : Int), v0 = .int .u64 x0_1 ∧ v2 = .int .i64 x2_1 ∧ Aside0 (bits_Len64.j0 kq x0_1 x2_1 = some r) ∧ Aside0 (kq ≤ k) ∧ Drawn0 w wc)
 case first =>
  have H := HC2.out
  clear HC2
  by_cases c3 : a0 ≥ 4294967296
  · rw [if_pos c3] at H
    have c3b0 : decide (4294967296 ≤ a0) = true := decide_eq_true c3
    clear c3
    (first | rw [c3b0] | (simp only [i64_w, i32_w]; rw [c3b0]) | skip)
    have H' := Aside0.mk H
    clear H
    go_wp2
    go_meet
    case rel => exact ⟨_, (a0 / 4294967296), (32), (by first | rfl | (simp; done) | (simp [*]; done)), (by first | rfl | (simp; done) | (simp [*]; done)), H', ⟨by first | omega | exact Nat.le_refl _⟩, by repeat (first | exact Drawn0.refl _ | apply Drawn0.step)⟩
  · rw [if_neg c3] at H
    have c3b0 : decide (4294967296 ≤ a0) = false := decide_eq_false c3
    clear c3
    (first | rw [c3b0] | (simp only [i64_w, i32_w]; rw [c3b0]) | skip)
    have H' := Aside0.mk H
    clear H
    go_wp2
    go_meet
    case rel => exact ⟨_, (a0), (0), (by first | rfl | (simp; done) | (simp [*]; done)), (by first | rfl | (simp; done) | (simp [*]; done)), H', ⟨by first | omega | exact Nat.le_refl _⟩, by repeat (first | exact Drawn0.refl _ | apply Drawn0.step)⟩
 case rest =>
  clear HC2
  try clear c1
  try clear p2
  try clear c3
  try clear c3b0
  obtain ⟨kq, x0_1, x2_1, rfl, rfl, HA, HJ1, ⟨mc1, rfl⟩⟩ := hcut
  cases kq with
  | zero => exact absurd HA.out (by simp [bits_Len64.j0])
  | succ kj1 =>
   have H := HA.out
   clear HA
   simp only [bits_Len64.j0] at H
   by_cases c4 : x0_1 ≥ 65536
   · rw [if_pos c4] at H
     have c4b0 : decide (65536 ≤ x0_1) = true := decide_eq_true c4
     clear c4
     by_cases c5 : (x0_1 / 65536) ≥ 256
     · rw [if_pos c5] at H
       have c5b0 : decide (256 ≤ (x0_1 / 65536)) = true := decide_eq_true c5
       clear c5
       obtain ⟨ji6, hji6⟩ : ∃ j_ : Int, (((x0_1 / 65536) / 256) % 256) = j_ := ⟨_, rfl⟩
       replace H : (if 0 ≤ (ji6) then (if (ji6) < 256 then (some (wrap64 ((wrap64 ((wrap64 (x2_1 + 16)) + 8)) + (wrap64 (bt (⟨#[0, 1, 2, 2, 3, 3, 3, 3, 4, 4, 4, 4, 4, 4, 4, 4, 5, 5, 5, 5, 5, 5, 5, 5, 5, 5, 5, 5, 5, 5, 5, 5, 6, 6, 6, 6, 6, 6, 6, 6, 6, 6, 6, 6, 6, 6, 6, 6, 6, 6, 6, 6, 6, 6, 6, 6, 6, 6, 6, 6, 6, 6, 6, 6, 7, 7, 7, 7, 7, 7, 7, 7, 7, 7, 7, 7, 7, 7, 7, 7, 7, 7, 7, 7, 7, 7, 7, 7, 7, 7, 7, 7, 7, 7, 7, 7, 7, 7, 7, 7, 7, 7, 7, 7, 7, 7, 7, 7, 7, 7, 7, 7, 7, 7, 7, 7, 7, 7, 7, 7, 7, 7, 7, 7, 7, 7, 7, 7, 8, 8, 8, 8, 8, 8, 8, 8, 8, 8, 8, 8, 8, 8, 8, 8, 8, 8, 8, 8, 8, 8, 8, 8, 8, 8, 8, 8, 8, 8, 8, 8, 8, 8, 8, 8, 8, 8, 8, 8, 8, 8, 8, 8, 8, 8, 8, 8, 8, 8, 8, 8, 8, 8, 8, 8, 8, 8, 8, 8, 8, 8, 8, 8, 8, 8, 8, 8, 8, 8, 8, 8, 8, 8, 8, 8, 8, 8, 8, 8, 8, 8, 8, 8, 8, 8, 8, 8, 8, 8, 8, 8, 8, 8, 8, 8, 8, 8, 8, 8, 8, 8, 8, 8, 8, 8, 8, 8, 8, 8, 8, 8, 8, 8, 8, 8, 8, 8, 8, 8, 8, 8, 8, 8, 8, 8, 8, 8]⟩ : ByteArray) (ji6)))))) else (none)) else (none)) = some r := by first | (rw [hji6] at H; exact H) | (simp only [hji6] at H ⊢; exact H)
       by_cases c7 : 0 ≤ (ji6)
       · rw [if_pos c7] at H
         have c7b0 : decide (0 ≤ (ji6)) = true := decide_eq_true c7
         clear c7
         by_cases c8 : (ji6) < 256
         · rw [if_pos c8] at H
           have c8b0 : decide ((ji6) < 256) = true := decide_eq_true c8
           clear c8
           obtain rfl := Option.some.inj H
           have p9 : 0 ≤ ((ji6) : Int) := of_decide_eq_true (by first | (with_reducible assumption) | assumption)
           have q9 : (ji6) < (256 : Int) := of_decide_eq_true (by first | (with_reducible assumption) | assumption)
           have hx9 := bt_at (⟨#[0, 1, 2, 2, 3, 3, 3, 3, 4, 4, 4, 4, 4, 4, 4, 4, 5, 5, 5, 5, 5, 5, 5, 5, 5, 5, 5, 5, 5, 5, 5, 5, 6, 6, 6, 6, 6, 6, 6, 6, 6, 6, 6, 6, 6, 6, 6, 6, 6, 6, 6, 6, 6, 6, 6, 6, 6, 6, 6, 6, 6, 6, 6, 6, 7, 7, 7, 7, 7, 7, 7, 7, 7, 7, 7, 7, 7, 7, 7, 7, 7, 7, 7, 7, 7, 7, 7, 7, 7, 7, 7, 7, 7, 7, 7, 7, 7, 7, 7, 7, 7, 7, 7, 7, 7, 7, 7, 7, 7, 7, 7, 7, 7, 7, 7, 7, 7, 7, 7, 7, 7, 7, 7, 7, 7, 7, 7, 7, 8, 8, 8, 8, 8, 8, 8, 8, 8, 8, 8, 8, 8, 8, 8, 8, 8, 8, 8, 8, 8, 8, 8, 8, 8, 8, 8, 8, 8, 8, 8, 8, 8, 8, 8, 8, 8, 8, 8, 8, 8, 8, 8, 8, 8, 8, 8, 8, 8, 8, 8, 8, 8, 8, 8, 8, 8, 8, 8, 8, 8, 8, 8, 8, 8, 8, 8, 8, 8, 8, 8, 8, 8, 8, 8, 8, 8, 8, 8, 8, 8, 8, 8, 8, 8, 8, 8, 8, 8, 8, 8, 8, 8, 8, 8, 8, 8, 8, 8, 8, 8, 8, 8, 8, 8, 8, 8, 8, 8, 8, 8, 8, 8, 8, 8, 8, 8, 8, 8, 8, 8, 8, 8, 8, 8, 8, 8, 8]⟩ : ByteArray) (ji6)
           replace p9 := eq_true p9
           replace q9 := eq_true q9
           go_wp2
           go_ret
           exact ⟨by first | rfl | (simp; done) | (simp only [← hji6] <;> (first | rfl | simp)) | (simp [*]; done), by repeat (first | exact Drawn0.refl _ | apply Drawn0.step)⟩
         · rw [if_neg c8] at H
           exact absurd H (by simp)
       · rw [if_neg c7] at H
         exact absurd H (by simp)
     · rw [if_neg c5] at H
       have c5b0 : decide (256 ≤ (x0_1 / 65536)) = false := decide_eq_false c5
       clear c5
       obtain ⟨ji10, hji10⟩ : ∃ j_ : Int, ((x0_1 / 65536) % 256) = j_ := ⟨_, rfl⟩
       replace H : (if 0 ≤ (ji10) then (if (ji10) < 256 then (some (wrap64 ((wrap64 (x2_1 + 16)) + (wrap64 (bt (⟨#[0, 1, 2, 2, 3, 3, 3, 3, 4, 4, 4, 4, 4, 4, 4, 4, 5, 5, 5, 5, 5, 5, 5, 5, 5, 5, 5, 5, 5, 5, 5, 5, 6, 6, 6, 6, 6, 6, 6, 6, 6, 6, 6, 6, 6, 6, 6, 6, 6, 6, 6, 6, 6, 6, 6, 6, 6, 6, 6, 6, 6, 6, 6, 6, 7, 7, 7, 7, 7, 7, 7, 7, 7, 7, 7, 7, 7, 7, 7, 7, 7, 7, 7, 7, 7, 7, 7, 7, 7, 7, 7, 7, 7, 7, 7, 7, 7, 7, 7, 7, 7, 7, 7, 7, 7, 7, 7, 7, 7, 7, 7, 7, 7, 7, 7, 7, 7, 7, 7, 7, 7, 7, 7, 7, 7, 7, 7, 7, 8, 8, 8, 8, 8, 8, 8, 8, 8, 8, 8, 8, 8, 8, 8, 8, 8, 8, 8, 8, 8, 8, 8, 8, 8, 8, 8, 8, 8, 8, 8, 8, 8, 8, 8, 8, 8, 8, 8, 8, 8, 8, 8, 8, 8, 8, 8, 8, 8, 8, 8, 8, 8, 8, 8, 8, 8, 8, 8, 8, 8, 8, 8, 8, 8, 8, 8, 8, 8, 8, 8, 8, 8, 8, 8, 8, 8, 8, 8, 8, 8, 8, 8, 8, 8, 8, 8, 8, 8, 8, 8, 8, 8, 8, 8, 8, 8, 8, 8, 8, 8, 8, 8, 8, 8, 8, 8, 8, 8, 8, 8, 8, 8, 8, 8, 8, 8, 8, 8, 8, 8, 8, 8, 8, 8, 8, 8, 8]⟩ : ByteArray) (ji10)))))) else (none)) else (none)) = some r := by first | (rw [hji10] at H; exact H) | (simp only [hji10] at H ⊢; exact H)
       by_cases c11 : 0 ≤ (ji10)
       · rw [if_pos c11] at H
         have c11b0 : decide (0 ≤ (ji10)) = true := decide_eq_true c11
         clear c11
         by_cases c12 : (ji10) < 256
         · rw [if_pos c12] at H
           have c12b0 : decide ((ji10) < 256) = true := decide_eq_true c12
           clear c12
           obtain rfl := Option.some.inj H
           have p13 : 0 ≤ ((ji10) : Int) := of_decide_eq_true (by first | (with_reducible assumption) | assumption)
           have q13 : (ji10) < (256 : Int) := of_decide_eq_true (by first | (with_reducible assumption) | assumption)
           have hx13 := bt_at (⟨#[0, 1, 2, 2, 3, 3, 3, 3, 4, 4, 4, 4, 4, 4, 4, 4, 5, 5, 5, 5, 5, 5, 5, 5, 5, 5, 5, 5, 5, 5, 5, 5, 6, 6, 6, 6, 6, 6, 6, 6, 6, 6, 6, 6, 6, 6, 6, 6, 6, 6, 6, 6, 6, 6, 6, 6, 6, 6, 6, 6, 6, 6, 6, 6, 7, 7, 7, 7, 7, 7, 7, 7, 7, 7, 7, 7, 7, 7, 7, 7, 7, 7, 7, 7, 7, 7, 7, 7, 7, 7, 7, 7, 7, 7, 7, 7, 7, 7, 7, 7, 7, 7, 7, 7, 7, 7, 7, 7, 7, 7, 7, 7, 7, 7, 7, 7, 7, 7, 7, 7, 7, 7, 7, 7, 7, 7, 7, 7, 8, 8, 8, 8, 8, 8, 8, 8, 8, 8, 8, 8, 8, 8, 8, 8, 8, 8, 8, 8, 8, 8, 8, 8, 8, 8, 8, 8, 8, 8, 8, 8, 8, 8, 8, 8, 8, 8, 8, 8, 8, 8, 8, 8, 8, 8, 8, 8, 8, 8, 8, 8, 8, 8, 8, 8, 8, 8, 8, 8, 8, 8, 8, 8, 8, 8, 8, 8, 8, 8, 8, 8, 8, 8, 8, 8, 8, 8, 8, 8, 8, 8, 8, 8, 8, 8, 8, 8, 8, 8, 8, 8, 8, 8, 8, 8, 8, 8, 8, 8, 8, 8, 8, 8, 8, 8, 8, 8, 8, 8, 8, 8, 8, 8, 8, 8, 8, 8, 8, 8, 8, 8, 8, 8, 8, 8, 8, 8]⟩ : ByteArray) (ji10)
           replace p13 := eq_true p13
           replace q13 := eq_true q13
           go_wp2
           go_ret
           exact ⟨by first | rfl | (simp; done) | (simp only [← hji10] <;> (first | rfl | simp)) | (simp [*]; done), by repeat (first | exact Drawn0.refl _ | apply Drawn0.step)⟩
         · rw [if_neg c12] at H
           exact absurd H (by simp)
       · rw [if_neg c11] at H
         exact absurd H (by simp)
   · rw [if_neg c4] at H
     have c4b0 : decide (65536 ≤ x0_1) = false := decide_eq_false c4
     clear c4
     by_cases c14 : x0_1 ≥ 256
     · rw [if_pos c14] at H
       have c14b0 : decide (256 ≤ x0_1) = true := decide_eq_true c14
       clear c14
       obtain ⟨ji15, hji15⟩ : ∃ j_ : Int, ((x0_1 / 256) % 256) = j_ := ⟨_, rfl⟩
       replace H : (if 0 ≤ (ji15) then (if (ji15) < 256 then (some (wrap64 ((wrap64 (x2_1 + 8)) + (wrap64 (bt (⟨#[0, 1, 2, 2, 3, 3, 3, 3, 4, 4, 4, 4, 4, 4, 4, 4, 5, 5, 5, 5, 5, 5, 5, 5, 5, 5, 5, 5, 5, 5, 5, 5, 6, 6, 6, 6, 6, 6, 6, 6, 6, 6, 6, 6, 6, 6, 6, 6, 6, 6, 6, 6, 6, 6, 6, 6, 6, 6, 6, 6, 6, 6, 6, 6, 7, 7, 7, 7, 7, 7, 7, 7, 7, 7, 7, 7, 7, 7, 7, 7, 7, 7, 7, 7, 7, 7, 7, 7, 7, 7, 7, 7, 7, 7, 7, 7, 7, 7, 7, 7, 7, 7, 7, 7, 7, 7, 7, 7, 7, 7, 7, 7, 7, 7, 7, 7, 7, 7, 7, 7, 7, 7, 7, 7, 7, 7, 7, 7, 8, 8, 8, 8, 8, 8, 8, 8, 8, 8, 8, 8, 8, 8, 8, 8, 8, 8, 8, 8, 8, 8, 8, 8, 8, 8, 8, 8, 8, 8, 8, 8, 8, 8, 8, 8, 8, 8, 8, 8, 8, 8, 8, 8, 8, 8, 8, 8, 8, 8, 8, 8, 8, 8, 8, 8, 8, 8, 8, 8, 8, 8, 8, 8, 8, 8, 8, 8, 8, 8, 8, 8, 8, 8, 8, 8, 8, 8, 8, 8, 8, 8, 8, 8, 8, 8, 8, 8, 8, 8, 8, 8, 8, 8, 8, 8, 8, 8, 8, 8, 8, 8, 8, 8, 8, 8, 8, 8, 8, 8, 8, 8, 8, 8, 8, 8, 8, 8, 8, 8, 8, 8, 8, 8, 8, 8, 8, 8]⟩ : ByteArray) (ji15)))))) else (none)) else (none)) = some r := by first | (rw [hji15] at H; exact H) | (simp only [hji15] at H ⊢; exact H)
       by_cases c16 : 0 ≤ (ji15)
       · rw [if_pos c16] at H
         have c16b0 : decide (0 ≤ (ji15)) = true := decide_eq_true c16
         clear c16
         by_cases c17 : (ji15) < 256
         · rw [if_pos c17] at H
           have c17b0 : decide ((ji15) < 256) = true := decide_eq_true c17
           clear c17
           obtain rfl := Option.some.inj H
           have p18 : 0 ≤ ((ji15) : Int) := of_decide_eq_true (by first | (with_reducible assumption) | assumption)
           have q18 : (ji15) < (256 : Int) := of_decide_eq_true (by first | (with_reducible assumption) | assumption)
           have hx18 := bt_at (⟨#[0, 1, 2, 2, 3, 3, 3, 3, 4, 4, 4, 4, 4, 4, 4, 4, 5, 5, 5, 5, 5, 5, 5, 5, 5, 5, 5, 5, 5, 5, 5, 5, 6, 6, 6, 6, 6, 6, 6, 6, 6, 6, 6, 6, 6, 6, 6, 6, 6, 6, 6, 6, 6, 6, 6, 6, 6, 6, 6, 6, 6, 6, 6, 6, 7, 7, 7, 7, 7, 7, 7, 7, 7, 7, 7, 7, 7, 7, 7, 7, 7, 7, 7, 7, 7, 7, 7, 7, 7, 7, 7, 7, 7, 7, 7, 7, 7, 7, 7, 7, 7, 7, 7, 7, 7, 7, 7, 7, 7, 7, 7, 7, 7, 7, 7, 7, 7, 7, 7, 7, 7, 7, 7, 7, 7, 7, 7, 7, 8, 8, 8, 8, 8, 8, 8, 8, 8, 8, 8, 8, 8, 8, 8, 8, 8, 8, 8, 8, 8, 8, 8, 8, 8, 8, 8, 8, 8, 8, 8, 8, 8, 8, 8, 8, 8, 8, 8, 8, 8, 8, 8, 8, 8, 8, 8, 8, 8, 8, 8, 8, 8, 8, 8, 8, 8, 8, 8, 8, 8, 8, 8, 8, 8, 8, 8, 8, 8, 8, 8, 8, 8, 8, 8, 8, 8, 8, 8, 8, 8, 8, 8, 8, 8, 8, 8, 8, 8, 8, 8, 8, 8, 8, 8, 8, 8, 8, 8, 8, 8, 8, 8, 8, 8, 8, 8, 8, 8, 8, 8, 8, 8, 8, 8, 8, 8, 8, 8, 8, 8, 8, 8, 8, 8, 8, 8, 8]⟩ : ByteArray) (ji15)
           replace p18 := eq_true p18
           replace q18 := eq_true q18
           go_wp2
           go_ret
           exact ⟨by first | rfl | (simp; done) | (simp only [← hji15] <;> (first | rfl | simp)) | (simp [*]; done), by repeat (first | exact Drawn0.refl _ | apply Drawn0.step)⟩
         · rw [if_neg c17] at H
           exact absurd H (by simp)
       · rw [if_neg c16] at H
         exact absurd H (by simp)
     · rw [if_neg c14] at H
       have c14b0 : decide (256 ≤ x0_1) = false := decide_eq_false c14
       clear c14
       obtain ⟨ji19, hji19⟩ : ∃ j_ : Int, ((x0_1) % 256) = j_ := ⟨_, rfl⟩
       replace H : (if 0 ≤ (ji19) then (if (ji19) < 256 then (some (wrap64 (x2_1 + (wrap64 (bt (⟨#[0, 1, 2, 2, 3, 3, 3, 3, 4, 4, 4, 4, 4, 4, 4, 4, 5, 5, 5, 5, 5, 5, 5, 5, 5, 5, 5, 5, 5, 5, 5, 5, 6, 6, 6, 6, 6, 6, 6, 6, 6, 6, 6, 6, 6, 6, 6, 6, 6, 6, 6, 6, 6, 6, 6, 6, 6, 6, 6, 6, 6, 6, 6, 6, 7, 7, 7, 7, 7, 7, 7, 7, 7, 7, 7, 7, 7, 7, 7, 7, 7, 7, 7, 7, 7, 7, 7, 7, 7, 7, 7, 7, 7, 7, 7, 7, 7, 7, 7, 7, 7, 7, 7, 7, 7, 7, 7, 7, 7, 7, 7, 7, 7, 7, 7, 7, 7, 7, 7, 7, 7, 7, 7, 7, 7, 7, 7, 7, 8, 8, 8, 8, 8, 8, 8, 8, 8, 8, 8, 8, 8, 8, 8, 8, 8, 8, 8, 8, 8, 8, 8, 8, 8, 8, 8, 8, 8, 8, 8, 8, 8, 8, 8, 8, 8, 8, 8, 8, 8, 8, 8, 8, 8, 8, 8, 8, 8, 8, 8, 8, 8, 8, 8, 8, 8, 8, 8, 8, 8, 8, 8, 8, 8, 8, 8, 8, 8, 8, 8, 8, 8, 8, 8, 8, 8, 8, 8, 8, 8, 8, 8, 8, 8, 8, 8, 8, 8, 8, 8, 8, 8, 8, 8, 8, 8, 8, 8, 8, 8, 8, 8, 8, 8, 8, 8, 8, 8, 8, 8, 8, 8, 8, 8, 8, 8, 8, 8, 8, 8, 8, 8, 8, 8, 8, 8, 8]⟩ : ByteArray) (ji19)))))) else (none)) else (none)) = some r := by first | (rw [hji19] at H; exact H) | (simp only [hji19] at H ⊢; exact H)
       by_cases c20 : 0 ≤ (ji19)
       · rw [if_pos c20] at H
         have c20b0 : decide (0 ≤ (ji19)) = true := decide_eq_true c20
         clear c20
         by_cases c21 : (ji19) < 256
         · rw [if_pos c21] at H
           have c21b0 : decide ((ji19) < 256) = true := decide_eq_true c21
           clear c21
           obtain rfl := Option.some.inj H
           have p22 : 0 ≤ ((ji19) : Int) := of_decide_eq_true (by first | (with_reducible assumption) | assumption)
           have q22 : (ji19) < (256 : Int) := of_decide_eq_true (by first | (with_reducible assumption) | assumption)
           have hx22 := bt_at (⟨#[0, 1, 2, 2, 3, 3, 3, 3, 4, 4, 4, 4, 4, 4, 4, 4, 5, 5, 5, 5, 5, 5, 5, 5, 5, 5, 5, 5, 5, 5, 5, 5, 6, 6, 6, 6, 6, 6, 6, 6, 6, 6, 6, 6, 6, 6, 6, 6, 6, 6, 6, 6, 6, 6, 6, 6, 6, 6, 6, 6, 6, 6, 6, 6, 7, 7, 7, 7, 7, 7, 7, 7, 7, 7, 7, 7, 7, 7, 7, 7, 7, 7, 7, 7, 7, 7, 7, 7, 7, 7, 7, 7, 7, 7, 7, 7, 7, 7, 7, 7, 7, 7, 7, 7, 7, 7, 7, 7, 7, 7, 7, 7, 7, 7, 7, 7, 7, 7, 7, 7, 7, 7, 7, 7, 7, 7, 7, 7, 8, 8, 8, 8, 8, 8, 8, 8, 8, 8, 8, 8, 8, 8, 8, 8, 8, 8, 8, 8, 8, 8, 8, 8, 8, 8, 8, 8, 8, 8, 8, 8, 8, 8, 8, 8, 8, 8, 8, 8, 8, 8, 8, 8, 8, 8, 8, 8, 8, 8, 8, 8, 8, 8, 8, 8, 8, 8, 8, 8, 8, 8, 8, 8, 8, 8, 8, 8, 8, 8, 8, 8, 8, 8, 8, 8, 8, 8, 8, 8, 8, 8, 8, 8, 8, 8, 8, 8, 8, 8, 8, 8, 8, 8, 8, 8, 8, 8, 8, 8, 8, 8, 8, 8, 8, 8, 8, 8, 8, 8, 8, 8, 8, 8, 8, 8, 8, 8, 8, 8, 8, 8, 8, 8, 8, 8, 8, 8]⟩ : ByteArray) (ji19)
           replace p22 := eq_true p22
           replace q22 := eq_true q22
           go_wp2
           go_ret
           exact ⟨by first | rfl | (simp; done) | (simp only [← hji19] <;> (first | rfl | simp)) | (simp [*]; done), by repeat (first | exact Drawn0.refl _ | apply Drawn0.step)⟩
         · rw [if_neg c21] at H
           exact absurd H (by simp)
       · rw [if_neg c20] at H
         exact absurd H (by simp)
end Go.Proofs.Ytenbkljgmgdegaa.PO
end
