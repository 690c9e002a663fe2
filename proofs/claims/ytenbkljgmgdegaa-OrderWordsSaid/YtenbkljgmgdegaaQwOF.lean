/- What the rows of this claim use, out of the texts of this work (OF, OT, OX, OR, OY, OZ, RE). No condition beyond those that each statement names. -/
import Derived.Test.YtenbkljgmgdegaaQwTV
import Derived.Test.YtenbkljgmgdegaaQwRD
import Derived.Test.YtenbkljgmgdegaaQwOH
import Derived.Test.YtenbkljgmgdegaaQwPOx0
import Derived.Test.YtenbkljgmgdegaaQwPOx9
import Derived.Test.YtenbkljgmgdegaaQwPOx10
import Derived.Test.YtenbkljgmgdegaaQwX
section
namespace Go.Proofs.Ytenbkljgmgdegaa.PO
open Go.RowKit Go.Proofs.YtenbkljgmgdegaaW.PrintWords Go.Proofs.YtenbkljgmgdegaaW.PrintLast Go.Proofs.YtenbkljgmgdegaaW.PrintMore Go.Proofs.Ytenbkljgmgdegaa.XW
open Go.Proofs.Ytenbkljgmgdegaa.XRange Go.Proofs.Ytenbkljgmgdegaa.XMap Go.Proofs.Ytenbkljgmgdegaa.XSeq
set_option linter.unusedVariables false
set_option linter.unusedSimpArgs false
def sA : ByteArray := ⟨#[97]⟩
def sC : ByteArray := ⟨#[99]⟩
def sI : ByteArray := ⟨#[105]⟩
def x1 : S36 := ⟨⟨sA, 2⟩, [⟨sA, 1⟩], sC, 1, sI, 1, []⟩
def x2 : S36 := ⟨⟨sA, 1⟩, [], sC, 1, sI, 1, []⟩
theorem sA_ok : isNameB sA = true := by decide
theorem dA (n : Int) (h : 1 ≤ n ∧ n ≤ 5) : dotOk ⟨sA, n⟩ = true := by
 unfold dotOk
 simp only [sA_ok, Bool.true_and, Bool.and_eq_true, decide_eq_true_eq]
 omega
theorem rA (n : Int) (h : 1 ≤ n ∧ n ≤ 5) : rightS [⟨sA, n⟩] = true := by rw [rightS_one]; exact dA n h
theorem x1_ok : rightO x1 = true := by
 unfold rightO x1
 simp only [dA 2 (by omega), rA 1 (by omega), seenS, kindS, atS]
 decide
theorem x2_ok : rightO x2 = true := by
 unfold rightO x2
 simp only [dA 1 (by omega), rightS_nil, seenS, kindS, atS]
 decide
theorem w1A : withS [] sA 1 = ([⟨sA, 1⟩], 0) := by
 unfold withS
 simp [rightS_nil, dA 1 (by omega), atS, putS]
theorem w2A : withS [⟨sA, 1⟩] sA 2 = ([⟨sA, 2⟩], 0) := by
 unfold withS
 simp [rA 1 (by omega), dA 2 (by omega), atS, putS, bl_irr]
theorem leq_nil {K : List S34} (h : rightS K = true) : leqS [] K = true := (leqS_iff rightS_nil h).2 (fun n => by
 have := atS_nonneg n (rightS_le h).2
 simpa [atS] using this)
theorem put1A : putA ⟨[], [], []⟩ x1 = ((0, 0), ⟨[], [], [x1]⟩) := by
 unfold putA
 rw [if_pos x1_ok]
 have hl : leqS x1.f1 [] = false := by
  cases h : leqS x1.f1 []
  · rfl
  · have := (leqS_iff (rA 1 (by omega)) rightS_nil).1 h sA
    simp [atS, x1] at this
 simp [ofDot, atS, hl]
theorem put2A : putA ⟨[], [], [x1]⟩ x2 = ((2, 0), ⟨[x2, x1], [⟨sA, 2⟩], []⟩) := by
 unfold putA
 rw [if_pos x2_ok]
 have hd : ofDot ([] ++ [x1]) x2.f0 = none := by simp [ofDot, x1, x2]
 have hc : canS [⟨sA, 1⟩] x1 = true := by
  unfold canS withK
  have : leqS x1.f1 [⟨sA, 1⟩] = true := leqS_refl' (rA 1 (by omega))
  simp [this]
  show (withS [⟨sA, 1⟩] sA 2).2 = 0
  rw [w2A]
 have hh : handA ⟨[], [], [x1]⟩ x2 = ⟨[x2], [⟨sA, 1⟩], [x1]⟩ := by
  unfold handA withK
  show AP.mk ([] ++ [x2]) (withS [] sA 1).1 [x1] = _
  rw [w1A]; rfl
 simp only [hd, hh, leq_nil rightS_nil, show x2.f1 = [] from rfl, atS, List.length_nil, if_true, drainA, List.length_cons]
 rw [if_neg (by simp)]
 simp only [List.findIdx?_cons, hc, if_true]
 unfold handA takeA withK
 show ((((1 + 1 : Nat) : Int), (0 : Int)), AP.mk ([x2] ++ [x1]) (withS [⟨sA, 1⟩] sA 2).1 []) = _
 rw [w2A]
 rfl
theorem lit34 (w : World) (x : S34) : Kd.C k34 (w.alloc (.cells #[.string x.f0, .int .i64 x.f1] 34)) (some ⟨w.heap.size, 0, none⟩) 1 [x] :=
 ⟨rfl, by decide, fun _ => ⟨_, rfl, fun j p hj => by
  cases j with
  | zero =>
    simp only [List.getElem?_cons_zero, Option.some.injEq] at hj
    subst hj
    refine ⟨[.string x.f0, .int .i64 x.f1], rfl, k34_mk _ _, fun i u hu => ?_⟩
    have h0 := (blk_cell (World.alloc_heap_new w (.cells #[.string x.f0, .int .i64 x.f1] 34)) i).trans (by simpa using hu)
    rw [show (0 * k34.sz + i) = i from by omega, addr0]
    exact h0
  | succ j => simp at hj⟩⟩
theorem made_calls (a : ByteArray) (n : Int) (A : Option Addr) (l c : Nat) (w : World) : Calls Try.prog 49 #[.string a, .int .i64 n, .slice A l c] w fun e w' => e = .returned (.agg #[.string a, .int .i64 n, .slice A l c, .string sC, .int .i64 1, .string sI, .int .i64 1, .slice none 0 0]) ∧ Below w.heap.size w w' := by
 go_enter Try.func49, Try.ntmps49
 go_wp2
 exact bodyPost_ret (v := .agg #[.string a, .int .i64 n, .slice A l c, .string sC, .int .i64 1, .string sI, .int .i64 1, .slice none 0 0]) (by simp [results, Try.f49, go_sem, sC, sI]) rfl ⟨rfl, (Below.refl _ _).alloc (Nat.le_refl _) _⟩
set_option maxHeartbeats 8000000 in
set_option maxRecDepth 100000 in
theorem shown_calls (w : World) : Calls Try.prog 15 #[] w fun e w' => e = .returned (.bool true) ∧ Below w.heap.size w w' := by
 go_enter Try.func15, Try.ntmps15
 go_wp2_with fail
 refine (poolNew _).mono ?_
 rintro e w1 ⟨rfl, hp1, hb1⟩
 have HP1 := Aside0.mk hp1
 have HB1 := Aside0.mk hb1
 clear hp1 hb1
 go_wp2_with fail
 refine (made_calls _ _ _ _ _ _).mono ?_
 rintro e w2 ⟨rfl, hb2⟩
 have hb12 : Below w1.heap.size w1 w2 := ((Below.refl _ w1).alloc (Nat.le_refl _) _).trans (hb2.mono (by simp))
 have HC2 := Aside0.mk (Kd.C_below (lit34 w1 ⟨sA, 1⟩) hb2)
 have HP2 := Aside0.mk (HP1.out.below hb12)
 have HB2 := Aside0.mk (show Below w.heap.size w w2 from HB1.out.trans (hb12.mono HB1.out.size))
 clear hb2 hb12
 go_wp2_with fail
 have h1 := poolPut _ _ _ x1 (some ⟨w1.heap.size, 0, none⟩) none 1 0 w2 HP2.out (by simp) HC2.out (by decide) (Kd.C_nil _ _) (by decide)
 refine h1.mono ?_
 rintro e w3 ⟨S3, rfl, hp3, hs3, hk3⟩
 rw [put1A] at hp3
 simp only [put1A]
 have HP3 := Aside0.mk hp3
 have HB3 := Aside0.mk (show Below w.heap.size w w3 from below_keeps HB2.out (fun k hk => by omega) HB2.out.size hk3)
 have HS3 := Aside0.mk (show ∀ k, S3 k → w.heap.size ≤ k from fun k hk => by rcases hs3 k hk with h | h; omega; exact Nat.le_trans HB2.out.size h)
 clear h1 hp3 hs3 hk3
 go_wp2_with fail
 refine (made_calls _ _ _ _ _ _).mono ?_
 rintro e w4 ⟨rfl, hb4⟩
 have HP4 := Aside0.mk (HP3.out.below hb4)
 have HB4 := Aside0.mk (show Below w.heap.size w w4 from HB3.out.trans (hb4.mono HB3.out.size))
 clear hb4
 go_wp2_with fail
 have h1 := poolPut _ _ _ x2 none none 0 0 w4 HP4.out (by simp) (Kd.C_nil _ _) (by decide) (Kd.C_nil _ _) (by decide)
 refine h1.mono ?_
 rintro e w5 ⟨S5, rfl, hp5, hs5, hk5⟩
 rw [put2A] at hp5
 simp only [put2A]
 have HP5 := Aside0.mk hp5
 have HB5 := Aside0.mk (show Below w.heap.size w w5 from below_keeps HB4.out (fun k hk => HS3.out k hk) HB4.out.size hk5)
 clear h1 hp5 hs5 hk5
 go_wp2_with fail
 refine (poolKnown _ _ _ _ HP5.out).mono ?_
 rintro e w6 ⟨v, rfl, hr6, hb6⟩
 obtain ⟨g6, c6, rfl, hge, hlt, _⟩ := Kd.R_form hr6 (by decide)
 obtain ⟨cs, hcs, hM, hcell, hfr⟩ := Kd.R_elem hr6 z34 0 (by decide) (by decide)
 have e6 : w6.cell? ⟨g6, 1, none⟩ = some (.int .i64 2) := hcell 1 (.int .i64 2) (by rw [k34_openM hM]; rfl)
 have HB6 := Aside0.mk (show Below w.heap.size w w6 from HB5.out.trans (hb6.mono HB5.out.size))
 clear hr6 hb6 hcell hM hfr
 go_wp2
 go_ret
 exact ⟨rfl, HB6.out⟩
end Go.Proofs.Ytenbkljgmgdegaa.PO
end
section
namespace Go.Proofs.Ytenbkljgmgdegaa.PO
open Go.RowKit Go.Proofs.YtenbkljgmgdegaaW.PrintWords Go.Proofs.YtenbkljgmgdegaaW.PrintLast Go.Proofs.YtenbkljgmgdegaaW.PrintMore Go.Proofs.Ytenbkljgmgdegaa.XW
open Go.Proofs.Ytenbkljgmgdegaa.XRange Go.Proofs.Ytenbkljgmgdegaa.XMap Go.Proofs.Ytenbkljgmgdegaa.XSeq
set_option linter.unusedVariables false
set_option linter.unusedSimpArgs false
structure OpAt (w : World) (p : Addr) (x : S36) (A2 : Option Addr) (c2 : Nat) (A7 : Option Addr) (c7 : Nat) : Prop where
 e0 : w.cell? p = some (.string x.f0.f0)
 e1 : w.cell? ⟨p.block, p.off + 1, none⟩ = some (.int .i64 x.f0.f1)
 e2 : w.cell? ⟨p.block, p.off + 2, none⟩ = some (.slice A2 x.f1.length c2)
 e3 : w.cell? ⟨p.block, p.off + 3, none⟩ = some (.string x.f2)
 e4 : w.cell? ⟨p.block, p.off + 4, none⟩ = some (.int .i64 x.f3)
 e5 : w.cell? ⟨p.block, p.off + 5, none⟩ = some (.string x.f4)
 e6 : w.cell? ⟨p.block, p.off + 6, none⟩ = some (.int .i64 x.f5)
 e7 : w.cell? ⟨p.block, p.off + 7, none⟩ = some (.slice A7 x.f6.length c7)
 l2 : x.f1.length ≤ c2
 g2 : Kd.C k34 w A2 x.f1.length x.f1
 l7 : x.f6.length ≤ c7
 g7 : Kd.C k34 w A7 x.f6.length x.f6
theorem R_apart {α : Type} {d : Kd α} {e base : Nat} {ok M : Nat → Prop} {w w1 : World} {v : Value} {xs : List α} (h : d.R e w base ok v xs) (hk : Keeps M w w1) (hm : ∀ k, M k → k < base) : d.R e w1 base ok v xs :=
 Kd.R_mono (Kd.R_step (Kd.R_bound h) (fun k hk' hlt => hk.block k hlt (fun hM => by have := hm k hM; have := hk'.2.1; omega))) (fun _ hk' => hk'.1)
end Go.Proofs.Ytenbkljgmgdegaa.PO
end
section
namespace Go.Proofs.Ytenbkljgmgdegaa.PO
open Go.RowKit Go.Proofs.YtenbkljgmgdegaaW.PrintWords Go.Proofs.YtenbkljgmgdegaaW.PrintLast Go.Proofs.YtenbkljgmgdegaaW.PrintMore Go.Proofs.Ytenbkljgmgdegaa.XW
open Go.Proofs.Ytenbkljgmgdegaa.XRange Go.Proofs.Ytenbkljgmgdegaa.XMap Go.Proofs.Ytenbkljgmgdegaa.XSeq
set_option linter.unusedVariables false
set_option linter.unusedSimpArgs false
def kAt (w0 : World) : Kd S36 where
 sz := 8
 E := []
 K := fun _ x cs => k36.K w0 x cs
 M := fun _ _ _ x cs => k36.K w0 x cs
 K_len := k36.K_len
 K_one := k36.K_one
 K_below := fun _ h => h
 K_of_M := fun h => h
 M_mono := fun _ h => h
 M_bound := fun h => h
 M_move := fun _ h => h
 M_lower := fun _ h => h
structure OpAt0 (w0 w : World) (p : Addr) (x : S36) (A2 : Option Addr) (c2 : Nat) (A7 : Option Addr) (c7 : Nat) : Prop where
 e0 : w.cell? p = some (.string x.f0.f0)
 e1 : w.cell? ⟨p.block, p.off + 1, none⟩ = some (.int .i64 x.f0.f1)
 e2 : w.cell? ⟨p.block, p.off + 2, none⟩ = some (.slice A2 x.f1.length c2)
 e3 : w.cell? ⟨p.block, p.off + 3, none⟩ = some (.string x.f2)
 e4 : w.cell? ⟨p.block, p.off + 4, none⟩ = some (.int .i64 x.f3)
 e5 : w.cell? ⟨p.block, p.off + 5, none⟩ = some (.string x.f4)
 e6 : w.cell? ⟨p.block, p.off + 6, none⟩ = some (.int .i64 x.f5)
 e7 : w.cell? ⟨p.block, p.off + 7, none⟩ = some (.slice A7 x.f6.length c7)
 l2 : x.f1.length ≤ c2
 g2 : Kd.C k34 w0 A2 x.f1.length x.f1
 l7 : x.f6.length ≤ c7
 g7 : Kd.C k34 w0 A7 x.f6.length x.f6
theorem OpAt.below {w w1 : World} {p : Addr} {x : S36} {A2 A7 : Option Addr} {c2 c7 : Nat} (h : OpAt w p x A2 c2 A7 c7) (hb : Below w.heap.size w w1) : OpAt w1 p x A2 c2 A7 c7 := by
 have st : ∀ {q : Addr} {u : Value}, w.cell? q = some u → w1.cell? q = some u := fun hq => (hb.cell (World.block_lt_of_cell? w _ hq)).trans hq
 exact ⟨st h.e0, st h.e1, st h.e2, st h.e3, st h.e4, st h.e5, st h.e6, st h.e7, h.l2, Kd.C_below h.g2 hb, h.l7, Kd.C_below h.g7 hb⟩
end Go.Proofs.Ytenbkljgmgdegaa.PO
end
section
namespace Go.Proofs.Ytenbkljgmgdegaa.PO
open Go.RowKit Go.Proofs.YtenbkljgmgdegaaW.PrintWords Go.Proofs.YtenbkljgmgdegaaW.PrintLast Go.Proofs.YtenbkljgmgdegaaW.PrintMore Go.Proofs.Ytenbkljgmgdegaa.XW
open Go.Proofs.Ytenbkljgmgdegaa.XRange Go.Proofs.Ytenbkljgmgdegaa.XMap Go.Proofs.Ytenbkljgmgdegaa.XSeq
set_option linter.unusedVariables false
set_option linter.unusedSimpArgs false
structure RefAt (w0 : World) (G : Nat → Prop) (w : World) (g : Nat) (vl vk vw : Value) (a : AP) : Prop where
 blk : w.heap[g]? = some (.cells #[vl, vk, vw] 29 (0, 0))
 rl : Kd.R (kAt w0) 36 w 0 (fun k => G k ∧ some k ≠ vw.ownBlock) vl a.L
 rk : Kd.R k34 34 w 0 G vk a.K
 rq : Kd.R (kAt w0) 36 w 0 (fun k => G k ∧ some k ≠ vl.ownBlock) vw a.Q
section
variable {w0 w w1 : World} {G G' : Nat → Prop} {g : Nat} {vl vk vw : Value} {a : AP}
theorem kAt_E : ∀ q, q ∈ (36 : Nat) :: (kAt w0).E → q ≠ 29 := by intro q hq; simp [kAt] at hq; omega
theorem k34_E29 : ∀ q, q ∈ (34 : Nat) :: k34.E → q ≠ 29 := by intro q hq; have := k34_E q hq; omega
theorem k34_E36 : ∀ q, q ∈ (34 : Nat) :: k34.E → q ≠ 36 := by intro q hq; have := k34_E q hq; omega
theorem RefAt.move (h : RefAt w0 G w g vl vk vw a) (hm : ∀ k, (k = g ∨ G k) → k < w.heap.size → w1.heap[k]? = w.heap[k]?) : RefAt w0 G w1 g vl vk vw a :=
 ⟨(hm g (.inl rfl) (blk_lt h.blk)).trans h.blk, Kd.R_step h.rl (fun k hk hlt => hm k (.inr hk.1) hlt), Kd.R_step h.rk (fun k hk hlt => hm k (.inr hk) hlt), Kd.R_step h.rq (fun k hk hlt => hm k (.inr hk.1) hlt)⟩
theorem RefAt.gmono (h : RefAt w0 G w g vl vk vw a) (hg : ∀ k, G k → G' k) : RefAt w0 G' w g vl vk vw a :=
 ⟨h.blk, Kd.R_mono h.rl (fun k hk => ⟨hg k hk.1, hk.2⟩), Kd.R_mono h.rk hg, Kd.R_mono h.rq (fun k hk => ⟨hg k hk.1, hk.2⟩)⟩
theorem RefAt.gbound (h : RefAt w0 G w g vl vk vw a) : RefAt w0 (fun k => G k ∧ k < w.heap.size) w g vl vk vw a :=
 ⟨h.blk, Kd.R_mono (Kd.R_bound h.rl) (fun k hk => ⟨⟨hk.1.1, hk.2.2.1⟩, hk.1.2⟩), Kd.R_mono (Kd.R_bound h.rk) (fun k hk => ⟨hk.1, hk.2.2.1⟩), Kd.R_mono (Kd.R_bound h.rq) (fun k hk => ⟨⟨hk.1.1, hk.2.2.1⟩, hk.1.2⟩)⟩
theorem RefAt.below (h : RefAt w0 G w g vl vk vw a) (hb : Below w.heap.size w w1) : RefAt w0 G w1 g vl vk vw a := h.move (fun k _ hlt => hb.block k hlt)
theorem RefAt.ne_l (h : RefAt w0 G w g vl vk vw a) : some g ≠ vl.ownBlock := Kd.R_ne h.rl h.blk (by decide)
theorem RefAt.ne_q (h : RefAt w0 G w g vl vk vw a) : some g ≠ vw.ownBlock := Kd.R_ne h.rq h.blk (by decide)
theorem RefAt.known (h : RefAt w0 G w g vl vk vw a) {v0 : Value} {K' : List S34} (hr : Kd.R k34 34 w 0 G v0 K') : RefAt w0 G (w.setCell ⟨g, 1, none⟩ v0) g vl v0 vw { a with K := K' } :=
 ⟨blk_set h.blk 1 v0, Kd.R_mono (Kd.R_far (Kd.R_types h.rl h.blk kAt_E) (fun k hk => hk.2) v0) (fun k hk => hk.1), Kd.R_mono (Kd.R_far (Kd.R_types hr h.blk k34_E29) (fun k hk => hk.2) v0) (fun k hk => hk.1),
  Kd.R_mono (Kd.R_far (Kd.R_types h.rq h.blk kAt_E) (fun k hk => hk.2) v0) (fun k hk => hk.1)⟩
theorem RefAt.waits (h : RefAt w0 G w g vl vk vw a) {v0 : Value} {Q' : List S36} (hr : Kd.R (kAt w0) 36 w 0 (fun k => G k ∧ some k ≠ vl.ownBlock) v0 Q') (hne : ∀ k, v0.ownBlock = some k → some k ≠ vl.ownBlock) : RefAt w0 G (w.setCell ⟨g, 2, none⟩ v0) g vl vk v0 { a with Q := Q' } := by
 have hl := Kd.R_types h.rl h.blk kAt_E
 refine ⟨blk_set h.blk 2 v0, ?_, Kd.R_mono (Kd.R_far (Kd.R_types h.rk h.blk k34_E29) (fun k hk => hk.2) v0) (fun k hk => hk.1), Kd.R_mono (Kd.R_far (Kd.R_types hr h.blk kAt_E) (fun k hk => hk.2) v0) (fun k hk => hk.1)⟩
 have h1 := Kd.R_far (p := ⟨g, 2, none⟩) hl (fun k hk => hk.2) v0
 obtain ⟨ho, inner, hown, hrep⟩ := h1
 refine ⟨fun k hk => ⟨(ho k hk).1.1, fun e => hne k e.symm hk.symm⟩, inner, hown, hrep.imp_ (fun _ _ hp => hp)⟩
theorem RefAt.grewL (h : RefAt w0 G w g vl vk vw a) (hg : w.grownBy w1 vl.ownBlock) {v1 : Value} {L' : List S36} (hr : Kd.R (kAt w0) 36 w1 0 (fun k => G k ∧ some k ≠ vw.ownBlock) v1 L')
 (hat : v1.ownBlock = vl.ownBlock ∨ ∃ b, v1.ownBlock = some b ∧ w.heap.size ≤ b) : RefAt w0 G (w1.setCell ⟨g, 0, none⟩ v1) g v1 vk vw { a with L := L' } := by
 have hblk := blk_grown h.blk hg h.ne_l
 refine ⟨blk_set hblk 0 v1, Kd.R_mono (Kd.R_far (Kd.R_types hr hblk kAt_E) (fun k hk => hk.2) v1) (fun k hk => hk.1), ?_, ?_⟩
 · exact Kd.R_mono (Kd.R_far (Kd.R_types (Kd.R_over' h.rk (Kd.R_typed h.rl) k34_E36 hg) hblk k34_E29) (fun k hk => hk.2) v1) (fun k hk => hk.1)
 · have h1 := Kd.R_types (Kd.R_grown (Kd.R_bound h.rq) hg (fun k hk => hk.1.2)) hblk kAt_E
   refine Kd.R_mono (Kd.R_far h1 (fun k hk => hk.2) v1) (fun k hk => ?_)
   obtain ⟨⟨h2, _, h3, _⟩, _⟩ := hk
   refine ⟨h2.1, ?_⟩
   rcases hat with hat | ⟨b, hb, hlt⟩
   · rw [hat]; exact h2.2
   · rw [hb]; intro e; cases e; omega
theorem RefAt.grewQ (h : RefAt w0 G w g vl vk vw a) (hg : w.grownBy w1 vw.ownBlock) {v1 : Value} {Q' : List S36} (hr : Kd.R (kAt w0) 36 w1 0 (fun k => G k ∧ some k ≠ vl.ownBlock) v1 Q')
 (hat : v1.ownBlock = vw.ownBlock ∨ ∃ b, v1.ownBlock = some b ∧ w.heap.size ≤ b) : RefAt w0 G (w1.setCell ⟨g, 2, none⟩ v1) g vl vk v1 { a with Q := Q' } := by
 have hblk := blk_grown h.blk hg h.ne_q
 refine ⟨blk_set hblk 2 v1, ?_, ?_, Kd.R_mono (Kd.R_far (Kd.R_types hr hblk kAt_E) (fun k hk => hk.2) v1) (fun k hk => hk.1)⟩
 · have h1 := Kd.R_types (Kd.R_grown (Kd.R_bound h.rl) hg (fun k hk => hk.1.2)) hblk kAt_E
   refine Kd.R_mono (Kd.R_far h1 (fun k hk => hk.2) v1) (fun k hk => ?_)
   obtain ⟨⟨h2, _, h3, _⟩, _⟩ := hk
   refine ⟨h2.1, ?_⟩
   rcases hat with hat | ⟨b, hb, hlt⟩
   · rw [hat]; exact h2.2
   · rw [hb]; intro e; cases e; omega
 · exact Kd.R_mono (Kd.R_far (Kd.R_types (Kd.R_over' h.rk (Kd.R_typed h.rq) k34_E36 hg) hblk k34_E29) (fun k hk => hk.2) v1) (fun k hk => hk.1)
end
theorem OpAt0.below {w0 w w1 : World} {p : Addr} {x : S36} {A2 A7 : Option Addr} {c2 c7 : Nat} (h : OpAt0 w0 w p x A2 c2 A7 c7) (hb : Below w.heap.size w w1) : OpAt0 w0 w1 p x A2 c2 A7 c7 := by
 have st : ∀ {q : Addr} {u : Value}, w.cell? q = some u → w1.cell? q = some u := fun hq => (hb.cell (World.block_lt_of_cell? w _ hq)).trans hq
 exact ⟨st h.e0, st h.e1, st h.e2, st h.e3, st h.e4, st h.e5, st h.e6, st h.e7, h.l2, h.g2, h.l7, h.g7⟩
end Go.Proofs.Ytenbkljgmgdegaa.PO
end
section
namespace Go.Proofs.Ytenbkljgmgdegaa.PO
open Go.RowKit Go.Proofs.YtenbkljgmgdegaaW.PrintWords Go.Proofs.YtenbkljgmgdegaaW.PrintLast Go.Proofs.YtenbkljgmgdegaaW.PrintMore Go.Proofs.Ytenbkljgmgdegaa.XW
set_option linter.unusedVariables false
set_option linter.unusedSimpArgs false
theorem ahead_f (a b : S34) : pannierref08_ahead.f a.f0 a.f1 b.f0 b.f1 = some (lessD a b) := by
 unfold pannierref08_ahead.f lessD
 cases h : Op.bytesLess a.f0.toList b.f0.toList
 · by_cases e : a.f0.toList = b.f0.toList
   · simp [e]
   · simp [e]
 · simp
end Go.Proofs.Ytenbkljgmgdegaa.PO
end
section
namespace Go.Proofs.Ytenbkljgmgdegaa.PO
open Go.RowKit Go.Proofs.YtenbkljgmgdegaaW.PrintWords Go.Proofs.YtenbkljgmgdegaaW.PrintLast Go.Proofs.YtenbkljgmgdegaaW.PrintMore Go.Proofs.Ytenbkljgmgdegaa.XW
open Go.Proofs.Ytenbkljgmgdegaa.XRange Go.Proofs.Ytenbkljgmgdegaa.XMap Go.Proofs.Ytenbkljgmgdegaa.XSeq
set_option linter.unusedVariables false
set_option linter.unusedSimpArgs false
def RefS (w0 : World) (S : Nat → Prop) (g : Nat) (a : AP) (w : World) : Prop := (∃ vl vk vw, RefAt w0 S w g vl vk vw a) ∧ S g ∧ (∀ k, S k → k < w.heap.size) ∧ InvA a
theorem RefS.keeps {w0 : World} {S M : Nat → Prop} {g : Nat} {a : AP} {w w1 : World} (h : RefS w0 S g a w) (hk : Keeps M w w1) (hd : ∀ k, S k → ¬ M k) : RefS w0 S g a w1 := by
 obtain ⟨⟨vl, vk, vw, h1⟩, h2, h3, h4⟩ := h
 exact ⟨⟨vl, vk, vw, h1.move (fun k hkS hlt => hk.block k hlt (hd k (by rcases hkS with rfl | h; exact h2; exact h)))⟩, h2, fun k hS => Nat.lt_of_lt_of_le (h3 k hS) hk.size, h4⟩
theorem RefS.below {w0 : World} {S : Nat → Prop} {g : Nat} {a : AP} {w w1 : World} (h : RefS w0 S g a w) (hb : Below w.heap.size w w1) : RefS w0 S g a w1 := h.keeps (Keeps.of_below hb) (fun _ _ f => f)
end Go.Proofs.Ytenbkljgmgdegaa.PO
end
section
namespace Go.Proofs.Ytenbkljgmgdegaa.PO
open Go.RowKit Go.Proofs.YtenbkljgmgdegaaW.PrintWords Go.Proofs.YtenbkljgmgdegaaW.PrintLast Go.Proofs.YtenbkljgmgdegaaW.PrintMore Go.Proofs.Ytenbkljgmgdegaa.XW
open Go.Proofs.Ytenbkljgmgdegaa.XRange Go.Proofs.Ytenbkljgmgdegaa.XMap Go.Proofs.Ytenbkljgmgdegaa.XSeq
set_option linter.unusedVariables false
set_option linter.unusedSimpArgs false
theorem rdNum_f (b : List Int) (hB : isB b) (hb : b.length ≤ 140737488355300) (p : Int) (bad : Bool) (k : Nat) (hk : 20 ≤ k) : rdNum k b p bad = some (numR b p bad) := by
 unfold rdNum numR
 rw [takeNumber_f b hB hb p k hk, Option.bind_some]
 cases bad with
 | true => rfl
 | false =>
   by_cases h0 : (takeS b p).2.2 = 0
   · have := takeS_ok hB h0
     by_cases h1 : (takeS b p).1 > 4611686018427387904
     · simp [h0, h1]
     · simp [h0, h1, this.2.2.1]
   · simp [h0]
theorem rdText_f (b : List Int) (hB : isB b) (hb : b.length ≤ 140737488355300) (p : Int) (bad : Bool) (k : Nat) (hk : 20 ≤ k) : rdText k b p bad = some (texR b p bad) := by
 unfold rdText texR
 rw [takeText32_f b hB hb p k hk, Option.bind_some]
 cases bad with
 | true => rfl
 | false =>
   by_cases h0 : (text32 b p).2.2 = 0
   · simp [h0]
   · simp [h0]
theorem rdDot_f (b : List Int) (hB : isB b) (hb : b.length ≤ 140737488355300) (p : Int) (bad : Bool) (k : Nat) (hk : 20 ≤ k) : rdDot k b p bad = some ((dotR b p bad).1.f0, (dotR b p bad).1.f1, (dotR b p bad).2.1, (dotR b p bad).2.2) := by
 unfold rdDot
 rw [rdText_f b hB hb p bad k hk, Option.bind_some, rdNum_f b hB hb _ _ k hk, Option.bind_some]
 rfl
theorem set8 {w : World} {G : Nat} {a0 a1 a2 a3 a4 a5 a6 a7 : Value} (h : w.heap[G]? = some (.cells #[a0, a1, a2, a3, a4, a5, a6, a7] 36 (0, 0))) (u0 u1 u2 u3 u4 u5 u6 u7 : Value) :
 ((((((((w.setCell ⟨G, 0, none⟩ u0).setCell ⟨G, 1, none⟩ u1).setCell ⟨G, 2, none⟩ u2).setCell ⟨G, 3, none⟩ u3).setCell ⟨G, 4, none⟩ u4).setCell ⟨G, 5, none⟩ u5).setCell ⟨G, 6, none⟩ u6).setCell ⟨G, 7, none⟩ u7).heap[G]? = some (.cells #[u0, u1, u2, u3, u4, u5, u6, u7] 36 (0, 0)) := by
 have h0 := blk_set h 0 u0
 simp only [List.setIfInBounds_toArray, List.set_cons_zero, List.set_cons_succ] at h0
 have h1 := blk_set h0 1 u1
 simp only [List.setIfInBounds_toArray, List.set_cons_zero, List.set_cons_succ] at h1
 have h2 := blk_set h1 2 u2
 simp only [List.setIfInBounds_toArray, List.set_cons_zero, List.set_cons_succ] at h2
 have h3 := blk_set h2 3 u3
 simp only [List.setIfInBounds_toArray, List.set_cons_zero, List.set_cons_succ] at h3
 have h4 := blk_set h3 4 u4
 simp only [List.setIfInBounds_toArray, List.set_cons_zero, List.set_cons_succ] at h4
 have h5 := blk_set h4 5 u5
 simp only [List.setIfInBounds_toArray, List.set_cons_zero, List.set_cons_succ] at h5
 have h6 := blk_set h5 6 u6
 simp only [List.setIfInBounds_toArray, List.set_cons_zero, List.set_cons_succ] at h6
 have h7 := blk_set h6 7 u7
 simp only [List.setIfInBounds_toArray, List.set_cons_zero, List.set_cons_succ] at h7
 exact h7
theorem keeps8 (w : World) (G : Nat) (u0 u1 u2 u3 u4 u5 u6 u7 : Value) :
 Keeps (fun k => k = G) w ((((((((w.setCell ⟨G, 0, none⟩ u0).setCell ⟨G, 1, none⟩ u1).setCell ⟨G, 2, none⟩ u2).setCell ⟨G, 3, none⟩ u3).setCell ⟨G, 4, none⟩ u4).setCell ⟨G, 5, none⟩ u5).setCell ⟨G, 6, none⟩ u6).setCell ⟨G, 7, none⟩ u7) := by
 have k0 := Keeps.setCell (M := fun k => k = G) (Keeps.refl _ w) (p := ⟨G, 0, none⟩) (.inl rfl) u0
 have k1 := Keeps.setCell (M := fun k => k = G) k0 (p := ⟨G, 1, none⟩) (.inl rfl) u1
 have k2 := Keeps.setCell (M := fun k => k = G) k1 (p := ⟨G, 2, none⟩) (.inl rfl) u2
 have k3 := Keeps.setCell (M := fun k => k = G) k2 (p := ⟨G, 3, none⟩) (.inl rfl) u3
 have k4 := Keeps.setCell (M := fun k => k = G) k3 (p := ⟨G, 4, none⟩) (.inl rfl) u4
 have k5 := Keeps.setCell (M := fun k => k = G) k4 (p := ⟨G, 5, none⟩) (.inl rfl) u5
 have k6 := Keeps.setCell (M := fun k => k = G) k5 (p := ⟨G, 6, none⟩) (.inl rfl) u6
 have k7 := Keeps.setCell (M := fun k => k = G) k6 (p := ⟨G, 7, none⟩) (.inl rfl) u7
 exact k7
structure RS (w wq : World) (G g N : Nat) (A : Option Addr) (c : Nat) (l : List Int) (p : Int) (b : Bool) (cs : Array Value) : Prop where
 rd : wq.heap[g]? = some (.cells #[.slice A l.length c, .int .i64 p, .bool b] 117 (0, 0))
 ob : wq.heap[N]? = some (.cells cs 36 (0, 0))
 gb : wq.heap[G]? = some (.cells #[.string ⟨#[]⟩, .int .i64 0, .slice none 0 0, .string ⟨#[]⟩, .int .i64 0, .string ⟨#[]⟩, .int .i64 0, .slice none 0 0] 36 (0, 0))
 ft : Kd.F (Kd.int .u8) wq (fun k => k < g) A l.length l
 bl : Below w.heap.size w wq
 le : l.length ≤ c
 lg : G < g
 ln : g < N
 lw : w.heap.size ≤ G
section
variable {w wq w1 : World} {G g N : Nat} {A : Option Addr} {c : Nat} {l : List Int} {p p' : Int} {b b' : Bool} {cs : Array Value}
theorem RS.rdAt (h : RS w wq G g N A c l p b cs) : RdAt 117 wq g A c l p b := ⟨h.rd, h.le, Kd.F_mono h.ft (fun k hk => by have : k < g := hk; omega)⟩
theorem RS.keeps (h : RS w wq G g N A c l p b cs) (hk : Keeps (fun k => g ≤ k) wq w1) (h1 : w1.heap[g]? = some (.cells #[.slice A l.length c, .int .i64 p', .bool b'] 117 (0, 0))) {cs' : Array Value} (h2 : w1.heap[N]? = some (.cells cs' 36 (0, 0))) : RS w w1 G g N A c l p' b' cs' :=
 ⟨h1, h2, (hk.block G (blk_lt h.gb) (by have := h.lg; omega)).trans h.gb, Kd.F_step h.ft (fun k hk' hlt => hk.block k hlt (by have h3 : k < g := hk'; omega)),
  below_keeps h.bl (M := fun k => g ≤ k) (fun k hk => by have := h.lw; have := h.lg; have h3 : g ≤ k := hk; omega) h.bl.size hk, h.le, h.lg, h.ln, h.lw⟩
theorem RS.grown (h : RS w wq G g N A c l p b cs) {row : Option Nat} (hg : wq.grownBy w1 row) (hr : ∀ k, row = some k → N < k) : RS w w1 G g N A c l p b cs :=
 h.keeps (keeps_weak (keeps_grown hg) (fun k hk => by have := hr k hk.symm; have := h.ln; omega)) (blk_grown h.rd hg (fun e => by have := hr g e.symm; have := h.ln; omega)) (blk_grown h.ob hg (fun e => by have := hr N e.symm; omega))
theorem RS.after (h : RS w wq G g N A c l p b cs) (hs : RdAt 117 w1 g A c l p' b') (hk : Keeps (fun k => k = g) wq w1) : RS w w1 G g N A c l p' b' cs :=
 h.keeps (keeps_weak hk (fun k h => by subst h; exact Nat.le_refl _)) hs.blk ((hk.block N (blk_lt h.ob) (by have := h.ln; omega)).trans h.ob)
theorem RS.below (h : RS w wq G g N A c l p b cs) (hb : Below wq.heap.size wq w1) : RS w w1 G g N A c l p b cs :=
 h.keeps (keeps_weak (Keeps.of_below hb (M := fun _ => False)) (fun _ f => f.elim)) (blk_below h.rd hb) (blk_below h.ob hb)
theorem RS.setN (h : RS w wq G g N A c l p b cs) (i : Nat) (u : Value) : RS w (wq.setCell ⟨N, i, none⟩ u) G g N A c l p b (cs.setIfInBounds i u) :=
 h.keeps (Keeps.setCell (M := fun k => g ≤ k) (Keeps.refl _ wq) (p := ⟨N, i, none⟩) (.inl (by have := h.ln; show g ≤ N; omega)) u) (blk_far h.rd (show g ≠ N by have := h.ln; omega) u) (blk_set h.ob i u)
theorem RS.setp (h : RS w wq G g N A c l p b cs) (a' : Int) : RS w (wq.setCell ⟨g, 1, none⟩ (.int .i64 a')) G g N A c l a' b cs :=
 h.keeps (Keeps.setCell (M := fun k => g ≤ k) (Keeps.refl _ wq) (p := ⟨g, 1, none⟩) (.inl (Nat.le_refl _)) _) (blk_set h.rd 1 _) (blk_far h.ob (show N ≠ g by have := h.ln; omega) _)
end
set_option maxHeartbeats 8000000 in
set_option maxRecDepth 100000 in
theorem read43 (w : World) (s : ByteArray) (hs : s.size ≤ 140737488351232) :
 Calls Try.prog 43 #[.string s] w fun e w' => ∃ v2 v7, e = .returned (.tuple #[.agg #[.string (readO (bytesOf s)).1.f0.f0, .int .i64 (readO (bytesOf s)).1.f0.f1, v2, .string (readO (bytesOf s)).1.f2, .int .i64 (readO (bytesOf s)).1.f3, .string (readO (bytesOf s)).1.f4, .int .i64 (readO (bytesOf s)).1.f5, v7], .int .i64 (readO (bytesOf s)).2]) ∧
  Kd.R k34 34 w' w.heap.size (fun _ => True) v2 (readO (bytesOf s)).1.f1 ∧ Kd.R k34 34 w' w.heap.size (fun _ => True) v7 (readO (bytesOf s)).1.f6 ∧ Below w.heap.size w w' := by
 go_enter Try.func43, Try.ntmps43
 go_wp2_with fail
 obtain ⟨w0, hw0⟩ : ∃ w0, w.alloc (.cells #[.string ⟨#[]⟩, .int .i64 0, .slice none 0 0, .string ⟨#[]⟩, .int .i64 0, .string ⟨#[]⟩, .int .i64 0, .slice none 0 0] 36) = w0 := ⟨_, rfl⟩
 obtain ⟨G, hG⟩ : ∃ G, w.heap.size = G := ⟨_, rfl⟩
 have hb0 : Below w.heap.size w w0 := by rw [← hw0]; exact (Below.refl _ w).alloc (Nat.le_refl _) _
 have hbk0 : w0.heap[G]? = some (.cells #[.string ⟨#[]⟩, .int .i64 0, .slice none 0 0, .string ⟨#[]⟩, .int .i64 0, .string ⟨#[]⟩, .int .i64 0, .slice none 0 0] 36 (0, 0)) := by rw [← hw0, ← hG]; exact World.alloc_heap_new w _
 rw [hw0, hG, Lib.run_convert_string_bytes _ 9 63 5 s Try.underlying9 Try.underlying63 Try.underlying5]
 obtain ⟨l, hl⟩ : ∃ l, bytesOf s = l := ⟨_, rfl⟩
 have hsl : s.size = l.length := by rw [← hl]; exact (bytesOf_length s).symm
 have hv := Kd.conv_V (W := w0) (e := 5) (base := 0) (ok := fun _ => True) s (fun _ _ => trivial) (by omega) (grownCap_ge w0 _ _ _)
 have hb1 := Kd.conv_below (W := w0) (w0 := w0) (base := w0.heap.size) 5 s (Below.refl _ _) (Nat.le_refl _)
 obtain ⟨w1, hw1⟩ : ∃ w1, Lib.bytesWorld w0 5 s = w1 := ⟨_, rfl⟩
 obtain ⟨A, hA⟩ : ∃ A, some (⟨w0.heap.size, 0, none⟩ : Addr) = A := ⟨_, rfl⟩
 obtain ⟨c, hcc⟩ : ∃ c, grownCap w0 s.size 0 5 = c := ⟨_, rfl⟩
 rw [hw1, hA, hcc, hl, hsl] at hv
 rw [hw1] at hb1
 rw [hw1, hA, hcc, hsl]
 have hlc : l.length ≤ c := by rw [← hcc, ← hsl]; exact grownCap_ge w0 _ _ _
 have hF := Kd.V_F hv
 clear hv hw1 hA hcc hw0
 have hB : isB l := by rw [← hl]; exact bytes_B s
 have hlm : l.length ≤ 140737488355300 := by omega
 have HB0 := Aside0.mk (hb0.trans (hb1.mono hb0.size))
 have HG0 := Aside0.mk (blk_below hbk0 hb1)
 have HF := Aside0.mk hF
 clear hF hbk0 hb1 hb0
 obtain ⟨w2, hw2⟩ : ∃ w2, w1.alloc (.cells #[.slice A l.length c, .int .i64 0, .bool false] 117) = w2 := ⟨_, rfl⟩
 obtain ⟨g, hg⟩ : ∃ g, w1.heap.size = g := ⟨_, rfl⟩
 have hb2 : Below w1.heap.size w1 w2 := by rw [← hw2]; exact (Below.refl _ w1).alloc (Nat.le_refl _) _
 have HS2 := Aside0.mk (show RdAt 117 w2 g A c l 0 false from by
  rw [← hw2, ← hg]
  exact ⟨World.alloc_heap_new w1 _, hlc, Kd.F_alloc (Kd.F_mono (Kd.F_bound HF.out) (fun k hk => by have := hk.2; omega)) _⟩)
 have HF2 := Aside0.mk (show Kd.F (Kd.int .u8) w2 (fun k => k < g) A l.length l from by rw [← hw2, ← hg]; exact Kd.F_alloc (Kd.F_mono (Kd.F_bound HF.out) (fun k hk => hk.2)) _)
 have HB2 := Aside0.mk (HB0.out.trans (hb2.mono HB0.out.size))
 have HG2 := Aside0.mk (blk_below HG0.out hb2)
 have HGG := Aside0.mk (show G < g from by rw [← hg]; exact blk_lt HG0.out)
 have HWG := Aside0.mk (show w.heap.size ≤ g from by rw [← hg]; exact HB0.out.size)
 have HGW := Aside0.mk (show w.heap.size ≤ G from by omega)
 clear hb2 HB0 HG0 HF
 go_wp2_with fail
 try rw [hw2]
 try rw [hg]
 clear hw2 hg
 refine (reader_dot 20 g A c l 0 false _ _ _ _ _ HS2.out (rdDot_f l hB hlm 0 false 20 (by omega))).mono ?_
 rintro e w3 ⟨rfl, hs3, hk3⟩
 obtain ⟨⟨d, p1, b1⟩, hd⟩ : ∃ x, dotR l 0 false = x := ⟨_, rfl⟩
 rw [hd] at hs3 ⊢
 dsimp only at hs3 ⊢
 have HD := Aside0.mk hd
 have HS3 := Aside0.mk hs3
 have HG3 := Aside0.mk ((hk3.block G (blk_lt HG2.out) (by have := HGG.out; omega)).trans HG2.out)
 have HB3 := Aside0.mk (below_keeps HB2.out (M := fun k => k = g) (fun k hk => by subst hk; exact HWG.out) HB2.out.size hk3)
 have HF3 := Aside0.mk (Kd.F_step HF2.out (fun k hk hlt => hk3.block k hlt (by have h3 : k < g := hk; omega)))
 clear hs3 hk3 hd HS2 HG2 HB2 HF2
 go_wp2_with fail
 obtain ⟨w4, hw4⟩ : ∃ w4, w3.alloc (.cells #[.string d.f0, .int .i64 d.f1, .slice none 0 0, .string ⟨#[]⟩, .int .i64 0, .string ⟨#[]⟩, .int .i64 0, .slice none 0 0] 36) = w4 := ⟨_, rfl⟩
 obtain ⟨N, hN⟩ : ∃ N, w3.heap.size = N := ⟨_, rfl⟩
 have hb4 : Below w3.heap.size w3 w4 := by rw [← hw4]; exact (Below.refl _ w3).alloc (Nat.le_refl _) _
 have HN4 := Aside0.mk (show w4.heap[N]? = some (.cells #[.string d.f0, .int .i64 d.f1, .slice none 0 0, .string ⟨#[]⟩, .int .i64 0, .string ⟨#[]⟩, .int .i64 0, .slice none 0 0] 36 (0, 0)) from by rw [← hw4, ← hN]; exact World.alloc_heap_new w3 _)
 try rw [hw4]
 try rw [hN]
 have HNg := Aside0.mk (show g < N from by rw [← hN]; exact blk_lt HS3.out.blk)
 have HS4 := Aside0.mk (HS3.out.keep (Keeps.of_below hb4 |> fun h => keeps_weak h (fun _ f => f)))
 have HG4 := Aside0.mk (blk_below HG3.out hb4)
 have HB4 := Aside0.mk (HB3.out.trans (hb4.mono HB3.out.size))
 have HF4 := Aside0.mk (Kd.F_below HF3.out hb4)
 clear hb4 hw4 hN HS3 HG3 HB3 HF3
 refine start_ (n := 16) (ds := []) (S := fun w' => w'.cell? ⟨g, 0, none⟩ = some (.slice A l.length c) ∧ w'.cell? ⟨g, 1, none⟩ = some (.int .i64 p1)) _ (by kernel_rfl) rfl rfl ⟨(blk_cell (blk_drew HS4.out.blk) 0).trans rfl, (blk_cell (blk_drew HS4.out.blk) 1).trans rfl⟩ (fun hH => ?_)
 refine XReg.pu 0 19 (h := ?_)
 refine XReg.pu 1 20 (h := ?_)
 refine XReg.pu 2 21 (h := ?_)
 refine XReg.tk 3 22 (h := ?_)
 refine XReg.pu 4 23 (h := ?_)
 refine XReg.pu 5 24 (h := ?_)
 refine XReg.pu 6 25 (h := ?_)
 refine XReg.tk 7 26 (h := ?_)
 refine XReg.one (i := 8) (some 27) rfl rfl (by kernel_rfl) (by decide) (fun Kc hKc => ?_)
 refine goes_ Try.func72 (by kernel_rfl) rfl #[.slice A l.length c, .int .i64 p1] (by rfl) rfl rfl (by (try simp only [List.map_toArray, List.map_cons, List.map_nil]); first | done | rfl) ?_
 obtain ⟨⟨V, p2, ve⟩, hV⟩ : ∃ x, vecS l p1 = x := ⟨_, rfl⟩
 refine (vector_Take.calls 400 A c l p1 V p2 ve _ (Kd.C_drew (Kd.F_now HS4.out.foot)) HS4.out.le (by rw [take_f l hB hlm p1 400 (by omega), hV])).mono ?_
 rintro e w5 ⟨vv, rfl, hr5, hb5⟩
 refine ⟨_, rfl, ?_⟩
 have hb5' : Below w4.heap.size w4 w5 := (below_drew1 (Below.refl _ w4)).trans hb5
 have HV := Aside0.mk hV
 have HS5 := Aside0.mk (HS4.out.keep (Keeps.of_below hb5'))
 have HG5 := Aside0.mk (blk_below HG4.out hb5')
 have HN5 := Aside0.mk (blk_below HN4.out hb5')
 have HB5 := Aside0.mk (HB4.out.trans (hb5'.mono HB4.out.size))
 have HR5 := Aside0.mk (show Kd.R k34 34 w5 (N + 1) (fun _ => True) vv V from Kd.R_lower hr5 (by have := blk_lt HN4.out; exact this))
 have HFT := Aside0.mk (Kd.F_below HF4.out hb5')
 refine hKc.out _ _ ⟨(blk_cell HS5.out.blk 0).trans rfl, (blk_cell HS5.out.blk 1).trans rfl⟩ (fun hH2 => ?_)
 clear hKc Kc hH hr5 hb5 hb5' hV HS4 HG4 HN4 HB4 HF4
 refine XReg.pu 9 18 (h := ?_)
 refine XReg.pu 10 28 (h := ?_)
 refine XReg.pu 11 29 (h := ?_)
 refine XReg.pu 12 30 (h := ?_)
 refine XReg.pu 13 6 (h := ?_)
 refine XReg.pu 14 7 (h := ?_)
 refine XReg.pu 15 8 (h := ?_)
 refine done_ (by kernel_rfl) ?_
 have c2 : w5.cell? ⟨g, 2, none⟩ = some (.bool b1) := (blk_cell HS5.out.blk 2).trans rfl
 clear hH2
 by_cases hbad : b1 = true ∨ ve ≠ 0
 · have z0 : readO l = (z36, 80) := by
    unfold readO
    rw [HD.out]
    dsimp only
    rw [HV.out]
    rw [if_pos hbad]
   have Z0 := Aside0.mk z0
   clear z0
   obtain ⟨e0, e1, e2, e3, e4, e5, e6, e7⟩ := cells8 HG5.out
   have f0 := blk_frozen HG5.out 0
   have f1 := blk_frozen HG5.out 1
   have f2 := blk_frozen HG5.out 2
   have f3 := blk_frozen HG5.out 3
   have f4 := blk_frozen HG5.out 4
   have f5 := blk_frozen HG5.out 5
   have f6 := blk_frozen HG5.out 6
   have f7 := blk_frozen HG5.out 7
   cases b1 with
   | true =>
     go_wp2
     have h8 := set8 HG5.out (.string ⟨#[]⟩) (.int .i64 0) (.slice none 0 0) (.string ⟨#[]⟩) (.int .i64 0) (.string ⟨#[]⟩) (.int .i64 0) (.slice none 0 0)
     obtain ⟨k0, k1, k2, k3, k4, k5, k6, k7⟩ := cells8 h8
     have hk := below_keeps HB5.out (M := fun k => k = G) (fun k hk => by subst hk; exact HGW.out) HB5.out.size (keeps8 w5 G (.string ⟨#[]⟩) (.int .i64 0) (.slice none 0 0) (.string ⟨#[]⟩) (.int .i64 0) (.string ⟨#[]⟩) (.int .i64 0) (.slice none 0 0))
     try rw [hl]
     rw [Z0.out]
     try rw [hG] at hk
     try rw [hG]
     exact bodyPost_ret (v := .tuple #[.agg #[.string ⟨#[]⟩, .int .i64 0, .slice none 0 0, .string ⟨#[]⟩, .int .i64 0, .string ⟨#[]⟩, .int .i64 0, .slice none 0 0], .int .i64 80]) (by simp [results, Try.f43, go_sem, k0, k1, k2, k3, k4, k5, k6, k7]) rfl ⟨.slice none 0 0, .slice none 0 0, rfl, Kd.R_nil _ _ _ _ _, Kd.R_nil _ _ _ _ _, hk⟩
   | false =>
     have hve : (ve != 0) = true := by rcases hbad with h | h; cases h; simpa using h
     go_wp2
     have h8 := set8 HG5.out (.string ⟨#[]⟩) (.int .i64 0) (.slice none 0 0) (.string ⟨#[]⟩) (.int .i64 0) (.string ⟨#[]⟩) (.int .i64 0) (.slice none 0 0)
     obtain ⟨k0, k1, k2, k3, k4, k5, k6, k7⟩ := cells8 h8
     have hk := below_keeps HB5.out (M := fun k => k = G) (fun k hk => by subst hk; exact HGW.out) HB5.out.size (keeps8 w5 G (.string ⟨#[]⟩) (.int .i64 0) (.slice none 0 0) (.string ⟨#[]⟩) (.int .i64 0) (.string ⟨#[]⟩) (.int .i64 0) (.slice none 0 0))
     try rw [hl]
     rw [Z0.out]
     try rw [hG] at hk
     try rw [hG]
     exact bodyPost_ret (v := .tuple #[.agg #[.string ⟨#[]⟩, .int .i64 0, .slice none 0 0, .string ⟨#[]⟩, .int .i64 0, .string ⟨#[]⟩, .int .i64 0, .slice none 0 0], .int .i64 80]) (by simp [results, Try.f43, go_sem, k0, k1, k2, k3, k4, k5, k6, k7]) rfl ⟨.slice none 0 0, .slice none 0 0, rfl, Kd.R_nil _ _ _ _ _, Kd.R_nil _ _ _ _ _, hk⟩
 · have q1 : b1 = false := by cases b1 with | false => rfl | true => exact absurd (Or.inl rfl) hbad
   have q2 : ve = 0 := Classical.byContradiction (fun h => hbad (Or.inr h))
   subst q1
   subst q2
   have HBAD := Aside0.mk hbad
   clear hbad
   have HT5 := Aside0.mk (show RS w w5 G g N A c l p1 false #[.string d.f0, .int .i64 d.f1, .slice none 0 0, .string ⟨#[]⟩, .int .i64 0, .string ⟨#[]⟩, .int .i64 0, .slice none 0 0] from
    ⟨HS5.out.blk, HN5.out, HG5.out, HFT.out, HB5.out, hlc, HGG.out, HNg.out, by have := HGW.out; exact this⟩)
   obtain ⟨Av, cv, rfl⟩ := Kd.R_slice HR5.out
   have e2 : w5.cell? ⟨N, 2, none⟩ = some (.slice none 0 0) := (blk_cell HN5.out 2).trans rfl
   have c1 : w5.cell? ⟨g, 1, none⟩ = some (.int .i64 p1) := (blk_cell HS5.out.blk 1).trans rfl
   have f2 := blk_frozen HN5.out 2
   have f1 := blk_frozen HS5.out.blk 1
   clear HS5 HN5 HG5 HB5
   go_wp2_with fail
   obtain ⟨w6, hw6⟩ : ∃ w6, (w5.setCell ⟨N, 2, none⟩ (.slice Av V.length cv)).setCell ⟨g, 1, none⟩ (.int .i64 p2) = w6 := ⟨_, rfl⟩
   rw [hw6]
   have HT6 := Aside0.mk (show RS w w6 G g N A c l p2 false #[.string d.f0, .int .i64 d.f1, .slice Av V.length cv, .string ⟨#[]⟩, .int .i64 0, .string ⟨#[]⟩, .int .i64 0, .slice none 0 0] from by
    rw [← hw6]
    have h := (HT5.out.setN 2 (.slice Av V.length cv)).setp p2
    simp only [List.setIfInBounds_toArray, List.set_cons_zero, List.set_cons_succ] at h
    exact h)
   have HK6 := Aside0.mk (show Keeps (fun k => k = g ∨ k = N) w5 w6 from by
    rw [← hw6]
    exact Keeps.setCell (M := fun k => k = g ∨ k = N) (Keeps.setCell (M := fun k => k = g ∨ k = N) (Keeps.refl _ w5) (p := ⟨N, 2, none⟩) (.inl (.inr rfl)) _) (p := ⟨g, 1, none⟩) (.inl (.inl rfl)) _)
   have HML := Aside0.mk (show ∀ k, (k = g ∨ k = N) → k < N + 1 from fun k hk => by have := HNg.out; rcases hk with rfl | rfl <;> omega)
   have HML1 := Aside0.mk (show ∀ k, k = g → k < N + 1 from fun k hk => HML.out k (.inl hk))
   have HR6 := Aside0.mk (R_apart HR5.out HK6.out HML.out)
   clear e2 c1 f2 f1 c2 hw6 HT5 HR5 HK6 HFT HWG HGW
   obtain ⟨⟨sc, p3, b3⟩, hC⟩ : ∃ x, texR l p2 false = x := ⟨_, rfl⟩
   refine (reader_text 20 g A c l p2 false sc p3 b3 _ HT6.out.rdAt (by rw [rdText_f l hB hlm p2 false 20 (by omega), hC])).mono ?_
   rintro e w7 ⟨rfl, hs7, hk7⟩
   have HT7 := Aside0.mk (HT6.out.after hs7 hk7)
   have HR7 := Aside0.mk (R_apart HR6.out hk7 HML1.out)
   have HC := Aside0.mk hC
   clear hs7 hk7 HT6 HR6 hC
   go_wp2_with fail
   obtain ⟨⟨si, p4, b4⟩, hI⟩ : ∃ x, texR l p3 b3 = x := ⟨_, rfl⟩
   refine (reader_text 20 g A c l p3 b3 si p4 b4 _ HT7.out.rdAt (by rw [rdText_f l hB hlm p3 b3 20 (by omega), hI])).mono ?_
   rintro e w8 ⟨rfl, hs8, hk8⟩
   have HT8 := Aside0.mk (HT7.out.after hs8 hk8)
   have HR8 := Aside0.mk (R_apart HR7.out hk8 HML1.out)
   have HI := Aside0.mk hI
   have e3 : w8.cell? ⟨N, 3, none⟩ = some (.string ⟨#[]⟩) := (blk_cell HT8.out.ob 3).trans rfl
   have e5 : w8.cell? ⟨N, 5, none⟩ = some (.string ⟨#[]⟩) := (blk_cell HT8.out.ob 5).trans rfl
   have f3 := blk_frozen HT8.out.ob 3
   have f5 := blk_frozen HT8.out.ob 5
   clear hs8 hk8 HT7 HR7 hI
   go_wp2_with fail
   obtain ⟨w9, hw9⟩ : ∃ w9, (w8.setCell ⟨N, 3, none⟩ (.string sc)).setCell ⟨N, 5, none⟩ (.string si) = w9 := ⟨_, rfl⟩
   rw [hw9]
   have HT9 := Aside0.mk (show RS w w9 G g N A c l p4 b4 #[.string d.f0, .int .i64 d.f1, .slice Av V.length cv, .string sc, .int .i64 0, .string si, .int .i64 0, .slice none 0 0] from by
    rw [← hw9]
    have h := (HT8.out.setN 3 (.string sc)).setN 5 (.string si)
    simp only [List.setIfInBounds_toArray, List.set_cons_zero, List.set_cons_succ] at h
    exact h)
   have HR9 := Aside0.mk (R_apart HR8.out (show Keeps (fun k => k = g ∨ k = N) w8 w9 from by
    rw [← hw9]
    exact Keeps.setCell (M := fun k => k = g ∨ k = N) (Keeps.setCell (M := fun k => k = g ∨ k = N) (Keeps.refl _ w8) (p := ⟨N, 3, none⟩) (.inl (.inr rfl)) _) (p := ⟨N, 5, none⟩) (.inl (.inr rfl)) _) HML.out)
   clear e3 e5 f3 f5 hw9 HT8 HR8
   obtain ⟨⟨kd, p5, b5⟩, hK⟩ : ∃ x, numR l p4 b4 = x := ⟨_, rfl⟩
   refine (reader_number 20 g A c l p4 b4 kd p5 b5 _ HT9.out.rdAt (by rw [rdNum_f l hB hlm p4 b4 20 (by omega), hK])).mono ?_
   rintro e wa ⟨rfl, hsa, hka⟩
   have HTa := Aside0.mk (HT9.out.after hsa hka)
   have HRa := Aside0.mk (R_apart HR9.out hka HML1.out)
   have HK := Aside0.mk hK
   clear hsa hka HT9 HR9 hK
   go_wp2_with fail
   obtain ⟨⟨q, p6, b6⟩, hQ⟩ : ∃ x, numR l p5 b5 = x := ⟨_, rfl⟩
   refine (reader_number 20 g A c l p5 b5 q p6 b6 _ HTa.out.rdAt (by rw [rdNum_f l hB hlm p5 b5 20 (by omega), hQ])).mono ?_
   rintro e wb ⟨rfl, hsb, hkb⟩
   have HTb := Aside0.mk (HTa.out.after hsb hkb)
   have HRb := Aside0.mk (R_apart HRa.out hkb HML1.out)
   have HQ := Aside0.mk hQ
   have e6 : wb.cell? ⟨N, 6, none⟩ = some (.int .i64 0) := (blk_cell HTb.out.ob 6).trans rfl
   have f6 := blk_frozen HTb.out.ob 6
   clear hsb hkb HTa HRa hQ
   go_wp2_with fail
   obtain ⟨wc, hwc⟩ : ∃ wc, wb.setCell ⟨N, 6, none⟩ (.int .i64 q) = wc := ⟨_, rfl⟩
   rw [hwc]
   have HTc := Aside0.mk (show RS w wc G g N A c l p6 b6 #[.string d.f0, .int .i64 d.f1, .slice Av V.length cv, .string sc, .int .i64 0, .string si, .int .i64 q, .slice none 0 0] from by
    rw [← hwc]
    have h := HTb.out.setN 6 (.int .i64 q)
    simp only [List.setIfInBounds_toArray, List.set_cons_zero, List.set_cons_succ] at h
    exact h)
   have HRc := Aside0.mk (R_apart HRb.out (show Keeps (fun k => k = g ∨ k = N) wb wc from by
    rw [← hwc]
    exact Keeps.setCell (M := fun k => k = g ∨ k = N) (Keeps.refl _ wb) (p := ⟨N, 6, none⟩) (.inl (.inr rfl)) _) HML.out)
   clear e6 f6 hwc HTb HRb
   obtain ⟨⟨m, p7, b7⟩, hM⟩ : ∃ x, numR l p6 b6 = x := ⟨_, rfl⟩
   refine (reader_number 20 g A c l p6 b6 m p7 b7 _ HTc.out.rdAt (by rw [rdNum_f l hB hlm p6 b6 20 (by omega), hM])).mono ?_
   rintro e wd ⟨rfl, hsd, hkd⟩
   have HTd := Aside0.mk (HTc.out.after hsd hkd)
   have HRd := Aside0.mk (R_apart HRc.out hkd HML1.out)
   have HM := Aside0.mk hM
   have c2 : wd.cell? ⟨g, 2, none⟩ = some (.bool b7) := (blk_cell HTd.out.rd 2).trans rfl
   clear hsd hkd HTc HRc hM
   by_cases hbad : b7 = true ∨ kd > 3 ∨ m > 128
   · have z0 : readO l = (z36, 80) := by
      unfold readO
      rw [HD.out]
      dsimp only
      rw [HV.out]
      dsimp only
      rw [if_neg HBAD.out, HC.out]
      dsimp only
      rw [HI.out]
      dsimp only
      rw [HK.out]
      dsimp only
      rw [HQ.out]
      dsimp only
      rw [HM.out]
      dsimp only
      rw [if_pos hbad]
     have Z0 := Aside0.mk z0
     have HGd := Aside0.mk HTd.out.gb
     have HBd := Aside0.mk HTd.out.bl
     have HGW := Aside0.mk HTd.out.lw
     clear z0
     obtain ⟨e0, e1, e2, e3, e4, e5, e6, e7⟩ := cells8 HGd.out
     have f0 := blk_frozen HGd.out 0
     have f1 := blk_frozen HGd.out 1
     have f2 := blk_frozen HGd.out 2
     have f3 := blk_frozen HGd.out 3
     have f4 := blk_frozen HGd.out 4
     have f5 := blk_frozen HGd.out 5
     have f6 := blk_frozen HGd.out 6
     have f7 := blk_frozen HGd.out 7
     have hcase : b7 = true ∨ (b7 = false ∧ kd > 3) ∨ (b7 = false ∧ ¬ kd > 3 ∧ m > 128) := by
      rcases hbad with h | h | h
      · exact .inl h
      · cases b7 with
        | true => exact .inl rfl
        | false => exact .inr (.inl ⟨rfl, h⟩)
      · cases b7 with
        | true => exact .inl rfl
        | false => by_cases h3 : kd > 3
                   · exact .inr (.inl ⟨rfl, h3⟩)
                   · exact .inr (.inr ⟨rfl, h3, h⟩)
     clear hbad
     rcases hcase with rfl | ⟨rfl, hk3⟩ | ⟨rfl, hk3, hm3⟩
     all_goals
      go_wp2
      have h8 := set8 HGd.out (.string ⟨#[]⟩) (.int .i64 0) (.slice none 0 0) (.string ⟨#[]⟩) (.int .i64 0) (.string ⟨#[]⟩) (.int .i64 0) (.slice none 0 0)
      obtain ⟨k0, k1, k2, k3, k4, k5, k6, k7⟩ := cells8 h8
      have hk := below_keeps HBd.out (M := fun k => k = G) (fun k hk => by subst hk; exact HGW.out) HBd.out.size (keeps8 wd G (.string ⟨#[]⟩) (.int .i64 0) (.slice none 0 0) (.string ⟨#[]⟩) (.int .i64 0) (.string ⟨#[]⟩) (.int .i64 0) (.slice none 0 0))
      try rw [hl]
      rw [Z0.out]
      try rw [hG] at hk
      try rw [hG]
      exact bodyPost_ret (v := .tuple #[.agg #[.string ⟨#[]⟩, .int .i64 0, .slice none 0 0, .string ⟨#[]⟩, .int .i64 0, .string ⟨#[]⟩, .int .i64 0, .slice none 0 0], .int .i64 80]) (by simp [results, Try.f43, go_sem, k0, k1, k2, k3, k4, k5, k6, k7]) rfl ⟨.slice none 0 0, .slice none 0 0, rfl, Kd.R_nil _ _ _ _ _, Kd.R_nil _ _ _ _ _, hk⟩
   · have q1 : b7 = false := by cases b7 with | false => rfl | true => exact absurd (Or.inl rfl) hbad
     subst q1
     have hk3 : ¬ kd > 3 := fun h => hbad (Or.inr (Or.inl h))
     have hm3 : ¬ m > 128 := fun h => hbad (Or.inr (Or.inr h))
     have hm0 : 0 ≤ m := by
      have h := numR_is hB (show (numR l p6 b6).2.2 = false by rw [HM.out])
      rw [HM.out] at h
      exact h.2.2.2.1
     have HBD := Aside0.mk hbad
     clear hbad
     obtain ⟨M, rfl⟩ : ∃ M : Nat, m = M := ⟨m.toNat, by omega⟩
     have e4 : wd.cell? ⟨N, 4, none⟩ = some (.int .i64 0) := (blk_cell HTd.out.ob 4).trans rfl
     have f4 := blk_frozen HTd.out.ob 4
     go_wp2
     obtain ⟨we, hwe⟩ : ∃ we, wd.setCell ⟨N, 4, none⟩ (.int .i64 kd) = we := ⟨_, rfl⟩
     rw [hwe]
     have HTe := Aside0.mk (show RS w we G g N A c l p7 false #[.string d.f0, .int .i64 d.f1, .slice Av V.length cv, .string sc, .int .i64 kd, .string si, .int .i64 q, .slice none 0 0] from by
      rw [← hwe]
      have h := HTd.out.setN 4 (.int .i64 kd)
      simp only [List.setIfInBounds_toArray, List.set_cons_zero, List.set_cons_succ] at h
      exact h)
     have HRe := Aside0.mk (R_apart HRd.out (show Keeps (fun k => k = g ∨ k = N) wd we from by
      rw [← hwe]
      exact Keeps.setCell (M := fun k => k = g ∨ k = N) (Keeps.refl _ wd) (p := ⟨N, 4, none⟩) (.inl (.inr rfl)) _) HML.out)
     clear e4 f4 c2 hwe HTd HRd
     go_loopw [75] (fun v75 wr => ∃ i : Nat, v75 = .int .i64 i ∧ i ≤ M ∧ Aside0 (∃ (p : Int) (b : Bool) (sn : List S34) (A7 : Option Addr) (c7 : Nat),
      RS w wr G g N A c l p b #[.string d.f0, .int .i64 d.f1, .slice Av V.length cv, .string sc, .int .i64 kd, .string si, .int .i64 q, .slice A7 i c7] ∧ sn.length = i ∧ seenR l M p7 false [] = seenR l (M - i) p b sn ∧
      Kd.R k34 34 wr (N + 1) (fun k => some k ≠ (Value.slice A7 i c7).ownBlock) (.slice Av V.length cv) V ∧ Kd.R k34 34 wr (N + 1) (fun k => some k ≠ (Value.slice Av V.length cv).ownBlock) (.slice A7 i c7) sn)) (fun v75 _ => M - (intOf v75).toNat)
     case atStart => exact ⟨0, rfl, by omega, ⟨p7, false, [], none, 0, HTe.out, rfl, rfl, Kd.R_mono HRe.out (fun k _ => by simp [Value.ownBlock]), Kd.R_nil _ _ _ _ _⟩⟩
     case round =>
      clear HTe HRe
      obtain ⟨i, rfl, hile, HI0⟩ := hrel
      obtain ⟨p, b, sn, A7, c7, ht, hsn, hse, hrv, hr7⟩ := HI0.out
      have HT := Aside0.mk ht
      have HSN := Aside0.mk hsn
      have HSE := Aside0.mk hse
      have HRV := Aside0.mk hrv
      have HR7 := Aside0.mk hr7
      clear ht hsn hse hrv hr7 HI0
      by_cases hlt : i < M
      · go_wp2
        refine start_ (n := 8) (ds := [7]) (S := fun w' => w'.cell? ⟨N, 7, none⟩ = some (.slice A7 i c7)) _ (by kernel_rfl) rfl rfl ((blk_cell (blk_drew HT.out.ob) 7).trans rfl) (fun hH => ?_)
        refine XReg.pu 0 77 (h := ?_)
        refine XReg.tk 1 78 (h := ?_)
        refine XReg.pu 2 79 (h := ?_)
        have hbd : Below wr.heap.size wr wr.drew := below_drew1 (Below.refl _ wr)
        have HTd := Aside0.mk (HT.out.below hbd)
        obtain ⟨⟨dd, pp, bb⟩, hdd⟩ : ∃ x, dotR l p b = x := ⟨_, rfl⟩
        refine XReg.one (i := 3) (some 80) rfl rfl (by kernel_rfl) (by decide) (fun Kc hKc => ?_)
        refine goes_ Try.func96 (by kernel_rfl) rfl #[.pointer (some ⟨g, 0, none⟩)] (by rfl) rfl rfl (by (try simp only [List.map_toArray, List.map_cons, List.map_nil]); first | done | rfl) ?_
        refine (reader_dot 20 g A c l p b dd.f0 dd.f1 pp bb _ HTd.out.rdAt (by rw [rdDot_f l hB hlm p b 20 (by omega), hdd])).mono ?_
        rintro e wf ⟨rfl, hsf, hkf⟩
        refine ⟨_, rfl, ?_⟩
        have HTf := Aside0.mk (HTd.out.after hsf hkf)
        have hkf' : Keeps (fun k => k = g) wr wf := (Keeps.of_below hbd).trans hkf
        have HRVf := Aside0.mk (R_apart HRV.out hkf' HML1.out)
        have HR7f := Aside0.mk (R_apart HR7.out hkf' HML1.out)
        refine hKc.out _ _ ((blk_cell HTf.out.ob 7).trans rfl) (fun hH2 => ?_)
        clear hKc Kc hH hsf hkf hkf' hbd HTd HT HRV HR7
        refine XReg.one (i := 4) (some 81) rfl rfl (by kernel_rfl) (by decide) (fun Kc hKc => ?_)
        go_simp
        refine hKc.out _ _ ((blk_cell (blk_alloc HTf.out.ob _) 7).trans rfl) (fun hH3 => ?_)
        clear hKc Kc hH2 hH3
        have hsnl := HSN.out
        have hml : M ≤ 128 := by omega
        refine XReg.one (i := 5) (some 82) rfl rfl (by kernel_rfl) (by decide) (fun Kc hKc => ?_)
        refine Kd.R_append_step k34 (w0 := wf) (N + 1) (by rfl) (.tmp 78) (.tmp 81) 23 34 _ 24 rfl Try.underlying23 info34 rfl (by decide) (by omega) _ sn dd [.string dd.f0, .int .i64 dd.f1] (fun k => some k ≠ (Value.slice Av V.length cv).ownBlock) (fun _ => False) rfl rfl (k34_mkM _ _ _ dd) (fun _ h => h.elim)
         (fun k hk e => by have := Kd.R_lt HRVf.out k e.symm; omega) HR7f.out (Below.refl _ _) (blk_lt HTf.out.ob) (by omega) (fun v1 wg hr1 _ hg1 hat1 => ?_)
        have HTg := Aside0.mk (HTf.out.grown hg1 (fun k hk => ((Kd.R_bound HR7f.out).1 k hk).2.1))
        have HRVg := Aside0.mk (show Kd.R k34 34 wg (N + 1) (fun k => some k ≠ v1.ownBlock) (.slice Av V.length cv) V from
         Kd.R_mono (Kd.R_grown (Kd.R_bound HRVf.out) hg1 (fun k hk => hk.1)) (fun k hk => by
          rcases hat1 with h | ⟨b, h, hlt⟩
          · rw [h]; exact hk.1
          · rw [h]; intro e; cases e; have := hk.2.2.1; omega))
        obtain ⟨A1, d1, rfl⟩ := Kd.R_slice hr1
        have hln : (sn ++ [dd]).length = i + 1 := by simp [hsnl]
        rw [hln] at hr1 HRVg
        have HR7g := Aside0.mk hr1
        refine hKc.out _ _ ((blk_cell HTg.out.ob 7).trans rfl) (fun hH4 => ?_)
        clear hKc Kc hr1 hg1 hat1 HTf HRVf HR7f
        have e7 : wg.cell? ⟨N, 7, none⟩ = some (.slice A7 i c7) := (blk_cell HTg.out.ob 7).trans rfl
        have f7 := blk_frozen HTg.out.ob 7
        refine XReg.pu 6 83 (h := ?_)
        refine XReg.last (i := 7) none rfl rfl (by kernel_rfl) (by decide) (fun Kc hKc => ?_)
        refine skip_ (w1 := ?_) (by rfl) rfl ?_ ?_
        rotate_left
        · go_simp
          rfl
        refine hKc.out _ _ ?_
        clear hKc Kc
        refine done_ (by kernel_rfl) ?_
        clear hH4 e7 f7
        rw [hln]
        obtain ⟨wh, hwh⟩ : ∃ wh, wg.setCell ⟨N, 7, none⟩ (.slice A1 (i + 1) d1) = wh := ⟨_, rfl⟩
        rw [hwh]
        have HTh := Aside0.mk (show RS w wh G g N A c l pp bb #[.string d.f0, .int .i64 d.f1, .slice Av V.length cv, .string sc, .int .i64 kd, .string si, .int .i64 q, .slice A1 (i + 1) d1] from by
         rw [← hwh]
         have h := HTg.out.setN 7 (.slice A1 (i + 1) d1)
         simp only [List.setIfInBounds_toArray, List.set_cons_zero, List.set_cons_succ] at h
         exact h)
        have hkh : Keeps (fun k => k = g ∨ k = N) wg wh := by
         rw [← hwh]
         exact Keeps.setCell (M := fun k => k = g ∨ k = N) (Keeps.refl _ wg) (p := ⟨N, 7, none⟩) (.inl (.inr rfl)) _
        have HRVh := Aside0.mk (R_apart HRVg.out hkh HML.out)
        have HR7h := Aside0.mk (R_apart HR7g.out hkh HML.out)
        have HSEh := Aside0.mk (show seenR l M p7 false [] = seenR l (M - (i + 1)) pp bb (sn ++ [dd]) from by
         rw [HSE.out, show M - i = (M - (i + 1)) + 1 by omega, seenR_s, hdd])
        have HLNh := Aside0.mk hln
        clear hkh hwh HTg HRVg HR7g hln hdd HSE HSN
        go_wp2
        go_round
        case rel => exact ⟨i + 1, by go_num, by omega, ⟨pp, bb, sn ++ [dd], A1, d1, HTh.out, HLNh.out, HSEh.out, HRVh.out, HR7h.out⟩⟩
        case measure => simp [intOf]; omega
      · have hiM : i = M := by omega
        have hzz : seenR l M p7 false [] = (sn, p, b) := by rw [HSE.out, hiM, Nat.sub_self]; rfl
        have zz : readO l = if (b = true ∨ p ≠ (l.length : Int) ∨ rightO ⟨d, V, sc, kd, si, q, sn⟩ = false) then (z36, 80) else (⟨d, V, sc, kd, si, q, sn⟩, 0) := by
         unfold readO
         rw [HD.out]
         dsimp only
         rw [HV.out]
         dsimp only
         rw [if_neg HBAD.out, HC.out]
         dsimp only
         rw [HI.out]
         dsimp only
         rw [HK.out]
         dsimp only
         rw [HQ.out]
         dsimp only
         rw [HM.out]
         dsimp only
         rw [if_neg HBD.out, Int.toNat_natCast, hzz]
        have ZZ := Aside0.mk zz
        have hsn := HSN.out
        clear zz hzz HSE HSN hiM
        subst hsn
        have HGd := Aside0.mk HT.out.gb
        have HBd := Aside0.mk HT.out.bl
        have HGW := Aside0.mk HT.out.lw
        have c1 : wr.cell? ⟨g, 1, none⟩ = some (.int .i64 p) := (blk_cell HT.out.rd 1).trans rfl
        have c2 : wr.cell? ⟨g, 2, none⟩ = some (.bool b) := (blk_cell HT.out.rd 2).trans rfl
        by_cases hbp : b = true ∨ (b = false ∧ p ≠ (l.length : Int))
        · have Z0 := Aside0.mk (show readO l = (z36, 80) from by
           rw [ZZ.out, if_pos (by rcases hbp with h | h; exact .inl h; exact .inr (.inl h.2))])
          obtain ⟨e0, e1, e2, e3, e4, e5, e6, e7⟩ := cells8 HGd.out
          have f0 := blk_frozen HGd.out 0
          have f1 := blk_frozen HGd.out 1
          have f2 := blk_frozen HGd.out 2
          have f3 := blk_frozen HGd.out 3
          have f4 := blk_frozen HGd.out 4
          have f5 := blk_frozen HGd.out 5
          have f6 := blk_frozen HGd.out 6
          have f7 := blk_frozen HGd.out 7
          have hcase : b = true ∨ (b = false ∧ (p != (s.size : Int)) = true ∧ (p != (l.length : Int)) = true) := by
           rcases hbp with h | ⟨h, h'⟩
           · exact .inl h
           · exact .inr ⟨h, by rw [hsl]; simpa using h', by simpa using h'⟩
          clear hbp
          rcases hcase with rfl | ⟨rfl, hps, hps'⟩
          all_goals
           go_wp2
           have h8 := set8 HGd.out (.string ⟨#[]⟩) (.int .i64 0) (.slice none 0 0) (.string ⟨#[]⟩) (.int .i64 0) (.string ⟨#[]⟩) (.int .i64 0) (.slice none 0 0)
           obtain ⟨k0, k1, k2, k3, k4, k5, k6, k7⟩ := cells8 h8
           have hk := below_keeps HBd.out (M := fun k => k = G) (fun k hk => by subst hk; exact HGW.out) HBd.out.size (keeps8 _ G (.string ⟨#[]⟩) (.int .i64 0) (.slice none 0 0) (.string ⟨#[]⟩) (.int .i64 0) (.string ⟨#[]⟩) (.int .i64 0) (.slice none 0 0))
           try rw [hl]
           rw [Z0.out]
           try rw [hG] at hk
           try rw [hG]
           exact bodyPost_ret (v := .tuple #[.agg #[.string ⟨#[]⟩, .int .i64 0, .slice none 0 0, .string ⟨#[]⟩, .int .i64 0, .string ⟨#[]⟩, .int .i64 0, .slice none 0 0], .int .i64 80]) (by simp [results, Try.f43, go_sem, k0, k1, k2, k3, k4, k5, k6, k7]) rfl ⟨.slice none 0 0, .slice none 0 0, rfl, Kd.R_nil _ _ _ _ _, Kd.R_nil _ _ _ _ _, hk⟩
        · have hb0 : b = false := by cases b with | false => rfl | true => exact absurd (Or.inl rfl) hbp
          subst hb0
          have hpl : p = (l.length : Int) := Classical.byContradiction (fun h => hbp (Or.inr ⟨rfl, h⟩))
          have hps : (p != (s.size : Int)) = false := by rw [hsl, hpl]; simp
          clear hbp
          obtain ⟨n0, n1, n2, n3, n4, n5, n6, n7⟩ := cells8 HT.out.ob
          obtain ⟨br, hbr⟩ : ∃ br, rightO ⟨d, V, sc, kd, si, q, sn⟩ = br := ⟨_, rfl⟩
          have HBR := Aside0.mk hbr
          clear hbr
          go_wp2_with fail
          refine (order_Right.calls (sn.length + V.length + 5) d.f0 d.f1 Av cv V sc kd si q A7 c7 sn br _ (Kd.R_reads' HRV.out).2.2 (Kd.R_reads' HRV.out).2.1 (Kd.R_reads' HR7.out).2.2 (Kd.R_reads' HR7.out).2.1 (by
           rw [← HBR.out]
           exact orderRight_f ⟨d, V, sc, kd, si, q, sn⟩ (Kd.R_reads' HRV.out).2.2.2.1 (Kd.R_reads' HR7.out).2.2.2.1 _ (by show sn.length + V.length + 4 < _; omega))).mono ?_
          rintro e wz ⟨rfl, hbz⟩
          have HTz := Aside0.mk (HT.out.below hbz)
          have HRVz := Aside0.mk (Kd.R_below HRV.out hbz)
          have HR7z := Aside0.mk (Kd.R_below HR7.out hbz)
          clear hbz n0 n1 n2 n3 n4 n5 n6 n7 c1 c2 HGd HBd HT HRV HR7
          obtain ⟨n0, n1, n2, n3, n4, n5, n6, n7⟩ := cells8 HTz.out.ob
          have HGd := Aside0.mk HTz.out.gb
          have HBd := Aside0.mk HTz.out.bl
          obtain ⟨e0, e1, e2, e3, e4, e5, e6, e7⟩ := cells8 HGd.out
          have f0 := blk_frozen HGd.out 0
          have f1 := blk_frozen HGd.out 1
          have f2 := blk_frozen HGd.out 2
          have f3 := blk_frozen HGd.out 3
          have f4 := blk_frozen HGd.out 4
          have f5 := blk_frozen HGd.out 5
          have f6 := blk_frozen HGd.out 6
          have f7 := blk_frozen HGd.out 7
          cases br with
          | false =>
            have Z0 := Aside0.mk (show readO l = (z36, 80) from by rw [ZZ.out, if_pos (.inr (.inr HBR.out))])
            go_wp2
            have h8 := set8 HGd.out (.string ⟨#[]⟩) (.int .i64 0) (.slice none 0 0) (.string ⟨#[]⟩) (.int .i64 0) (.string ⟨#[]⟩) (.int .i64 0) (.slice none 0 0)
            obtain ⟨k0, k1, k2, k3, k4, k5, k6, k7⟩ := cells8 h8
            have hk := below_keeps HBd.out (M := fun k => k = G) (fun k hk => by subst hk; exact HGW.out) HBd.out.size (keeps8 _ G (.string ⟨#[]⟩) (.int .i64 0) (.slice none 0 0) (.string ⟨#[]⟩) (.int .i64 0) (.string ⟨#[]⟩) (.int .i64 0) (.slice none 0 0))
            try rw [hl]
            rw [Z0.out]
            try rw [hG] at hk
            try rw [hG]
            exact bodyPost_ret (v := .tuple #[.agg #[.string ⟨#[]⟩, .int .i64 0, .slice none 0 0, .string ⟨#[]⟩, .int .i64 0, .string ⟨#[]⟩, .int .i64 0, .slice none 0 0], .int .i64 80]) (by simp [results, Try.f43, go_sem, k0, k1, k2, k3, k4, k5, k6, k7]) rfl ⟨.slice none 0 0, .slice none 0 0, rfl, Kd.R_nil _ _ _ _ _, Kd.R_nil _ _ _ _ _, hk⟩
          | true =>
            have Z0 := Aside0.mk (show readO l = (⟨d, V, sc, kd, si, q, sn⟩, 0) from by
             rw [ZZ.out, if_neg (by
              intro h
              rcases h with h | h | h
              · cases h
              · exact h hpl
              · rw [HBR.out] at h; cases h)])
            go_wp2
            have h8 := set8 HGd.out (.string d.f0) (.int .i64 d.f1) (.slice Av V.length cv) (.string sc) (.int .i64 kd) (.string si) (.int .i64 q) (.slice A7 sn.length c7)
            obtain ⟨k0, k1, k2, k3, k4, k5, k6, k7⟩ := cells8 h8
            have hkG := keeps8 wz G (.string d.f0) (.int .i64 d.f1) (.slice Av V.length cv) (.string sc) (.int .i64 kd) (.string si) (.int .i64 q) (.slice A7 sn.length c7)
            have hk := below_keeps HBd.out (M := fun k => k = G) (fun k hk => by subst hk; exact HGW.out) HBd.out.size hkG
            have hlo : ∀ k, k = G → k < N + 1 := fun k hk => by have := HGG.out; have := HNg.out; omega
            have hGN : w.heap.size ≤ N + 1 := by have := HGG.out; have := HNg.out; have := HGW.out; omega
            have rv := Kd.R_lower (Kd.R_mono (R_apart HRVz.out hkG hlo) (ok' := fun _ => True) (fun _ _ => trivial)) hGN
            have r7 := Kd.R_lower (Kd.R_mono (R_apart HR7z.out hkG hlo) (ok' := fun _ => True) (fun _ _ => trivial)) hGN
            try rw [hl]
            rw [Z0.out]
            try rw [hG] at hk rv r7
            try rw [hG]
            exact bodyPost_ret (v := .tuple #[.agg #[.string d.f0, .int .i64 d.f1, .slice Av V.length cv, .string sc, .int .i64 kd, .string si, .int .i64 q, .slice A7 sn.length c7], .int .i64 0]) (by simp [results, Try.f43, go_sem, k0, k1, k2, k3, k4, k5, k6, k7]) rfl ⟨.slice Av V.length cv, .slice A7 sn.length c7, rfl, rv, r7, hk⟩
end Go.Proofs.Ytenbkljgmgdegaa.PO
end
