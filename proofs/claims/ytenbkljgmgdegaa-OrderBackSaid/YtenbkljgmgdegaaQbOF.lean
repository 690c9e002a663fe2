/- What the rows of this claim use, out of the texts of this work (OF). No condition beyond those that each statement names. -/
import Derived.Test.YtenbkljgmgdegaaQbOE
namespace Go.Proofs.Ytenbkljgmgdegaa.PO
open Go.RowKit Go.Proofs.YtenbkljgmgdegaaW.PrintWords Go.Proofs.YtenbkljgmgdegaaW.PrintLast Go.Proofs.YtenbkljgmgdegaaW.PrintMore Go.Proofs.Ytenbkljgmgdegaa.XW
open Go.Proofs.Ytenbkljgmgdegaa.XRange Go.Proofs.Ytenbkljgmgdegaa.XMap Go.Proofs.Ytenbkljgmgdegaa.XSeq
set_option linter.unusedVariables false
set_option linter.unusedSimpArgs false
def sA : ByteArray := ⟨#[97]⟩
def sC : ByteArray := ⟨#[99]⟩
def sI : ByteArray := ⟨#[105]⟩
def x1 : S36 := ⟨⟨sA, 2⟩, [⟨sA, 1⟩], sC, 1, sI, 1, []⟩
def x2 : S36 := ⟨⟨sA, 1⟩, [], sC, 1, sI, 1, []⟩
theorem sA_ok : isNameB sA = true := by decide
theorem dA (n : Int) (h : 1 ≤ n ∧ n ≤ 5) : dotOk ⟨sA, n⟩ = true := by
  unfold dotOk
  simp only [sA_ok, Bool.true_and, Bool.and_eq_true, decide_eq_true_eq]
  omega
theorem rA (n : Int) (h : 1 ≤ n ∧ n ≤ 5) : rightS [⟨sA, n⟩] = true := by rw [rightS_one]; exact dA n h
theorem x1_ok : rightO x1 = true := by
  unfold rightO x1
  simp only [dA 2 (by omega), rA 1 (by omega), seenS, kindS, atS]
  decide
theorem x2_ok : rightO x2 = true := by
  unfold rightO x2
  simp only [dA 1 (by omega), rightS_nil, seenS, kindS, atS]
  decide
theorem w1A : withS [] sA 1 = ([⟨sA, 1⟩], 0) := by
  unfold withS
  simp [rightS_nil, dA 1 (by omega), atS, putS]
theorem w2A : withS [⟨sA, 1⟩] sA 2 = ([⟨sA, 2⟩], 0) := by
  unfold withS
  simp [rA 1 (by omega), dA 2 (by omega), atS, putS, bl_irr]
theorem leq_nil {K : List S34} (h : rightS K = true) : leqS [] K = true := (leqS_iff rightS_nil h).2 (fun n => by
  have := atS_nonneg n (rightS_le h).2
  simpa [atS] using this)
theorem put1A : putA ⟨[], [], []⟩ x1 = ((0, 0), ⟨[], [], [x1]⟩) := by
  unfold putA
  rw [if_pos x1_ok]
  have hl : leqS x1.f1 [] = false := by
    cases h : leqS x1.f1 []
    · rfl
    · have := (leqS_iff (rA 1 (by omega)) rightS_nil).1 h sA
      simp [atS, x1] at this
  simp [ofDot, atS, hl]
theorem put2A : putA ⟨[], [], [x1]⟩ x2 = ((2, 0), ⟨[x2, x1], [⟨sA, 2⟩], []⟩) := by
  unfold putA
  rw [if_pos x2_ok]
  have hd : ofDot ([] ++ [x1]) x2.f0 = none := by simp [ofDot, x1, x2]
  have hc : canS [⟨sA, 1⟩] x1 = true := by
    unfold canS withK
    have : leqS x1.f1 [⟨sA, 1⟩] = true := leqS_refl' (rA 1 (by omega))
    simp [this]
    show (withS [⟨sA, 1⟩] sA 2).2 = 0
    rw [w2A]
  have hh : handA ⟨[], [], [x1]⟩ x2 = ⟨[x2], [⟨sA, 1⟩], [x1]⟩ := by
    unfold handA withK
    show AP.mk ([] ++ [x2]) (withS [] sA 1).1 [x1] = _
    rw [w1A]; rfl
  simp only [hd, hh, leq_nil rightS_nil, show x2.f1 = [] from rfl, atS, List.length_nil, if_true, drainA, List.length_cons]
  rw [if_neg (by simp)]
  simp only [List.findIdx?_cons, hc, if_true]
  unfold handA takeA withK
  show ((((1 + 1 : Nat) : Int), (0 : Int)), AP.mk ([x2] ++ [x1]) (withS [⟨sA, 1⟩] sA 2).1 []) = _
  rw [w2A]
  rfl
theorem lit34 (w : World) (x : S34) : Kd.C k34 (w.alloc (.cells #[.string x.f0, .int .i64 x.f1] 34)) (some ⟨w.heap.size, 0, none⟩) 1 [x] :=
  ⟨rfl, by decide, fun _ => ⟨_, rfl, fun j p hj => by
    cases j with
    | zero =>
      simp only [List.getElem?_cons_zero, Option.some.injEq] at hj
      subst hj
      refine ⟨[.string x.f0, .int .i64 x.f1], rfl, k34_mk _ _, fun i u hu => ?_⟩
      have h0 := (blk_cell (World.alloc_heap_new w (.cells #[.string x.f0, .int .i64 x.f1] 34)) i).trans (by simpa using hu)
      rw [show (0 * k34.sz + i) = i from by omega, addr0]
      exact h0
    | succ j => simp at hj⟩⟩
theorem made_calls (a : ByteArray) (n : Int) (A : Option Addr) (l c : Nat) (w : World) : Calls Try.prog 49 #[.string a, .int .i64 n, .slice A l c] w fun e w' => e = .returned (.agg #[.string a, .int .i64 n, .slice A l c, .string sC, .int .i64 1, .string sI, .int .i64 1, .slice none 0 0]) ∧ Below w.heap.size w w' := by
  go_enter Try.func49, Try.ntmps49
  go_wp2
  exact bodyPost_ret (v := .agg #[.string a, .int .i64 n, .slice A l c, .string sC, .int .i64 1, .string sI, .int .i64 1, .slice none 0 0]) (by simp [results, Try.f49, go_sem, sC, sI]) rfl ⟨rfl, (Below.refl _ _).alloc (Nat.le_refl _) _⟩
set_option maxHeartbeats 8000000 in
set_option maxRecDepth 100000 in
theorem shown_calls (w : World) : Calls Try.prog 15 #[] w fun e w' => e = .returned (.bool true) ∧ Below w.heap.size w w' := by
  go_enter Try.func15, Try.ntmps15
  go_wp2_with fail
  refine (poolNew _).mono ?_
  rintro e w1 ⟨rfl, hp1, hb1⟩
  have HP1 := Aside0.mk hp1
  have HB1 := Aside0.mk hb1
  clear hp1 hb1
  go_wp2_with fail
  refine (made_calls _ _ _ _ _ _).mono ?_
  rintro e w2 ⟨rfl, hb2⟩
  have hb12 : Below w1.heap.size w1 w2 := ((Below.refl _ w1).alloc (Nat.le_refl _) _).trans (hb2.mono (by simp))
  have HC2 := Aside0.mk (Kd.C_below (lit34 w1 ⟨sA, 1⟩) hb2)
  have HP2 := Aside0.mk (HP1.out.below hb12)
  have HB2 := Aside0.mk (show Below w.heap.size w w2 from HB1.out.trans (hb12.mono HB1.out.size))
  clear hb2 hb12
  go_wp2_with fail
  have h1 := poolPut _ _ _ x1 (some ⟨w1.heap.size, 0, none⟩) none 1 0 w2 HP2.out (by simp) HC2.out (by decide) (Kd.C_nil _ _) (by decide)
  refine h1.mono ?_
  rintro e w3 ⟨S3, rfl, hp3, hs3, hk3⟩
  rw [put1A] at hp3
  simp only [put1A]
  have HP3 := Aside0.mk hp3
  have HB3 := Aside0.mk (show Below w.heap.size w w3 from below_keeps HB2.out (fun k hk => by omega) HB2.out.size hk3)
  have HS3 := Aside0.mk (show ∀ k, S3 k → w.heap.size ≤ k from fun k hk => by rcases hs3 k hk with h | h; omega; exact Nat.le_trans HB2.out.size h)
  clear h1 hp3 hs3 hk3
  go_wp2_with fail
  refine (made_calls _ _ _ _ _ _).mono ?_
  rintro e w4 ⟨rfl, hb4⟩
  have HP4 := Aside0.mk (HP3.out.below hb4)
  have HB4 := Aside0.mk (show Below w.heap.size w w4 from HB3.out.trans (hb4.mono HB3.out.size))
  clear hb4
  go_wp2_with fail
  have h1 := poolPut _ _ _ x2 none none 0 0 w4 HP4.out (by simp) (Kd.C_nil _ _) (by decide) (Kd.C_nil _ _) (by decide)
  refine h1.mono ?_
  rintro e w5 ⟨S5, rfl, hp5, hs5, hk5⟩
  rw [put2A] at hp5
  simp only [put2A]
  have HP5 := Aside0.mk hp5
  have HB5 := Aside0.mk (show Below w.heap.size w w5 from below_keeps HB4.out (fun k hk => HS3.out k hk) HB4.out.size hk5)
  clear h1 hp5 hs5 hk5
  go_wp2_with fail
  refine (poolKnown _ _ _ _ HP5.out).mono ?_
  rintro e w6 ⟨v, rfl, hr6, hb6⟩
  obtain ⟨g6, c6, rfl, hge, hlt, _⟩ := Kd.R_form hr6 (by decide)
  obtain ⟨cs, hcs, hM, hcell, hfr⟩ := Kd.R_elem hr6 z34 0 (by decide) (by decide)
  have e6 : w6.cell? ⟨g6, 1, none⟩ = some (.int .i64 2) := hcell 1 (.int .i64 2) (by rw [k34_openM hM]; rfl)
  have HB6 := Aside0.mk (show Below w.heap.size w w6 from HB5.out.trans (hb6.mono HB5.out.size))
  clear hr6 hb6 hcell hM hfr
  go_wp2
  go_ret
  exact ⟨rfl, HB6.out⟩
end Go.Proofs.Ytenbkljgmgdegaa.PO
