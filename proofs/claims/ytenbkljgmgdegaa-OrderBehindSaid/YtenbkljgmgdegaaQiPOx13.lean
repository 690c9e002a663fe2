/- What the rows of this claim use, out of the texts of this work (POx13). No condition beyond those that each statement names. -/
import Derived.Test.YtenbkljgmgdegaaQiPOx0
import Derived.Test.YtenbkljgmgdegaaQiPOx9
import Derived.Test.YtenbkljgmgdegaaQiPOx10
namespace Go.Proofs.Ytenbkljgmgdegaa.PO
open Go.RowKit Go.Proofs.YtenbkljgmgdegaaW.PrintWords Go.Proofs.YtenbkljgmgdegaaW.PrintLast Go.Proofs.YtenbkljgmgdegaaW.PrintMore
attribute [local go_sem] max2_int min2_int max_two min_two max_three min_three max_four min_four   -- for this text's walks alone
set_option linter.unusedVariables false
set_option linter.unusedSimpArgs false
mutual
def pannierref07_put.l0 : Nat → List (S34) → ByteArray → Int → List (S34) → Bool → Int → Option ((List (S34)))
  | 0, _, _, _, _, _, _ => none
  | k + 1, x0, x1, x2, x7, x8, x9 => if x9 < (x0.length : Int) then (if x8 = true then (pannierref07_put.j1 k x0 x1 x2 x7 x8 x9 false) else (if 0 ≤ x9 then (pannierref07_put.j1 k x0 x1 x2 x7 x8 x9 (!(Op.bytesLess (((rd_T34 x0 x9).f0).toList) x1.toList))) else (none))) else (if x8 = true then (some x7) else (if x7.length < 5864062014805 then (some (x7 ++ [(⟨x1, x2⟩ : S34)])) else (none)))
def pannierref07_put.j1 : Nat → List (S34) → ByteArray → Int → List (S34) → Bool → Int → Bool → Option ((List (S34)))
  | 0, _, _, _, _, _, _, _ => none
  | k + 1, x0, x1, x2, x7, x8, x9, x28 => if x28 = true then (if x7.length < 5864062014805 then ((some (x7 ++ [(⟨x1, x2⟩ : S34)] : List (S34))).bind fun y197 => (if 0 ≤ x9 then (if x9 < (x0.length : Int) then (if ((rd_T34 x0 x9).f0).toList = x1.toList then (pannierref07_put.l0 k x0 x1 x2 y197 true (wrap64 (x9 + 1))) else (if y197.length < 5864062014805 then (pannierref07_put.l0 k x0 x1 x2 (y197 ++ [(⟨(rd_T34 x0 x9).f0, (rd_T34 x0 x9).f1⟩ : S34)]) true (wrap64 (x9 + 1))) else (none))) else (none)) else (none))) else (none)) else (if 0 ≤ x9 then (if x9 < (x0.length : Int) then (if ((rd_T34 x0 x9).f0).toList = x1.toList then (pannierref07_put.l0 k x0 x1 x2 x7 x8 (wrap64 (x9 + 1))) else (if x7.length < 5864062014805 then (pannierref07_put.l0 k x0 x1 x2 (x7 ++ [(⟨(rd_T34 x0 x9).f0, (rd_T34 x0 x9).f1⟩ : S34)]) x8 (wrap64 (x9 + 1))) else (none))) else (none)) else (none))
end
def pannierref07_put.f (k : Nat) (l0 : List (S34)) (a1 : ByteArray) (a2 : Int) : Option ((List (S34))) := pannierref07_put.l0 k l0 a1 a2 ([] : List (S34)) (a2 == 0) 0
set_option maxHeartbeats 8000000 in
set_option maxRecDepth 100000 in
theorem pannierref07_put.calls (k : Nat) (A0 : Option Addr) (c0 : Nat) (l0 : List (S34)) (a1 : ByteArray) (a2 : Int) (r : List (S34)) (w : World) (hr0 : Kd.C k34 w A0 l0.length l0) (hc0 : l0.length ≤ c0) (h : pannierref07_put.f k l0 a1 a2 = some r) :
    Calls Try.prog 65 #[.slice A0 l0.length c0, .string a1, .int .i64 a2] w fun e w' => ∃ v0_ : Value, e = .returned (v0_) ∧ Kd.R k34 34 w' w.heap.size (fun _ => True) v0_ r ∧ Below w.heap.size w w' := by
 have hu34 := Try.underlying34
 have HR0 := Aside0.mk hr0
 have HC0 := Aside0.mk hc0
 clear hr0 hc0
 have HB := Aside0.mk (Below.refl w.heap.size w)
 have H : (pannierref07_put.l0 k l0 a1 a2 ([] : List (S34)) (a2 == 0) 0) = some r := h
 clear h
 have H' := Aside0.mk H
 clear H
 go_enter Try.func65, Try.ntmps65
 go_wp2
 go_loopg [7, 8, 9] k (fun kq v7 v8 v9 w' => ∃ (x7_1 : List (S34)) (x8_1 : Bool) (x9_1 : Int), v8 = .bool x8_1 ∧ v9 = .int .i64 x9_1 ∧ Aside0 (pannierref07_put.l0 kq l0 a1 a2 x7_1 x8_1 x9_1 = some r) ∧ Aside0 (kq ≤ k) ∧ Aside0 (Kd.R k34 34 w' w.heap.size (fun _ => True) v7 x7_1) ∧ Aside0 (Below w.heap.size w w'))
 case atStart => exact ⟨(([] : List (S34))), ((a2 == 0)), (0), (by first | rfl | (simp; done) | (simp [*]; done)), (by first | rfl | (simp; done) | (simp [*]; done)), H', ⟨Nat.le_refl _⟩, ⟨by first | exact Kd.R_nil _ _ _ _ _ | exact Kd.N_nil _ _ _ _ _ | exact Kd.V_nil _ _ _ _ _ | exact Kd.Q_nil _ _ _ _ _ | exact Kd.S_nil _ _ _ _ _⟩, ⟨by repeat (first | (with_reducible first | exact HB.out | apply below_alloc | apply pw_below_drewN | apply below_drew1) | exact HB.out)⟩⟩
 case round =>
  clear H'
  try clear p2
  obtain ⟨x7_1, x8_1, x9_1, rfl, rfl, HA, HK1, HO_7, HB⟩ := hrel
  cases gk with
  | zero => exact absurd HA.out (by simp [pannierref07_put.l0])
  | succ k1 =>
   have H := HA.out
   clear HA
   simp only [pannierref07_put.l0] at H
   by_cases c4 : x9_1 < (l0.length : Int)
   · rw [if_pos c4] at H
     have c4b0 : decide (x9_1 < (l0.length : Int)) = true := decide_eq_true c4
     clear c4
     have HC5 := Aside0.mk H
     clear H
     go_upto_region 6 with (fail)
     go_cut [28] (fun v28 wc => ∃ (kq : Nat) (x28_4 : Bool), v28 = .bool x28_4 ∧ Aside0 (pannierref07_put.j1 kq l0 a1 a2 x7_1 x8_1 x9_1 x28_4 = some r) ∧ Aside0 (kq ≤ k1) ∧ Aside0 (Kd.R k34 34 wc w.heap.size (fun _ => True) u7 x7_1) ∧ Aside0 (Below w.heap.size w wc))
     case first =>
      have H := HC5.out
      clear HC5
      by_cases c6 : x8_1 = true
      · subst c6
        have H1 : (pannierref07_put.j1 k1 l0 a1 a2 x7_1 true x9_1 false) = some r := by rw [if_pos rfl] at H; exact H
        clear H
        have H := H1
        clear H1
        have H' := Aside0.mk H
        clear H
        go_wp2
        go_meet
        case rel => exact ⟨_, (false), (by first | rfl | (simp; done) | (simp [*]; done)), H', ⟨by have := HK1.out; first | omega | exact Nat.le_refl _⟩, ⟨by (with_reducible repeat (first | apply Kd.R_alloc | apply Kd.R_drewN | apply Kd.R_drew)); exact HO_7.out⟩, ⟨by repeat (first | (with_reducible first | exact HB.out | apply below_alloc | apply pw_below_drewN | apply below_drew1) | exact HB.out)⟩⟩
      · replace c6 := Bool.eq_false_iff.mpr c6
        subst c6
        have H1 : (if 0 ≤ x9_1 then (pannierref07_put.j1 k1 l0 a1 a2 x7_1 false x9_1 (!(Op.bytesLess (((rd_T34 l0 x9_1).f0).toList) a1.toList))) else (none)) = some r := by rw [if_neg (show ¬ (false = true) by decide)] at H; exact H
        clear H
        have H := H1
        clear H1
        by_cases c7 : 0 ≤ x9_1
        · rw [if_pos c7] at H
          have c7b0 : decide (0 ≤ x9_1) = true := decide_eq_true c7
          clear c7
          (first | rw [c7b0] | (simp only [i64_w, i32_w]; rw [c7b0]) | skip)
          have H' := Aside0.mk H
          clear H
          have p196 : 0 ≤ (x9_1 : Int) := of_decide_eq_true (by first | (with_reducible assumption) | assumption)
          have q196 : x9_1 < (l0.length : Int) := of_decide_eq_true (by first | (with_reducible assumption) | assumption)
          obtain ⟨ad196, e196, hx196_0, hx196_1⟩ := at_T34 HR0.out x9_1 p196 q196
          cases e196
          replace hx196_0 := (HB.out.cell (World.block_lt_of_cell? w _ hx196_0)).trans hx196_0
          replace hx196_1 := (HB.out.cell (World.block_lt_of_cell? w _ hx196_1)).trans hx196_1
          replace p196 := eq_true p196
          replace q196 := eq_true q196
          go_wp2
          go_meet
          case rel => exact ⟨_, (!(Op.bytesLess (((rd_T34 l0 x9_1).f0).toList) a1.toList)), (by first | rfl | (simp; done) | (simp [*]; done)), H', ⟨by have := HK1.out; first | omega | exact Nat.le_refl _⟩, ⟨by (with_reducible repeat (first | apply Kd.R_alloc | apply Kd.R_drewN | apply Kd.R_drew)); exact HO_7.out⟩, ⟨by repeat (first | (with_reducible first | exact HB.out | apply below_alloc | apply pw_below_drewN | apply below_drew1) | exact HB.out)⟩⟩
        · rw [if_neg c7] at H
          exact absurd H (by simp)
     case rest =>
      clear HC5
      try clear p1
      try clear q1
      try clear hx1
      try clear p2
      try clear c4
      try clear c4b0
      try clear c6
      try clear c7
      try clear c7b0
      try clear hx196_0
      try clear hx196_1
      try clear p196
      try clear p2
      try clear q196
      obtain ⟨kq, x28_4, rfl, HA, HJ4, HO_7, HB⟩ := hcut
      cases kq with
      | zero => exact absurd HA.out (by simp [pannierref07_put.j1])
      | succ kj4 =>
       have H := HA.out
       clear HA
       simp only [pannierref07_put.j1] at H
       by_cases c8 : x28_4 = true
       · subst c8
         have H1 : (if x7_1.length < 5864062014805 then ((some (x7_1 ++ [(⟨a1, a2⟩ : S34)] : List (S34))).bind fun y197 => (if 0 ≤ x9_1 then (if x9_1 < (l0.length : Int) then (if ((rd_T34 l0 x9_1).f0).toList = a1.toList then (pannierref07_put.l0 kj4 l0 a1 a2 y197 true (wrap64 (x9_1 + 1))) else (if y197.length < 5864062014805 then (pannierref07_put.l0 kj4 l0 a1 a2 (y197 ++ [(⟨(rd_T34 l0 x9_1).f0, (rd_T34 l0 x9_1).f1⟩ : S34)]) true (wrap64 (x9_1 + 1))) else (none))) else (none)) else (none))) else (none)) = some r := by rw [if_pos rfl] at H; exact H
         clear H
         have H := H1
         clear H1
         by_cases c9 : x7_1.length < 5864062014805
         · rw [if_pos c9] at H
           have LMc9 := Aside0.mk c9
           clear c9
           obtain ⟨y197, hy197⟩ : ∃ y_ : List (S34), y_ = (x7_1 ++ [(⟨a1, a2⟩ : S34)]) := ⟨_, rfl⟩
           replace H : (if 0 ≤ x9_1 then (if x9_1 < (l0.length : Int) then (if ((rd_T34 l0 x9_1).f0).toList = a1.toList then (pannierref07_put.l0 kj4 l0 a1 a2 y197 true (wrap64 (x9_1 + 1))) else (if y197.length < 5864062014805 then (pannierref07_put.l0 kj4 l0 a1 a2 (y197 ++ [(⟨(rd_T34 l0 x9_1).f0, (rd_T34 l0 x9_1).f1⟩ : S34)]) true (wrap64 (x9_1 + 1))) else (none))) else (none)) else (none)) = some r := by first | (rw [hy197]; with_reducible exact H) | (have H2_ := (Option.bind_some _ _).symm.trans H; rw [hy197]; with_reducible exact H2_) | (have H2_ := (Option.bind_some _ _).symm.trans H; with_reducible exact H2_) | with_reducible exact H | (rw [hy197]; exact H) | exact H
           have Ny197 := Aside0.mk hy197
           clear hy197
           by_cases c10 : 0 ≤ x9_1
           · rw [if_pos c10] at H
             have c10b0 : decide (0 ≤ x9_1) = true := decide_eq_true c10
             clear c10
             by_cases c11 : x9_1 < (l0.length : Int)
             · rw [if_pos c11] at H
               have c11b0 : decide (x9_1 < (l0.length : Int)) = true := decide_eq_true c11
               clear c11
               by_cases c12 : ((rd_T34 l0 x9_1).f0).toList = a1.toList
               · rw [if_pos c12] at H
                 have c12b0 : (((rd_T34 l0 x9_1).f0).toList == a1.toList) = true := beq_iff_eq.mpr c12
                 have c12b1 : (((rd_T34 l0 x9_1).f0).toList != a1.toList) = false := bne_eq_false_iff_eq.mpr c12
                 clear c12
                 have H' := Aside0.mk H
                 clear H
                 go_wp2_with (first | ((with_reducible refine gate_builtin (b := .append) (xs := #[.tmp 29, .tmp 33]) rfl ?_); at_builtin; refine Kd.R_append k34 (w0 := w) w.heap.size rfl (.tmp 29) (.tmp 33) 23 34 (.agg #[(.string ⟨#[]⟩), (.int .i64 0)]) 24 rfl Try.underlying23 info34 rfl (by decide) (by omega) u7 x7_1 (⟨a1, a2⟩ : S34) [.string a1, .int .i64 a2] (fun _ => True) (fun _ => False) rfl rfl ?aP (fun _ hk => hk.elim) ?aF ?aO ?aB ?aS ?aL ?_; (case aP => exact k34_mkM _ _ _ (⟨a1, a2⟩ : S34)); (case aB => exact (by repeat (first | (with_reducible first | exact HB.out | apply below_alloc | apply pw_below_drewN | apply below_drew1) | exact HB.out))); (case aF => exact (fun _ _ => trivial)); (case aO => exact (by (with_reducible repeat (first | apply Kd.R_alloc | apply Kd.R_drewN | apply Kd.R_drew)); exact HO_7.out)); (case aS => exact (below_size (by repeat (first | (with_reducible first | exact HB.out | apply below_alloc | apply pw_below_drewN | apply below_drew1) | exact HB.out)))); (case aL => have := LMc9.out; omega); intro v198 w13 ho hb hg hat; rw [← Ny197.out] at ho; have n0_ := Aside0.mk (hb); have n1_ := Aside0.mk (ho); clear HB; clear HO_7; have HB := n0_; have HO199 := n1_; clear n0_ n1_; clear ho hb hg hat; have p200 : 0 ≤ (x9_1 : Int) := of_decide_eq_true (by first | (with_reducible assumption) | assumption); have q200 : x9_1 < (l0.length : Int) := of_decide_eq_true (by first | (with_reducible assumption) | assumption); obtain ⟨ad200, e200, hx200_0, hx200_1⟩ := at_T34 HR0.out x9_1 p200 q200; cases e200; replace hx200_0 := (HB.out.cell (World.block_lt_of_cell? w _ hx200_0)).trans hx200_0; replace hx200_1 := (HB.out.cell (World.block_lt_of_cell? w _ hx200_1)).trans hx200_1; replace p200 := eq_true p200; replace q200 := eq_true q200))
                 go_roundg kj4
                 case measure => have := HK1.out; have := HJ4.out; omega
                 case rel => exact ⟨(y197), (true), (wrap64 (x9_1 + 1)), (by first | rfl | (simp; done) | (simp [*]; done)), (by first | rfl | (simp; done) | (simp [*]; done)), H', ⟨by have := HK1.out; have := HJ4.out; omega⟩, ⟨by (with_reducible repeat (first | apply Kd.R_alloc | apply Kd.R_drewN | apply Kd.R_drew)); exact HO199.out⟩, ⟨by repeat (first | (with_reducible first | exact HB.out | apply below_alloc | apply pw_below_drewN | apply below_drew1) | exact HB.out)⟩⟩
               · rw [if_neg c12] at H
                 have c12b0 : (((rd_T34 l0 x9_1).f0).toList == a1.toList) = false := beq_eq_false_iff_ne.mpr c12
                 have c12b1 : (((rd_T34 l0 x9_1).f0).toList != a1.toList) = true := bne_iff_ne.mpr c12
                 by_cases c14 : y197.length < 5864062014805
                 · rw [if_pos c14] at H
                   have LMc14 := Aside0.mk c14
                   clear c14
                   obtain ⟨y202, hy202⟩ : ∃ y_ : List (S34), y_ = (y197 ++ [(⟨(rd_T34 l0 x9_1).f0, (rd_T34 l0 x9_1).f1⟩ : S34)]) := ⟨_, rfl⟩
                   replace H : (pannierref07_put.l0 kj4 l0 a1 a2 y202 true (wrap64 (x9_1 + 1))) = some r := by first | (rw [hy202]; with_reducible exact H) | (have H2_ := (Option.bind_some _ _).symm.trans H; rw [hy202]; with_reducible exact H2_) | (have H2_ := (Option.bind_some _ _).symm.trans H; with_reducible exact H2_) | with_reducible exact H | (rw [hy202]; exact H) | exact H
                   have Ny202 := Aside0.mk hy202
                   clear hy202
                   have H' := Aside0.mk H
                   clear H
                   go_wp2_with (first | ((with_reducible refine gate_builtin (b := .append) (xs := #[.tmp 29, .tmp 33]) rfl ?_); at_builtin; refine Kd.R_append k34 (w0 := w) w.heap.size rfl (.tmp 29) (.tmp 33) 23 34 (.agg #[(.string ⟨#[]⟩), (.int .i64 0)]) 24 rfl Try.underlying23 info34 rfl (by decide) (by omega) u7 x7_1 (⟨a1, a2⟩ : S34) [.string a1, .int .i64 a2] (fun _ => True) (fun _ => False) rfl rfl ?aP (fun _ hk => hk.elim) ?aF ?aO ?aB ?aS ?aL ?_; (case aP => exact k34_mkM _ _ _ (⟨a1, a2⟩ : S34)); (case aB => exact (by repeat (first | (with_reducible first | exact HB.out | apply below_alloc | apply pw_below_drewN | apply below_drew1) | exact HB.out))); (case aF => exact (fun _ _ => trivial)); (case aO => exact (by (with_reducible repeat (first | apply Kd.R_alloc | apply Kd.R_drewN | apply Kd.R_drew)); exact HO_7.out)); (case aS => exact (below_size (by repeat (first | (with_reducible first | exact HB.out | apply below_alloc | apply pw_below_drewN | apply below_drew1) | exact HB.out)))); (case aL => have := LMc9.out; omega); intro v198 w15 ho hb hg hat; rw [← Ny197.out] at ho; have n0_ := Aside0.mk (hb); have n1_ := Aside0.mk (ho); clear HB; clear HO_7; have HB := n0_; have HO199 := n1_; clear n0_ n1_; clear ho hb hg hat; have p200 : 0 ≤ (x9_1 : Int) := of_decide_eq_true (by first | (with_reducible assumption) | assumption); have q200 : x9_1 < (l0.length : Int) := of_decide_eq_true (by first | (with_reducible assumption) | assumption); obtain ⟨ad200, e200, hx200_0, hx200_1⟩ := at_T34 HR0.out x9_1 p200 q200; cases e200; replace hx200_0 := (HB.out.cell (World.block_lt_of_cell? w _ hx200_0)).trans hx200_0; replace hx200_1 := (HB.out.cell (World.block_lt_of_cell? w _ hx200_1)).trans hx200_1; replace p200 := eq_true p200; replace q200 := eq_true q200; have p201 : 0 ≤ (x9_1 : Int) := of_decide_eq_true (by first | (with_reducible assumption) | assumption); have q201 : x9_1 < (l0.length : Int) := of_decide_eq_true (by first | (with_reducible assumption) | assumption); obtain ⟨ad201, e201, hx201_0, hx201_1⟩ := at_T34 HR0.out x9_1 p201 q201; obtain rfl : ad200 = ad201 := (by injection e201); replace hx201_0 := (HB.out.cell (World.block_lt_of_cell? w _ hx201_0)).trans hx201_0; replace hx201_1 := (HB.out.cell (World.block_lt_of_cell? w _ hx201_1)).trans hx201_1; replace p201 := eq_true p201; replace q201 := eq_true q201) | ((with_reducible refine gate_builtin (b := .append) (xs := #[.tmp 42, .tmp 47]) rfl ?_); at_builtin; refine Kd.R_append k34 (w0 := w) w.heap.size rfl (.tmp 42) (.tmp 47) 23 34 (.agg #[(.string ⟨#[]⟩), (.int .i64 0)]) 24 rfl Try.underlying23 info34 rfl (by decide) (by omega) v198 y197 (⟨(rd_T34 l0 x9_1).f0, (rd_T34 l0 x9_1).f1⟩ : S34) [.string ((rd_T34 l0 x9_1).f0), .int .i64 ((rd_T34 l0 x9_1).f1)] (fun _ => True) (fun _ => False) rfl rfl ?aP (fun _ hk => hk.elim) ?aF ?aO ?aB ?aS ?aL ?_; (case aP => exact k34_mkM _ _ _ (⟨(rd_T34 l0 x9_1).f0, (rd_T34 l0 x9_1).f1⟩ : S34)); (case aB => exact (by repeat (first | (with_reducible first | exact HB.out | apply below_alloc | apply pw_below_drewN | apply below_drew1) | exact HB.out))); (case aF => exact (fun _ _ => trivial)); (case aO => exact (by (with_reducible repeat (first | apply Kd.R_alloc | apply Kd.R_drewN | apply Kd.R_drew)); exact HO199.out)); (case aS => exact (below_size (by repeat (first | (with_reducible first | exact HB.out | apply below_alloc | apply pw_below_drewN | apply below_drew1) | exact HB.out)))); (case aL => have := LMc14.out; omega); intro v203 w16 ho hb hg hat; rw [← Ny202.out] at ho; have n0_ := Aside0.mk (hb); have n1_ := Aside0.mk (ho); clear HB; clear HO199; have HB := n0_; have HO204 := n1_; clear n0_ n1_; clear ho hb hg hat))
                   go_roundg kj4
                   case measure => have := HK1.out; have := HJ4.out; omega
                   case rel => exact ⟨(y202), (true), (wrap64 (x9_1 + 1)), (by first | rfl | (simp; done) | (simp [*]; done)), (by first | rfl | (simp; done) | (simp [*]; done)), H', ⟨by have := HK1.out; have := HJ4.out; omega⟩, ⟨by (with_reducible repeat (first | apply Kd.R_alloc | apply Kd.R_drewN | apply Kd.R_drew)); exact HO204.out⟩, ⟨by repeat (first | (with_reducible first | exact HB.out | apply below_alloc | apply pw_below_drewN | apply below_drew1) | exact HB.out)⟩⟩
                 · rw [if_neg c14] at H
                   exact absurd H (by simp)
             · rw [if_neg c11] at H
               exact absurd H (by simp)
           · rw [if_neg c10] at H
             exact absurd H (by simp)
         · rw [if_neg c9] at H
           exact absurd H (by simp)
       · replace c8 := Bool.eq_false_iff.mpr c8
         subst c8
         have H1 : (if 0 ≤ x9_1 then (if x9_1 < (l0.length : Int) then (if ((rd_T34 l0 x9_1).f0).toList = a1.toList then (pannierref07_put.l0 kj4 l0 a1 a2 x7_1 x8_1 (wrap64 (x9_1 + 1))) else (if x7_1.length < 5864062014805 then (pannierref07_put.l0 kj4 l0 a1 a2 (x7_1 ++ [(⟨(rd_T34 l0 x9_1).f0, (rd_T34 l0 x9_1).f1⟩ : S34)]) x8_1 (wrap64 (x9_1 + 1))) else (none))) else (none)) else (none)) = some r := by rw [if_neg (show ¬ (false = true) by decide)] at H; exact H
         clear H
         have H := H1
         clear H1
         by_cases c17 : 0 ≤ x9_1
         · rw [if_pos c17] at H
           have c17b0 : decide (0 ≤ x9_1) = true := decide_eq_true c17
           clear c17
           by_cases c18 : x9_1 < (l0.length : Int)
           · rw [if_pos c18] at H
             have c18b0 : decide (x9_1 < (l0.length : Int)) = true := decide_eq_true c18
             clear c18
             by_cases c19 : ((rd_T34 l0 x9_1).f0).toList = a1.toList
             · rw [if_pos c19] at H
               have c19b0 : (((rd_T34 l0 x9_1).f0).toList == a1.toList) = true := beq_iff_eq.mpr c19
               have c19b1 : (((rd_T34 l0 x9_1).f0).toList != a1.toList) = false := bne_eq_false_iff_eq.mpr c19
               clear c19
               have H' := Aside0.mk H
               clear H
               have p205 : 0 ≤ (x9_1 : Int) := of_decide_eq_true (by first | (with_reducible assumption) | assumption)
               have q205 : x9_1 < (l0.length : Int) := of_decide_eq_true (by first | (with_reducible assumption) | assumption)
               obtain ⟨ad205, e205, hx205_0, hx205_1⟩ := at_T34 HR0.out x9_1 p205 q205
               cases e205
               replace hx205_0 := (HB.out.cell (World.block_lt_of_cell? w _ hx205_0)).trans hx205_0
               replace hx205_1 := (HB.out.cell (World.block_lt_of_cell? w _ hx205_1)).trans hx205_1
               replace p205 := eq_true p205
               replace q205 := eq_true q205
               go_wp2
               go_roundg kj4
               case measure => have := HK1.out; have := HJ4.out; omega
               case rel => exact ⟨(x7_1), (x8_1), (wrap64 (x9_1 + 1)), (by first | rfl | (simp; done) | (simp [*]; done)), (by first | rfl | (simp; done) | (simp [*]; done)), H', ⟨by have := HK1.out; have := HJ4.out; omega⟩, ⟨by (with_reducible repeat (first | apply Kd.R_alloc | apply Kd.R_drewN | apply Kd.R_drew)); exact HO_7.out⟩, ⟨by repeat (first | (with_reducible first | exact HB.out | apply below_alloc | apply pw_below_drewN | apply below_drew1) | exact HB.out)⟩⟩
             · rw [if_neg c19] at H
               have c19b0 : (((rd_T34 l0 x9_1).f0).toList == a1.toList) = false := beq_eq_false_iff_ne.mpr c19
               have c19b1 : (((rd_T34 l0 x9_1).f0).toList != a1.toList) = true := bne_iff_ne.mpr c19
               by_cases c20 : x7_1.length < 5864062014805
               · rw [if_pos c20] at H
                 have LMc20 := Aside0.mk c20
                 clear c20
                 obtain ⟨y207, hy207⟩ : ∃ y_ : List (S34), y_ = (x7_1 ++ [(⟨(rd_T34 l0 x9_1).f0, (rd_T34 l0 x9_1).f1⟩ : S34)]) := ⟨_, rfl⟩
                 replace H : (pannierref07_put.l0 kj4 l0 a1 a2 y207 x8_1 (wrap64 (x9_1 + 1))) = some r := by first | (rw [hy207]; with_reducible exact H) | (have H2_ := (Option.bind_some _ _).symm.trans H; rw [hy207]; with_reducible exact H2_) | (have H2_ := (Option.bind_some _ _).symm.trans H; with_reducible exact H2_) | with_reducible exact H | (rw [hy207]; exact H) | exact H
                 have Ny207 := Aside0.mk hy207
                 clear hy207
                 have H' := Aside0.mk H
                 clear H
                 have p205 : 0 ≤ (x9_1 : Int) := of_decide_eq_true (by first | (with_reducible assumption) | assumption)
                 have q205 : x9_1 < (l0.length : Int) := of_decide_eq_true (by first | (with_reducible assumption) | assumption)
                 obtain ⟨ad205, e205, hx205_0, hx205_1⟩ := at_T34 HR0.out x9_1 p205 q205
                 cases e205
                 replace hx205_0 := (HB.out.cell (World.block_lt_of_cell? w _ hx205_0)).trans hx205_0
                 replace hx205_1 := (HB.out.cell (World.block_lt_of_cell? w _ hx205_1)).trans hx205_1
                 replace p205 := eq_true p205
                 replace q205 := eq_true q205
                 have p206 : 0 ≤ (x9_1 : Int) := of_decide_eq_true (by first | (with_reducible assumption) | assumption)
                 have q206 : x9_1 < (l0.length : Int) := of_decide_eq_true (by first | (with_reducible assumption) | assumption)
                 obtain ⟨ad206, e206, hx206_0, hx206_1⟩ := at_T34 HR0.out x9_1 p206 q206
                 obtain rfl : ad205 = ad206 := (by injection e206)
                 replace hx206_0 := (HB.out.cell (World.block_lt_of_cell? w _ hx206_0)).trans hx206_0
                 replace hx206_1 := (HB.out.cell (World.block_lt_of_cell? w _ hx206_1)).trans hx206_1
                 replace p206 := eq_true p206
                 replace q206 := eq_true q206
                 go_wp2_with (first | ((with_reducible refine gate_builtin (b := .append) (xs := #[.tmp 42, .tmp 47]) rfl ?_); at_builtin; refine Kd.R_append k34 (w0 := w) w.heap.size rfl (.tmp 42) (.tmp 47) 23 34 (.agg #[(.string ⟨#[]⟩), (.int .i64 0)]) 24 rfl Try.underlying23 info34 rfl (by decide) (by omega) u7 x7_1 (⟨(rd_T34 l0 x9_1).f0, (rd_T34 l0 x9_1).f1⟩ : S34) [.string ((rd_T34 l0 x9_1).f0), .int .i64 ((rd_T34 l0 x9_1).f1)] (fun _ => True) (fun _ => False) rfl rfl ?aP (fun _ hk => hk.elim) ?aF ?aO ?aB ?aS ?aL ?_; (case aP => exact k34_mkM _ _ _ (⟨(rd_T34 l0 x9_1).f0, (rd_T34 l0 x9_1).f1⟩ : S34)); (case aB => exact (by repeat (first | (with_reducible first | exact HB.out | apply below_alloc | apply pw_below_drewN | apply below_drew1) | exact HB.out))); (case aF => exact (fun _ _ => trivial)); (case aO => exact (by (with_reducible repeat (first | apply Kd.R_alloc | apply Kd.R_drewN | apply Kd.R_drew)); exact HO_7.out)); (case aS => exact (below_size (by repeat (first | (with_reducible first | exact HB.out | apply below_alloc | apply pw_below_drewN | apply below_drew1) | exact HB.out)))); (case aL => have := LMc20.out; omega); intro v208 w21 ho hb hg hat; rw [← Ny207.out] at ho; have n0_ := Aside0.mk (hb); have n1_ := Aside0.mk (ho); clear HB; clear HO_7; have HB := n0_; have HO209 := n1_; clear n0_ n1_; clear ho hb hg hat))
                 go_roundg kj4
                 case measure => have := HK1.out; have := HJ4.out; omega
                 case rel => exact ⟨(y207), (x8_1), (wrap64 (x9_1 + 1)), (by first | rfl | (simp; done) | (simp [*]; done)), (by first | rfl | (simp; done) | (simp [*]; done)), H', ⟨by have := HK1.out; have := HJ4.out; omega⟩, ⟨by (with_reducible repeat (first | apply Kd.R_alloc | apply Kd.R_drewN | apply Kd.R_drew)); exact HO209.out⟩, ⟨by repeat (first | (with_reducible first | exact HB.out | apply below_alloc | apply pw_below_drewN | apply below_drew1) | exact HB.out)⟩⟩
               · rw [if_neg c20] at H
                 exact absurd H (by simp)
           · rw [if_neg c18] at H
             exact absurd H (by simp)
         · rw [if_neg c17] at H
           exact absurd H (by simp)
   · rw [if_neg c4] at H
     have c4b0 : decide (x9_1 < (l0.length : Int)) = false := decide_eq_false c4
     clear c4
     by_cases c22 : x8_1 = true
     · subst c22
       have H1 : (some x7_1) = some r := by rw [if_pos rfl] at H; exact H
       clear H
       have H := H1
       clear H1
       obtain rfl := Option.some.inj H
       go_wp2
       go_ret
       exact ⟨_, by first | rfl | (simp [errW_none, errW_some] <;> rfl) | (simp [*, errW_none, errW_some] <;> rfl), by (with_reducible repeat (first | apply Kd.R_alloc | apply Kd.R_drewN | apply Kd.R_drew)); exact HO_7.out, by repeat (first | (with_reducible first | exact HB.out | apply below_alloc | apply pw_below_drewN | apply below_drew1) | exact HB.out)⟩
     · replace c22 := Bool.eq_false_iff.mpr c22
       subst c22
       have H1 : (if x7_1.length < 5864062014805 then (some (x7_1 ++ [(⟨a1, a2⟩ : S34)])) else (none)) = some r := by rw [if_neg (show ¬ (false = true) by decide)] at H; exact H
       clear H
       have H := H1
       clear H1
       by_cases c23 : x7_1.length < 5864062014805
       · rw [if_pos c23] at H
         have LMc23 := Aside0.mk c23
         clear c23
         obtain ⟨y193, hy193⟩ : ∃ y_ : List (S34), y_ = (x7_1 ++ [(⟨a1, a2⟩ : S34)]) := ⟨_, rfl⟩
         replace H : (some y193) = some r := by first | (rw [hy193]; with_reducible exact H) | (have H2_ := (Option.bind_some _ _).symm.trans H; rw [hy193]; with_reducible exact H2_) | (have H2_ := (Option.bind_some _ _).symm.trans H; with_reducible exact H2_) | with_reducible exact H | (rw [hy193]; exact H) | exact H
         have Ny193 := Aside0.mk hy193
         clear hy193
         obtain rfl := Option.some.inj H
         go_wp2_with (first | ((with_reducible refine gate_builtin (b := .append) (xs := #[.tmp 51, .tmp 55]) rfl ?_); at_builtin; refine Kd.R_append k34 (w0 := w) w.heap.size rfl (.tmp 51) (.tmp 55) 23 34 (.agg #[(.string ⟨#[]⟩), (.int .i64 0)]) 24 rfl Try.underlying23 info34 rfl (by decide) (by omega) u7 x7_1 (⟨a1, a2⟩ : S34) [.string a1, .int .i64 a2] (fun _ => True) (fun _ => False) rfl rfl ?aP (fun _ hk => hk.elim) ?aF ?aO ?aB ?aS ?aL ?_; (case aP => exact k34_mkM _ _ _ (⟨a1, a2⟩ : S34)); (case aB => exact (by repeat (first | (with_reducible first | exact HB.out | apply below_alloc | apply pw_below_drewN | apply below_drew1) | exact HB.out))); (case aF => exact (fun _ _ => trivial)); (case aO => exact (by (with_reducible repeat (first | apply Kd.R_alloc | apply Kd.R_drewN | apply Kd.R_drew)); exact HO_7.out)); (case aS => exact (below_size (by repeat (first | (with_reducible first | exact HB.out | apply below_alloc | apply pw_below_drewN | apply below_drew1) | exact HB.out)))); (case aL => have := LMc23.out; omega); intro v194 w24 ho hb hg hat; rw [← Ny193.out] at ho; have n0_ := Aside0.mk (hb); have n1_ := Aside0.mk (ho); clear HB; clear HO_7; have HB := n0_; have HO195 := n1_; clear n0_ n1_; clear ho hb hg hat))
         go_ret
         exact ⟨_, by first | rfl | (simp [errW_none, errW_some] <;> rfl) | (simp [*, errW_none, errW_some] <;> rfl), by (with_reducible repeat (first | apply Kd.R_alloc | apply Kd.R_drewN | apply Kd.R_drew)); exact HO195.out, by repeat (first | (with_reducible first | exact HB.out | apply below_alloc | apply pw_below_drewN | apply below_drew1) | exact HB.out)⟩
       · rw [if_neg c23] at H
         exact absurd H (by simp)
def pannierref07_With.j0 : Nat → List (S34) → Bool → ByteArray → Int → Option ((List (S34)) × Int)
  | 0, _, _, _, _ => none
  | k + 1, x0, x18, x211000, x211001 => if x18 = true then (some (([] : List (S34)), 2)) else ((pannierref07_put.f k x0 x211000 x211001).bind fun t213 => ((pannierref07_At.f k x0 x211000).bind fun t216 => (if (wrap64 (x211001 - 1)) = t216 then (if (t213.length : Int) > 64 then (some (([] : List (S34)), 70)) else (some (t213, 0))) else (some (([] : List (S34)), 70)))))
def pannierref07_With.f (k : Nat) (l0 : List (S34)) (a1_0 : ByteArray) (a1_1 : Int) : Option ((List (S34)) × Int) := (pannierref07_Right.f k l0).bind fun t211 => ((pannierref07_IsDot.f k a1_0 a1_1).bind fun t212 => (if t211 = true then (pannierref07_With.j0 k l0 (!t212) a1_0 a1_1) else (pannierref07_With.j0 k l0 true a1_0 a1_1)))
set_option maxHeartbeats 8000000 in
set_option maxRecDepth 100000 in
theorem pannierref07_With.calls (k : Nat) (A0 : Option Addr) (c0 : Nat) (l0 : List (S34)) (a1_0 : ByteArray) (a1_1 : Int) (r1 : List (S34)) (r2 : Int) (w : World) (hr0 : Kd.C k34 w A0 l0.length l0) (hc0 : l0.length ≤ c0) (h : pannierref07_With.f k l0 a1_0 a1_1 = some (r1, r2)) :
    Calls Try.prog 25 #[.slice A0 l0.length c0, .agg #[.string a1_0, .int .i64 a1_1]] w fun e w' => ∃ v0_ : Value, e = .returned (.tuple #[v0_, .int .i64 r2]) ∧ Kd.R k34 34 w' w.heap.size (fun _ => True) v0_ r1 ∧ Below w.heap.size w w' := by
 have hu34 := Try.underlying34
 have HR0 := Aside0.mk hr0
 have HC0 := Aside0.mk hc0
 clear hr0 hc0
 have HB := Aside0.mk (Below.refl w.heap.size w)
 have H : ((pannierref07_Right.f k l0).bind fun t211 => ((pannierref07_IsDot.f k a1_0 a1_1).bind fun t212 => (if t211 = true then (pannierref07_With.j0 k l0 (!t212) a1_0 a1_1) else (pannierref07_With.j0 k l0 true a1_0 a1_1)))) = some (r1, r2) := h
 clear h
 replace H := Option.bind_eq_some_iff.mp H
 obtain ⟨t211, A30, H⟩ := H
 replace H : ((pannierref07_IsDot.f k a1_0 a1_1).bind fun t212 => (if t211 = true then (pannierref07_With.j0 k l0 (!t212) a1_0 a1_1) else (pannierref07_With.j0 k l0 true a1_0 a1_1))) = some (r1, r2) := H
 have A3 := Aside0.mk A30
 clear A30
 replace H := Option.bind_eq_some_iff.mp H
 obtain ⟨t212, A40, H⟩ := H
 replace H : (if t211 = true then (pannierref07_With.j0 k l0 (!t212) a1_0 a1_1) else (pannierref07_With.j0 k l0 true a1_0 a1_1)) = some (r1, r2) := H
 have A4 := Aside0.mk A40
 clear A40
 have HC5 := Aside0.mk H
 clear H
 go_enter Try.func25, Try.ntmps25
 go_upto_region 3 with (first | ((with_reducible refine gate_dst (N := 3) rfl ?_); (try (refine gate_guard (by rfl) ?_; dsimp only)); refine box_event ?hg (N := 3) ?hd (cs := #[.string a1_0, .int .i64 a1_1]) (t := 34) ?hr ?_; (case hd => rfl); (case hg => rfl); (case hr => first | (go_simp; done) | (go_simp; rfl)); intro gb210 hg w6 hbox hb; have n0_ := Aside0.mk (below_step (by repeat (first | (with_reducible first | exact HB.out | apply below_alloc | apply pw_below_drewN | apply below_drew1) | exact HB.out)) hb); have n1_ := Aside0.mk (hbox); have n2_ := Aside0.mk ((by rw [hg]; exact (below_size (by repeat (first | (with_reducible first | exact HB.out | apply below_alloc | apply pw_below_drewN | apply below_drew1) | exact HB.out))) : w.heap.size ≤ gb210)); have n3_ := Aside0.mk ((by rw [hg]; exact (below_size (by repeat (first | (with_reducible first | exact HB.out | apply below_alloc | apply pw_below_drewN | apply below_drew1) | exact HB.out))) : w.heap.size ≤ gb210)); clear HB; have HB := n0_; have BK210 := n1_; have GW210 := n2_; have GE210 := n3_; clear n0_ n1_ n2_ n3_; clear hb hbox hg) | (go_at_call 62; (with_reducible refine (pannierref07_Right.calls k _ _ l0 t211 _ ?side1 ?side2 A3.out).mono ?_); (case side1 => repeat (first | exact (Kd.C_below HR0.out HB.out) | (with_reducible refine Kd.C_alloc ?_ _) | (with_reducible refine Kd.C_drewN ?_ _) | (with_reducible refine Kd.C_drew ?_))); (case side2 => exact HC0.out); rintro e w7 ⟨rfl, hb⟩; have n0_ := Aside0.mk (blk_below (g := gb210) (o := .cells #[.string a1_0, .int .i64 a1_1] 34 (0, 0)) (by (with_reducible repeat (first | refine blk_drewN ?_ _ | refine blk_drew ?_ | refine blk_alloc ?_ _)); exact BK210.out) hb); have n1_ := Aside0.mk (below_step (by repeat (first | (with_reducible first | exact HB.out | apply below_alloc | apply pw_below_drewN | apply below_drew1 | refine below_set ?_ GE210.out) | exact HB.out)) hb); clear BK210; clear HB; have BK210 := n0_; have HB := n1_; clear n0_ n1_; (try clear hb); (try clear hb2); (try clear hk); (try clear hi); have hcz8_0 : w7.cell? ⟨gb210, 0, none⟩ = some (.string a1_0) := (blk_cell BK210.out 0).trans rfl; have hcz8_1 : w7.cell? ⟨gb210, 1, none⟩ = some (.int .i64 a1_1) := (blk_cell BK210.out 1).trans rfl; have hfz8_0 := blk_frozen BK210.out 0; have hfz8_1 := blk_frozen BK210.out 1) | (go_at_call 64; (with_reducible refine (pannierref07_IsDot.calls k a1_0 a1_1 t212 _ A4.out).mono ?_); rintro e w9 ⟨rfl, hb⟩; have n0_ := Aside0.mk (blk_below (g := gb210) (o := .cells #[.string a1_0, .int .i64 a1_1] 34 (0, 0)) (by (with_reducible repeat (first | refine blk_drewN ?_ _ | refine blk_drew ?_ | refine blk_alloc ?_ _)); exact BK210.out) hb); have n1_ := Aside0.mk (below_step (by repeat (first | (with_reducible first | exact HB.out | apply below_alloc | apply pw_below_drewN | apply below_drew1 | refine below_set ?_ GE210.out) | exact HB.out)) hb); clear BK210; clear HB; have BK210 := n0_; have HB := n1_; clear n0_ n1_; (try clear hb); (try clear hb2); (try clear hk); (try clear hi)))
 repeat (go_quiet (first | ((with_reducible refine gate_dst (N := 3) rfl ?_); (try (refine gate_guard (by rfl) ?_; dsimp only)); refine box_event ?hg (N := 3) ?hd (cs := #[.string a1_0, .int .i64 a1_1]) (t := 34) ?hr ?_; (case hd => rfl); (case hg => rfl); (case hr => first | (go_simp; done) | (go_simp; rfl)); intro gb210 hg w6 hbox hb; have n0_ := Aside0.mk (below_step (by repeat (first | (with_reducible first | exact HB.out | apply below_alloc | apply pw_below_drewN | apply below_drew1) | exact HB.out)) hb); have n1_ := Aside0.mk (hbox); have n2_ := Aside0.mk ((by rw [hg]; exact (below_size (by repeat (first | (with_reducible first | exact HB.out | apply below_alloc | apply pw_below_drewN | apply below_drew1) | exact HB.out))) : w.heap.size ≤ gb210)); have n3_ := Aside0.mk ((by rw [hg]; exact (below_size (by repeat (first | (with_reducible first | exact HB.out | apply below_alloc | apply pw_below_drewN | apply below_drew1) | exact HB.out))) : w.heap.size ≤ gb210)); clear HB; have HB := n0_; have BK210 := n1_; have GW210 := n2_; have GE210 := n3_; clear n0_ n1_ n2_ n3_; clear hb hbox hg) | (go_at_call 62; (with_reducible refine (pannierref07_Right.calls k _ _ l0 t211 _ ?side1 ?side2 A3.out).mono ?_); (case side1 => repeat (first | exact (Kd.C_below HR0.out HB.out) | (with_reducible refine Kd.C_alloc ?_ _) | (with_reducible refine Kd.C_drewN ?_ _) | (with_reducible refine Kd.C_drew ?_))); (case side2 => exact HC0.out); rintro e w7 ⟨rfl, hb⟩; have n0_ := Aside0.mk (blk_below (g := gb210) (o := .cells #[.string a1_0, .int .i64 a1_1] 34 (0, 0)) (by (with_reducible repeat (first | refine blk_drewN ?_ _ | refine blk_drew ?_ | refine blk_alloc ?_ _)); exact BK210.out) hb); have n1_ := Aside0.mk (below_step (by repeat (first | (with_reducible first | exact HB.out | apply below_alloc | apply pw_below_drewN | apply below_drew1 | refine below_set ?_ GE210.out) | exact HB.out)) hb); clear BK210; clear HB; have BK210 := n0_; have HB := n1_; clear n0_ n1_; (try clear hb); (try clear hb2); (try clear hk); (try clear hi); have hcz8_0 : w7.cell? ⟨gb210, 0, none⟩ = some (.string a1_0) := (blk_cell BK210.out 0).trans rfl; have hcz8_1 : w7.cell? ⟨gb210, 1, none⟩ = some (.int .i64 a1_1) := (blk_cell BK210.out 1).trans rfl; have hfz8_0 := blk_frozen BK210.out 0; have hfz8_1 := blk_frozen BK210.out 1) | (go_at_call 64; (with_reducible refine (pannierref07_IsDot.calls k a1_0 a1_1 t212 _ A4.out).mono ?_); rintro e w9 ⟨rfl, hb⟩; have n0_ := Aside0.mk (blk_below (g := gb210) (o := .cells #[.string a1_0, .int .i64 a1_1] 34 (0, 0)) (by (with_reducible repeat (first | refine blk_drewN ?_ _ | refine blk_drew ?_ | refine blk_alloc ?_ _)); exact BK210.out) hb); have n1_ := Aside0.mk (below_step (by repeat (first | (with_reducible first | exact HB.out | apply below_alloc | apply pw_below_drewN | apply below_drew1 | refine below_set ?_ GE210.out) | exact HB.out)) hb); clear BK210; clear HB; have BK210 := n0_; have HB := n1_; clear n0_ n1_; (try clear hb); (try clear hb2); (try clear hk); (try clear hi))); go_upto_region 3 with (first | ((with_reducible refine gate_dst (N := 3) rfl ?_); (try (refine gate_guard (by rfl) ?_; dsimp only)); refine box_event ?hg (N := 3) ?hd (cs := #[.string a1_0, .int .i64 a1_1]) (t := 34) ?hr ?_; (case hd => rfl); (case hg => rfl); (case hr => first | (go_simp; done) | (go_simp; rfl)); intro gb210 hg w6 hbox hb; have n0_ := Aside0.mk (below_step (by repeat (first | (with_reducible first | exact HB.out | apply below_alloc | apply pw_below_drewN | apply below_drew1) | exact HB.out)) hb); have n1_ := Aside0.mk (hbox); have n2_ := Aside0.mk ((by rw [hg]; exact (below_size (by repeat (first | (with_reducible first | exact HB.out | apply below_alloc | apply pw_below_drewN | apply below_drew1) | exact HB.out))) : w.heap.size ≤ gb210)); have n3_ := Aside0.mk ((by rw [hg]; exact (below_size (by repeat (first | (with_reducible first | exact HB.out | apply below_alloc | apply pw_below_drewN | apply below_drew1) | exact HB.out))) : w.heap.size ≤ gb210)); clear HB; have HB := n0_; have BK210 := n1_; have GW210 := n2_; have GE210 := n3_; clear n0_ n1_ n2_ n3_; clear hb hbox hg) | (go_at_call 62; (with_reducible refine (pannierref07_Right.calls k _ _ l0 t211 _ ?side1 ?side2 A3.out).mono ?_); (case side1 => repeat (first | exact (Kd.C_below HR0.out HB.out) | (with_reducible refine Kd.C_alloc ?_ _) | (with_reducible refine Kd.C_drewN ?_ _) | (with_reducible refine Kd.C_drew ?_))); (case side2 => exact HC0.out); rintro e w7 ⟨rfl, hb⟩; have n0_ := Aside0.mk (blk_below (g := gb210) (o := .cells #[.string a1_0, .int .i64 a1_1] 34 (0, 0)) (by (with_reducible repeat (first | refine blk_drewN ?_ _ | refine blk_drew ?_ | refine blk_alloc ?_ _)); exact BK210.out) hb); have n1_ := Aside0.mk (below_step (by repeat (first | (with_reducible first | exact HB.out | apply below_alloc | apply pw_below_drewN | apply below_drew1 | refine below_set ?_ GE210.out) | exact HB.out)) hb); clear BK210; clear HB; have BK210 := n0_; have HB := n1_; clear n0_ n1_; (try clear hb); (try clear hb2); (try clear hk); (try clear hi); have hcz8_0 : w7.cell? ⟨gb210, 0, none⟩ = some (.string a1_0) := (blk_cell BK210.out 0).trans rfl; have hcz8_1 : w7.cell? ⟨gb210, 1, none⟩ = some (.int .i64 a1_1) := (blk_cell BK210.out 1).trans rfl; have hfz8_0 := blk_frozen BK210.out 0; have hfz8_1 := blk_frozen BK210.out 1) | (go_at_call 64; (with_reducible refine (pannierref07_IsDot.calls k a1_0 a1_1 t212 _ A4.out).mono ?_); rintro e w9 ⟨rfl, hb⟩; have n0_ := Aside0.mk (blk_below (g := gb210) (o := .cells #[.string a1_0, .int .i64 a1_1] 34 (0, 0)) (by (with_reducible repeat (first | refine blk_drewN ?_ _ | refine blk_drew ?_ | refine blk_alloc ?_ _)); exact BK210.out) hb); have n1_ := Aside0.mk (below_step (by repeat (first | (with_reducible first | exact HB.out | apply below_alloc | apply pw_below_drewN | apply below_drew1 | refine below_set ?_ GE210.out) | exact HB.out)) hb); clear BK210; clear HB; have BK210 := n0_; have HB := n1_; clear n0_ n1_; (try clear hb); (try clear hb2); (try clear hk); (try clear hi))))
 (try simp only [Act.put, List.setIfInBounds_toArray, List.set_cons_zero, List.set_cons_succ])
 go_cut [18] (fun v18 wc => ∃ (kq : Nat) (x18_4 : Bool), v18 = .bool x18_4 ∧ Aside0 (pannierref07_With.j0 kq l0 x18_4 a1_0 a1_1 = some (r1, r2)) ∧ Aside0 (kq ≤ k) ∧ Aside0 (wc.heap[gb210]? = some (.cells #[.string a1_0, .int .i64 a1_1] 34 (0, 0))) ∧ Aside0 (Below w.heap.size w wc))
 case first =>
  have H := HC5.out
  clear HC5
  by_cases c10 : t211 = true
  subst c10
  have H1 : (pannierref07_With.j0 k l0 (!t212) a1_0 a1_1) = some (r1, r2) := by rw [if_pos rfl] at H; exact H
  clear H
  have H := H1
  clear H1
  rotate_left
  replace c10 := Bool.eq_false_iff.mpr c10
  subst c10
  have H1 : (pannierref07_With.j0 k l0 true a1_0 a1_1) = some (r1, r2) := by rw [if_neg (show ¬ (false = true) by decide)] at H; exact H
  clear H
  have H := H1
  clear H1
  rotate_left
  all_goals (
   have H' := Aside0.mk H
   clear H
   go_wp2
   repeat (go_quiet (fail); try go_wp2)
   go_meet
   case rel => exact ⟨_, _, (by first | rfl | (simp; done) | (simp [*]; done)), H', ⟨by first | omega | exact Nat.le_refl _⟩, ⟨by (with_reducible repeat (first | refine blk_drewN ?_ _ | refine blk_drew ?_ | refine blk_alloc ?_ _)); exact BK210.out⟩, ⟨by repeat (first | (with_reducible first | exact HB.out | apply below_alloc | apply pw_below_drewN | apply below_drew1 | refine below_set ?_ GE210.out) | exact HB.out)⟩⟩
   )
 case rest =>
  clear HC5
  try clear c1
  try clear c2
  try clear p2
  try clear c10
  try clear hcz8_0
  try clear hcz8_1
  try clear hfz8_0
  try clear hfz8_1
  obtain ⟨kq, x18_4, rfl, HA, HJ4, BK210, HB⟩ := hcut
  cases kq with
  | zero => exact absurd HA.out (by simp [pannierref07_With.j0])
  | succ kj4 =>
   have H := HA.out
   clear HA
   simp only [pannierref07_With.j0] at H
   by_cases c11 : x18_4 = true
   · subst c11
     have H1 : (some (([] : List (S34)), 2)) = some (r1, r2) := by rw [if_pos rfl] at H; exact H
     clear H
     have H := H1
     clear H1
     simp only [Option.some.injEq, Prod.mk.injEq] at H
     obtain ⟨rfl, rfl⟩ := H
     go_wp2
     repeat (go_quiet (fail); try go_wp2)
     go_ret2
     exact ⟨_, by first | rfl | (simp [errW_none, errW_some] <;> rfl) | (simp [*, errW_none, errW_some] <;> rfl), by first | exact Kd.R_nil _ _ _ _ _ | exact Kd.N_nil _ _ _ _ _ | exact Kd.V_nil _ _ _ _ _ | exact Kd.Q_nil _ _ _ _ _ | exact Kd.S_nil _ _ _ _ _, by repeat (first | (with_reducible first | exact HB.out | apply below_alloc | apply pw_below_drewN | apply below_drew1 | refine below_set ?_ GE210.out) | exact HB.out)⟩
   · replace c11 := Bool.eq_false_iff.mpr c11
     subst c11
     have H1 : ((pannierref07_put.f kj4 l0 a1_0 a1_1).bind fun t213 => ((pannierref07_At.f kj4 l0 a1_0).bind fun t216 => (if (wrap64 (a1_1 - 1)) = t216 then (if (t213.length : Int) > 64 then (some (([] : List (S34)), 70)) else (some (t213, 0))) else (some (([] : List (S34)), 70))))) = some (r1, r2) := by rw [if_neg (show ¬ (false = true) by decide)] at H; exact H
     clear H
     have H := H1
     clear H1
     replace H := Option.bind_eq_some_iff.mp H
     obtain ⟨t213, A120, H⟩ := H
     replace H : ((pannierref07_At.f kj4 l0 a1_0).bind fun t216 => (if (wrap64 (a1_1 - 1)) = t216 then (if (t213.length : Int) > 64 then (some (([] : List (S34)), 70)) else (some (t213, 0))) else (some (([] : List (S34)), 70)))) = some (r1, r2) := H
     have A12 := Aside0.mk A120
     clear A120
     replace H := Option.bind_eq_some_iff.mp H
     obtain ⟨t216, A130, H⟩ := H
     replace H : (if (wrap64 (a1_1 - 1)) = t216 then (if (t213.length : Int) > 64 then (some (([] : List (S34)), 70)) else (some (t213, 0))) else (some (([] : List (S34)), 70))) = some (r1, r2) := H
     have A13 := Aside0.mk A130
     clear A130
     by_cases c14 : (wrap64 (a1_1 - 1)) = t216
     · rw [if_pos c14] at H
       have c14b0 : ((wrap64 (a1_1 - 1)) == t216) = true := beq_iff_eq.mpr c14
       have c14b1 : ((wrap64 (a1_1 - 1)) != t216) = false := bne_eq_false_iff_eq.mpr c14
       clear c14
       by_cases c15 : (t213.length : Int) > 64
       · rw [if_pos c15] at H
         have c15b0 : decide (64 < (t213.length : Int)) = true := decide_eq_true c15
         have c15b1 : decide (64 < t213.length) = true := decide_eq_true (by omega)
         clear c15
         simp only [Option.some.injEq, Prod.mk.injEq] at H
         obtain ⟨rfl, rfl⟩ := H
         have hcz16_0 : wc.cell? ⟨gb210, 0, none⟩ = some (.string a1_0) := (blk_cell BK210.out 0).trans rfl
         have hcz16_1 : wc.cell? ⟨gb210, 1, none⟩ = some (.int .i64 a1_1) := (blk_cell BK210.out 1).trans rfl
         have hfz16_0 := blk_frozen BK210.out 0
         have hfz16_1 := blk_frozen BK210.out 1
         go_wp2_with (first | (go_at_call 65; (with_reducible refine (pannierref07_put.calls kj4 _ _ l0 a1_0 a1_1 t213 _ ?side1 ?side2 A12.out).mono ?_); (case side1 => repeat (first | exact (Kd.C_below HR0.out HB.out) | (with_reducible refine Kd.C_alloc ?_ _) | (with_reducible refine Kd.C_drewN ?_ _) | (with_reducible refine Kd.C_drew ?_))); (case side2 => exact HC0.out); rintro e w17 ⟨v214, rfl, ho0, hb⟩; have n0_ := Aside0.mk (Kd.R_lower (Kd.R_newB ho0 (g := gb210) (o := .cells #[.string a1_0, .int .i64 a1_1] 34 (0, 0)) (by (with_reducible repeat (first | refine blk_drewN ?_ _ | refine blk_drew ?_ | refine blk_alloc ?_ _)); exact BK210.out)) (below_size (by repeat (first | (with_reducible first | exact HB.out | apply below_alloc | apply pw_below_drewN | apply below_drew1 | refine below_set ?_ GE210.out) | exact HB.out)))); have n1_ := Aside0.mk (blk_below (g := gb210) (o := .cells #[.string a1_0, .int .i64 a1_1] 34 (0, 0)) (by (with_reducible repeat (first | refine blk_drewN ?_ _ | refine blk_drew ?_ | refine blk_alloc ?_ _)); exact BK210.out) hb); have n2_ := Aside0.mk (below_step (by repeat (first | (with_reducible first | exact HB.out | apply below_alloc | apply pw_below_drewN | apply below_drew1 | refine below_set ?_ GE210.out) | exact HB.out)) hb); clear BK210; clear HB; have HO215 := n0_; have BK210 := n1_; have HB := n2_; clear n0_ n1_ n2_; (try clear hb); (try clear hb2); (try clear hk); (try clear hi); (try clear ho0); have hcz18_0 : w17.cell? ⟨gb210, 0, none⟩ = some (.string a1_0) := (blk_cell BK210.out 0).trans rfl; have hcz18_1 : w17.cell? ⟨gb210, 1, none⟩ = some (.int .i64 a1_1) := (blk_cell BK210.out 1).trans rfl; have hfz18_0 := blk_frozen BK210.out 0; have hfz18_1 := blk_frozen BK210.out 1) | (go_at_call 57; (with_reducible refine (pannierref07_At.calls kj4 _ _ l0 a1_0 t216 _ ?side1 ?side2 A13.out).mono ?_); (case side1 => repeat (first | exact (Kd.C_below HR0.out HB.out) | (with_reducible refine Kd.C_alloc ?_ _) | (with_reducible refine Kd.C_drewN ?_ _) | (with_reducible refine Kd.C_drew ?_))); (case side2 => exact HC0.out); rintro e w' ⟨rfl, ⟨nd, rfl⟩⟩; (try first | exact ⟨rfl, _, World.drewN_drewN _ _ _⟩ | exact ⟨rfl, _, Eq.trans (World.drewN_drewN _ _ _) (congrArg (World.drewN _) (Nat.add_assoc _ _ _))⟩); obtain ⟨Ao19, co19, eo19⟩ := Kd.R_slice HO215.out; subst eo19))
         (try (obtain ⟨Ao19, co19, eo19⟩ := Kd.R_slice HO215.out; subst eo19))
         repeat (go_quiet (first | (go_at_call 65; (with_reducible refine (pannierref07_put.calls kj4 _ _ l0 a1_0 a1_1 t213 _ ?side1 ?side2 A12.out).mono ?_); (case side1 => repeat (first | exact (Kd.C_below HR0.out HB.out) | (with_reducible refine Kd.C_alloc ?_ _) | (with_reducible refine Kd.C_drewN ?_ _) | (with_reducible refine Kd.C_drew ?_))); (case side2 => exact HC0.out); rintro e w17 ⟨v214, rfl, ho0, hb⟩; have n0_ := Aside0.mk (Kd.R_lower (Kd.R_newB ho0 (g := gb210) (o := .cells #[.string a1_0, .int .i64 a1_1] 34 (0, 0)) (by (with_reducible repeat (first | refine blk_drewN ?_ _ | refine blk_drew ?_ | refine blk_alloc ?_ _)); exact BK210.out)) (below_size (by repeat (first | (with_reducible first | exact HB.out | apply below_alloc | apply pw_below_drewN | apply below_drew1 | refine below_set ?_ GE210.out) | exact HB.out)))); have n1_ := Aside0.mk (blk_below (g := gb210) (o := .cells #[.string a1_0, .int .i64 a1_1] 34 (0, 0)) (by (with_reducible repeat (first | refine blk_drewN ?_ _ | refine blk_drew ?_ | refine blk_alloc ?_ _)); exact BK210.out) hb); have n2_ := Aside0.mk (below_step (by repeat (first | (with_reducible first | exact HB.out | apply below_alloc | apply pw_below_drewN | apply below_drew1 | refine below_set ?_ GE210.out) | exact HB.out)) hb); clear BK210; clear HB; have HO215 := n0_; have BK210 := n1_; have HB := n2_; clear n0_ n1_ n2_; (try clear hb); (try clear hb2); (try clear hk); (try clear hi); (try clear ho0); have hcz18_0 : w17.cell? ⟨gb210, 0, none⟩ = some (.string a1_0) := (blk_cell BK210.out 0).trans rfl; have hcz18_1 : w17.cell? ⟨gb210, 1, none⟩ = some (.int .i64 a1_1) := (blk_cell BK210.out 1).trans rfl; have hfz18_0 := blk_frozen BK210.out 0; have hfz18_1 := blk_frozen BK210.out 1) | (go_at_call 57; (with_reducible refine (pannierref07_At.calls kj4 _ _ l0 a1_0 t216 _ ?side1 ?side2 A13.out).mono ?_); (case side1 => repeat (first | exact (Kd.C_below HR0.out HB.out) | (with_reducible refine Kd.C_alloc ?_ _) | (with_reducible refine Kd.C_drewN ?_ _) | (with_reducible refine Kd.C_drew ?_))); (case side2 => exact HC0.out); rintro e w' ⟨rfl, ⟨nd, rfl⟩⟩; (try first | exact ⟨rfl, _, World.drewN_drewN _ _ _⟩ | exact ⟨rfl, _, Eq.trans (World.drewN_drewN _ _ _) (congrArg (World.drewN _) (Nat.add_assoc _ _ _))⟩); (try (obtain ⟨Ao19, co19, eo19⟩ := Kd.R_slice HO215.out; subst eo19)))); try go_wp2_with (first | (go_at_call 65; (with_reducible refine (pannierref07_put.calls kj4 _ _ l0 a1_0 a1_1 t213 _ ?side1 ?side2 A12.out).mono ?_); (case side1 => repeat (first | exact (Kd.C_below HR0.out HB.out) | (with_reducible refine Kd.C_alloc ?_ _) | (with_reducible refine Kd.C_drewN ?_ _) | (with_reducible refine Kd.C_drew ?_))); (case side2 => exact HC0.out); rintro e w17 ⟨v214, rfl, ho0, hb⟩; have n0_ := Aside0.mk (Kd.R_lower (Kd.R_newB ho0 (g := gb210) (o := .cells #[.string a1_0, .int .i64 a1_1] 34 (0, 0)) (by (with_reducible repeat (first | refine blk_drewN ?_ _ | refine blk_drew ?_ | refine blk_alloc ?_ _)); exact BK210.out)) (below_size (by repeat (first | (with_reducible first | exact HB.out | apply below_alloc | apply pw_below_drewN | apply below_drew1 | refine below_set ?_ GE210.out) | exact HB.out)))); have n1_ := Aside0.mk (blk_below (g := gb210) (o := .cells #[.string a1_0, .int .i64 a1_1] 34 (0, 0)) (by (with_reducible repeat (first | refine blk_drewN ?_ _ | refine blk_drew ?_ | refine blk_alloc ?_ _)); exact BK210.out) hb); have n2_ := Aside0.mk (below_step (by repeat (first | (with_reducible first | exact HB.out | apply below_alloc | apply pw_below_drewN | apply below_drew1 | refine below_set ?_ GE210.out) | exact HB.out)) hb); clear BK210; clear HB; have HO215 := n0_; have BK210 := n1_; have HB := n2_; clear n0_ n1_ n2_; (try clear hb); (try clear hb2); (try clear hk); (try clear hi); (try clear ho0); have hcz18_0 : w17.cell? ⟨gb210, 0, none⟩ = some (.string a1_0) := (blk_cell BK210.out 0).trans rfl; have hcz18_1 : w17.cell? ⟨gb210, 1, none⟩ = some (.int .i64 a1_1) := (blk_cell BK210.out 1).trans rfl; have hfz18_0 := blk_frozen BK210.out 0; have hfz18_1 := blk_frozen BK210.out 1) | (go_at_call 57; (with_reducible refine (pannierref07_At.calls kj4 _ _ l0 a1_0 t216 _ ?side1 ?side2 A13.out).mono ?_); (case side1 => repeat (first | exact (Kd.C_below HR0.out HB.out) | (with_reducible refine Kd.C_alloc ?_ _) | (with_reducible refine Kd.C_drewN ?_ _) | (with_reducible refine Kd.C_drew ?_))); (case side2 => exact HC0.out); rintro e w' ⟨rfl, ⟨nd, rfl⟩⟩; (try first | exact ⟨rfl, _, World.drewN_drewN _ _ _⟩ | exact ⟨rfl, _, Eq.trans (World.drewN_drewN _ _ _) (congrArg (World.drewN _) (Nat.add_assoc _ _ _))⟩); (try (obtain ⟨Ao19, co19, eo19⟩ := Kd.R_slice HO215.out; subst eo19)))))
         go_ret2
         exact ⟨_, by first | rfl | (simp [errW_none, errW_some] <;> rfl) | (simp [*, errW_none, errW_some] <;> rfl), by first | exact Kd.R_nil _ _ _ _ _ | exact Kd.N_nil _ _ _ _ _ | exact Kd.V_nil _ _ _ _ _ | exact Kd.Q_nil _ _ _ _ _ | exact Kd.S_nil _ _ _ _ _, by repeat (first | (with_reducible first | exact HB.out | apply below_alloc | apply pw_below_drewN | apply below_drew1 | refine below_set ?_ GE210.out) | exact HB.out)⟩
       · rw [if_neg c15] at H
         have c15b0 : decide (64 < (t213.length : Int)) = false := decide_eq_false c15
         have c15b1 : decide (64 < t213.length) = false := decide_eq_false (by omega)
         clear c15
         simp only [Option.some.injEq, Prod.mk.injEq] at H
         obtain ⟨rfl, rfl⟩ := H
         have hcz20_0 : wc.cell? ⟨gb210, 0, none⟩ = some (.string a1_0) := (blk_cell BK210.out 0).trans rfl
         have hcz20_1 : wc.cell? ⟨gb210, 1, none⟩ = some (.int .i64 a1_1) := (blk_cell BK210.out 1).trans rfl
         have hfz20_0 := blk_frozen BK210.out 0
         have hfz20_1 := blk_frozen BK210.out 1
         go_wp2_with (first | (go_at_call 65; (with_reducible refine (pannierref07_put.calls kj4 _ _ l0 a1_0 a1_1 t213 _ ?side1 ?side2 A12.out).mono ?_); (case side1 => repeat (first | exact (Kd.C_below HR0.out HB.out) | (with_reducible refine Kd.C_alloc ?_ _) | (with_reducible refine Kd.C_drewN ?_ _) | (with_reducible refine Kd.C_drew ?_))); (case side2 => exact HC0.out); rintro e w21 ⟨v214, rfl, ho0, hb⟩; have n0_ := Aside0.mk (Kd.R_lower (Kd.R_newB ho0 (g := gb210) (o := .cells #[.string a1_0, .int .i64 a1_1] 34 (0, 0)) (by (with_reducible repeat (first | refine blk_drewN ?_ _ | refine blk_drew ?_ | refine blk_alloc ?_ _)); exact BK210.out)) (below_size (by repeat (first | (with_reducible first | exact HB.out | apply below_alloc | apply pw_below_drewN | apply below_drew1 | refine below_set ?_ GE210.out) | exact HB.out)))); have n1_ := Aside0.mk (blk_below (g := gb210) (o := .cells #[.string a1_0, .int .i64 a1_1] 34 (0, 0)) (by (with_reducible repeat (first | refine blk_drewN ?_ _ | refine blk_drew ?_ | refine blk_alloc ?_ _)); exact BK210.out) hb); have n2_ := Aside0.mk (below_step (by repeat (first | (with_reducible first | exact HB.out | apply below_alloc | apply pw_below_drewN | apply below_drew1 | refine below_set ?_ GE210.out) | exact HB.out)) hb); clear BK210; clear HB; have HO215 := n0_; have BK210 := n1_; have HB := n2_; clear n0_ n1_ n2_; (try clear hb); (try clear hb2); (try clear hk); (try clear hi); (try clear ho0); have hcz22_0 : w21.cell? ⟨gb210, 0, none⟩ = some (.string a1_0) := (blk_cell BK210.out 0).trans rfl; have hcz22_1 : w21.cell? ⟨gb210, 1, none⟩ = some (.int .i64 a1_1) := (blk_cell BK210.out 1).trans rfl; have hfz22_0 := blk_frozen BK210.out 0; have hfz22_1 := blk_frozen BK210.out 1) | (go_at_call 57; (with_reducible refine (pannierref07_At.calls kj4 _ _ l0 a1_0 t216 _ ?side1 ?side2 A13.out).mono ?_); (case side1 => repeat (first | exact (Kd.C_below HR0.out HB.out) | (with_reducible refine Kd.C_alloc ?_ _) | (with_reducible refine Kd.C_drewN ?_ _) | (with_reducible refine Kd.C_drew ?_))); (case side2 => exact HC0.out); rintro e w' ⟨rfl, ⟨nd, rfl⟩⟩; (try first | exact ⟨rfl, _, World.drewN_drewN _ _ _⟩ | exact ⟨rfl, _, Eq.trans (World.drewN_drewN _ _ _) (congrArg (World.drewN _) (Nat.add_assoc _ _ _))⟩); obtain ⟨Ao23, co23, eo23⟩ := Kd.R_slice HO215.out; subst eo23))
         (try (obtain ⟨Ao23, co23, eo23⟩ := Kd.R_slice HO215.out; subst eo23))
         repeat (go_quiet (first | (go_at_call 65; (with_reducible refine (pannierref07_put.calls kj4 _ _ l0 a1_0 a1_1 t213 _ ?side1 ?side2 A12.out).mono ?_); (case side1 => repeat (first | exact (Kd.C_below HR0.out HB.out) | (with_reducible refine Kd.C_alloc ?_ _) | (with_reducible refine Kd.C_drewN ?_ _) | (with_reducible refine Kd.C_drew ?_))); (case side2 => exact HC0.out); rintro e w21 ⟨v214, rfl, ho0, hb⟩; have n0_ := Aside0.mk (Kd.R_lower (Kd.R_newB ho0 (g := gb210) (o := .cells #[.string a1_0, .int .i64 a1_1] 34 (0, 0)) (by (with_reducible repeat (first | refine blk_drewN ?_ _ | refine blk_drew ?_ | refine blk_alloc ?_ _)); exact BK210.out)) (below_size (by repeat (first | (with_reducible first | exact HB.out | apply below_alloc | apply pw_below_drewN | apply below_drew1 | refine below_set ?_ GE210.out) | exact HB.out)))); have n1_ := Aside0.mk (blk_below (g := gb210) (o := .cells #[.string a1_0, .int .i64 a1_1] 34 (0, 0)) (by (with_reducible repeat (first | refine blk_drewN ?_ _ | refine blk_drew ?_ | refine blk_alloc ?_ _)); exact BK210.out) hb); have n2_ := Aside0.mk (below_step (by repeat (first | (with_reducible first | exact HB.out | apply below_alloc | apply pw_below_drewN | apply below_drew1 | refine below_set ?_ GE210.out) | exact HB.out)) hb); clear BK210; clear HB; have HO215 := n0_; have BK210 := n1_; have HB := n2_; clear n0_ n1_ n2_; (try clear hb); (try clear hb2); (try clear hk); (try clear hi); (try clear ho0); have hcz22_0 : w21.cell? ⟨gb210, 0, none⟩ = some (.string a1_0) := (blk_cell BK210.out 0).trans rfl; have hcz22_1 : w21.cell? ⟨gb210, 1, none⟩ = some (.int .i64 a1_1) := (blk_cell BK210.out 1).trans rfl; have hfz22_0 := blk_frozen BK210.out 0; have hfz22_1 := blk_frozen BK210.out 1) | (go_at_call 57; (with_reducible refine (pannierref07_At.calls kj4 _ _ l0 a1_0 t216 _ ?side1 ?side2 A13.out).mono ?_); (case side1 => repeat (first | exact (Kd.C_below HR0.out HB.out) | (with_reducible refine Kd.C_alloc ?_ _) | (with_reducible refine Kd.C_drewN ?_ _) | (with_reducible refine Kd.C_drew ?_))); (case side2 => exact HC0.out); rintro e w' ⟨rfl, ⟨nd, rfl⟩⟩; (try first | exact ⟨rfl, _, World.drewN_drewN _ _ _⟩ | exact ⟨rfl, _, Eq.trans (World.drewN_drewN _ _ _) (congrArg (World.drewN _) (Nat.add_assoc _ _ _))⟩); (try (obtain ⟨Ao23, co23, eo23⟩ := Kd.R_slice HO215.out; subst eo23)))); try go_wp2_with (first | (go_at_call 65; (with_reducible refine (pannierref07_put.calls kj4 _ _ l0 a1_0 a1_1 t213 _ ?side1 ?side2 A12.out).mono ?_); (case side1 => repeat (first | exact (Kd.C_below HR0.out HB.out) | (with_reducible refine Kd.C_alloc ?_ _) | (with_reducible refine Kd.C_drewN ?_ _) | (with_reducible refine Kd.C_drew ?_))); (case side2 => exact HC0.out); rintro e w21 ⟨v214, rfl, ho0, hb⟩; have n0_ := Aside0.mk (Kd.R_lower (Kd.R_newB ho0 (g := gb210) (o := .cells #[.string a1_0, .int .i64 a1_1] 34 (0, 0)) (by (with_reducible repeat (first | refine blk_drewN ?_ _ | refine blk_drew ?_ | refine blk_alloc ?_ _)); exact BK210.out)) (below_size (by repeat (first | (with_reducible first | exact HB.out | apply below_alloc | apply pw_below_drewN | apply below_drew1 | refine below_set ?_ GE210.out) | exact HB.out)))); have n1_ := Aside0.mk (blk_below (g := gb210) (o := .cells #[.string a1_0, .int .i64 a1_1] 34 (0, 0)) (by (with_reducible repeat (first | refine blk_drewN ?_ _ | refine blk_drew ?_ | refine blk_alloc ?_ _)); exact BK210.out) hb); have n2_ := Aside0.mk (below_step (by repeat (first | (with_reducible first | exact HB.out | apply below_alloc | apply pw_below_drewN | apply below_drew1 | refine below_set ?_ GE210.out) | exact HB.out)) hb); clear BK210; clear HB; have HO215 := n0_; have BK210 := n1_; have HB := n2_; clear n0_ n1_ n2_; (try clear hb); (try clear hb2); (try clear hk); (try clear hi); (try clear ho0); have hcz22_0 : w21.cell? ⟨gb210, 0, none⟩ = some (.string a1_0) := (blk_cell BK210.out 0).trans rfl; have hcz22_1 : w21.cell? ⟨gb210, 1, none⟩ = some (.int .i64 a1_1) := (blk_cell BK210.out 1).trans rfl; have hfz22_0 := blk_frozen BK210.out 0; have hfz22_1 := blk_frozen BK210.out 1) | (go_at_call 57; (with_reducible refine (pannierref07_At.calls kj4 _ _ l0 a1_0 t216 _ ?side1 ?side2 A13.out).mono ?_); (case side1 => repeat (first | exact (Kd.C_below HR0.out HB.out) | (with_reducible refine Kd.C_alloc ?_ _) | (with_reducible refine Kd.C_drewN ?_ _) | (with_reducible refine Kd.C_drew ?_))); (case side2 => exact HC0.out); rintro e w' ⟨rfl, ⟨nd, rfl⟩⟩; (try first | exact ⟨rfl, _, World.drewN_drewN _ _ _⟩ | exact ⟨rfl, _, Eq.trans (World.drewN_drewN _ _ _) (congrArg (World.drewN _) (Nat.add_assoc _ _ _))⟩); (try (obtain ⟨Ao23, co23, eo23⟩ := Kd.R_slice HO215.out; subst eo23)))))
         go_ret2
         exact ⟨_, by first | rfl | (simp [errW_none, errW_some] <;> rfl) | (simp [*, errW_none, errW_some] <;> rfl), by (with_reducible repeat (first | apply Kd.R_alloc | apply Kd.R_drewN | apply Kd.R_drew)); exact Kd.R_mono HO215.out (fun _ hk => trivial), by repeat (first | (with_reducible first | exact HB.out | apply below_alloc | apply pw_below_drewN | apply below_drew1 | refine below_set ?_ GE210.out) | exact HB.out)⟩
     · rw [if_neg c14] at H
       have c14b0 : ((wrap64 (a1_1 - 1)) == t216) = false := beq_eq_false_iff_ne.mpr c14
       have c14b1 : ((wrap64 (a1_1 - 1)) != t216) = true := bne_iff_ne.mpr c14
       simp only [Option.some.injEq, Prod.mk.injEq] at H
       obtain ⟨rfl, rfl⟩ := H
       have hcz24_0 : wc.cell? ⟨gb210, 0, none⟩ = some (.string a1_0) := (blk_cell BK210.out 0).trans rfl
       have hcz24_1 : wc.cell? ⟨gb210, 1, none⟩ = some (.int .i64 a1_1) := (blk_cell BK210.out 1).trans rfl
       have hfz24_0 := blk_frozen BK210.out 0
       have hfz24_1 := blk_frozen BK210.out 1
       go_wp2_with (first | (go_at_call 65; (with_reducible refine (pannierref07_put.calls kj4 _ _ l0 a1_0 a1_1 t213 _ ?side1 ?side2 A12.out).mono ?_); (case side1 => repeat (first | exact (Kd.C_below HR0.out HB.out) | (with_reducible refine Kd.C_alloc ?_ _) | (with_reducible refine Kd.C_drewN ?_ _) | (with_reducible refine Kd.C_drew ?_))); (case side2 => exact HC0.out); rintro e w25 ⟨v214, rfl, ho0, hb⟩; have n0_ := Aside0.mk (Kd.R_lower (Kd.R_newB ho0 (g := gb210) (o := .cells #[.string a1_0, .int .i64 a1_1] 34 (0, 0)) (by (with_reducible repeat (first | refine blk_drewN ?_ _ | refine blk_drew ?_ | refine blk_alloc ?_ _)); exact BK210.out)) (below_size (by repeat (first | (with_reducible first | exact HB.out | apply below_alloc | apply pw_below_drewN | apply below_drew1 | refine below_set ?_ GE210.out) | exact HB.out)))); have n1_ := Aside0.mk (blk_below (g := gb210) (o := .cells #[.string a1_0, .int .i64 a1_1] 34 (0, 0)) (by (with_reducible repeat (first | refine blk_drewN ?_ _ | refine blk_drew ?_ | refine blk_alloc ?_ _)); exact BK210.out) hb); have n2_ := Aside0.mk (below_step (by repeat (first | (with_reducible first | exact HB.out | apply below_alloc | apply pw_below_drewN | apply below_drew1 | refine below_set ?_ GE210.out) | exact HB.out)) hb); clear BK210; clear HB; have HO215 := n0_; have BK210 := n1_; have HB := n2_; clear n0_ n1_ n2_; (try clear hb); (try clear hb2); (try clear hk); (try clear hi); (try clear ho0); have hcz26_0 : w25.cell? ⟨gb210, 0, none⟩ = some (.string a1_0) := (blk_cell BK210.out 0).trans rfl; have hcz26_1 : w25.cell? ⟨gb210, 1, none⟩ = some (.int .i64 a1_1) := (blk_cell BK210.out 1).trans rfl; have hfz26_0 := blk_frozen BK210.out 0; have hfz26_1 := blk_frozen BK210.out 1) | (go_at_call 57; (with_reducible refine (pannierref07_At.calls kj4 _ _ l0 a1_0 t216 _ ?side1 ?side2 A13.out).mono ?_); (case side1 => repeat (first | exact (Kd.C_below HR0.out HB.out) | (with_reducible refine Kd.C_alloc ?_ _) | (with_reducible refine Kd.C_drewN ?_ _) | (with_reducible refine Kd.C_drew ?_))); (case side2 => exact HC0.out); rintro e w' ⟨rfl, ⟨nd, rfl⟩⟩; (try first | exact ⟨rfl, _, World.drewN_drewN _ _ _⟩ | exact ⟨rfl, _, Eq.trans (World.drewN_drewN _ _ _) (congrArg (World.drewN _) (Nat.add_assoc _ _ _))⟩)))
       repeat (go_quiet (first | (go_at_call 65; (with_reducible refine (pannierref07_put.calls kj4 _ _ l0 a1_0 a1_1 t213 _ ?side1 ?side2 A12.out).mono ?_); (case side1 => repeat (first | exact (Kd.C_below HR0.out HB.out) | (with_reducible refine Kd.C_alloc ?_ _) | (with_reducible refine Kd.C_drewN ?_ _) | (with_reducible refine Kd.C_drew ?_))); (case side2 => exact HC0.out); rintro e w25 ⟨v214, rfl, ho0, hb⟩; have n0_ := Aside0.mk (Kd.R_lower (Kd.R_newB ho0 (g := gb210) (o := .cells #[.string a1_0, .int .i64 a1_1] 34 (0, 0)) (by (with_reducible repeat (first | refine blk_drewN ?_ _ | refine blk_drew ?_ | refine blk_alloc ?_ _)); exact BK210.out)) (below_size (by repeat (first | (with_reducible first | exact HB.out | apply below_alloc | apply pw_below_drewN | apply below_drew1 | refine below_set ?_ GE210.out) | exact HB.out)))); have n1_ := Aside0.mk (blk_below (g := gb210) (o := .cells #[.string a1_0, .int .i64 a1_1] 34 (0, 0)) (by (with_reducible repeat (first | refine blk_drewN ?_ _ | refine blk_drew ?_ | refine blk_alloc ?_ _)); exact BK210.out) hb); have n2_ := Aside0.mk (below_step (by repeat (first | (with_reducible first | exact HB.out | apply below_alloc | apply pw_below_drewN | apply below_drew1 | refine below_set ?_ GE210.out) | exact HB.out)) hb); clear BK210; clear HB; have HO215 := n0_; have BK210 := n1_; have HB := n2_; clear n0_ n1_ n2_; (try clear hb); (try clear hb2); (try clear hk); (try clear hi); (try clear ho0); have hcz26_0 : w25.cell? ⟨gb210, 0, none⟩ = some (.string a1_0) := (blk_cell BK210.out 0).trans rfl; have hcz26_1 : w25.cell? ⟨gb210, 1, none⟩ = some (.int .i64 a1_1) := (blk_cell BK210.out 1).trans rfl; have hfz26_0 := blk_frozen BK210.out 0; have hfz26_1 := blk_frozen BK210.out 1) | (go_at_call 57; (with_reducible refine (pannierref07_At.calls kj4 _ _ l0 a1_0 t216 _ ?side1 ?side2 A13.out).mono ?_); (case side1 => repeat (first | exact (Kd.C_below HR0.out HB.out) | (with_reducible refine Kd.C_alloc ?_ _) | (with_reducible refine Kd.C_drewN ?_ _) | (with_reducible refine Kd.C_drew ?_))); (case side2 => exact HC0.out); rintro e w' ⟨rfl, ⟨nd, rfl⟩⟩; (try first | exact ⟨rfl, _, World.drewN_drewN _ _ _⟩ | exact ⟨rfl, _, Eq.trans (World.drewN_drewN _ _ _) (congrArg (World.drewN _) (Nat.add_assoc _ _ _))⟩))); try go_wp2_with (first | (go_at_call 65; (with_reducible refine (pannierref07_put.calls kj4 _ _ l0 a1_0 a1_1 t213 _ ?side1 ?side2 A12.out).mono ?_); (case side1 => repeat (first | exact (Kd.C_below HR0.out HB.out) | (with_reducible refine Kd.C_alloc ?_ _) | (with_reducible refine Kd.C_drewN ?_ _) | (with_reducible refine Kd.C_drew ?_))); (case side2 => exact HC0.out); rintro e w25 ⟨v214, rfl, ho0, hb⟩; have n0_ := Aside0.mk (Kd.R_lower (Kd.R_newB ho0 (g := gb210) (o := .cells #[.string a1_0, .int .i64 a1_1] 34 (0, 0)) (by (with_reducible repeat (first | refine blk_drewN ?_ _ | refine blk_drew ?_ | refine blk_alloc ?_ _)); exact BK210.out)) (below_size (by repeat (first | (with_reducible first | exact HB.out | apply below_alloc | apply pw_below_drewN | apply below_drew1 | refine below_set ?_ GE210.out) | exact HB.out)))); have n1_ := Aside0.mk (blk_below (g := gb210) (o := .cells #[.string a1_0, .int .i64 a1_1] 34 (0, 0)) (by (with_reducible repeat (first | refine blk_drewN ?_ _ | refine blk_drew ?_ | refine blk_alloc ?_ _)); exact BK210.out) hb); have n2_ := Aside0.mk (below_step (by repeat (first | (with_reducible first | exact HB.out | apply below_alloc | apply pw_below_drewN | apply below_drew1 | refine below_set ?_ GE210.out) | exact HB.out)) hb); clear BK210; clear HB; have HO215 := n0_; have BK210 := n1_; have HB := n2_; clear n0_ n1_ n2_; (try clear hb); (try clear hb2); (try clear hk); (try clear hi); (try clear ho0); have hcz26_0 : w25.cell? ⟨gb210, 0, none⟩ = some (.string a1_0) := (blk_cell BK210.out 0).trans rfl; have hcz26_1 : w25.cell? ⟨gb210, 1, none⟩ = some (.int .i64 a1_1) := (blk_cell BK210.out 1).trans rfl; have hfz26_0 := blk_frozen BK210.out 0; have hfz26_1 := blk_frozen BK210.out 1) | (go_at_call 57; (with_reducible refine (pannierref07_At.calls kj4 _ _ l0 a1_0 t216 _ ?side1 ?side2 A13.out).mono ?_); (case side1 => repeat (first | exact (Kd.C_below HR0.out HB.out) | (with_reducible refine Kd.C_alloc ?_ _) | (with_reducible refine Kd.C_drewN ?_ _) | (with_reducible refine Kd.C_drew ?_))); (case side2 => exact HC0.out); rintro e w' ⟨rfl, ⟨nd, rfl⟩⟩; (try first | exact ⟨rfl, _, World.drewN_drewN _ _ _⟩ | exact ⟨rfl, _, Eq.trans (World.drewN_drewN _ _ _) (congrArg (World.drewN _) (Nat.add_assoc _ _ _))⟩))))
       go_ret2
       exact ⟨_, by first | rfl | (simp [errW_none, errW_some] <;> rfl) | (simp [*, errW_none, errW_some] <;> rfl), by first | exact Kd.R_nil _ _ _ _ _ | exact Kd.N_nil _ _ _ _ _ | exact Kd.V_nil _ _ _ _ _ | exact Kd.Q_nil _ _ _ _ _ | exact Kd.S_nil _ _ _ _ _, by repeat (first | (with_reducible first | exact HB.out | apply below_alloc | apply pw_below_drewN | apply below_drew1 | refine below_set ?_ GE210.out) | exact HB.out)⟩
end Go.Proofs.Ytenbkljgmgdegaa.PO
