/- What the rows of this claim use, out of the texts of this work (OH, PD0, O0, POx4, POx5, OB). No condition beyond those that each statement names. -/
import Derived.Test.YtenbkljgmgdegaaProg
import Derived.Below
import Derived.Deep.Draws
import Derived.Deep.AppendLies
import Derived.Maps.AppendAt
import Derived.OwnWalk
import Derived.Laws.BytesArg
import Derived.Laws.MakeOwn
import Derived.Laws.OwnMore
import Derived.Deep.OwnRows
import Derived.Tactics
import Derived.Lib.ConvBytes
import Derived.Laws.Slices
import Derived.WalkKit
import Derived.KernelRfl
import Derived.RowKit3
import Derived.Deep.LoopGhost
import Derived.Deep.QuietTactic
import Derived.BigQuiet
import Derived.WideLaws
import Derived.Deep.DeepCutAuto
import Derived.Deep.CutBlock
import Derived.Deep.RegionHeld3
import Derived.Laws.Rows
import Derived.Lib.AppendStr
import Derived.ArgAppend
import Derived.Laws.IdiomCopy
import Derived.OrdersHeld
import Derived.Laws.BitsLemmas
import Derived.RowKit
import Derived.BigRegionIn
import Derived.BigGuardIn
import Derived.Sort.QuietTacIn
import Derived.Lib.Strings
import Derived.Lib.Slices
import Derived.Lib.Walk
import Derived.Lib.Bytealg
import Derived.IntWalk
import Derived.Laws.CopyRow
import Derived.Lib.AppendZerosOnto
import Derived.Lib.Overlaps
import Derived.Laws.Externs
import Derived.Shelf.RegionOpenPlain
import Derived.Deep.RegionLaw
import Derived.Lib.SliceRun
import Derived.Laws.NewBlocks
import Derived.Test.YtenbkljgmgdegaaQjOA
import Derived.Test.YtenbkljgmgdegaaQjPOx10
import Derived.Test.YtenbkljgmgdegaaQjPOx0
import Derived.Test.YtenbkljgmgdegaaQjPOx7
import Derived.Test.YtenbkljgmgdegaaQjX
import Derived.Test.YtenbkljgmgdegaaQjW
import Derived.Test.YtenbkljgmgdegaaQjPOx2
section
namespace Go.Proofs.Ytenbkljgmgdegaa.PO
open Go.Proofs.Ytenbkljgmgdegaa
open Go.RowKit Go.Proofs.YtenbkljgmgdegaaW.PrintWords Go.Proofs.YtenbkljgmgdegaaW.PrintLast Go.Proofs.YtenbkljgmgdegaaW.PrintMore Go.Proofs.Ytenbkljgmgdegaa.XW
set_option linter.unusedVariables false
set_option linter.unusedSimpArgs false
theorem refName_l0 (s : ByteArray) (hs : s.size ≤ 9223372036854775807) : ∀ (k i : Nat), i ≤ s.size → s.size - i < k →
 pannierref07_IsName.l0 k s (i : Int) = some ((s.data.toList.drop i).all okCh && decide (1 ≤ s.size) && decide (s.size ≤ 24))
 | 0, i, _, h => by omega
 | k + 1, i, hi, h => by
   unfold pannierref07_IsName.l0
   by_cases hlt : i < s.size
   · rw [if_pos (by omega), if_pos (by omega)]
     have ih := refName_l0 s hs k (i + 1) (by omega) (by omega)
     rw [wrap_succ hlt hs, ih]
     have hb : bt s (i : Int) = ((s[i]'hlt).toNat : Int) := by simp [bt, hlt]
     have hd : s.data.toList.drop i = s[i]'hlt :: s.data.toList.drop (i + 1) := by
      rw [List.drop_eq_getElem_cons (by simpa using hlt)]
      congr 1
     rw [hb, hd, List.all_cons]
     have ho := okCh_iff (s[i]'hlt)
     generalize (s[i]'hlt) = c at ho
     cases hc : okCh c
     · have hno : ¬ ((97 ≤ c.toNat ∧ c.toNat ≤ 122) ∨ (48 ≤ c.toNat ∧ c.toNat ≤ 57) ∨ c.toNat = 46) := fun z => by rw [ho.2 z] at hc; cases hc
       simp only [Bool.false_and]
       repeat' split
       all_goals first | rfl | (exfalso; omega)
     · have hyes := ho.1 hc
       simp only [Bool.true_and]
       repeat' split
       all_goals first | rfl | (exfalso; omega)
   · rw [if_neg (by omega), List.drop_eq_nil_of_le (by simp; omega)]
     simp only [List.all_nil, Bool.true_and]
     by_cases h1 : 1 ≤ s.size
     · rw [if_pos (by omega)]
       simp [h1]
       omega
     · rw [if_neg (by omega)]
       simp [h1]
theorem refName_f (s : ByteArray) (hs : s.size ≤ 9223372036854775807) (k : Nat) (hk : s.size < k) : pannierref07_IsName.f k s = some (isNameB s) := by
 unfold pannierref07_IsName.f
 rw [show (0 : Int) = ((0 : Nat) : Int) from rfl, refName_l0 s hs k 0 (by omega) (by omega)]
 simp [isNameB]
theorem refDot_f (n : ByteArray) (hs : n.size ≤ 9223372036854775807) (d : Int) (k : Nat) (hk : n.size < k) : pannierref07_IsDot.f k n d = some (dotOk ⟨n, d⟩) := by
 unfold pannierref07_IsDot.f dotOk
 rw [refName_f n hs k hk, Option.bind_some]
 cases isNameB n <;> simp
 by_cases h : 1 ≤ d <;> simp [h]
theorem refRight_l0 (l : List S34) (hl : l.length ≤ 9223372036854775807) (m : Nat) (hm : m ≤ 9223372036854775807) (hz : sizes m l) : ∀ (k i : Nat), 0 < i → i ≤ l.length → l.length - i + m + 1 < k →
 pannierref07_Right.l0 k l (i : Int) = some (rises (rd_T34 l ((i - 1 : Nat) : Int)).f0 (l.drop i))
 | 0, i, _, _, h => by omega
 | k + 1, i, h0, hi, h => by
   unfold pannierref07_Right.l0
   by_cases hlt : i < l.length
   · have hmem : rd_T34 l (i : Int) ∈ l := by
      have : rd_T34 l (i : Int) = l[i] := by simp [rd_T34, List.getD, hlt]
      rw [this]; exact List.getElem_mem hlt
     have hsz := hz _ hmem
     have hw : wrap64 ((i : Int) - 1) = ((i - 1 : Nat) : Int) := by unfold wrap64; omega
     rw [if_pos (by omega), if_pos (by omega), refDot_f _ (by omega) _ k (by omega), Option.bind_some, hw, rd_drop l i hlt, rises]
     have ih := refRight_l0 l hl m hm hz k (i + 1) (by omega) (by omega) (by omega)
     rw [wrap_succ hlt hl, ih, Nat.add_sub_cancel]
     rw [if_pos (show (i : Int) > 0 by omega), if_pos (show (0 : Int) ≤ ((i - 1 : Nat) : Int) by omega), if_pos (show ((i - 1 : Nat) : Int) < (l.length : Int) by omega)]
     cases dotOk (rd_T34 l i) <;> simp
     cases Op.bytesLess (rd_T34 l ((i - 1 : Nat) : Int)).f0.toList (rd_T34 l i).f0.toList <;> simp
   · rw [if_neg (by omega), List.drop_eq_nil_of_le (by omega)]
     rfl
theorem refRight_f (l : List S34) (hl : l.length ≤ 9223372036854775807) (m : Nat) (hm : m ≤ 9223372036854775807) (hz : sizes m l) (k : Nat) (hk : l.length + m + 2 < k) : pannierref07_Right.f k l = some (rightS l) := by
 unfold pannierref07_Right.f rightS
 by_cases h : l.length ≤ 64
 · rw [if_neg (by omega)]
   obtain ⟨k, rfl⟩ : ∃ m, k = m + 1 := ⟨k - 1, by omega⟩
   cases l with
   | nil => unfold pannierref07_Right.l0; simp [rises]
   | cons x l =>
     unfold pannierref07_Right.l0
     have hx : rd_T34 (x :: l) 0 = x := rfl
     have ih := refRight_l0 (x :: l) hl m hm hz k 1 (by omega) (by simp) (by simp only [List.length_cons] at hk ⊢; omega)
     simp only [Nat.sub_self] at ih
     rw [show ((0 : Nat) : Int) = 0 from rfl, hx] at ih
     have hsz := hz x (by simp)
     rw [if_pos (by simp only [List.length_cons]; omega), if_pos (by omega), hx, refDot_f _ (by omega) _ k (by omega), Option.bind_some, if_neg (show ¬ ((0 : Int) > 0) by omega)]
     rw [show wrap64 (0 + 1) = ((1 : Nat) : Int) from by unfold wrap64; decide, ih]
     simp only [List.drop_succ_cons, List.drop_zero, rises, h, decide_true, Bool.true_and]
     cases hd : dotOk x
     · rfl
     · have hn := dotOk_name hd
       simp only [hn]
       simp [hd]
 · rw [if_pos (by omega)]
   simp [h]
section
end
end Go.Proofs.Ytenbkljgmgdegaa.PO
end
section
namespace Go.Proofs.Ytenbkljgmgdegaa.PO
open Go.Proofs.Ytenbkljgmgdegaa
open Go.RowKit Go.Proofs.YtenbkljgmgdegaaW.PrintWords Go.Proofs.YtenbkljgmgdegaaW.PrintLast Go.Proofs.YtenbkljgmgdegaaW.PrintMore
attribute [local go_sem] max2_int min2_int max_two min_two max_three min_three max_four min_four   -- for this text's walks alone
set_option linter.unusedVariables false
set_option linter.unusedSimpArgs false
theorem info5 : (Try.prog.info? 5).map (fun i => (i.zero, i.size, i.bytes)) = some (some (.int .u8 0), 1, 1) := by kernel_rfl
end Go.Proofs.Ytenbkljgmgdegaa.PO
end
section
namespace Go.Proofs.Ytenbkljgmgdegaa.PO
open Go.Proofs.Ytenbkljgmgdegaa
deriving instance DecidableEq for S34
deriving instance DecidableEq for S36
end Go.Proofs.Ytenbkljgmgdegaa.PO
end
section
namespace Go.Proofs.Ytenbkljgmgdegaa.PO
open Go.Proofs.Ytenbkljgmgdegaa
open Go.RowKit Go.Proofs.YtenbkljgmgdegaaW.PrintWords Go.Proofs.YtenbkljgmgdegaaW.PrintLast Go.Proofs.YtenbkljgmgdegaaW.PrintMore
attribute [local go_sem] max2_int min2_int max_two min_two max_three min_three max_four min_four   -- for this text's walks alone
set_option linter.unusedVariables false
set_option linter.unusedSimpArgs false
def order_stands.f (k : Nat) (a0_0 : ByteArray) (a0_1 : Int) (a1_0 : ByteArray) (a1_1 : Int) : Option (Int) := (strings_Compare.f a0_0 a1_0).bind fun t120 => ((cmp_Compare_int64.f a0_1 a1_1).bind fun t121 => ((cmp_Or_int.f k (([t120, t121] : List Int))).bind fun t125 => (some t125)))
theorem order_stands.mono : ∀ a0 a1 a2 a3 k, LeO (order_stands.f k a0 a1 a2 a3) (order_stands.f (k + 1) a0 a1 a2 a3) := by
 intro a0 a1 a2 a3 k
 unfold order_stands.f
 repeat' first
  | (with_reducible exact cmp_Or_int.mono _ _)
  | (with_reducible exact LeO.refl _)
  | (with_reducible exact LeO.none _)
  | (with_reducible refine LeO.ite ?_ ?_)
  | (with_reducible refine LeO.bind ?_ (fun _ => ?_))
  | exact cmp_Or_int.mono _ _
  | exact LeO.none _
  | refine LeO.ite ?_ ?_
  | refine LeO.bind ?_ (fun _ => ?_)
def order_stands.T1 : Bool × List (List Nat × List Nat) := (true, [([], []), ([0], [0]), ([], []), ([2], [2]), ([1, 3], [1, 3]), ([], []), ([5], [5]), ([], []), ([7], [7]), ([6, 8, 4], [6, 8]), ([4, 9], [4, 9]), ([10, 9], [10]), ([11, 11, 0, 1, 2, 3, 4, 5, 6, 7, 8, 9, 10, 11], [11])])
def order_stands.B1 : List Nat := [0, 1, 0, 4, 15, 0, 32, 0, 128, 511, 1023, 2047, 4095]
theorem order_stands.tab1 : rtab .any (opsOf Try.f104 1) = order_stands.T1 := by kernel_rfl
theorem order_stands.bits1 : waitsOk order_stands.T1.2 order_stands.B1 = true := by kernel_rfl
set_option maxHeartbeats 8000000 in
set_option maxRecDepth 100000 in
theorem order_stands.calls (k : Nat) (a0_0 : ByteArray) (a0_1 : Int) (a1_0 : ByteArray) (a1_1 : Int) (r : Int) (w : World) (h : order_stands.f k a0_0 a0_1 a1_0 a1_1 = some r) :
 Calls Try.prog 104 #[.agg #[.string a0_0, .int .i64 a0_1], .agg #[.string a1_0, .int .i64 a1_1]] w fun e w' => e = .returned (.int .i64 r) ∧ Below w.heap.size w w' := by
 have hu34 := Try.underlying34
 have HB := Aside0.mk (Below.refl w.heap.size w)
 have H : ((strings_Compare.f a0_0 a1_0).bind fun t120 => ((cmp_Compare_int64.f a0_1 a1_1).bind fun t121 => ((cmp_Or_int.f k (([t120, t121] : List Int))).bind fun t125 => (some t125)))) = some r := h
 clear h
 replace H := Option.bind_eq_some_iff.mp H
 obtain ⟨t120, A30, H⟩ := H
 replace H : ((cmp_Compare_int64.f a0_1 a1_1).bind fun t121 => ((cmp_Or_int.f k (([t120, t121] : List Int))).bind fun t125 => (some t125))) = some r := H
 have A3 := Aside0.mk A30
 clear A30
 replace H := Option.bind_eq_some_iff.mp H
 obtain ⟨t121, A40, H⟩ := H
 replace H : ((cmp_Or_int.f k (([t120, t121] : List Int))).bind fun t125 => (some t125)) = some r := H
 have A4 := Aside0.mk A40
 clear A40
 obtain ⟨y122, hy122⟩ : ∃ y_ : List Int, y_ = (([t120, t121] : List Int)) := ⟨_, rfl⟩
 replace H : ((cmp_Or_int.f k y122).bind fun t125 => (some t125)) = some r := by first | (rw [hy122]; with_reducible exact H) | (have H2_ := (Option.bind_some _ _).symm.trans H; rw [hy122]; with_reducible exact H2_) | (have H2_ := (Option.bind_some _ _).symm.trans H; with_reducible exact H2_) | with_reducible exact H | (rw [hy122]; exact H) | exact H
 have Ny122 := Aside0.mk hy122
 clear hy122
 replace H := Option.bind_eq_some_iff.mp H
 obtain ⟨t125, A50, H⟩ := H
 replace H : (some t125) = some r := H
 have A5 := Aside0.mk A50
 clear A50
 obtain rfl := Option.some.inj H
 go_enter Try.func104, Try.ntmps104
 try go_wp2_with (first | ((with_reducible refine gate_dst (N := 2) rfl ?_); refine box_event ?hg (N := 2) ?hd (cs := #[.string a0_0, .int .i64 a0_1]) (t := 34) ?hr ?_; (case hd => rfl); (case hg => rfl); (case hr => first | (go_simp; done) | (go_simp; rfl)); intro gb118 hg w6 hbox hb; have n0_ := Aside0.mk (below_step (by repeat (first | (with_reducible first | exact HB.out | apply below_alloc | apply pw_below_drewN | apply below_drew1) | exact HB.out)) hb); have n1_ := Aside0.mk (hbox); have n2_ := Aside0.mk ((by rw [hg]; exact (below_size (by repeat (first | (with_reducible first | exact HB.out | apply below_alloc | apply pw_below_drewN | apply below_drew1) | exact HB.out))) : w.heap.size ≤ gb118)); have n3_ := Aside0.mk ((by rw [hg]; exact (below_size (by repeat (first | (with_reducible first | exact HB.out | apply below_alloc | apply pw_below_drewN | apply below_drew1) | exact HB.out))) : w.heap.size ≤ gb118)); clear HB; have HB := n0_; have BK118 := n1_; have GW118 := n2_; have GE118 := n3_; clear n0_ n1_ n2_ n3_; clear hb hbox hg) | ((with_reducible refine gate_dst (N := 3) rfl ?_); refine box_event ?hg (N := 3) ?hd (cs := #[.string a1_0, .int .i64 a1_1]) (t := 34) ?hr ?_; (case hd => rfl); (case hg => rfl); (case hr => first | (go_simp; done) | (go_simp; rfl)); intro gb119 hg w7 hbox hb; have n0_ := Aside0.mk (blk_below (g := gb118) (o := .cells #[.string a0_0, .int .i64 a0_1] 34 (0, 0)) (by (with_reducible repeat (first | refine blk_drewN ?_ _ | refine blk_drew ?_ | refine blk_alloc ?_ _)); exact BK118.out) hb); have n1_ := Aside0.mk (below_step (by repeat (first | (with_reducible first | exact HB.out | apply below_alloc | apply pw_below_drewN | apply below_drew1 | refine below_set ?_ GE118.out) | exact HB.out)) hb); have n2_ := Aside0.mk (hbox); have n3_ := Aside0.mk ((by rw [hg]; exact (below_size (by repeat (first | (with_reducible first | exact HB.out | apply below_alloc | apply pw_below_drewN | apply below_drew1 | refine below_set ?_ GE118.out) | exact HB.out))) : w.heap.size ≤ gb119)); have n4_ := Aside0.mk ((by rw [hg]; exact (below_size (by repeat (first | (with_reducible first | exact HB.out | apply below_alloc | apply pw_below_drewN | apply below_drew1 | refine below_set ?_ GE118.out) | exact HB.out))) : w.heap.size ≤ gb119)); have n5_ := Aside0.mk ((by rw [hg]; exact Nat.ne_of_lt (blk_lt (g := gb118) (o := .cells #[.string a0_0, .int .i64 a0_1] 34 (0, 0)) (by (with_reducible repeat (first | refine blk_drewN ?_ _ | refine blk_drew ?_ | refine blk_alloc ?_ _)); exact BK118.out)) : gb118 ≠ gb119)); have n6_ := Aside0.mk ((by rw [hg]; exact Nat.ne_of_gt (blk_lt (g := gb118) (o := .cells #[.string a0_0, .int .i64 a0_1] 34 (0, 0)) (by (with_reducible repeat (first | refine blk_drewN ?_ _ | refine blk_drew ?_ | refine blk_alloc ?_ _)); exact BK118.out)) : gb119 ≠ gb118)); clear BK118; clear HB; have BK118 := n0_; have HB := n1_; have BK119 := n2_; have GW119 := n3_; have GE119 := n4_; have NB118_119 := n5_; have NB119_118 := n6_; clear n0_ n1_ n2_ n3_ n4_ n5_ n6_; clear hb hbox hg))
 have n0_ := Aside0.mk (blk_drew BK118.out)
 have n1_ := Aside0.mk (blk_drew BK119.out)
 have n2_ := Aside0.mk (below_drew1 HB.out)
 clear BK118
 clear BK119
 clear HB
 have BK118 := n0_
 have BK119 := n1_
 have HB := n2_
 clear n0_ n1_ n2_
 refine start_ (n := 13) (S := fun w' => w'.cell? ⟨gb118, 0, none⟩ = some (.string a0_0) ∧ w'.cell? ⟨gb118, 1, none⟩ = some (.int .i64 a0_1) ∧ w'.cell? ⟨gb119, 0, none⟩ = some (.string a1_0) ∧ w'.cell? ⟨gb119, 1, none⟩ = some (.int .i64 a1_1)) (ds := []) #[false, false, false, false, false, false, false, false, false, false, false, false, false] (by kernel_rfl) rfl rfl ⟨(blk_cell BK118.out 0).trans rfl, (blk_cell BK118.out 1).trans rfl, (blk_cell BK119.out 0).trans rfl, (blk_cell BK119.out 1).trans rfl⟩ (fun hHeld => ?_); refine with_tabW order_stands.tab1 order_stands.bits1 (fun HT_ HW_ => ?_)
 generalize w7.drew = w8 at BK118 BK119 HB hHeld ⊢
 refine XReg.pu 0 5 (h := ?_)
 refine XReg.pu 2 7 (h := ?_)
 refine XReg.pu 5 10 (h := ?_)
 refine XReg.pu 7 12 (h := ?_)
 refine XReg.tk 1 6 (hS := hHeld) (h := ?_)
 refine XReg.tk 3 8 (hS := hHeld) (h := ?_)
 refine XReg.tk 6 11 (hS := hHeld) (h := ?_)
 refine XReg.tk 8 13 (hS := hHeld) (h := ?_)
 refine one_ (i := 4) (N := some 9) #[true, true, true, true, true, true, true, true, true, false, false, false, false] rfl rfl (_root_.Go.Proofs.YtenbkljgmgdegaaW.PrintLast.one_of HT_.out (by kernel_rfl)) (by decide) (fun K hK => ?_)
 refine goes_ Try.func127 (by kernel_rfl) rfl #[.string a0_0, .string a1_0] (by rfl) rfl rfl (by (try simp only [List.map_toArray, List.map_cons, List.map_nil]); first | done | rfl | (simp only [List.length_drop, List.length_take]; rfl)) ?_
 with_reducible refine (strings_Compare.calls a0_0 a1_0 t120 _ A3.out).mono ?_
 rintro e w' ⟨rfl, ⟨nd, rfl⟩⟩
 refine ⟨_, rfl, ?_⟩
 refine hK.out _ _ ⟨(blk_cell BK118.out 0).trans rfl, (blk_cell BK118.out 1).trans rfl, (blk_cell BK119.out 0).trans rfl, (blk_cell BK119.out 1).trans rfl⟩ (fun hHeld => ?_)
 clear hK K
 refine norm_ (a' := ?_) ?_ ?_
 rotate_left
 · show Act.put _ (some 9) _ = _
   simp only [Act.put, List.setIfInBounds_toArray, List.set_cons_zero, List.set_cons_succ, i64_w, i32_w]
   rfl
 refine one_ (i := 9) (N := some 14) #[true, true, true, true, true, true, true, true, true, true, false, false, false] rfl rfl (_root_.Go.Proofs.YtenbkljgmgdegaaW.PrintLast.one_of HT_.out (by kernel_rfl)) (by decide) (fun K hK => ?_)
 refine goes_ Try.func128 (by kernel_rfl) rfl #[.int .i64 a0_1, .int .i64 a1_1] (by rfl) rfl rfl (by (try simp only [List.map_toArray, List.map_cons, List.map_nil]); first | done | rfl | (simp only [List.length_drop, List.length_take]; rfl)) ?_
 with_reducible refine (cmp_Compare_int64.calls a0_1 a1_1 t121 _ A4.out).mono ?_
 rintro e w' ⟨rfl, ⟨nd, rfl⟩⟩
 refine ⟨_, rfl, ?_⟩
 refine hK.out _ _ ⟨(blk_cell BK118.out 0).trans rfl, (blk_cell BK118.out 1).trans rfl, (blk_cell BK119.out 0).trans rfl, (blk_cell BK119.out 1).trans rfl⟩ (fun hHeld => ?_)
 clear hK K
 refine norm_ (a' := ?_) ?_ ?_
 rotate_left
 · show Act.put _ (some 14) _ = _
   simp only [Act.put, List.setIfInBounds_toArray, List.set_cons_zero, List.set_cons_succ, i64_w, i32_w]
   rfl
 refine one_ (i := 10) (N := some 15) #[true, true, true, true, true, true, true, true, true, true, true, false, false] rfl rfl (_root_.Go.Proofs.YtenbkljgmgdegaaW.PrintLast.one_of HT_.out (by kernel_rfl)) (by decide) (fun K hK => ?_)
 refine Kd.R_lit_step (Kd.int .i64) _ 3 ?hg (N := 15) ?hd (xs := ([t120, t121] : List Int)) (inner := [.int .i64 t120, .int .i64 t121]) (ok := fun _ => True) (okp := fun _ => True) ?hr ?hp (fun _ hk => hk) trivial (Below.refl _ _) (Nat.le_refl _) (by simp) ?_; (case hd => rfl); (case hg => rfl); (case hr => first | (go_simp; done) | (go_simp; rfl)); (case hp => exact (Reps.one (show Kd.M (Kd.int .i64) _ _ _ t120 [.int .i64 t120] from rfl) (Reps.one (show Kd.M (Kd.int .i64) _ _ _ t121 [.int .i64 t121] from rfl) (Reps.none _ _))))
 intro v123 w9 ho10 hb hg_ hnew_
 clear hg_ hnew_
 (first | rw [← Ny122.out] at ho10 | (simp only [Int.reduceToNat] at ho10; rw [← Ny122.out] at ho10))
 have n0_ := Aside0.mk (Kd.R_lower ho10 (below_size (by repeat (first | (with_reducible first | exact HB.out | apply below_alloc | apply pw_below_drewN | apply below_drew1 | refine below_set ?_ GE118.out | refine below_set ?_ GE119.out) | exact HB.out))))
 have n1_ := Aside0.mk (blk_below (g := gb118) (o := .cells #[.string a0_0, .int .i64 a0_1] 34 (0, 0)) (by (with_reducible repeat (first | refine blk_drewN ?_ _ | refine blk_drew ?_ | refine blk_alloc ?_ _)); exact BK118.out) hb)
 have n2_ := Aside0.mk (blk_below (g := gb119) (o := .cells #[.string a1_0, .int .i64 a1_1] 34 (0, 0)) (by (with_reducible repeat (first | refine blk_drewN ?_ _ | refine blk_drew ?_ | refine blk_alloc ?_ _)); exact BK119.out) hb)
 have n3_ := Aside0.mk (below_step (by repeat (first | (with_reducible first | exact HB.out | apply below_alloc | apply pw_below_drewN | apply below_drew1 | refine below_set ?_ GE118.out | refine below_set ?_ GE119.out) | exact HB.out)) hb)
 clear BK118
 clear BK119
 clear HB
 have HO124 := n0_
 have BK118 := n1_
 have BK119 := n2_
 have HB := n3_
 clear n0_ n1_ n2_ n3_
 clear hb ho10
 obtain ⟨Ao11, co11, eo11⟩ := Kd.R_slice HO124.out
 (first | subst eo11 | (injection eo11 with f1_ f2_ f3_; have f4_ := f1_.symm; have f5_ := f3_.symm; clear f1_ f2_ f3_; subst f4_; subst f5_))
 refine hK.out _ _ ⟨(blk_cell BK118.out 0).trans rfl, (blk_cell BK118.out 1).trans rfl, (blk_cell BK119.out 0).trans rfl, (blk_cell BK119.out 1).trans rfl⟩ (fun hHeld => ?_)
 clear hK K
 refine norm_ (a' := ?_) ?_ ?_
 rotate_left
 · show Act.put _ (some 15) _ = _
   simp only [Act.put, List.setIfInBounds_toArray, List.set_cons_zero, List.set_cons_succ, i64_w, i32_w]
   rfl
 refine one_ (i := 11) (N := some 16) #[true, true, true, true, true, true, true, true, true, true, true, true, false] rfl rfl (_root_.Go.Proofs.YtenbkljgmgdegaaW.PrintLast.one_of HT_.out (by kernel_rfl)) (by decide) (fun K hK => ?_)
 refine goes_ Try.func126 (by kernel_rfl) rfl #[.slice Ao11 y122.length co11] (by rfl) rfl rfl (by (try simp only [List.map_toArray, List.map_cons, List.map_nil]); first | done | rfl | (simp only [List.length_drop, List.length_take]; rfl)) ?_
 with_reducible refine (cmp_Or_int.calls k _ _ y122 t125 _ ?side1 ?side2 A5.out).mono ?_
 (case side1 => repeat (first | exact (Kd.R_reads' HO124.out).2.2 | (with_reducible refine Kd.C_alloc ?_ _) | (with_reducible refine Kd.C_drewN ?_ _) | (with_reducible refine Kd.C_drew ?_)))
 (case side2 => exact (Kd.R_reads' HO124.out).2.1)
 rintro e w' ⟨rfl, ⟨nd, rfl⟩⟩
 refine ⟨_, rfl, ?_⟩
 refine hK.out _ _ ⟨(blk_cell BK118.out 0).trans rfl, (blk_cell BK118.out 1).trans rfl, (blk_cell BK119.out 0).trans rfl, (blk_cell BK119.out 1).trans rfl⟩ (fun hHeld => ?_)
 clear hK K
 refine norm_ (a' := ?_) ?_ ?_
 rotate_left
 · show Act.put _ (some 16) _ = _
   simp only [Act.put, List.setIfInBounds_toArray, List.set_cons_zero, List.set_cons_succ, i64_w, i32_w]
   rfl
 refine XReg.pu 12 4 (h := ?_)
 refine done_ (done_of HT_.out (by kernel_rfl)) ?_
 try go_wp2
 go_ret
 exact ⟨by first | rfl | (simp [errW_none, errW_some] <;> rfl) | (simp [*, errW_none, errW_some] <;> rfl), by repeat (first | (with_reducible first | exact HB.out | apply below_alloc | apply pw_below_drewN | apply below_drew1 | refine below_set ?_ GE118.out | refine below_set ?_ GE119.out) | exact HB.out)⟩
end Go.Proofs.Ytenbkljgmgdegaa.PO
end
section
namespace Go.Proofs.Ytenbkljgmgdegaa.PO
open Go.Proofs.Ytenbkljgmgdegaa
open Go.RowKit Go.Proofs.YtenbkljgmgdegaaW.PrintWords Go.Proofs.YtenbkljgmgdegaaW.PrintLast Go.Proofs.YtenbkljgmgdegaaW.PrintMore
attribute [local go_sem] max2_int min2_int max_two min_two max_three min_three max_four min_four   -- for this text's walks alone
set_option linter.unusedVariables false
set_option linter.unusedSimpArgs false
mutual
def order_Right.j0 : Nat → Bool → ByteArray → Int → List (S34) → ByteArray → Int → ByteArray → Int → List (S34) → Option (Bool)
 | 0, _, _, _, _, _, _, _, _, _ => none
 | k + 1, x48, x127000, x127001, x127002, x127003, x127004, x127005, x127006, x127007 => if x48 = true then (some false) else (order_Right.l0 k x127007 (x127007.length : Int) 0 x127000 x127001 x127002 x127003 x127004 x127005 x127006 x127007)
def order_Right.l0 : Nat → List (S34) → Int → Int → ByteArray → Int → List (S34) → ByteArray → Int → ByteArray → Int → List (S34) → Option (Bool)
 | 0, _, _, _, _, _, _, _, _, _, _, _ => none
 | k + 1, x50, x51, x52, x127000, x127001, x127002, x127003, x127004, x127005, x127006, x127007 => if x52 < x51 then (if 0 ≤ x52 then (if x52 < (x50.length : Int) then ((vector_Has.f k x127002 ((rd_T34 x50 x52).f0) ((rd_T34 x50 x52).f1)).bind fun t137 => (if t137 = true then (if x52 > 0 then (if 0 ≤ (wrap64 (x52 - 1)) then (if (wrap64 (x52 - 1)) < (x127007.length : Int) then ((order_stands.f k ((rd_T34 x127007 (wrap64 (x52 - 1))).f0) ((rd_T34 x127007 (wrap64 (x52 - 1))).f1) ((rd_T34 x50 x52).f0) ((rd_T34 x50 x52).f1)).bind fun t139 => (if t139 ≥ 0 then (some false) else (order_Right.l0 k x50 x51 (wrap64 (x52 + 1)) x127000 x127001 x127002 x127003 x127004 x127005 x127006 x127007))) else (none)) else (none)) else (order_Right.l0 k x50 x51 (wrap64 (x52 + 1)) x127000 x127001 x127002 x127003 x127004 x127005 x127006 x127007)) else (some false))) else (none)) else (none)) else (if x127004 = 1 then (if (x127007.length : Int) = 0 then (if x127006 ≥ 1 then (some (decide (x127006 ≤ 9999))) else (some false)) else (some false)) else (if x127004 = 2 then (if x127006 ≥ 1 then (some (decide (x127006 ≤ 9999))) else (some false)) else (if x127004 = 3 then (some (x127006 == 0)) else (some false))))
end
def order_Right.f (k : Nat) (a0_0 : ByteArray) (a0_1 : Int) (l0_2 : List (S34)) (a0_3 : ByteArray) (a0_4 : Int) (a0_5 : ByteArray) (a0_6 : Int) (l0_7 : List (S34)) : Option (Bool) := (vector_Right.f k (([(⟨a0_0, a0_1⟩ : S34)] : List (S34)))).bind fun t130 => (if t130 = true then ((vector_Right.f k l0_2).bind fun t131 => (if t131 = true then ((vector_At.f k l0_2 a0_0).bind fun t132 => (if t132 = (wrap64 (a0_1 - 1)) then ((order_isText.f a0_3).bind fun t133 => (if t133 = true then ((order_isText.f a0_5).bind fun t134 => (if t134 = true then (order_Right.j0 k (decide ((l0_7.length : Int) > 128)) a0_0 a0_1 l0_2 a0_3 a0_4 a0_5 a0_6 l0_7) else (order_Right.j0 k true a0_0 a0_1 l0_2 a0_3 a0_4 a0_5 a0_6 l0_7))) else (order_Right.j0 k true a0_0 a0_1 l0_2 a0_3 a0_4 a0_5 a0_6 l0_7))) else (order_Right.j0 k true a0_0 a0_1 l0_2 a0_3 a0_4 a0_5 a0_6 l0_7))) else (order_Right.j0 k true a0_0 a0_1 l0_2 a0_3 a0_4 a0_5 a0_6 l0_7))) else (order_Right.j0 k true a0_0 a0_1 l0_2 a0_3 a0_4 a0_5 a0_6 l0_7))
theorem order_Right.mono_l : ∀ k, (∀ y0 y1 y2 y3 y4 y5 y6 y7 y8, LeO (order_Right.j0 k y0 y1 y2 y3 y4 y5 y6 y7 y8) (order_Right.j0 (k + 1) y0 y1 y2 y3 y4 y5 y6 y7 y8)) ∧ (∀ y0 y1 y2 y3 y4 y5 y6 y7 y8 y9 y10, LeO (order_Right.l0 k y0 y1 y2 y3 y4 y5 y6 y7 y8 y9 y10) (order_Right.l0 (k + 1) y0 y1 y2 y3 y4 y5 y6 y7 y8 y9 y10))
 | 0 => ⟨fun _ _ _ _ _ _ _ _ _ r h => by simp [order_Right.j0] at h, fun _ _ _ _ _ _ _ _ _ _ _ r h => by simp [order_Right.l0] at h⟩
 | k + 1 => by
   obtain ⟨ih0, ih1⟩ := order_Right.mono_l k
   refine ⟨?_, ?_⟩
   · intro y0 y1 y2 y3 y4 y5 y6 y7 y8
     unfold order_Right.j0
     repeat' first
     | (with_reducible exact ih0 _ _ _ _ _ _ _ _ _)
     | (with_reducible exact ih1 _ _ _ _ _ _ _ _ _ _ _)
     | (with_reducible exact order_stands.mono _ _ _ _ _)
     | (with_reducible exact vector_At.mono _ _ _)
     | (with_reducible exact vector_Has.mono _ _ _ _)
     | (with_reducible exact vector_Right.mono _ _)
     | (with_reducible exact LeO.refl _)
     | (with_reducible exact LeO.none _)
     | (with_reducible refine LeO.ite ?_ ?_)
     | (with_reducible refine LeO.bind ?_ (fun _ => ?_))
     | exact ih0 _ _ _ _ _ _ _ _ _
     | exact ih1 _ _ _ _ _ _ _ _ _ _ _
     | exact order_stands.mono _ _ _ _ _
     | exact vector_At.mono _ _ _
     | exact vector_Has.mono _ _ _ _
     | exact vector_Right.mono _ _
     | exact LeO.none _
     | refine LeO.ite ?_ ?_
     | refine LeO.bind ?_ (fun _ => ?_)
   · intro y0 y1 y2 y3 y4 y5 y6 y7 y8 y9 y10
     unfold order_Right.l0
     repeat' first
     | (with_reducible exact ih0 _ _ _ _ _ _ _ _ _)
     | (with_reducible exact ih1 _ _ _ _ _ _ _ _ _ _ _)
     | (with_reducible exact order_stands.mono _ _ _ _ _)
     | (with_reducible exact vector_At.mono _ _ _)
     | (with_reducible exact vector_Has.mono _ _ _ _)
     | (with_reducible exact vector_Right.mono _ _)
     | (with_reducible exact LeO.refl _)
     | (with_reducible exact LeO.none _)
     | (with_reducible refine LeO.ite ?_ ?_)
     | (with_reducible refine LeO.bind ?_ (fun _ => ?_))
     | exact ih0 _ _ _ _ _ _ _ _ _
     | exact ih1 _ _ _ _ _ _ _ _ _ _ _
     | exact order_stands.mono _ _ _ _ _
     | exact vector_At.mono _ _ _
     | exact vector_Has.mono _ _ _ _
     | exact vector_Right.mono _ _
     | exact LeO.none _
     | refine LeO.ite ?_ ?_
     | refine LeO.bind ?_ (fun _ => ?_)
theorem order_Right.mono : ∀ a0 a1 a2 a3 a4 a5 a6 a7 k, LeO (order_Right.f k a0 a1 a2 a3 a4 a5 a6 a7) (order_Right.f (k + 1) a0 a1 a2 a3 a4 a5 a6 a7) := by
 intro a0 a1 a2 a3 a4 a5 a6 a7 k
 obtain ⟨ih0, ih1⟩ := order_Right.mono_l k
 unfold order_Right.f
 repeat' first
  | (with_reducible exact ih0 _ _ _ _ _ _ _ _ _)
  | (with_reducible exact ih1 _ _ _ _ _ _ _ _ _ _ _)
  | (with_reducible exact order_stands.mono _ _ _ _ _)
  | (with_reducible exact vector_At.mono _ _ _)
  | (with_reducible exact vector_Has.mono _ _ _ _)
  | (with_reducible exact vector_Right.mono _ _)
  | (with_reducible exact LeO.refl _)
  | (with_reducible exact LeO.none _)
  | (with_reducible refine LeO.ite ?_ ?_)
  | (with_reducible refine LeO.bind ?_ (fun _ => ?_))
  | exact ih0 _ _ _ _ _ _ _ _ _
  | exact ih1 _ _ _ _ _ _ _ _ _ _ _
  | exact order_stands.mono _ _ _ _ _
  | exact vector_At.mono _ _ _
  | exact vector_Has.mono _ _ _ _
  | exact vector_Right.mono _ _
  | exact LeO.none _
  | refine LeO.ite ?_ ?_
  | refine LeO.bind ?_ (fun _ => ?_)
def order_Right.T7 : Bool × List (List Nat × List Nat) := (true, [([], []), ([0], [0]), ([], []), ([1, 2], [1, 2]), ([3], [3]), ([4, 3], [4]), ([5], [5]), ([6, 5], [5, 6]), ([7, 5, 5], [5, 7]), ([8], [8]), ([9, 8], [8, 9]), ([8], [8]), ([11, 8], [8, 11]), ([10, 12, 8], [8, 10, 12]), ([13, 8], [8, 13]), ([8], [8]), ([14, 15, 8, 8], [8, 14, 15]), ([16, 8], [8, 16]), ([8, 17, 5], [5, 8, 17]), ([5, 18], [5, 18])])
def order_Right.B7 : List Nat := [0, 1, 0, 7, 15, 31, 63, 127, 255, 511, 1023, 511, 2559, 8191, 16383, 511, 65535, 131071, 262143, 524287]
theorem order_Right.tab7 : rtab .any (opsOf Try.f45 7) = order_Right.T7 := by kernel_rfl
theorem order_Right.bits7 : waitsOk order_Right.T7.2 order_Right.B7 = true := by kernel_rfl
end Go.Proofs.Ytenbkljgmgdegaa.PO
end
section
namespace Go.Proofs.Ytenbkljgmgdegaa.PO
open Go.Proofs.Ytenbkljgmgdegaa
open Go.RowKit Go.Proofs.YtenbkljgmgdegaaW.PrintWords Go.Proofs.YtenbkljgmgdegaaW.PrintLast Go.Proofs.YtenbkljgmgdegaaW.PrintMore Go.Proofs.Ytenbkljgmgdegaa.XW
set_option linter.unusedVariables false
set_option linter.unusedSimpArgs false
theorem at_l0 (n : ByteArray) (l : List S34) (hl : l.length ≤ 9223372036854775807) : ∀ (k i : Nat), i ≤ l.length → l.length - i < k →
 vector_At.l0 k n l (l.length : Int) (i : Int) = some (atS n (l.drop i))
 | 0, i, _, h => by omega
 | k + 1, i, hi, h => by
   unfold vector_At.l0
   by_cases hlt : i < l.length
   · rw [if_pos (by omega), if_pos (by omega), if_pos (by omega), rd_drop l i hlt, atS]
     have ih := at_l0 n l hl k (i + 1) (by omega) (by omega)
     rw [wrap_succ hlt hl, ih]
     split <;> rfl
   · rw [if_neg (by omega), List.drop_eq_nil_of_le (by omega)]
     rfl
theorem at_f (n : ByteArray) (l : List S34) (hl : l.length ≤ 9223372036854775807) (k : Nat) (hk : l.length < k) : vector_At.f k l n = some (atS n l) := by
 unfold vector_At.f
 rw [show (0 : Int) = ((0 : Nat) : Int) from rfl, at_l0 n l hl k 0 (by omega) (by omega)]
 simp
theorem text_f (s : ByteArray) : order_isText.f s = some (decide (1 ≤ s.size) && decide (s.size ≤ 32)) := by
 unfold order_isText.f
 by_cases h : s.toList = []
 · rw [if_pos h]
   have : s.size = 0 := by rw [ByteArray.toList_eq] at h; have := congrArg List.length h; simpa using this
   simp [this]
 · rw [if_neg h]
   have : 1 ≤ s.size := by
    rcases Nat.eq_zero_or_pos s.size with h0 | h0
    · exact absurd (by rw [ByteArray.toList_eq]; exact List.eq_nil_of_length_eq_zero (by simpa using h0)) h
    · exact h0
   simp [this]; omega
def lessD (a b : S34) : Bool := Op.bytesLess a.f0.toList b.f0.toList || (decide (a.f0.toList = b.f0.toList) && decide (a.f1 < b.f1))
theorem stands_f (k : Nat) (hk : 3 ≤ k) (a b : S34) : ∃ t, order_stands.f k a.f0 a.f1 b.f0 b.f1 = some t ∧ (t ≥ 0 ↔ lessD a b = false) := by
 obtain ⟨k, rfl⟩ : ∃ m, k = m + 3 := ⟨k - 3, by omega⟩
 have hc := cmp_lt a.f0.toList b.f0.toList
 unfold order_stands.f strings_Compare.f cmp_Compare_int64.f cmp_isNaN_int64.f cmp_Or_int.f
 rw [ByteArray.toList_eq, ByteArray.toList_eq] at hc
 simp only [Option.bind_some, bne_self_eq_false, Bool.false_eq_true, if_false]
 obtain ⟨c, hcc⟩ : ∃ c, Lib.compareBytes a.f0.data.toList b.f0.data.toList = c := ⟨_, rfl⟩
 rw [hcc] at hc ⊢
 have e0 : ∀ x y : Int, rd ([x, y] : List Int) 0 = x := fun x y => rfl
 have e1 : ∀ x y : Int, rd ([x, y] : List Int) 1 = y := fun x y => rfl
 have w0 : wrap64 ((0 : Int) + 1) = 1 := by unfold wrap64; omega
 have w1 : wrap64 ((1 : Int) + 1) = 2 := by unfold wrap64; omega
 have key : ∀ d : Int, cmp_Or_int.l0 (k + 3) 0 [c, d] (([c, d] : List Int).length : Int) 0 = some (if c = 0 then d else c) := by
  intro d
  simp only [cmp_Or_int.l0, List.length_cons, List.length_nil]
  rw [if_pos (by omega), if_pos (by omega), if_pos (by omega), e0]
  by_cases h0 : c = 0
  · rw [if_pos h0, w0, if_pos (by omega), if_pos (by omega), if_pos (by omega), e1]
    by_cases h1 : d = 0
    · rw [if_pos h1, w1, if_neg (by omega), if_pos h0, h1]
    · rw [if_neg h1, if_pos h0]
  · rw [if_neg h0, if_neg h0]
 unfold lessD
 rw [ByteArray.toList_eq, ByteArray.toList_eq]
 by_cases h0 : c = 0
 · have he := hc.2.1 h0
   have hl : Op.bytesLess a.f0.data.toList b.f0.data.toList = false := by rw [he]; exact bl_irr _
   by_cases h1 : a.f1 < b.f1
   · rw [if_pos h1]; simp only [Option.bind_some, key]; exact ⟨_, rfl, by simp [h0, he, h1, bl_irr]⟩
   · rw [if_neg h1]
     by_cases h2 : a.f1 > b.f1
     · rw [if_pos h2]; simp only [Option.bind_some, key]; exact ⟨_, rfl, by simp [h0, he, h1, bl_irr]⟩
     · rw [if_neg h2]; simp only [Option.bind_some, key]; exact ⟨_, rfl, by simp [h0, he, h1, bl_irr]⟩
 · have he : ¬ a.f0.data.toList = b.f0.data.toList := fun h => h0 (hc.2.2 h)
   have h3 : c ≥ 0 ↔ Op.bytesLess a.f0.data.toList b.f0.data.toList = false := by
    cases hb : Op.bytesLess a.f0.data.toList b.f0.data.toList
    · have := mt hc.1.1 (by simp [hb]); simp; omega
    · have := hc.1.2 hb; simp; omega
   have fin : ∀ d : Int, (if c = 0 then d else c) ≥ 0 ↔ (Op.bytesLess a.f0.data.toList b.f0.data.toList || (decide (a.f0.data.toList = b.f0.data.toList) && decide (a.f1 < b.f1))) = false := fun d => by
    rw [if_neg h0]; simp [he]; simpa using h3
   by_cases h1 : a.f1 < b.f1
   · rw [if_pos h1]; simp only [Option.bind_some, key]; exact ⟨_, rfl, fin _⟩
   · rw [if_neg h1]
     by_cases h2 : a.f1 > b.f1
     · rw [if_pos h2]; simp only [Option.bind_some, key]; exact ⟨_, rfl, fin _⟩
     · rw [if_neg h2]; simp only [Option.bind_some, key]; exact ⟨_, rfl, fin _⟩
def seenS (deps : List S34) : Option S34 → List S34 → Bool
 | _, [] => true
 | p, x :: l => hasS deps x.f0 x.f1 && (match p with | none => true | some q => lessD q x) && seenS deps (some x) l
def kindS (o : S36) : Bool :=
 if o.f3 = 1 then decide (o.f6.length = 0) && decide (1 ≤ o.f5) && decide (o.f5 ≤ 9999)
 else if o.f3 = 2 then decide (1 ≤ o.f5) && decide (o.f5 ≤ 9999) else decide (o.f3 = 3) && decide (o.f5 = 0)
def rightO (o : S36) : Bool :=
 dotOk o.f0 && rightS o.f1 && decide (atS o.f0.f0 o.f1 = o.f0.f1 - 1) && (decide (1 ≤ o.f2.size) && decide (o.f2.size ≤ 32)) && (decide (1 ≤ o.f4.size) && decide (o.f4.size ≤ 32)) && decide (o.f6.length ≤ 128) && seenS o.f1 none o.f6 && kindS o
theorem rightS_one (d : S34) : rightS [d] = dotOk d := by
 unfold rightS
 simp only [rises, List.length_cons, List.length_nil, Bool.and_true]
 cases h : dotOk d
 · simp
 · have := dotOk_name h; rw [this]; simp
theorem kind_bool (o : S36) : (if o.f3 = 1 then (if (o.f6.length : Int) = 0 then (if o.f5 ≥ 1 then (some (decide (o.f5 ≤ 9999))) else (some false)) else (some false)) else (if o.f3 = 2 then (if o.f5 ≥ 1 then (some (decide (o.f5 ≤ 9999))) else (some false)) else (if o.f3 = 3 then (some (o.f5 == 0)) else (some false)))) = some (kindS o) := by
 unfold kindS
 by_cases h1 : o.f3 = 1
 · rw [if_pos h1, if_pos h1]
   by_cases h2 : o.f6.length = 0
   · rw [if_pos (by omega)]
     by_cases h3 : o.f5 ≥ 1
     · rw [if_pos h3]; simp [h2, h3]
     · rw [if_neg h3]; simp [h3]
   · rw [if_neg (by omega)]; simp [h2]
 · rw [if_neg h1, if_neg h1]
   by_cases h2 : o.f3 = 2
   · rw [if_pos h2, if_pos h2]
     by_cases h3 : o.f5 ≥ 1
     · rw [if_pos h3]; simp [h3]
     · rw [if_neg h3]; simp [h3]
   · rw [if_neg h2, if_neg h2]
     by_cases h3 : o.f3 = 3
     · rw [if_pos h3]; simp [h3]; rfl
     · rw [if_neg h3]; simp [h3]
theorem orderRight_l0 (o : S36) (h1 : o.f1.length ≤ 9223372036854775807) (h6 : o.f6.length ≤ 9223372036854775807) : ∀ (k i : Nat), i ≤ o.f6.length → o.f6.length - i + o.f1.length + 3 < k →
 order_Right.l0 k o.f6 (o.f6.length : Int) (i : Int) o.f0.f0 o.f0.f1 o.f1 o.f2 o.f3 o.f4 o.f5 o.f6 = some (seenS o.f1 (if i = 0 then none else some (rd_T34 o.f6 ((i - 1 : Nat) : Int))) (o.f6.drop i) && kindS o)
 | 0, i, _, h => by omega
 | k + 1, i, hi, h => by
   unfold order_Right.l0
   by_cases hlt : i < o.f6.length
   · rw [if_pos (by omega), if_pos (by omega), if_pos (by omega), has_f _ h1 _ _ k (by omega), Option.bind_some, rd_drop _ i hlt]
     unfold seenS
     have ih := orderRight_l0 o h1 h6 k (i + 1) (by omega) (by omega)
     rw [if_neg (by omega), Nat.add_sub_cancel] at ih
     cases hh : hasS o.f1 (rd_T34 o.f6 (i : Int)).f0 (rd_T34 o.f6 (i : Int)).f1
     · simp
     · rw [if_pos rfl]
       by_cases h0 : i = 0
       · subst h0
         rw [if_neg (by omega), wrap_succ hlt h6, ih]
         simp
       · have hw : wrap64 ((i : Int) - 1) = ((i - 1 : Nat) : Int) := by unfold wrap64; omega
         obtain ⟨t, ht, ht2⟩ := stands_f k (by omega) (rd_T34 o.f6 ((i - 1 : Nat) : Int)) (rd_T34 o.f6 (i : Int))
         rw [if_pos (by omega), hw, if_pos (by omega), if_pos (by omega), ht, Option.bind_some, if_neg h0]
         cases hl : lessD (rd_T34 o.f6 ((i - 1 : Nat) : Int)) (rd_T34 o.f6 (i : Int))
         · rw [if_pos (ht2.2 hl)]; simp [hl]
         · rw [if_neg (fun h => by have := ht2.1 h; rw [hl] at this; cases this), wrap_succ hlt h6, ih]; simp [hl]
   · rw [if_neg (by omega), List.drop_eq_nil_of_le (by omega), kind_bool]
     simp [seenS]
theorem orderRight_j0 (k : Nat) (o : S36) (h1 : o.f1.length ≤ 9223372036854775807) (h6 : o.f6.length ≤ 9223372036854775807) (hk : o.f6.length + o.f1.length + 4 < k) (b : Bool) :
 order_Right.j0 k b o.f0.f0 o.f0.f1 o.f1 o.f2 o.f3 o.f4 o.f5 o.f6 = some (!b && (seenS o.f1 none o.f6 && kindS o)) := by
 obtain ⟨k, rfl⟩ : ∃ m, k = m + 1 := ⟨k - 1, by omega⟩
 unfold order_Right.j0
 have := orderRight_l0 o h1 h6 k 0 (by omega) (by omega)
 rw [show ((0 : Nat) : Int) = 0 from rfl] at this
 cases b
 · show (if false = true then some false else _) = _
   rw [if_neg (by simp), this]; simp
 · show (if true = true then some false else _) = _
   rw [if_pos rfl]; simp
theorem orderRight_f (o : S36) (h1 : o.f1.length ≤ 9223372036854775807) (h6 : o.f6.length ≤ 9223372036854775807) (k : Nat) (hk : o.f6.length + o.f1.length + 4 < k) :
 order_Right.f k o.f0.f0 o.f0.f1 o.f1 o.f2 o.f3 o.f4 o.f5 o.f6 = some (rightO o) := by
 unfold order_Right.f rightO
 rw [right_f _ (by simp) k (by simp; omega), right_f _ h1 k (by omega), at_f _ _ h1 k (by omega), text_f, text_f]
 simp only [Option.bind_some]
 rw [show rightS [⟨o.f0.f0, o.f0.f1⟩] = dotOk o.f0 from rightS_one _]
 cases hd : dotOk o.f0
 · rw [if_neg (by simp), orderRight_j0 k o h1 h6 hk]; simp
 rw [if_pos rfl]
 cases hr : rightS o.f1
 · rw [if_neg (by simp), orderRight_j0 k o h1 h6 hk]; simp
 rw [if_pos rfl]
 have hw : wrap64 (o.f0.f1 - 1) = o.f0.f1 - 1 := by have := dot_parts (n := o.f0.f0) (d := o.f0.f1) hd; unfold wrap64; omega
 rw [hw]
 by_cases ha : atS o.f0.f0 o.f1 = o.f0.f1 - 1
 · rw [if_pos ha]
   cases h2 : (decide (1 ≤ o.f2.size) && decide (o.f2.size ≤ 32))
   · rw [if_neg (by simp), orderRight_j0 k o h1 h6 hk]; simp
   rw [if_pos rfl]
   cases h4 : (decide (1 ≤ o.f4.size) && decide (o.f4.size ≤ 32))
   · rw [if_neg (by simp), orderRight_j0 k o h1 h6 hk]; simp
   rw [if_pos rfl, orderRight_j0 k o h1 h6 hk]
   have : (!decide ((o.f6.length : Int) > 128)) = decide (o.f6.length ≤ 128) := by
    rw [Bool.eq_iff_iff]; simp; omega
   rw [this]
   simp [ha, Bool.and_assoc]
 · rw [if_neg ha, orderRight_j0 k o h1 h6 hk]; simp [ha]
end Go.Proofs.Ytenbkljgmgdegaa.PO
end
