/- What the rows of this claim use, out of the texts of this work (UPOx0). No condition beyond those that each statement names. -/
import Derived.Test.YtjejhgjdmbodiaaProg
import Derived.Below
import Derived.Deep.Draws
import Derived.Deep.AppendLies
import Derived.Maps.AppendAt
import Derived.OwnWalk
import Derived.Laws.BytesArg
import Derived.Laws.MakeOwn
import Derived.Laws.OwnMore
import Derived.Deep.OwnRows
import Derived.Tactics
import Derived.Lib.ConvBytes
import Derived.Laws.Slices
import Derived.WalkKit
import Derived.KernelRfl
import Derived.RowKit3
import Derived.Deep.LoopGhost
import Derived.Deep.QuietTactic
import Derived.BigQuiet
import Derived.WideLaws
import Derived.Deep.DeepCutAuto
import Derived.Deep.CutBlock
import Derived.Deep.RegionHeld3
import Derived.Laws.Rows
import Derived.Lib.AppendStr
import Derived.ArgAppend
import Derived.Laws.IdiomCopy
import Derived.OrdersHeld
import Derived.Laws.BitsLemmas
import Derived.RowKit
import Derived.BigRegionIn
import Derived.BigGuardIn
import Derived.Sort.QuietTacIn
import Derived.Lib.Strings
import Derived.Lib.Slices
import Derived.Lib.Walk
import Derived.Lib.Bytealg
import Derived.IntWalk
import Derived.Laws.CopyRow
import Derived.Lib.AppendZerosOnto
import Derived.Lib.Overlaps
import Derived.Laws.Externs
import Derived.Shelf.RegionOpenPlain
import Derived.Deep.RegionLaw
import Derived.Lib.SliceRun
import Derived.Laws.NewBlocks
import Derived.WalkMore
import Derived.WalkSpells
import Derived.Laws.RangeAny
import Derived.RangeFuncNested
import Derived.RangeFuncBound
import Derived.RangeFuncCalls
import Derived.RangeFuncLeaves
import Derived.RangeFuncKeeps
import Derived.Shelf.Abstract
import Derived.Shelf.RegionOpen
import Derived.OwnWalkIn
import Derived.TacticsInMore
import Derived.LoopNIn
import Derived.LoopIn
import Derived.Deep.RegionHeld
import Derived.Laws.IdiomRangeMap
import Derived.MapKept
import Derived.Deep.Slices
import Derived.Deep.Fields
import Derived.ChangeSame
import Derived.ProofKit
import Derived.Laws.StructEq
import Derived.Test.YtjejhgjdmbodiaaZdW
import Derived.Test.YtjejhgjdmbodiaaZdX
section
namespace Go.Proofs.Ytjejhgjdmbodiaa.PO
open Go.RowKit Go.Proofs.YtjejhgjdmbodiaaW.PrintWords Go.Proofs.YtjejhgjdmbodiaaW.PrintLast Go.Proofs.YtjejhgjdmbodiaaW.PrintMore
attribute [local go_sem] max2_int min2_int max_two min_two max_three min_three max_four min_four   -- for this text's walks alone
set_option linter.unusedVariables false
set_option linter.unusedSimpArgs false
def errW : Option Int → Value
 | none => .nilIface
 | some c => .iface 0 (.int .i64 c)
theorem errW_none : errW none = .nilIface := rfl
theorem errW_some (c : Int) : errW (some c) = .iface 0 (.int .i64 c) := rfl
theorem info72 : (Try.prog.info? 72).map (fun i => (i.zero, i.size, i.bytes)) = some (some (.agg #[(.string ⟨#[]⟩), (.int .i64 0)]), 2, 24) := by kernel_rfl
structure S72 where
 f0 : ByteArray
 f1 : Int
def z72 : S72 := ⟨(⟨#[]⟩ : ByteArray), (0 : Int)⟩
def k72 : Kd S72 := Kd.iso (Kd.pair Kd.string (Kd.int .i64)) (fun x : S72 => (x.f0, x.f1))
theorem k72_open {w : World} {x : S72} {cs : List Value} (h : k72.K w x cs) : cs = [.string x.f0, .int .i64 x.f1] := by
 obtain ⟨_, _, rfl, rfl, rfl⟩ := h
 exact rfl
theorem k72_mk (w : World) (x : S72)  : k72.K w x [.string x.f0, .int .i64 x.f1] := ⟨[.string x.f0], [.int .i64 x.f1], rfl, rfl, rfl⟩
theorem k72_mkM (w : World) (base : Nat) (ok : Nat → Prop) (x : S72)  : k72.M w base ok x [.string x.f0, .int .i64 x.f1] := ⟨[.string x.f0], [.int .i64 x.f1], rfl, rfl, rfl⟩
def rd_T72 (xs : List S72) (i : Int) : S72 := xs.getD i.toNat z72
theorem at_T72 {w : World} {A : Option Addr} {n : Nat} {xs : List S72} (h : Kd.C k72 w A n xs) (i : Int) (h0 : 0 ≤ i) (h1 : i < n) : ∃ ad , A = some ad ∧ w.cell? (ad.add (i.toNat * 2)) = some (.string (rd_T72 xs i).f0) ∧ w.cell? ⟨(ad.add (i.toNat * 2)).block, (ad.add (i.toNat * 2)).off + 1, none⟩ = some (.int .i64 (rd_T72 xs i).f1) := by
 obtain ⟨ad, c, e, _, hK, hc0⟩ := Kd.C_get h z72 i h0 h1
 have hc : ∀ j u, c[j]? = some u → w.cell? (ad.add (i.toNat * 2 + j)) = some u := hc0
 obtain rfl := k72_open hK
 exact ⟨ad, e, hc 0 _ rfl, by rw [← add_field _ _ 1 (by omega)]; exact hc 1 _ rfl⟩
structure S74 where
 f0 : S72
 f1 : (List S72)
 f2 : ByteArray
 f3 : Int
 f4 : ByteArray
 f5 : Int
 f6 : (List S72)
def z74 : S74 := ⟨z72, ([] : List S72), (⟨#[]⟩ : ByteArray), (0 : Int), (⟨#[]⟩ : ByteArray), (0 : Int), ([] : List S72)⟩
def k74 : Kd S74 := Kd.iso (Kd.pair k72 (Kd.pair (Kd.slice 72 k72) (Kd.pair Kd.string (Kd.pair (Kd.int .i64) (Kd.pair Kd.string (Kd.pair (Kd.int .i64) (Kd.slice 72 k72))))))) (fun x : S74 => (x.f0, x.f1, x.f2, x.f3, x.f4, x.f5, x.f6))
theorem k74_open {w : World} {x : S74} {cs : List Value} (h : k74.K w x cs) : ∃ A2 c2 A7 c7, cs = [.string x.f0.f0, .int .i64 x.f0.f1, .slice A2 x.f1.length c2, .string x.f2, .int .i64 x.f3, .string x.f4, .int .i64 x.f5, .slice A7 x.f6.length c7] ∧ x.f1.length ≤ c2 ∧ k72.C w A2 x.f1.length x.f1 ∧ x.f6.length ≤ c7 ∧ k72.C w A7 x.f6.length x.f6 := by
 obtain ⟨_, _, rfl, s0, ⟨_, _, rfl, ⟨A2, c2, rfl, l2, g2⟩, ⟨_, _, rfl, rfl, ⟨_, _, rfl, rfl, ⟨_, _, rfl, rfl, ⟨_, _, rfl, rfl, ⟨A7, c7, rfl, l7, g7⟩⟩⟩⟩⟩⟩⟩ := h
 obtain rfl := k72_open s0
 exact ⟨A2, c2, A7, c7, rfl, l2, g2, l7, g7⟩
theorem k74_mkM (w : World) (base : Nat) (ok : Nat → Prop) (x : S74) {v2 : Value} (g2 : k72.R 72 w base ok v2 x.f1) {v7 : Value} (g7 : k72.R 72 w base ok v7 x.f6) : k74.M w base ok x [.string x.f0.f0, .int .i64 x.f0.f1, v2, .string x.f2, .int .i64 x.f3, .string x.f4, .int .i64 x.f5, v7] := ⟨[.string x.f0.f0, .int .i64 x.f0.f1], [v2, .string x.f2, .int .i64 x.f3, .string x.f4, .int .i64 x.f5, v7], rfl, (k72_mkM w base ok x.f0 ), ⟨[v2], [.string x.f2, .int .i64 x.f3, .string x.f4, .int .i64 x.f5, v7], rfl, ⟨v2, rfl, g2⟩, ⟨[.string x.f2], [.int .i64 x.f3, .string x.f4, .int .i64 x.f5, v7], rfl, rfl, ⟨[.int .i64 x.f3], [.string x.f4, .int .i64 x.f5, v7], rfl, rfl, ⟨[.string x.f4], [.int .i64 x.f5, v7], rfl, rfl, ⟨[.int .i64 x.f5], [v7], rfl, rfl, ⟨v7, rfl, g7⟩⟩⟩⟩⟩⟩⟩
def rd_T74 (xs : List S74) (i : Int) : S74 := xs.getD i.toNat z74
theorem at_T74 {w : World} {A : Option Addr} {n : Nat} {xs : List S74} (h : Kd.C k74 w A n xs) (i : Int) (h0 : 0 ≤ i) (h1 : i < n) : ∃ ad A2 c2 A7 c7, A = some ad ∧ w.cell? (ad.add (i.toNat * 8)) = some (.string (rd_T74 xs i).f0.f0) ∧ w.cell? ⟨(ad.add (i.toNat * 8)).block, (ad.add (i.toNat * 8)).off + 1, none⟩ = some (.int .i64 (rd_T74 xs i).f0.f1) ∧ w.cell? ⟨(ad.add (i.toNat * 8)).block, (ad.add (i.toNat * 8)).off + 2, none⟩ = some (.slice A2 (rd_T74 xs i).f1.length c2) ∧ w.cell? ⟨(ad.add (i.toNat * 8)).block, (ad.add (i.toNat * 8)).off + 3, none⟩ = some (.string (rd_T74 xs i).f2) ∧ w.cell? ⟨(ad.add (i.toNat * 8)).block, (ad.add (i.toNat * 8)).off + 4, none⟩ = some (.int .i64 (rd_T74 xs i).f3) ∧ w.cell? ⟨(ad.add (i.toNat * 8)).block, (ad.add (i.toNat * 8)).off + 5, none⟩ = some (.string (rd_T74 xs i).f4) ∧ w.cell? ⟨(ad.add (i.toNat * 8)).block, (ad.add (i.toNat * 8)).off + 6, none⟩ = some (.int .i64 (rd_T74 xs i).f5) ∧ w.cell? ⟨(ad.add (i.toNat * 8)).block, (ad.add (i.toNat * 8)).off + 7, none⟩ = some (.slice A7 (rd_T74 xs i).f6.length c7) ∧ (rd_T74 xs i).f1.length ≤ c2 ∧ k72.C w A2 (rd_T74 xs i).f1.length (rd_T74 xs i).f1 ∧ (rd_T74 xs i).f6.length ≤ c7 ∧ k72.C w A7 (rd_T74 xs i).f6.length (rd_T74 xs i).f6 := by
 obtain ⟨ad, c, e, _, hK, hc0⟩ := Kd.C_get h z74 i h0 h1
 have hc : ∀ j u, c[j]? = some u → w.cell? (ad.add (i.toNat * 8 + j)) = some u := hc0
 obtain ⟨A2, c2, A7, c7, rfl, l2, g2, l7, g7⟩ := k74_open hK
 exact ⟨ad, A2, c2, A7, c7, e, hc 0 _ rfl, by rw [← add_field _ _ 1 (by omega)]; exact hc 1 _ rfl, by rw [← add_field _ _ 2 (by omega)]; exact hc 2 _ rfl, by rw [← add_field _ _ 3 (by omega)]; exact hc 3 _ rfl, by rw [← add_field _ _ 4 (by omega)]; exact hc 4 _ rfl, by rw [← add_field _ _ 5 (by omega)]; exact hc 5 _ rfl, by rw [← add_field _ _ 6 (by omega)]; exact hc 6 _ rfl, by rw [← add_field _ _ 7 (by omega)]; exact hc 7 _ rfl, l2, g2, l7, g7⟩
end Go.Proofs.Ytjejhgjdmbodiaa.PO
end
section
namespace Go.Proofs.Ytjejhgjdmbodiaa.PO
open Go.RowKit Go.Proofs.YtjejhgjdmbodiaaW.PrintWords Go.Proofs.YtjejhgjdmbodiaaW.PrintLast Go.Proofs.YtjejhgjdmbodiaaW.PrintMore
attribute [local go_sem] max2_int min2_int max_two min_two max_three min_three max_four min_four   -- for this text's walks alone
set_option linter.unusedVariables false
set_option linter.unusedSimpArgs false
def vector_At.l0 : Nat → ByteArray → List (S72) → Int → Int → Option (Int)
 | 0, _, _, _, _ => none
 | k + 1, x1, x7, x8, x9 => if x9 < x8 then (if 0 ≤ x9 then (if x9 < (x7.length : Int) then (if ((rd_T72 x7 x9).f0).toList = x1.toList then (some ((rd_T72 x7 x9).f1)) else (vector_At.l0 k x1 x7 x8 (wrap64 (x9 + 1)))) else (none)) else (none)) else (some 0)
def vector_At.f (k : Nat) (l0 : List (S72)) (a1 : ByteArray) : Option (Int) := vector_At.l0 k a1 l0 (l0.length : Int) 0
set_option maxHeartbeats 8000000 in
set_option maxRecDepth 100000 in
theorem vector_At.calls (k : Nat) (A0 : Option Addr) (c0 : Nat) (l0 : List (S72)) (a1 : ByteArray) (r : Int) (w : World) (hr0 : Kd.C k72 w A0 l0.length l0) (hc0 : l0.length ≤ c0) (h : vector_At.f k l0 a1 = some r) :
 Calls Try.prog 66 #[.slice A0 l0.length c0, .string a1] w fun e w' => e = .returned (.int .i64 r) ∧ Below w.heap.size w w' := by
 have hu34 := Try.underlying72
 have HR0 := Aside0.mk hr0
 have HC0 := Aside0.mk hc0
 clear hr0 hc0
 have HB := Aside0.mk (Below.refl w.heap.size w)
 have H : (vector_At.l0 k a1 l0 (l0.length : Int) 0) = some r := h
 clear h
 have H' := Aside0.mk H
 clear H
 go_enter Try.func66, Try.ntmps66
 go_wp2
 go_loopg [9] k (fun kq v9 w' => ∃ (x9_1 : Int), v9 = .int .i64 x9_1 ∧ Aside0 (vector_At.l0 kq a1 l0 (l0.length : Int) x9_1 = some r) ∧ Aside0 (kq ≤ k) ∧ Aside0 (Below w.heap.size w w'))
 case atStart => exact ⟨(0), (by first | rfl | (simp; done) | (simp [*]; done)), H', ⟨Nat.le_refl _⟩, ⟨by repeat (first | (with_reducible first | exact HB.out | apply below_alloc | apply pw_below_drewN | apply below_drew1) | exact HB.out)⟩⟩
 case round =>
  clear H'
  try clear p2
  obtain ⟨x9_1, rfl, HA, HK1, HB⟩ := hrel
  cases gk with
  | zero => exact absurd HA.out (by simp [vector_At.l0])
  | succ k1 =>
   have H := HA.out
   clear HA
   simp only [vector_At.l0] at H
   by_cases c3 : x9_1 < (l0.length : Int)
   · rw [if_pos c3] at H
     have c3b0 : decide (x9_1 < (l0.length : Int)) = true := decide_eq_true c3
     clear c3
     by_cases c4 : 0 ≤ x9_1
     · rw [if_pos c4] at H
       have c4b0 : decide (0 ≤ x9_1) = true := decide_eq_true c4
       clear c4
       by_cases c5 : x9_1 < (l0.length : Int)
       · rw [if_pos c5] at H
         have c5b0 : decide (x9_1 < (l0.length : Int)) = true := decide_eq_true c5
         clear c5
         by_cases c6 : ((rd_T72 l0 x9_1).f0).toList = a1.toList
         · rw [if_pos c6] at H
           have c6b0 : (((rd_T72 l0 x9_1).f0).toList == a1.toList) = true := beq_iff_eq.mpr c6
           have c6b1 : (((rd_T72 l0 x9_1).f0).toList != a1.toList) = false := bne_eq_false_iff_eq.mpr c6
           clear c6
           obtain rfl := Option.some.inj H
           have p101 : 0 ≤ (x9_1 : Int) := of_decide_eq_true (by first | (with_reducible assumption) | assumption)
           have q101 : x9_1 < (l0.length : Int) := of_decide_eq_true (by first | (with_reducible assumption) | assumption)
           obtain ⟨ad101, e101, hx101_0, hx101_1⟩ := at_T72 HR0.out x9_1 p101 q101
           cases e101
           replace hx101_0 := (HB.out.cell (World.block_lt_of_cell? w _ hx101_0)).trans hx101_0
           replace hx101_1 := (HB.out.cell (World.block_lt_of_cell? w _ hx101_1)).trans hx101_1
           replace p101 := eq_true p101
           replace q101 := eq_true q101
           go_wp2_with (first | ((with_reducible refine gate_dst (N := 6) rfl ?_); refine box_event ?hg (N := 6) ?hd (cs := #[.string (⟨#[]⟩ : ByteArray), .int .i64 0]) (t := 72) ?hr ?_; (case hd => rfl); (case hg => rfl); (case hr => first | (go_simp; done) | (go_simp; rfl)); intro gb102 hg w7 hbox hb; have n0_ := Aside0.mk (below_step (by repeat (first | (with_reducible first | exact HB.out | apply below_alloc | apply pw_below_drewN | apply below_drew1) | exact HB.out)) hb); have n1_ := Aside0.mk (hbox); have n2_ := Aside0.mk ((by rw [hg]; exact (below_size (by repeat (first | (with_reducible first | exact HB.out | apply below_alloc | apply pw_below_drewN | apply below_drew1) | exact HB.out))) : w.heap.size ≤ gb102)); have n3_ := Aside0.mk ((by rw [hg]; exact (below_size (by repeat (first | (with_reducible first | exact HB.out | apply below_alloc | apply pw_below_drewN | apply below_drew1) | exact HB.out))) : w.heap.size ≤ gb102)); clear HB; have HB := n0_; have BK102 := n1_; have GW102 := n2_; have GE102 := n3_; clear n0_ n1_ n2_ n3_; clear hb hbox hg; have hcz8_0 : w7.cell? ⟨gb102, 0, none⟩ = some (.string (⟨#[]⟩ : ByteArray)) := (blk_cell BK102.out 0).trans rfl; have hcz8_1 : w7.cell? ⟨gb102, 1, none⟩ = some (.int .i64 0) := (blk_cell BK102.out 1).trans rfl; have hfz8_0 := blk_frozen BK102.out 0; have hfz8_1 := blk_frozen BK102.out 1))
           go_ret
           exact ⟨by first | rfl | (simp [errW_none, errW_some] <;> rfl) | (simp [*, errW_none, errW_some] <;> rfl), by repeat (first | (with_reducible first | exact HB.out | apply below_alloc | apply pw_below_drewN | apply below_drew1 | refine below_set ?_ GE102.out) | exact HB.out)⟩
         · rw [if_neg c6] at H
           have c6b0 : (((rd_T72 l0 x9_1).f0).toList == a1.toList) = false := beq_eq_false_iff_ne.mpr c6
           have c6b1 : (((rd_T72 l0 x9_1).f0).toList != a1.toList) = true := bne_iff_ne.mpr c6
           have H' := Aside0.mk H
           clear H
           have p101 : 0 ≤ (x9_1 : Int) := of_decide_eq_true (by first | (with_reducible assumption) | assumption)
           have q101 : x9_1 < (l0.length : Int) := of_decide_eq_true (by first | (with_reducible assumption) | assumption)
           obtain ⟨ad101, e101, hx101_0, hx101_1⟩ := at_T72 HR0.out x9_1 p101 q101
           cases e101
           replace hx101_0 := (HB.out.cell (World.block_lt_of_cell? w _ hx101_0)).trans hx101_0
           replace hx101_1 := (HB.out.cell (World.block_lt_of_cell? w _ hx101_1)).trans hx101_1
           replace p101 := eq_true p101
           replace q101 := eq_true q101
           go_wp2_with (first | ((with_reducible refine gate_dst (N := 6) rfl ?_); refine box_event ?hg (N := 6) ?hd (cs := #[.string (⟨#[]⟩ : ByteArray), .int .i64 0]) (t := 72) ?hr ?_; (case hd => rfl); (case hg => rfl); (case hr => first | (go_simp; done) | (go_simp; rfl)); intro gb102 hg w9 hbox hb; have n0_ := Aside0.mk (below_step (by repeat (first | (with_reducible first | exact HB.out | apply below_alloc | apply pw_below_drewN | apply below_drew1) | exact HB.out)) hb); have n1_ := Aside0.mk (hbox); have n2_ := Aside0.mk ((by rw [hg]; exact (below_size (by repeat (first | (with_reducible first | exact HB.out | apply below_alloc | apply pw_below_drewN | apply below_drew1) | exact HB.out))) : w.heap.size ≤ gb102)); have n3_ := Aside0.mk ((by rw [hg]; exact (below_size (by repeat (first | (with_reducible first | exact HB.out | apply below_alloc | apply pw_below_drewN | apply below_drew1) | exact HB.out))) : w.heap.size ≤ gb102)); clear HB; have HB := n0_; have BK102 := n1_; have GW102 := n2_; have GE102 := n3_; clear n0_ n1_ n2_ n3_; clear hb hbox hg; have hcz10_0 : w9.cell? ⟨gb102, 0, none⟩ = some (.string (⟨#[]⟩ : ByteArray)) := (blk_cell BK102.out 0).trans rfl; have hcz10_1 : w9.cell? ⟨gb102, 1, none⟩ = some (.int .i64 0) := (blk_cell BK102.out 1).trans rfl; have hfz10_0 := blk_frozen BK102.out 0; have hfz10_1 := blk_frozen BK102.out 1))
           go_roundg k1
           case measure => have := HK1.out; omega
           case rel => exact ⟨(wrap64 (x9_1 + 1)), (by first | rfl | (simp; done) | (simp [*]; done)), H', ⟨by have := HK1.out; omega⟩, ⟨by repeat (first | (with_reducible first | exact HB.out | apply below_alloc | apply pw_below_drewN | apply below_drew1 | refine below_set ?_ GE102.out) | exact HB.out)⟩⟩
       · rw [if_neg c5] at H
         exact absurd H (by simp)
     · rw [if_neg c4] at H
       exact absurd H (by simp)
   · rw [if_neg c3] at H
     have c3b0 : decide (x9_1 < (l0.length : Int)) = false := decide_eq_false c3
     clear c3
     obtain rfl := Option.some.inj H
     go_wp2
     go_ret
     exact ⟨by first | rfl | (simp [errW_none, errW_some] <;> rfl) | (simp [*, errW_none, errW_some] <;> rfl), by repeat (first | (with_reducible first | exact HB.out | apply below_alloc | apply pw_below_drewN | apply below_drew1) | exact HB.out)⟩
def okCh (c : UInt8) : Bool := (decide (97 ≤ c.toNat) && decide (c.toNat ≤ 122)) || (decide (48 ≤ c.toNat) && decide (c.toNat ≤ 57)) || decide (c.toNat = 46)
def isNameB (s : ByteArray) : Bool := s.data.toList.all okCh && decide (1 ≤ s.size) && decide (s.size ≤ 24)
def vector_IsName.f (a0 : ByteArray) : Option Bool := some (isNameB a0)
theorem okCh_hi {c : UInt8} (h : 128 ≤ c.toNat) : okCh c = false := by
 simp [okCh]; omega
theorem all_split (s : ByteArray) (k : Nat) (h : k < s.size) (hc : okCh (s[k]'h) = false) : isNameB s = false := by
 have : s.data.toList.all okCh = false := by
  rw [List.all_eq_false]
  exact ⟨s[k]'h, by simp [ByteArray.getElem_eq_getElem_data], by simp [hc]⟩
 simp [isNameB, this]
theorem okCh_iff (c : UInt8) : okCh c = true ↔ (97 ≤ c.toNat ∧ c.toNat ≤ 122) ∨ (48 ≤ c.toNat ∧ c.toNat ≤ 57) ∨ c.toNat = 46 := by
 simp [okCh, or_assoc]
theorem isNameB_end (s : ByteArray) (h : s.data.toList.all okCh = true) : isNameB s = (decide (1 ≤ s.size) && decide (s.size ≤ 24)) := by
 simp only [isNameB, h, Bool.true_and]
theorem all_snoc (s : ByteArray) (k : Nat) (h : k < s.size) (hk : (s.data.toList.take k).all okCh = true) (hc : okCh (s[k]'h) = true) : (s.data.toList.take (k + 1)).all okCh = true := by
 have : s.data.toList.take (k + 1) = s.data.toList.take k ++ [s[k]'h] := by
  rw [List.take_succ_eq_append_getElem (by simpa using h)]; rfl
 rw [this, List.all_append, hk]; simp [hc]
set_option maxHeartbeats 800000 in
theorem vector_IsName.calls (a0 : ByteArray) (r : Bool) (w : World) (h : vector_IsName.f a0 = some r) :
 Calls Try.prog 34 #[.string a0] w fun e w' => e = .returned (.bool r) ∧ Below w.heap.size w w' := by
 obtain rfl := Option.some.inj h
 clear h
 go_enter Try.func34, Try.ntmps34
 go_wp2
 go_loopw [4] (fun _ w' => ∃ pos : Nat, w' = w.iter a0 pos ∧ pos ≤ a0.size ∧ (a0.data.toList.take pos).all okCh = true) (fun _ w' => a0.size - w'.iterPos w.heap.size)
 case atStart => exact ⟨0, rfl, by omega, by simp⟩
 case round =>
  obtain ⟨pos, rfl, hle, hall⟩ := hrel
  have HA := Aside0.mk hall
  clear hall
  by_cases hp : pos < a0.size
  · have hnx : ∀ ty, (Instr.next (.pointer (some ⟨w.heap.size, 0, none⟩)) true ty).run Try.prog (w.iter a0 pos) = _ := fun ty => run_next_any w a0 pos ty hp
    by_cases ha : (a0[pos]'hp).toNat < 128
    · rw [decode_ascii a0 pos hp ha] at hnx
      have hi := okCh_iff (a0[pos]'hp)
      have HI := Aside0.mk hi
      clear hi
      have HS := Aside0.mk (all_split a0 pos hp)
      have HN := Aside0.mk (fun h => all_snoc a0 pos hp HA.out h)
      go_wp2
      all_goals first
       | (go_ret; exact ⟨by (rw [HS.out (by rw [Bool.eq_false_iff, ne_eq, HI.out]; simp at *; omega)]; rfl), (Below.refl _ _).alloc (Nat.le_refl _) _⟩)
       | (refine ⟨⟨pos + 1, rfl, hp, HN.out (by rw [HI.out]; simp at *; omega)⟩, ?_⟩; simp; omega)
    · have HD := Aside0.mk (decode_high a0 pos hp (by omega)).1
      have HF := Aside0.mk (all_split a0 pos hp (okCh_hi (by omega)))
      obtain ⟨d, e, hde⟩ : ∃ d e, Utf8.decode a0 pos = (d, e) := ⟨_, _, rfl⟩
      rw [hde] at hnx HD
      clear hde ha
      have h1 : (97 : Int) ≤ (d : Int) := by have := HD.out; simp at this; omega
      have h2 : (122 : Int) < (d : Int) := by have := HD.out; simp at this; omega
      have h3 : ((d : Int) != 46) = true := by rw [bne_iff_ne]; omega
      go_wp2
      go_ret
      exact ⟨by (rw [HF.out]; rfl), (Below.refl _ _).alloc (Nat.le_refl _) _⟩
  · have hnx : ∀ ty, (Instr.next (.pointer (some ⟨w.heap.size, 0, none⟩)) true ty).run Try.prog (w.iter a0 pos) = _ := fun ty => run_next_end w a0 pos ty hp
    have HE := Aside0.mk (isNameB_end a0 (by have := HA.out; rwa [List.take_of_length_le (by simp; omega)] at this))
    by_cases h0 : a0.size = 0
    · have h0' : a0.toList = [] := by rw [ByteArray.toList_eq, ← List.length_eq_zero_iff]; simpa using h0
      have h0'' : (!a0.toList.isEmpty) = false := by rw [h0']; rfl
      have HZ := Aside0.mk h0
      clear h0
      go_wp2
      go_ret
      exact ⟨by (rw [HE.out, HZ.out]; rfl), (Below.refl _ _).alloc (Nat.le_refl _) _⟩
    · have h0' : ¬ a0.toList = [] := by rw [ByteArray.toList_eq, ← List.length_eq_zero_iff]; simpa using h0
      have h0'' : (!a0.toList.isEmpty) = true := by simpa using h0'
      have HZ := Aside0.mk h0
      clear h0
      go_wp2
      go_ret
      exact ⟨by (rw [HE.out, decide_eq_true (show 1 ≤ a0.size by have := HZ.out; omega)]; simp [go_sem]; omega), (Below.refl _ _).alloc (Nat.le_refl _) _⟩
def vector_isDot.f (a0_0 : ByteArray) (a0_1 : Int) : Option (Bool) := (vector_IsName.f a0_0).bind fun t104 => (if t104 = true then (if a0_1 ≥ 1 then (some (decide (a0_1 ≤ 4611686018427387904))) else (some false)) else (some false))
set_option maxHeartbeats 8000000 in
set_option maxRecDepth 100000 in
theorem vector_isDot.calls (a0_0 : ByteArray) (a0_1 : Int) (r : Bool) (w : World) (h : vector_isDot.f a0_0 a0_1 = some r) :
 Calls Try.prog 90 #[.agg #[.string a0_0, .int .i64 a0_1]] w fun e w' => e = .returned (.bool r) ∧ Below w.heap.size w w' := by
 have hu34 := Try.underlying72
 have HB := Aside0.mk (Below.refl w.heap.size w)
 have H : ((vector_IsName.f a0_0).bind fun t104 => (if t104 = true then (if a0_1 ≥ 1 then (some (decide (a0_1 ≤ 4611686018427387904))) else (some false)) else (some false))) = some r := h
 clear h
 replace H := Option.bind_eq_some_iff.mp H
 obtain ⟨t104, A20, H⟩ := H
 replace H : (if t104 = true then (if a0_1 ≥ 1 then (some (decide (a0_1 ≤ 4611686018427387904))) else (some false)) else (some false)) = some r := H
 have A2 := Aside0.mk A20
 clear A20
 by_cases c3 : t104 = true
 subst c3
 have H1 : (if a0_1 ≥ 1 then (some (decide (a0_1 ≤ 4611686018427387904))) else (some false)) = some r := by rw [if_pos rfl] at H; exact H
 clear H
 have H := H1
 clear H1
 by_cases c4 : a0_1 ≥ 1
 rw [if_pos c4] at H
 have c4b0 : decide (1 ≤ a0_1) = true := decide_eq_true c4
 clear c4
 obtain rfl := Option.some.inj H
 rotate_left
 rw [if_neg c4] at H
 have c4b0 : decide (1 ≤ a0_1) = false := decide_eq_false c4
 clear c4
 obtain rfl := Option.some.inj H
 rotate_left
 · replace c3 := Bool.eq_false_iff.mpr c3
   subst c3
   have H1 : (some false) = some r := by rw [if_neg (show ¬ (false = true) by decide)] at H; exact H
   clear H
   have H := H1
   clear H1
   obtain rfl := Option.some.inj H
   go_enter Try.func90, Try.ntmps90
   go_wp2_with (first | ((with_reducible refine gate_dst (N := 1) rfl ?_); refine box_event ?hg (N := 1) ?hd (cs := #[.string a0_0, .int .i64 a0_1]) (t := 72) ?hr ?_; (case hd => rfl); (case hg => rfl); (case hr => first | (go_simp; done) | (go_simp; rfl)); intro gb103 hg w13 hbox hb; have n0_ := Aside0.mk (below_step (by repeat (first | (with_reducible first | exact HB.out | apply below_alloc | apply pw_below_drewN | apply below_drew1) | exact HB.out)) hb); have n1_ := Aside0.mk (hbox); have n2_ := Aside0.mk ((by rw [hg]; exact (below_size (by repeat (first | (with_reducible first | exact HB.out | apply below_alloc | apply pw_below_drewN | apply below_drew1) | exact HB.out))) : w.heap.size ≤ gb103)); have n3_ := Aside0.mk ((by rw [hg]; exact (below_size (by repeat (first | (with_reducible first | exact HB.out | apply below_alloc | apply pw_below_drewN | apply below_drew1) | exact HB.out))) : w.heap.size ≤ gb103)); clear HB; have HB := n0_; have BK103 := n1_; have GW103 := n2_; have GE103 := n3_; clear n0_ n1_ n2_ n3_; clear hb hbox hg; have hcz14_0 : w13.cell? ⟨gb103, 0, none⟩ = some (.string a0_0) := (blk_cell BK103.out 0).trans rfl; have hcz14_1 : w13.cell? ⟨gb103, 1, none⟩ = some (.int .i64 a0_1) := (blk_cell BK103.out 1).trans rfl; have hfz14_0 := blk_frozen BK103.out 0; have hfz14_1 := blk_frozen BK103.out 1) | ((with_reducible refine gate_callee (f := 34) rfl ?_); refine goesL_ (some 5) rfl rfl Try.func34 (by kernel_rfl) rfl #[.string a0_0] rfl (by (try simp only [List.map_toArray, List.map_cons, List.map_nil]); first | done | rfl | (simp only [List.length_drop, List.length_take]; rfl)) ?_; (with_reducible refine (vector_IsName.calls a0_0 false _ A2.out).mono ?_); rintro e w15 ⟨rfl, hb⟩; refine ⟨_, rfl, ?_⟩; have n0_ := Aside0.mk (blk_below (g := gb103) (o := .cells #[.string a0_0, .int .i64 a0_1] 72 (0, 0)) (by (with_reducible repeat (first | refine blk_drewN ?_ _ | refine blk_drew ?_ | refine blk_alloc ?_ _)); exact BK103.out) hb); have n1_ := Aside0.mk (below_step (by repeat (first | (with_reducible first | exact HB.out | apply below_alloc | apply pw_below_drewN | apply below_drew1 | refine below_set ?_ GE103.out) | exact HB.out)) hb); clear BK103; clear HB; have BK103 := n0_; have HB := n1_; clear n0_ n1_; (try clear hb); (try clear hb2); (try clear hk); (try clear hi)))
   go_ret
   exact ⟨by first | rfl | (simp [errW_none, errW_some] <;> rfl) | (simp [*, errW_none, errW_some] <;> rfl), by repeat (first | (with_reducible first | exact HB.out | apply below_alloc | apply pw_below_drewN | apply below_drew1 | refine below_set ?_ GE103.out) | exact HB.out)⟩
 all_goals (
  go_enter Try.func90, Try.ntmps90
  go_wp2_with (first | ((with_reducible refine gate_dst (N := 1) rfl ?_); refine box_event ?hg (N := 1) ?hd (cs := #[.string a0_0, .int .i64 a0_1]) (t := 72) ?hr ?_; (case hd => rfl); (case hg => rfl); (case hr => first | (go_simp; done) | (go_simp; rfl)); intro gb9001 hg w9002 hbox hb; have n9003_ := Aside0.mk (below_step (by repeat (first | (with_reducible first | exact HB.out | apply below_alloc | apply pw_below_drewN | apply below_drew1) | exact HB.out)) hb); have n9004_ := Aside0.mk (hbox); have n9005_ := Aside0.mk ((by rw [hg]; exact (below_size (by repeat (first | (with_reducible first | exact HB.out | apply below_alloc | apply pw_below_drewN | apply below_drew1) | exact HB.out))) : w.heap.size ≤ gb9001)); have n9006_ := Aside0.mk ((by rw [hg]; exact (below_size (by repeat (first | (with_reducible first | exact HB.out | apply below_alloc | apply pw_below_drewN | apply below_drew1) | exact HB.out))) : w.heap.size ≤ gb9001)); clear HB; have HB := n9003_; have BK9001 := n9004_; have GW9001 := n9005_; have GE9001 := n9006_; clear n9003_ n9004_ n9005_ n9006_; clear hb hbox hg; have hcz9007_0 : w9002.cell? ⟨gb9001, 0, none⟩ = some (.string a0_0) := (blk_cell BK9001.out 0).trans rfl; have hcz9007_1 : w9002.cell? ⟨gb9001, 1, none⟩ = some (.int .i64 a0_1) := (blk_cell BK9001.out 1).trans rfl; have hfz9007_0 := blk_frozen BK9001.out 0; have hfz9007_1 := blk_frozen BK9001.out 1) | ((with_reducible refine gate_callee (f := 34) rfl ?_); refine goesL_ (some 5) rfl rfl Try.func34 (by kernel_rfl) rfl #[.string a0_0] rfl (by (try simp only [List.map_toArray, List.map_cons, List.map_nil]); first | done | rfl | (simp only [List.length_drop, List.length_take]; rfl)) ?_; (with_reducible refine (vector_IsName.calls a0_0 true _ A2.out).mono ?_); rintro e w9008 ⟨rfl, hb⟩; refine ⟨_, rfl, ?_⟩; have n9003_ := Aside0.mk (blk_below (g := gb9001) (o := .cells #[.string a0_0, .int .i64 a0_1] 72 (0, 0)) (by (with_reducible repeat (first | refine blk_drewN ?_ _ | refine blk_drew ?_ | refine blk_alloc ?_ _)); exact BK9001.out) hb); have n9004_ := Aside0.mk (below_step (by repeat (first | (with_reducible first | exact HB.out | apply below_alloc | apply pw_below_drewN | apply below_drew1 | refine below_set ?_ GE9001.out) | exact HB.out)) hb); clear BK9001; clear HB; have BK9001 := n9003_; have HB := n9004_; clear n9003_ n9004_; (try clear hb); (try clear hb2); (try clear hk); (try clear hi); have hcz9009_0 : w9008.cell? ⟨gb9001, 0, none⟩ = some (.string a0_0) := (blk_cell BK9001.out 0).trans rfl; have hcz9009_1 : w9008.cell? ⟨gb9001, 1, none⟩ = some (.int .i64 a0_1) := (blk_cell BK9001.out 1).trans rfl; have hfz9009_0 := blk_frozen BK9001.out 0; have hfz9009_1 := blk_frozen BK9001.out 1))
  go_ret
  exact ⟨by first | rfl | (simp [errW_none, errW_some] <;> rfl) | (simp [*, errW_none, errW_some] <;> rfl), by repeat (first | (with_reducible first | exact HB.out | apply below_alloc | apply pw_below_drewN | apply below_drew1 | refine below_set ?_ GE9001.out) | exact HB.out)⟩
  )
def vector_Right.l0 : Nat → ByteArray → Bool → List (S72) → Int → Int → Option (Bool)
 | 0, _, _, _, _, _ => none
 | k + 1, x3, x4, x10, x11, x12 => if x12 < x11 then (if 0 ≤ x12 then (if x12 < (x10.length : Int) then (if x4 = true then ((vector_isDot.f ((rd_T72 x10 x12).f0) ((rd_T72 x10 x12).f1)).bind fun t107 => (if t107 = true then (if ((Op.bytesLess x3.toList (((rd_T72 x10 x12).f0).toList)) = true) then (vector_Right.l0 k ((rd_T72 x10 x12).f0) x4 x10 x11 (wrap64 (x12 + 1))) else (some false)) else (some false))) else (some false)) else (none)) else (none)) else (some x4)
def vector_Right.f (k : Nat) (l0 : List (S72)) : Option (Bool) := vector_Right.l0 k (⟨#[]⟩ : ByteArray) (decide ((l0.length : Int) ≤ 64)) l0 (l0.length : Int) 0
set_option maxHeartbeats 8000000 in
set_option maxRecDepth 100000 in
theorem vector_Right.calls (k : Nat) (A0 : Option Addr) (c0 : Nat) (l0 : List (S72)) (r : Bool) (w : World) (hr0 : Kd.C k72 w A0 l0.length l0) (hc0 : l0.length ≤ c0) (h : vector_Right.f k l0 = some r) :
 Calls Try.prog 65 #[.slice A0 l0.length c0] w fun e w' => e = .returned (.bool r) ∧ Below w.heap.size w w' := by
 have hu34 := Try.underlying72
 have HR0 := Aside0.mk hr0
 have HC0 := Aside0.mk hc0
 clear hr0 hc0
 have HB := Aside0.mk (Below.refl w.heap.size w)
 have H : (vector_Right.l0 k (⟨#[]⟩ : ByteArray) (decide ((l0.length : Int) ≤ 64)) l0 (l0.length : Int) 0) = some r := h
 clear h
 have H' := Aside0.mk H
 clear H
 go_enter Try.func65, Try.ntmps65
 go_wp2
 repeat (go_step3; go_wp2)
 repeat (rw [Exit.noGoto_normal]; go_wp2)
 go_loopg [3, 4, 12] k (fun kq v3 v4 v12 w' => ∃ (x3_1 : ByteArray) (x4_1 : Bool) (x12_1 : Int), v3 = .string x3_1 ∧ v4 = .bool x4_1 ∧ v12 = .int .i64 x12_1 ∧ Aside0 (vector_Right.l0 kq x3_1 x4_1 l0 (l0.length : Int) x12_1 = some r) ∧ Aside0 (kq ≤ k) ∧ Aside0 (Below w.heap.size w w'))
 case atStart => exact ⟨((⟨#[]⟩ : ByteArray)), (decide ((l0.length : Int) ≤ 64)), (0), (by first | rfl | (simp; done) | (simp [*]; done)), (by first | rfl | (simp; done) | (simp [*]; done)), (by first | rfl | (simp; done) | (simp [*]; done)), H', ⟨Nat.le_refl _⟩, ⟨by repeat (first | (with_reducible first | exact HB.out | apply below_alloc | apply pw_below_drewN | apply below_drew1) | exact HB.out)⟩⟩
 case round =>
  clear H'
  obtain ⟨x3_1, x4_1, x12_1, rfl, rfl, rfl, HA, HK1, HB⟩ := hrel
  cases gk with
  | zero => exact absurd HA.out (by simp [vector_Right.l0])
  | succ k1 =>
   have H := HA.out
   clear HA
   simp only [vector_Right.l0] at H
   by_cases c2 : x12_1 < (l0.length : Int)
   · rw [if_pos c2] at H
     have c2b0 : decide (x12_1 < (l0.length : Int)) = true := decide_eq_true c2
     clear c2
     by_cases c3 : 0 ≤ x12_1
     · rw [if_pos c3] at H
       have c3b0 : decide (0 ≤ x12_1) = true := decide_eq_true c3
       clear c3
       by_cases c4 : x12_1 < (l0.length : Int)
       · rw [if_pos c4] at H
         have c4b0 : decide (x12_1 < (l0.length : Int)) = true := decide_eq_true c4
         clear c4
         by_cases c5 : x4_1 = true
         · subst c5
           have H1 : ((vector_isDot.f ((rd_T72 l0 x12_1).f0) ((rd_T72 l0 x12_1).f1)).bind fun t107 => (if t107 = true then (if ((Op.bytesLess x3_1.toList (((rd_T72 l0 x12_1).f0).toList)) = true) then (vector_Right.l0 k1 ((rd_T72 l0 x12_1).f0) true l0 (l0.length : Int) (wrap64 (x12_1 + 1))) else (some false)) else (some false))) = some r := by rw [if_pos rfl] at H; exact H
           clear H
           have H := H1
           clear H1
           replace H := Option.bind_eq_some_iff.mp H
           obtain ⟨t107, A60, H⟩ := H
           replace H : (if t107 = true then (if ((Op.bytesLess x3_1.toList (((rd_T72 l0 x12_1).f0).toList)) = true) then (vector_Right.l0 k1 ((rd_T72 l0 x12_1).f0) true l0 (l0.length : Int) (wrap64 (x12_1 + 1))) else (some false)) else (some false)) = some r := H
           have A6 := Aside0.mk A60
           clear A60
           by_cases c7 : t107 = true
           · subst c7
             have H1 : (if ((Op.bytesLess x3_1.toList (((rd_T72 l0 x12_1).f0).toList)) = true) then (vector_Right.l0 k1 ((rd_T72 l0 x12_1).f0) true l0 (l0.length : Int) (wrap64 (x12_1 + 1))) else (some false)) = some r := by rw [if_pos rfl] at H; exact H
             clear H
             have H := H1
             clear H1
             by_cases c8 : ((Op.bytesLess x3_1.toList (((rd_T72 l0 x12_1).f0).toList)) = true)
             · rw [if_pos c8] at H
               have c8b0 : (Op.bytesLess x3_1.toList (((rd_T72 l0 x12_1).f0).toList)) = true := c8
               clear c8
               have H' := Aside0.mk H
               clear H
               have p105 : 0 ≤ (x12_1 : Int) := of_decide_eq_true (by first | (with_reducible assumption) | assumption)
               have q105 : x12_1 < (l0.length : Int) := of_decide_eq_true (by first | (with_reducible assumption) | assumption)
               obtain ⟨ad105, e105, hx105_0, hx105_1⟩ := at_T72 HR0.out x12_1 p105 q105
               cases e105
               replace hx105_0 := (HB.out.cell (World.block_lt_of_cell? w _ hx105_0)).trans hx105_0
               replace hx105_1 := (HB.out.cell (World.block_lt_of_cell? w _ hx105_1)).trans hx105_1
               replace p105 := eq_true p105
               replace q105 := eq_true q105
               have tt_ := True.intro
               repeat ((first | go_step3 | rw [Exit.noGoto_normal] | clear tt_); go_wp2_with (first | ((with_reducible refine gate_dst (N := 6) rfl ?_); refine box_event ?hg (N := 6) ?hd (cs := #[.string (⟨#[]⟩ : ByteArray), .int .i64 0]) (t := 72) ?hr ?_; (case hd => rfl); (case hg => rfl); (case hr => first | (go_simp; done) | (go_simp; rfl)); intro gb106 hg w9 hbox hb; have n0_ := Aside0.mk (below_step (by repeat (first | (with_reducible first | exact HB.out | apply below_alloc | apply pw_below_drewN | apply below_drew1) | exact HB.out)) hb); have n1_ := Aside0.mk (hbox); have n2_ := Aside0.mk ((by rw [hg]; exact (below_size (by repeat (first | (with_reducible first | exact HB.out | apply below_alloc | apply pw_below_drewN | apply below_drew1) | exact HB.out))) : w.heap.size ≤ gb106)); have n3_ := Aside0.mk ((by rw [hg]; exact (below_size (by repeat (first | (with_reducible first | exact HB.out | apply below_alloc | apply pw_below_drewN | apply below_drew1) | exact HB.out))) : w.heap.size ≤ gb106)); clear HB; have HB := n0_; have BK106 := n1_; have GW106 := n2_; have GE106 := n3_; clear n0_ n1_ n2_ n3_; clear hb hbox hg; have hcz10_0 : w9.cell? ⟨gb106, 0, none⟩ = some (.string (⟨#[]⟩ : ByteArray)) := (blk_cell BK106.out 0).trans rfl; have hcz10_1 : w9.cell? ⟨gb106, 1, none⟩ = some (.int .i64 0) := (blk_cell BK106.out 1).trans rfl; have hfz10_0 := blk_frozen BK106.out 0; have hfz10_1 := blk_frozen BK106.out 1) | (go_at_call 90; (with_reducible refine (vector_isDot.calls ((rd_T72 l0 x12_1).f0) ((rd_T72 l0 x12_1).f1) true _ A6.out).mono ?_); rintro e w11 ⟨rfl, hb⟩; have n0_ := Aside0.mk (blk_below (g := gb106) (o := .cells #[.string ((rd_T72 l0 x12_1).f0), .int .i64 ((rd_T72 l0 x12_1).f1)] 72 (0, 0)) (by (with_reducible repeat (first | refine blk_drewN ?_ _ | refine blk_drew ?_ | refine blk_alloc ?_ _)); refine blk_put (cs := #[.string ((rd_T72 l0 x12_1).f0), .int .i64 0]) ?_ 1 _ rfl; (with_reducible repeat (first | refine blk_drewN ?_ _ | refine blk_drew ?_ | refine blk_alloc ?_ _)); refine blk_put (cs := #[.string (⟨#[]⟩ : ByteArray), .int .i64 0]) ?_ 0 _ rfl; (with_reducible repeat (first | refine blk_drewN ?_ _ | refine blk_drew ?_ | refine blk_alloc ?_ _)); exact BK106.out) hb); have n1_ := Aside0.mk (below_step (by repeat (first | (with_reducible first | exact HB.out | apply below_alloc | apply pw_below_drewN | apply below_drew1 | refine below_set ?_ GE106.out) | exact HB.out)) hb); clear BK106; clear HB; have BK106 := n0_; have HB := n1_; clear n0_ n1_; (try clear hb); (try clear hb2); (try clear hk); (try clear hi); have hcz12_0 : w11.cell? ⟨gb106, 0, none⟩ = some (.string ((rd_T72 l0 x12_1).f0)) := (blk_cell BK106.out 0).trans rfl; have hcz12_1 : w11.cell? ⟨gb106, 1, none⟩ = some (.int .i64 ((rd_T72 l0 x12_1).f1)) := (blk_cell BK106.out 1).trans rfl; have hfz12_0 := blk_frozen BK106.out 0; have hfz12_1 := blk_frozen BK106.out 1)))
               go_roundg k1
               case measure => have := HK1.out; omega
               case rel => exact ⟨((rd_T72 l0 x12_1).f0), (true), (wrap64 (x12_1 + 1)), (by first | rfl | (simp; done) | (simp [*]; done)), (by first | rfl | (simp; done) | (simp [*]; done)), (by first | rfl | (simp; done) | (simp [*]; done)), H', ⟨by have := HK1.out; omega⟩, ⟨by repeat (first | (with_reducible first | exact HB.out | apply below_alloc | apply pw_below_drewN | apply below_drew1 | refine below_set ?_ GE106.out) | exact HB.out)⟩⟩
             · rw [if_neg c8] at H
               have c8b0 : (Op.bytesLess x3_1.toList (((rd_T72 l0 x12_1).f0).toList)) = false := by simpa using c8
               clear c8
               obtain rfl := Option.some.inj H
               have p105 : 0 ≤ (x12_1 : Int) := of_decide_eq_true (by first | (with_reducible assumption) | assumption)
               have q105 : x12_1 < (l0.length : Int) := of_decide_eq_true (by first | (with_reducible assumption) | assumption)
               obtain ⟨ad105, e105, hx105_0, hx105_1⟩ := at_T72 HR0.out x12_1 p105 q105
               cases e105
               replace hx105_0 := (HB.out.cell (World.block_lt_of_cell? w _ hx105_0)).trans hx105_0
               replace hx105_1 := (HB.out.cell (World.block_lt_of_cell? w _ hx105_1)).trans hx105_1
               replace p105 := eq_true p105
               replace q105 := eq_true q105
               have tt_ := True.intro
               repeat ((first | go_step3 | rw [Exit.noGoto_normal] | clear tt_); go_wp2_with (first | ((with_reducible refine gate_dst (N := 6) rfl ?_); refine box_event ?hg (N := 6) ?hd (cs := #[.string (⟨#[]⟩ : ByteArray), .int .i64 0]) (t := 72) ?hr ?_; (case hd => rfl); (case hg => rfl); (case hr => first | (go_simp; done) | (go_simp; rfl)); intro gb106 hg w13 hbox hb; have n0_ := Aside0.mk (below_step (by repeat (first | (with_reducible first | exact HB.out | apply below_alloc | apply pw_below_drewN | apply below_drew1) | exact HB.out)) hb); have n1_ := Aside0.mk (hbox); have n2_ := Aside0.mk ((by rw [hg]; exact (below_size (by repeat (first | (with_reducible first | exact HB.out | apply below_alloc | apply pw_below_drewN | apply below_drew1) | exact HB.out))) : w.heap.size ≤ gb106)); have n3_ := Aside0.mk ((by rw [hg]; exact (below_size (by repeat (first | (with_reducible first | exact HB.out | apply below_alloc | apply pw_below_drewN | apply below_drew1) | exact HB.out))) : w.heap.size ≤ gb106)); clear HB; have HB := n0_; have BK106 := n1_; have GW106 := n2_; have GE106 := n3_; clear n0_ n1_ n2_ n3_; clear hb hbox hg; have hcz14_0 : w13.cell? ⟨gb106, 0, none⟩ = some (.string (⟨#[]⟩ : ByteArray)) := (blk_cell BK106.out 0).trans rfl; have hcz14_1 : w13.cell? ⟨gb106, 1, none⟩ = some (.int .i64 0) := (blk_cell BK106.out 1).trans rfl; have hfz14_0 := blk_frozen BK106.out 0; have hfz14_1 := blk_frozen BK106.out 1) | (go_at_call 90; (with_reducible refine (vector_isDot.calls ((rd_T72 l0 x12_1).f0) ((rd_T72 l0 x12_1).f1) true _ A6.out).mono ?_); rintro e w15 ⟨rfl, hb⟩; have n0_ := Aside0.mk (blk_below (g := gb106) (o := .cells #[.string ((rd_T72 l0 x12_1).f0), .int .i64 ((rd_T72 l0 x12_1).f1)] 72 (0, 0)) (by (with_reducible repeat (first | refine blk_drewN ?_ _ | refine blk_drew ?_ | refine blk_alloc ?_ _)); refine blk_put (cs := #[.string ((rd_T72 l0 x12_1).f0), .int .i64 0]) ?_ 1 _ rfl; (with_reducible repeat (first | refine blk_drewN ?_ _ | refine blk_drew ?_ | refine blk_alloc ?_ _)); refine blk_put (cs := #[.string (⟨#[]⟩ : ByteArray), .int .i64 0]) ?_ 0 _ rfl; (with_reducible repeat (first | refine blk_drewN ?_ _ | refine blk_drew ?_ | refine blk_alloc ?_ _)); exact BK106.out) hb); have n1_ := Aside0.mk (below_step (by repeat (first | (with_reducible first | exact HB.out | apply below_alloc | apply pw_below_drewN | apply below_drew1 | refine below_set ?_ GE106.out) | exact HB.out)) hb); clear BK106; clear HB; have BK106 := n0_; have HB := n1_; clear n0_ n1_; (try clear hb); (try clear hb2); (try clear hk); (try clear hi); have hcz16_0 : w15.cell? ⟨gb106, 0, none⟩ = some (.string ((rd_T72 l0 x12_1).f0)) := (blk_cell BK106.out 0).trans rfl; have hcz16_1 : w15.cell? ⟨gb106, 1, none⟩ = some (.int .i64 ((rd_T72 l0 x12_1).f1)) := (blk_cell BK106.out 1).trans rfl; have hfz16_0 := blk_frozen BK106.out 0; have hfz16_1 := blk_frozen BK106.out 1)))
               (try rw [Exit.noGoto_ret])
               go_ret
               exact ⟨by first | rfl | (simp [errW_none, errW_some] <;> rfl) | (simp [*, errW_none, errW_some] <;> rfl), by repeat (first | (with_reducible first | exact HB.out | apply below_alloc | apply pw_below_drewN | apply below_drew1 | refine below_set ?_ GE106.out) | exact HB.out)⟩
           · replace c7 := Bool.eq_false_iff.mpr c7
             subst c7
             have H1 : (some false) = some r := by rw [if_neg (show ¬ (false = true) by decide)] at H; exact H
             clear H
             have H := H1
             clear H1
             obtain rfl := Option.some.inj H
             have p105 : 0 ≤ (x12_1 : Int) := of_decide_eq_true (by first | (with_reducible assumption) | assumption)
             have q105 : x12_1 < (l0.length : Int) := of_decide_eq_true (by first | (with_reducible assumption) | assumption)
             obtain ⟨ad105, e105, hx105_0, hx105_1⟩ := at_T72 HR0.out x12_1 p105 q105
             cases e105
             replace hx105_0 := (HB.out.cell (World.block_lt_of_cell? w _ hx105_0)).trans hx105_0
             replace hx105_1 := (HB.out.cell (World.block_lt_of_cell? w _ hx105_1)).trans hx105_1
             replace p105 := eq_true p105
             replace q105 := eq_true q105
             have tt_ := True.intro
             repeat ((first | go_step3 | rw [Exit.noGoto_normal] | clear tt_); go_wp2_with (first | ((with_reducible refine gate_dst (N := 6) rfl ?_); refine box_event ?hg (N := 6) ?hd (cs := #[.string (⟨#[]⟩ : ByteArray), .int .i64 0]) (t := 72) ?hr ?_; (case hd => rfl); (case hg => rfl); (case hr => first | (go_simp; done) | (go_simp; rfl)); intro gb106 hg w17 hbox hb; have n0_ := Aside0.mk (below_step (by repeat (first | (with_reducible first | exact HB.out | apply below_alloc | apply pw_below_drewN | apply below_drew1) | exact HB.out)) hb); have n1_ := Aside0.mk (hbox); have n2_ := Aside0.mk ((by rw [hg]; exact (below_size (by repeat (first | (with_reducible first | exact HB.out | apply below_alloc | apply pw_below_drewN | apply below_drew1) | exact HB.out))) : w.heap.size ≤ gb106)); have n3_ := Aside0.mk ((by rw [hg]; exact (below_size (by repeat (first | (with_reducible first | exact HB.out | apply below_alloc | apply pw_below_drewN | apply below_drew1) | exact HB.out))) : w.heap.size ≤ gb106)); clear HB; have HB := n0_; have BK106 := n1_; have GW106 := n2_; have GE106 := n3_; clear n0_ n1_ n2_ n3_; clear hb hbox hg; have hcz18_0 : w17.cell? ⟨gb106, 0, none⟩ = some (.string (⟨#[]⟩ : ByteArray)) := (blk_cell BK106.out 0).trans rfl; have hcz18_1 : w17.cell? ⟨gb106, 1, none⟩ = some (.int .i64 0) := (blk_cell BK106.out 1).trans rfl; have hfz18_0 := blk_frozen BK106.out 0; have hfz18_1 := blk_frozen BK106.out 1) | (go_at_call 90; (with_reducible refine (vector_isDot.calls ((rd_T72 l0 x12_1).f0) ((rd_T72 l0 x12_1).f1) false _ A6.out).mono ?_); rintro e w19 ⟨rfl, hb⟩; have n0_ := Aside0.mk (blk_below (g := gb106) (o := .cells #[.string ((rd_T72 l0 x12_1).f0), .int .i64 ((rd_T72 l0 x12_1).f1)] 72 (0, 0)) (by (with_reducible repeat (first | refine blk_drewN ?_ _ | refine blk_drew ?_ | refine blk_alloc ?_ _)); refine blk_put (cs := #[.string ((rd_T72 l0 x12_1).f0), .int .i64 0]) ?_ 1 _ rfl; (with_reducible repeat (first | refine blk_drewN ?_ _ | refine blk_drew ?_ | refine blk_alloc ?_ _)); refine blk_put (cs := #[.string (⟨#[]⟩ : ByteArray), .int .i64 0]) ?_ 0 _ rfl; (with_reducible repeat (first | refine blk_drewN ?_ _ | refine blk_drew ?_ | refine blk_alloc ?_ _)); exact BK106.out) hb); have n1_ := Aside0.mk (below_step (by repeat (first | (with_reducible first | exact HB.out | apply below_alloc | apply pw_below_drewN | apply below_drew1 | refine below_set ?_ GE106.out) | exact HB.out)) hb); clear BK106; clear HB; have BK106 := n0_; have HB := n1_; clear n0_ n1_; (try clear hb); (try clear hb2); (try clear hk); (try clear hi))))
             (try rw [Exit.noGoto_ret])
             go_ret
             exact ⟨by first | rfl | (simp [errW_none, errW_some] <;> rfl) | (simp [*, errW_none, errW_some] <;> rfl), by repeat (first | (with_reducible first | exact HB.out | apply below_alloc | apply pw_below_drewN | apply below_drew1 | refine below_set ?_ GE106.out) | exact HB.out)⟩
         · replace c5 := Bool.eq_false_iff.mpr c5
           subst c5
           have H1 : (some false) = some r := by rw [if_neg (show ¬ (false = true) by decide)] at H; exact H
           clear H
           have H := H1
           clear H1
           obtain rfl := Option.some.inj H
           have p105 : 0 ≤ (x12_1 : Int) := of_decide_eq_true (by first | (with_reducible assumption) | assumption)
           have q105 : x12_1 < (l0.length : Int) := of_decide_eq_true (by first | (with_reducible assumption) | assumption)
           obtain ⟨ad105, e105, hx105_0, hx105_1⟩ := at_T72 HR0.out x12_1 p105 q105
           cases e105
           replace hx105_0 := (HB.out.cell (World.block_lt_of_cell? w _ hx105_0)).trans hx105_0
           replace hx105_1 := (HB.out.cell (World.block_lt_of_cell? w _ hx105_1)).trans hx105_1
           replace p105 := eq_true p105
           replace q105 := eq_true q105
           have tt_ := True.intro
           repeat ((first | go_step3 | rw [Exit.noGoto_normal] | clear tt_); go_wp2_with (first | ((with_reducible refine gate_dst (N := 6) rfl ?_); refine box_event ?hg (N := 6) ?hd (cs := #[.string (⟨#[]⟩ : ByteArray), .int .i64 0]) (t := 72) ?hr ?_; (case hd => rfl); (case hg => rfl); (case hr => first | (go_simp; done) | (go_simp; rfl)); intro gb106 hg w20 hbox hb; have n0_ := Aside0.mk (below_step (by repeat (first | (with_reducible first | exact HB.out | apply below_alloc | apply pw_below_drewN | apply below_drew1) | exact HB.out)) hb); have n1_ := Aside0.mk (hbox); have n2_ := Aside0.mk ((by rw [hg]; exact (below_size (by repeat (first | (with_reducible first | exact HB.out | apply below_alloc | apply pw_below_drewN | apply below_drew1) | exact HB.out))) : w.heap.size ≤ gb106)); have n3_ := Aside0.mk ((by rw [hg]; exact (below_size (by repeat (first | (with_reducible first | exact HB.out | apply below_alloc | apply pw_below_drewN | apply below_drew1) | exact HB.out))) : w.heap.size ≤ gb106)); clear HB; have HB := n0_; have BK106 := n1_; have GW106 := n2_; have GE106 := n3_; clear n0_ n1_ n2_ n3_; clear hb hbox hg; have hcz21_0 : w20.cell? ⟨gb106, 0, none⟩ = some (.string (⟨#[]⟩ : ByteArray)) := (blk_cell BK106.out 0).trans rfl; have hcz21_1 : w20.cell? ⟨gb106, 1, none⟩ = some (.int .i64 0) := (blk_cell BK106.out 1).trans rfl; have hfz21_0 := blk_frozen BK106.out 0; have hfz21_1 := blk_frozen BK106.out 1)))
           (try rw [Exit.noGoto_ret])
           go_ret
           exact ⟨by first | rfl | (simp [errW_none, errW_some] <;> rfl) | (simp [*, errW_none, errW_some] <;> rfl), by repeat (first | (with_reducible first | exact HB.out | apply below_alloc | apply pw_below_drewN | apply below_drew1 | refine below_set ?_ GE106.out) | exact HB.out)⟩
       · rw [if_neg c4] at H
         exact absurd H (by simp)
     · rw [if_neg c3] at H
       exact absurd H (by simp)
   · rw [if_neg c2] at H
     have c2b0 : decide (x12_1 < (l0.length : Int)) = false := decide_eq_false c2
     clear c2
     obtain rfl := Option.some.inj H
     go_wp2
     repeat (go_step3; go_wp2)
     repeat (rw [Exit.noGoto_normal]; go_wp2)
     (try rw [Exit.noGoto_ret])
     go_ret
     exact ⟨by first | rfl | (simp [errW_none, errW_some] <;> rfl) | (simp [*, errW_none, errW_some] <;> rfl), by repeat (first | (with_reducible first | exact HB.out | apply below_alloc | apply pw_below_drewN | apply below_drew1) | exact HB.out)⟩
def order_isText.f (a0 : ByteArray) : Option (Bool) := if a0.toList = ([] : List UInt8) then (some false) else (some (decide ((a0.size : Int) ≤ 32)))
set_option maxHeartbeats 8000000 in
set_option maxRecDepth 100000 in
theorem order_isText.calls (a0 : ByteArray) (r : Bool) (w : World) (h : order_isText.f a0 = some r) :
 Calls Try.prog 67 #[.string a0] w fun e w' => e = .returned (.bool r) ∧ Drawn0 w w' := by
 have H : (if a0.toList = ([] : List UInt8) then (some false) else (some (decide ((a0.size : Int) ≤ 32)))) = some r := h
 clear h
 by_cases c2 : a0.toList = ([] : List UInt8)
 · rw [if_pos c2] at H
   have c2b0 : (a0.toList == ([] : List UInt8)) = true := beq_iff_eq.mpr c2
   have c2b1 : (a0.toList != ([] : List UInt8)) = false := bne_eq_false_iff_eq.mpr c2
   clear c2
   obtain rfl := Option.some.inj H
   go_enter Try.func67, Try.ntmps67
   go_wp2
   go_ret
   exact ⟨by first | rfl | (simp; done) | (simp [*]; done), by repeat (first | exact Drawn0.refl _ | apply Drawn0.step)⟩
 · rw [if_neg c2] at H
   have c2b0 : (a0.toList == ([] : List UInt8)) = false := beq_eq_false_iff_ne.mpr c2
   have c2b1 : (a0.toList != ([] : List UInt8)) = true := bne_iff_ne.mpr c2
   obtain rfl := Option.some.inj H
   go_enter Try.func67, Try.ntmps67
   go_wp2
   go_ret
   exact ⟨by first | rfl | (simp; done) | (simp [*]; done), by repeat (first | exact Drawn0.refl _ | apply Drawn0.step)⟩
section
open Go.Proofs.Ytjejhgjdmbodiaa.XRange Go.Proofs.Ytjejhgjdmbodiaa.XHeld
set_option maxHeartbeats 1000000 in
set_option maxRecDepth 100000 in
theorem cmpStr.calls (a b : ByteArray) (w : World) :
 Calls Try.prog 102 #[.string a, .string b] w fun e w' => e = .returned (.int .i64 (Lib.compareBytes a.data.toList b.data.toList)) ∧ w = w' := by
 go_enter Try.func102, Try.ntmps102
 go_wp2
 rw [run_callFunc_extern Try.func109 (by kernel_rfl) (by kernel_rfl) (by kernel_rfl) (e := Extern.BytealgCompare.compare) (by kernel_rfl), Lib.run_compareString]
 simp only [Result.andThen]
 rw [Oper.upon_value]
 go_wp2
 go_ret
 exact ⟨rfl, rfl⟩
theorem strCompare.calls (a b : ByteArray) (w : World) :
 Calls Try.prog 92 #[.string a, .string b] w fun e w' => e = .returned (.int .i64 (Lib.compareBytes a.data.toList b.data.toList)) ∧ w = w' := by
 go_enter Try.func92, Try.ntmps92
 go_wp2_with (go_at_call 102; refine (cmpStr.calls _ _ _).mono ?_; rintro e w' ⟨rfl, rfl⟩)
 go_ret
 exact ⟨rfl, rfl⟩
theorem find1.calls (x : ByteArray) (y : Int) (b : ByteArray) (w : World) :
 Calls Try.prog 108 #[.agg #[.string x, .int .i64 y], .string b] w fun e w' => e = .returned (.int .i64 (Lib.compareBytes x.data.toList b.data.toList)) ∧ Below w.heap.size w w' := by
 have hu34 := Try.underlying72
 go_enter Try.func108, Try.ntmps108
 go_wp2_with (go_at_call 92; refine (strCompare.calls _ _ _).mono ?_; rintro e w' ⟨rfl, rfl⟩)
 go_ret
 exact ⟨rfl, (Below.refl _ _).alloc (Nat.le_refl _) _⟩
def cmpS (l : List S72) (i : Nat) (b : ByteArray) : Int := Lib.compareBytes (l.getD i z72).f0.data.toList b.data.toList
def bsL (l : List S72) (b : ByteArray) : Nat → Nat → Nat → Nat
 | 0, i, _ => i
 | fuel + 1, i, j => if i < j then (if cmpS l ((i + j) / 2) b < 0 then bsL l b fuel ((i + j) / 2 + 1) j else bsL l b fuel i ((i + j) / 2)) else i
def findIx (l : List S72) (b : ByteArray) : Nat := bsL l b (l.length + 1) 0 l.length
def findHit (l : List S72) (b : ByteArray) : Bool := if findIx l b < l.length then cmpS l (findIx l b) b == 0 else false
def vector_find.f (l0 : List S72) (a1 : ByteArray) : Option (Int × Bool) :=
 if l0.length ≤ 1000000 then some ((findIx l0 a1 : Int), findHit l0 a1) else none
set_option maxHeartbeats 4000000 in
set_option maxRecDepth 100000 in
theorem bsearch.calls (A0 : Option Addr) (c0 : Nat) (l0 : List S72) (b : ByteArray) (w : World) (hr0 : Kd.C k72 w A0 l0.length l0) (hlen : l0.length ≤ 1000000) :
 Calls Try.prog 107 #[.slice A0 l0.length c0, .string b, .func (.func 108) #[] #[]] w fun e w' => e = .returned (.tuple #[.int .i64 (findIx l0 b), .bool (findHit l0 b)]) ∧ Below w.heap.size w w' := by
 have hu34 := Try.underlying72
 have HR := Aside0.mk hr0
 clear hr0
 go_enter Try.func107, Try.ntmps107
 go_wp2
 go_loopw [9, 10, 11] (fun vi vj _ wr => ∃ i j fuel : Nat, vi = .int .i64 i ∧ vj = .int .i64 j ∧ i ≤ j ∧ j ≤ l0.length ∧ j - i < fuel ∧ Aside0 (bsL l0 b fuel i j = findIx l0 b) ∧ Aside0 (Below w.heap.size w wr)) (fun vi vj _ _ => (intOf vj - intOf vi).toNat)
 case atStart => exact ⟨0, l0.length, l0.length + 1, rfl, rfl, by omega, by omega, by omega, ⟨rfl⟩, ⟨Below.refl _ _⟩⟩
 case round =>
  obtain ⟨i, j, fuel, rfl, rfl, hij, hjl, hfu, HF, HB⟩ := hrel
  by_cases hlt : i < j
  · obtain ⟨fuel, rfl⟩ : ∃ f, fuel = f + 1 := ⟨fuel - 1, by omega⟩
    have hm1 : i ≤ (i + j) / 2 := by omega
    have hm2 : (i + j) / 2 < j := by omega
    have hf := HF.out
    rw [bsL, if_pos hlt] at hf
    obtain ⟨ad, e, hx0, hx1⟩ := at_T72 HR.out (((i + j) / 2 : Nat) : Int) (by omega) (by omega)
    subst e
    rw [Int.toNat_natCast] at hx0 hx1
    replace hx0 := (HB.out.cell (World.block_lt_of_cell? w _ hx0)).trans hx0
    replace hx1 := (HB.out.cell (World.block_lt_of_cell? w _ hx1)).trans hx1
    have hrd : rd_T72 l0 (((i + j) / 2 : Nat) : Int) = l0.getD ((i + j) / 2) z72 := by rw [rd_T72, Int.toNat_natCast]
    rw [hrd] at hx0 hx1
    have hcm : cmpS l0 ((i + j) / 2) b = Lib.compareBytes (l0.getD ((i + j) / 2) z72).f0.data.toList b.data.toList := rfl
    obtain ⟨y, hy⟩ : ∃ y, l0.getD ((i + j) / 2) z72 = y := ⟨_, rfl⟩
    rw [hy] at hx0 hx1 hcm
    rw [hcm] at hf
    obtain ⟨z, hz⟩ : ∃ z, Lib.compareBytes y.f0.data.toList b.data.toList = z := ⟨_, rfl⟩
    rw [hz] at hf
    have HZ := Aside0.mk hz
    clear hrd hy HF hcm hz
    by_cases hneg : z < 0
    · rw [if_pos hneg] at hf
      have HFF := Aside0.mk hf
      have hn' : decide (z < 0) = true := decide_eq_true hneg
      clear hf hneg
      go_wp2_with fail
      refine (find1.calls y.f0 y.f1 b _).mono ?_
      rintro e w1 ⟨rfl, hb1⟩
      rw [HZ.out]
      have HB1 := Aside0.mk (HB.out.trans (hb1.mono HB.out.size))
      clear hb1
      go_wp2_with fail
      go_roundw
      case rel => exact ⟨(i + j) / 2 + 1, j, fuel, by go_num, rfl, by omega, by omega, by omega, HFF, HB1⟩
      case measure => simp [intOf]; omega
    · rw [if_neg hneg] at hf
      have HFF := Aside0.mk hf
      have hn' : decide (z < 0) = false := decide_eq_false hneg
      clear hf hneg
      go_wp2_with fail
      refine (find1.calls y.f0 y.f1 b _).mono ?_
      rintro e w1 ⟨rfl, hb1⟩
      rw [HZ.out]
      have HB1 := Aside0.mk (HB.out.trans (hb1.mono HB.out.size))
      clear hb1
      go_wp2_with fail
      go_roundw
      case rel => exact ⟨i, (i + j) / 2, fuel, rfl, by go_num, by omega, by omega, by omega, HFF, HB1⟩
      case measure => simp [intOf]; omega
  · have hi : findIx l0 b = i := by
     have := HF.out
     cases fuel with
     | zero => exact this.symm
     | succ f => rw [bsL, if_neg hlt] at this; exact this.symm
    have HI := Aside0.mk hi
    clear hi
    by_cases hil : i < l0.length
    · obtain ⟨ad, e, hx0, hx1⟩ := at_T72 HR.out (i : Int) (by omega) (by omega)
      subst e
      rw [Int.toNat_natCast] at hx0 hx1
      replace hx0 := (HB.out.cell (World.block_lt_of_cell? w _ hx0)).trans hx0
      replace hx1 := (HB.out.cell (World.block_lt_of_cell? w _ hx1)).trans hx1
      have hrd : rd_T72 l0 (i : Int) = l0.getD i z72 := by rw [rd_T72, Int.toNat_natCast]
      rw [hrd] at hx0 hx1
      have hcm : cmpS l0 i b = Lib.compareBytes (l0.getD i z72).f0.data.toList b.data.toList := rfl
      obtain ⟨y, hy⟩ : ∃ y, l0.getD i z72 = y := ⟨_, rfl⟩
      rw [hy] at hx0 hx1 hcm
      have HC := Aside0.mk hcm
      have hil' : decide ((i : Int) < (l0.length : Int)) = true := decide_eq_true (by omega)
      have hil2 : decide (i < l0.length) = true := decide_eq_true hil
      clear hrd hy hcm HF
      go_wp2_with fail
      refine (find1.calls y.f0 y.f1 b _).mono ?_
      rintro e w1 ⟨rfl, hb1⟩
      have HB1 := Aside0.mk (HB.out.trans (hb1.mono HB.out.size))
      clear hb1
      go_wp2_with fail
      go_ret2
      exact ⟨by rw [show findHit l0 b = (Lib.compareBytes y.f0.data.toList b.data.toList == 0) from by rw [findHit, HI.out, if_pos hil, HC.out], HI.out]; rfl, HB1.out⟩
    · have hil' : decide ((i : Int) < (l0.length : Int)) = false := decide_eq_false (by omega)
      have hil2 : decide (i < l0.length) = false := decide_eq_false hil
      clear HF
      go_wp2_with fail
      go_ret2
      exact ⟨by rw [show findHit l0 b = false from by rw [findHit, HI.out, if_neg hil], HI.out]; rfl, HB.out⟩
theorem vector_find.calls (A0 : Option Addr) (c0 : Nat) (l0 : List S72) (a1 : ByteArray) (r1 : Int) (r2 : Bool) (w : World) (hr0 : Kd.C k72 w A0 l0.length l0) (hc0 : l0.length ≤ c0) (h : vector_find.f l0 a1 = some (r1, r2)) :
 Calls Try.prog 101 #[.slice A0 l0.length c0, .string a1] w fun e w' => e = .returned (.tuple #[.int .i64 r1, .bool r2]) ∧ Below w.heap.size w w' := by
 unfold vector_find.f at h
 by_cases hlen : l0.length ≤ 1000000
 case neg => rw [if_neg hlen] at h; cases h
 rw [if_pos hlen] at h
 simp only [Option.some.injEq, Prod.mk.injEq] at h
 obtain ⟨h1, h2⟩ := h
 have HR := Aside0.mk hr0
 have HL := Aside0.mk hlen
 have H1 := Aside0.mk h1
 have H2 := Aside0.mk h2
 clear hr0 hlen h1 h2 hc0
 go_enter Try.func101, Try.ntmps101
 go_wp2_with fail
 refine (bsearch.calls A0 c0 l0 a1 _ HR.out HL.out).mono ?_
 rintro e w1 ⟨rfl, hb1⟩
 rw [H1.out, H2.out]
 have HB := Aside0.mk hb1
 clear hb1
 go_wp2
 go_ret2
 exact ⟨rfl, HB.out⟩
end
def vector_at.f (l0 : List (S72)) (a1 : ByteArray) : Option (Int) := (vector_find.f l0 a1).bind fun bt108 => (if bt108.2 = true then (if 0 ≤ bt108.1 then (if bt108.1 < (l0.length : Int) then (some ((rd_T72 l0 bt108.1).f1)) else (none)) else (none)) else (some 0))
set_option maxHeartbeats 8000000 in
set_option maxRecDepth 100000 in
theorem vector_at.calls (A0 : Option Addr) (c0 : Nat) (l0 : List (S72)) (a1 : ByteArray) (r : Int) (w : World) (hr0 : Kd.C k72 w A0 l0.length l0) (hc0 : l0.length ≤ c0) (h : vector_at.f l0 a1 = some r) :
 Calls Try.prog 91 #[.slice A0 l0.length c0, .string a1] w fun e w' => e = .returned (.int .i64 r) ∧ Below w.heap.size w w' := by
 have HR0 := Aside0.mk hr0
 have HC0 := Aside0.mk hc0
 clear hr0 hc0
 have HB := Aside0.mk (Below.refl w.heap.size w)
 have H : ((vector_find.f l0 a1).bind fun bt108 => (if bt108.2 = true then (if 0 ≤ bt108.1 then (if bt108.1 < (l0.length : Int) then (some ((rd_T72 l0 bt108.1).f1)) else (none)) else (none)) else (some 0))) = some r := h
 clear h
 replace H := Option.bind_eq_some_iff.mp H
 obtain ⟨⟨t108, t109⟩, A30, H⟩ := H
 replace H : (if t109 = true then (if 0 ≤ t108 then (if t108 < (l0.length : Int) then (some ((rd_T72 l0 t108).f1)) else (none)) else (none)) else (some 0)) = some r := H
 have A3 := Aside0.mk A30
 clear A30
 by_cases c4 : t109 = true
 · subst c4
   have H1 : (if 0 ≤ t108 then (if t108 < (l0.length : Int) then (some ((rd_T72 l0 t108).f1)) else (none)) else (none)) = some r := by rw [if_pos rfl] at H; exact H
   clear H
   have H := H1
   clear H1
   by_cases c5 : 0 ≤ t108
   · rw [if_pos c5] at H
     have c5b0 : decide (0 ≤ t108) = true := decide_eq_true c5
     clear c5
     by_cases c6 : t108 < (l0.length : Int)
     · rw [if_pos c6] at H
       have c6b0 : decide (t108 < (l0.length : Int)) = true := decide_eq_true c6
       clear c6
       obtain rfl := Option.some.inj H
       go_enter Try.func91, Try.ntmps91
       go_wp2_with (first | ((with_reducible refine gate_callee (f := 101) rfl ?_); refine goesL_ (some 10) rfl rfl Try.func101 (by kernel_rfl) rfl #[.slice A0 l0.length c0, .string a1] rfl (by (try simp only [List.map_toArray, List.map_cons, List.map_nil]); first | done | rfl | (simp only [List.length_drop, List.length_take]; rfl)) ?_; (with_reducible refine (vector_find.calls _ _ l0 a1 t108 true _ ?side1 ?side2 A3.out).mono ?_); (case side1 => repeat (first | exact HR0.out | (with_reducible refine Kd.C_alloc ?_ _) | (with_reducible refine Kd.C_drewN ?_ _) | (with_reducible refine Kd.C_drew ?_))); (case side2 => exact HC0.out); rintro e w7 ⟨rfl, hb⟩; refine ⟨_, rfl, ?_⟩; have n0_ := Aside0.mk (below_step (by repeat (first | (with_reducible first | exact HB.out | apply below_alloc | apply pw_below_drewN | apply below_drew1) | exact HB.out)) hb); clear HB; have HB := n0_; clear n0_; (try clear hb); (try clear hb2); (try clear hk); (try clear hi); have p110 : 0 ≤ (t108 : Int) := of_decide_eq_true (by first | (with_reducible assumption) | assumption); have q110 : t108 < (l0.length : Int) := of_decide_eq_true (by first | (with_reducible assumption) | assumption); obtain ⟨ad110, e110, hx110_0, hx110_1⟩ := at_T72 HR0.out t108 p110 q110; cases e110; replace hx110_0 := (HB.out.cell (World.block_lt_of_cell? w _ hx110_0)).trans hx110_0; replace hx110_1 := (HB.out.cell (World.block_lt_of_cell? w _ hx110_1)).trans hx110_1; replace p110 := eq_true p110; replace q110 := eq_true q110))
       go_ret
       exact ⟨by first | rfl | (simp [errW_none, errW_some] <;> rfl) | (simp [*, errW_none, errW_some] <;> rfl), by repeat (first | (with_reducible first | exact HB.out | apply below_alloc | apply pw_below_drewN | apply below_drew1) | exact HB.out)⟩
     · rw [if_neg c6] at H
       exact absurd H (by simp)
   · rw [if_neg c5] at H
     exact absurd H (by simp)
 · replace c4 := Bool.eq_false_iff.mpr c4
   subst c4
   have H1 : (some 0) = some r := by rw [if_neg (show ¬ (false = true) by decide)] at H; exact H
   clear H
   have H := H1
   clear H1
   obtain rfl := Option.some.inj H
   go_enter Try.func91, Try.ntmps91
   go_wp2_with (first | ((with_reducible refine gate_callee (f := 101) rfl ?_); refine goesL_ (some 10) rfl rfl Try.func101 (by kernel_rfl) rfl #[.slice A0 l0.length c0, .string a1] rfl (by (try simp only [List.map_toArray, List.map_cons, List.map_nil]); first | done | rfl | (simp only [List.length_drop, List.length_take]; rfl)) ?_; (with_reducible refine (vector_find.calls _ _ l0 a1 t108 false _ ?side1 ?side2 A3.out).mono ?_); (case side1 => repeat (first | exact HR0.out | (with_reducible refine Kd.C_alloc ?_ _) | (with_reducible refine Kd.C_drewN ?_ _) | (with_reducible refine Kd.C_drew ?_))); (case side2 => exact HC0.out); rintro e w8 ⟨rfl, hb⟩; refine ⟨_, rfl, ?_⟩; have n0_ := Aside0.mk (below_step (by repeat (first | (with_reducible first | exact HB.out | apply below_alloc | apply pw_below_drewN | apply below_drew1) | exact HB.out)) hb); clear HB; have HB := n0_; clear n0_; (try clear hb); (try clear hb2); (try clear hk); (try clear hi)))
   go_ret
   exact ⟨by first | rfl | (simp [errW_none, errW_some] <;> rfl) | (simp [*, errW_none, errW_some] <;> rfl), by repeat (first | (with_reducible first | exact HB.out | apply below_alloc | apply pw_below_drewN | apply below_drew1) | exact HB.out)⟩
end Go.Proofs.Ytjejhgjdmbodiaa.PO
end
section
namespace Go.Proofs.Ytjejhgjdmbodiaa.PO
open Go.RowKit Go.Proofs.YtjejhgjdmbodiaaW.PrintWords Go.Proofs.YtjejhgjdmbodiaaW.PrintLast Go.Proofs.YtjejhgjdmbodiaaW.PrintMore
attribute [local go_sem] max2_int min2_int max_two min_two max_three min_three max_four min_four   -- for this text's walks alone
set_option linter.unusedVariables false
set_option linter.unusedSimpArgs false
section
open Go.Proofs.Ytjejhgjdmbodiaa.XRange Go.Proofs.Ytjejhgjdmbodiaa.XHeld
attribute [local go_sem] Oper.semAt_some
theorem below_keeps {n0 : Nat} {M : Nat → Prop} {w A A' : World} (h : Below n0 w A) (hM : ∀ m, M m → n0 ≤ m) (hn : n0 ≤ A.heap.size) (hk : Keeps M A A') : Below n0 w A' :=
 h.trans ⟨hk.os, hk.tape, hk.output, hk.size, fun i hi => hk.block i (by omega) (fun hm => by have := hM i hm; omega)⟩
theorem leave_mark {n : Nat} {P : Program} {fn : Func} {tmps : Array Value} {R : Ending → World → Prop} {D : Nat} {w : World} (hD : w.heap[D]? = some (.deferred (some [])))
 (hr : ∃ v, (results fn tmps).run P (w.putObj D (.deferred none)) = .ok v (w.putObj D (.deferred none)) ∧ R (.returned v) (w.putObj D (.deferred none))) :
 LeavesInM Fence.wide n P fn tmps R [{ target := .collected D, args := #[] }] .returning w := ⟨by simp, .inl ⟨_, _, rfl, run_takeDeferred hD, hr⟩⟩
end
end Go.Proofs.Ytjejhgjdmbodiaa.PO
end
section
namespace Go.Proofs.Ytjejhgjdmbodiaa.PO
open Go.RowKit Go.Proofs.YtjejhgjdmbodiaaW.PrintWords Go.Proofs.YtjejhgjdmbodiaaW.PrintLast Go.Proofs.YtjejhgjdmbodiaaW.PrintMore
attribute [local go_sem] max2_int min2_int max_two min_two max_three min_three max_four min_four   -- for this text's walks alone
set_option linter.unusedVariables false
set_option linter.unusedSimpArgs false
section
open Go.Proofs.Ytjejhgjdmbodiaa.XRange Go.Proofs.Ytjejhgjdmbodiaa.XHeld
attribute [local go_sem] Oper.semAt_some
end
def order_own.T1 : Bool × List (List Nat × List Nat) := (true, [([], []), ([0], [0]), ([1], [1]), ([], []), ([3], [3]), ([4, 2], [4]), ([0, 1, 2, 3, 4], []), ([6, 2, 5, 0, 1, 2, 3, 4], [2, 6]), ([0, 1, 2, 3, 4, 5, 6, 7], []), ([8, 5, 7, 0, 1, 2, 3, 4, 5, 6, 7], [5, 8])])
def order_own.B1 : List Nat := [0, 1, 3, 0, 8, 31, 31, 127, 255, 511]
theorem order_own.bits1 : waitsOk order_own.T1.2 order_own.B1 = true := by kernel_rfl
end Go.Proofs.Ytjejhgjdmbodiaa.PO
end
section
namespace Go.Proofs.Ytjejhgjdmbodiaa.PO
open Go.RowKit Go.Proofs.YtjejhgjdmbodiaaW.PrintWords Go.Proofs.YtjejhgjdmbodiaaW.PrintLast Go.Proofs.YtjejhgjdmbodiaaW.PrintMore
attribute [local go_sem] max2_int min2_int max_two min_two max_three min_three max_four min_four   -- for this text's walks alone
set_option linter.unusedVariables false
set_option linter.unusedSimpArgs false
section
variable {P : Program}
section
set_option maxHeartbeats 4000000
set_option maxRecDepth 100000
end
end
def pannierref07_At.l0 : Nat → List (S72) → ByteArray → Int → Option (Int)
 | 0, _, _, _ => none
 | k + 1, x0, x1, x5 => if x5 < (x0.length : Int) then (if 0 ≤ x5 then (if ((rd_T72 x0 x5).f0).toList = x1.toList then (some ((rd_T72 x0 x5).f1)) else (pannierref07_At.l0 k x0 x1 (wrap64 (x5 + 1)))) else (none)) else (some 0)
def pannierref07_At.f (k : Nat) (l0 : List (S72)) (a1 : ByteArray) : Option (Int) := pannierref07_At.l0 k l0 a1 0
set_option maxHeartbeats 8000000 in
set_option maxRecDepth 100000 in
theorem pannierref07_At.calls (k : Nat) (A0 : Option Addr) (c0 : Nat) (l0 : List (S72)) (a1 : ByteArray) (r : Int) (w : World) (hr0 : Kd.C k72 w A0 l0.length l0) (hc0 : l0.length ≤ c0) (h : pannierref07_At.f k l0 a1 = some r) :
 Calls Try.prog 74 #[.slice A0 l0.length c0, .string a1] w fun e w' => e = .returned (.int .i64 r) ∧ Drawn0 w w' := by
 have HR0 := Aside0.mk hr0
 have HC0 := Aside0.mk hc0
 clear hr0 hc0
 have H : (pannierref07_At.l0 k l0 a1 0) = some r := h
 clear h
 have H' := Aside0.mk H
 clear H
 go_enter Try.func74, Try.ntmps74
 go_wp2
 go_loopg [5] k (fun kq v5 w' => ∃ (x5_1 : Int), v5 = .int .i64 x5_1 ∧ Aside0 (pannierref07_At.l0 kq l0 a1 x5_1 = some r) ∧ Aside0 (kq ≤ k) ∧ Drawn0 w w')
 case atStart => exact ⟨(0), (by first | rfl | (simp; done) | (simp [*]; done)), H', ⟨Nat.le_refl _⟩, by repeat (first | exact Drawn0.refl _ | apply Drawn0.step)⟩
 case round =>
  clear H'
  try clear p2
  obtain ⟨x5_1, rfl, HA, HK1, ⟨m1, rfl⟩⟩ := hrel
  cases gk with
  | zero => exact absurd HA.out (by simp [pannierref07_At.l0])
  | succ k1 =>
   have H := HA.out
   clear HA
   simp only [pannierref07_At.l0] at H
   by_cases c3 : x5_1 < (l0.length : Int)
   · rw [if_pos c3] at H
     have c3b0 : decide (x5_1 < (l0.length : Int)) = true := decide_eq_true c3
     clear c3
     by_cases c4 : 0 ≤ x5_1
     · rw [if_pos c4] at H
       have c4b0 : decide (0 ≤ x5_1) = true := decide_eq_true c4
       clear c4
       by_cases c5 : ((rd_T72 l0 x5_1).f0).toList = a1.toList
       · rw [if_pos c5] at H
         have c5b0 : (((rd_T72 l0 x5_1).f0).toList == a1.toList) = true := beq_iff_eq.mpr c5
         have c5b1 : (((rd_T72 l0 x5_1).f0).toList != a1.toList) = false := bne_eq_false_iff_eq.mpr c5
         clear c5
         obtain rfl := Option.some.inj H
         have p155 : 0 ≤ (x5_1 : Int) := of_decide_eq_true (by first | (with_reducible assumption) | assumption)
         have q155 : x5_1 < (l0.length : Int) := of_decide_eq_true (by first | (with_reducible assumption) | assumption)
         obtain ⟨ad155, e155, hx155_0, hx155_1⟩ := at_T72 HR0.out x5_1 p155 q155
         cases e155
         replace p155 := eq_true p155
         replace q155 := eq_true q155
         have p156 : 0 ≤ (x5_1 : Int) := of_decide_eq_true (by first | (with_reducible assumption) | assumption)
         have q156 : x5_1 < (l0.length : Int) := of_decide_eq_true (by first | (with_reducible assumption) | assumption)
         obtain ⟨ad156, e156, hx156_0, hx156_1⟩ := at_T72 HR0.out x5_1 p156 q156
         obtain rfl : ad155 = ad156 := (by injection e156)
         replace p156 := eq_true p156
         replace q156 := eq_true q156
         go_wp2
         go_ret
         exact ⟨by first | rfl | (simp; done) | (simp [*]; done), by repeat (first | exact Drawn0.refl _ | apply Drawn0.step)⟩
       · rw [if_neg c5] at H
         have c5b0 : (((rd_T72 l0 x5_1).f0).toList == a1.toList) = false := beq_eq_false_iff_ne.mpr c5
         have c5b1 : (((rd_T72 l0 x5_1).f0).toList != a1.toList) = true := bne_iff_ne.mpr c5
         have H' := Aside0.mk H
         clear H
         have p155 : 0 ≤ (x5_1 : Int) := of_decide_eq_true (by first | (with_reducible assumption) | assumption)
         have q155 : x5_1 < (l0.length : Int) := of_decide_eq_true (by first | (with_reducible assumption) | assumption)
         obtain ⟨ad155, e155, hx155_0, hx155_1⟩ := at_T72 HR0.out x5_1 p155 q155
         cases e155
         replace p155 := eq_true p155
         replace q155 := eq_true q155
         go_wp2
         go_roundg k1
         case measure => have := HK1.out; omega
         case rel => exact ⟨(wrap64 (x5_1 + 1)), (by first | rfl | (simp; done) | (simp [*]; done)), H', ⟨by have := HK1.out; omega⟩, by repeat (first | exact Drawn0.refl _ | apply Drawn0.step)⟩
     · rw [if_neg c4] at H
       exact absurd H (by simp)
   · rw [if_neg c3] at H
     have c3b0 : decide (x5_1 < (l0.length : Int)) = false := decide_eq_false c3
     clear c3
     obtain rfl := Option.some.inj H
     go_wp2
     go_ret
     exact ⟨by first | rfl | (simp; done) | (simp [*]; done), by repeat (first | exact Drawn0.refl _ | apply Drawn0.step)⟩
end Go.Proofs.Ytjejhgjdmbodiaa.PO
end
