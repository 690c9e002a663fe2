/- What the rows of this claim use, out of the texts of this work (UPD10, UPD14). No condition beyond those that each statement names. -/
import Derived.WalkKit
import Derived.WalkMore
import Derived.WalkSpells
import Derived.Lib.SliceRun
import Derived.Laws.RangeAny
import Derived.RangeFuncNested
import Derived.RangeFuncBound
import Derived.RangeFuncCalls
import Derived.RangeFuncLeaves
import Derived.RangeFuncKeeps
import Derived.Shelf.Abstract
import Derived.Shelf.RegionOpen
import Derived.OwnWalkIn
import Derived.TacticsInMore
import Derived.LoopNIn
import Derived.LoopIn
import Derived.Deep.RegionHeld
import Derived.Lib.ConvBytes
import Derived.Laws.IdiomRangeMap
import Derived.MapKept
import Derived.Deep.Slices
import Derived.Deep.Fields
import Derived.ChangeSame
import Derived.ProofKit
import Derived.KernelRfl
import Derived.Below
import Derived.Deep.Draws
import Derived.Deep.AppendLies
import Derived.Maps.AppendAt
import Derived.OwnWalk
import Derived.Laws.BytesArg
import Derived.Laws.MakeOwn
import Derived.Laws.OwnMore
import Derived.Deep.OwnRows
import Derived.Tactics
import Derived.Laws.Slices
import Derived.RowKit3
import Derived.Deep.LoopGhost
import Derived.Deep.QuietTactic
import Derived.BigQuiet
import Derived.WideLaws
import Derived.Deep.DeepCutAuto
import Derived.Deep.CutBlock
import Derived.Deep.RegionHeld3
import Derived.Laws.Rows
import Derived.Lib.AppendStr
import Derived.ArgAppend
import Derived.Laws.IdiomCopy
import Derived.RowKit
import Derived.OrdersHeld
import Derived.Laws.BitsLemmas
import Derived.Laws.StructEq
import Derived.Test.YtjejhgjdmbodiaaZdW
import Derived.Test.YtjejhgjdmbodiaaZdX
import Derived.Test.YtjejhgjdmbodiaaZdUPOx0
import Derived.Test.YtjejhgjdmbodiaaZdUOV
import Derived.Test.YtjejhgjdmbodiaaZdUPOx10
import Derived.Test.YtjejhgjdmbodiaaZdUPOx3
section
namespace Go.Proofs.Ytjejhgjdmbodiaa.PO
open Go.Proofs.Ytjejhgjdmbodiaa
open Go.RowKit Go.Proofs.YtjejhgjdmbodiaaW.PrintWords Go.Proofs.YtjejhgjdmbodiaaW.PrintLast Go.Proofs.YtjejhgjdmbodiaaW.PrintMore
attribute [local go_sem] max2_int min2_int max_two min_two max_three min_three max_four min_four   -- for this text's walks alone
set_option linter.unusedVariables false
set_option linter.unusedSimpArgs false
def wire_extra.f (k : Nat) (a0 : Int) : Option (Int) := (bits_Len64.f k a0).bind fun t160 => (some (mn 8 (wrap64 ((mx 0 (wrap64 (t160 - 1))) / 7))))
set_option maxHeartbeats 8000000 in
set_option maxRecDepth 100000 in
theorem wire_extra.calls (k : Nat) (a0 : Int) (r : Int) (w : World) (h : wire_extra.f k a0 = some r) :
 Calls Try.prog 80 #[.int .u64 a0] w fun e w' => e = .returned (.int .i64 r) ∧ Below w.heap.size w w' := by
 have HB := Aside0.mk (Below.refl w.heap.size w)
 have H : ((bits_Len64.f k a0).bind fun t160 => (some (mn 8 (wrap64 ((mx 0 (wrap64 (t160 - 1))) / 7))))) = some r := h
 clear h
 replace H := Option.bind_eq_some_iff.mp H
 obtain ⟨t160, A20, H⟩ := H
 replace H : (some (mn 8 (wrap64 ((mx 0 (wrap64 (t160 - 1))) / 7)))) = some r := H
 have A2 := Aside0.mk A20
 clear A20
 obtain ⟨ji3, hji3⟩ : ∃ j_ : Int, (mx 0 (wrap64 (t160 - 1))) = j_ := ⟨_, rfl⟩
 replace H : (some (mn 8 (wrap64 ((ji3) / 7)))) = some r := by first | (rw [hji3] at H; exact H) | (simp only [hji3] at H ⊢; exact H)
 (try rw [hji3] at A2)
 (try (have hji3l : 0 ≤ ji3 := by (rw [← hji3]; unfold mx; (repeat' split) <;> omega)))
 (try (have hji3m : 0 ≤ ji3 := by omega))
 (try (have hji3q : ∀ b_ : Int, Int.tdiv ji3 b_ = ji3 / b_ := fun b_ => Int.tdiv_eq_ediv_of_nonneg hji3m))
 have hji3_ : (if 0 < (wrap64 (t160 - 1)) then (wrap64 (t160 - 1)) else 0) = ji3 := hji3
 obtain ⟨ji4, hji4⟩ : ∃ j_ : Int, (mn 8 (wrap64 ((ji3) / 7))) = j_ := ⟨_, rfl⟩
 replace H : (some ji4) = some r := by first | (rw [hji4] at H; exact H) | (simp only [hji4] at H ⊢; exact H)
 (try rw [hji4] at A2)
 have hji4_ : (if (wrap64 ((ji3) / 7)) < 8 then (wrap64 ((ji3) / 7)) else 8) = ji4 := hji4
 obtain rfl := Option.some.inj H
 go_enter Try.func80, Try.ntmps80
 go_wp2_with (first | ((with_reducible refine gate_callee (f := 95) rfl ?_); refine goesL_ (some 4) rfl rfl Try.func95 (by kernel_rfl) rfl #[.int .u64 a0] rfl (by (try simp only [List.map_toArray, List.map_cons, List.map_nil]); first | done | rfl | (simp only [List.length_drop, List.length_take]; rfl)) ?_; (with_reducible refine (bits_Len64.calls k a0 t160 _ A2.out).mono ?_); rintro e w' ⟨rfl, ⟨nd, rfl⟩⟩; refine ⟨_, rfl, ?_⟩))
 go_ret
 exact ⟨by first | rfl | (simp [errW_none, errW_some] <;> rfl) | (simp only [← hji3, ← hji4]; first | rfl | (simp [errW_none, errW_some] <;> rfl)) | (simp [*, errW_none, errW_some] <;> rfl), by repeat (first | (with_reducible first | exact HB.out | apply below_alloc | apply pw_below_drewN | apply below_drew1) | exact HB.out)⟩
def slices_Clone_byte_byte.f (l0 : List Int) : Option (List Int) := if l0.length * 1 ≤ 140737488355328 then some l0 else none
set_option maxHeartbeats 800000 in
theorem slices_Clone_byte_byte.calls (A0 : Option Addr) (c0 : Nat) (l0 : List Int) (r : List Int) (w : World) (hr0 : Kd.C (Kd.int .u8) w A0 l0.length l0) (hc0 : l0.length ≤ c0) (h : slices_Clone_byte_byte.f l0 = some r) :
 Calls Try.prog 81 #[.slice A0 l0.length c0] w fun e w' => ∃ v0_ : Value, e = .returned (v0_) ∧ Kd.R (Kd.int .u8) 5 w' w.heap.size (fun _ => True) v0_ r ∧ Below w.heap.size w w' := by
 have hn := fun (W : World) => Lib.run_eql_slice_nil (P := Try.prog) W 100 5 A0 l0.length c0 0 0 Try.underlying100
 unfold slices_Clone_byte_byte.f at h
 by_cases hl : l0.length * 1 ≤ 140737488355328
 case neg => rw [if_neg hl] at h; cases h
 rw [if_pos hl] at h
 obtain rfl := Option.some.inj h
 have HL := Aside0.mk hl
 clear h hl
 cases A0 with
 | none =>
  simp only [Option.isNone_none] at hn
  have h0 : l0 = [] := by
   rcases Nat.eq_zero_or_pos l0.length with h | h
   · exact List.eq_nil_of_length_eq_zero h
   · obtain ⟨ad, he, _⟩ := hr0.2.2 h
     cases he
  have H0 := Aside0.mk h0
  clear h0
  go_enter Try.func81, Try.ntmps81
  go_wp2
  go_ret
  exact ⟨_, rfl, by rw [H0.out]; exact Kd.R_nil _ _ _ _ _, Below.refl _ _⟩
 | some ad =>
  simp only [Option.isNone_some] at hn
  have HR := Aside0.mk hr0
  clear hr0
  have ho0 : Kd.R (Kd.int .u8) 5 (w.alloc (.cells #[] 5)) w.heap.size (fun _ => True) (.slice (some ⟨w.heap.size, 0, none⟩) 0 0) ([] : List Int) :=
   ⟨fun _ _ => trivial, [], World.ownsRow_made w #[] 0 (Nat.le_refl _) (by unfold maxLen; omega) (by rfl), Reps.none _ _⟩
  have HO := Aside0.mk ho0
  clear ho0
  go_enter Try.func81, Try.ntmps81
  go_wp2_with ((with_reducible refine gate_builtin (b := .append) (xs := #[.tmp 5, .tmp 6]) rfl ?_); at_builtin; refine Kd.R_append_rows (Kd.int .u8) (w0 := w) w.heap.size rfl (.tmp 5) (.tmp 6) 100 5 (.int .u8 0) 1 rfl Try.underlying100 info5 rfl (by decide) (by omega) _ [] l0 _ _ _ (fun _ => True) (fun _ => False) rfl rfl HO.out (Kd.C_below HR.out ((Below.refl _ _).alloc (Nat.le_refl _) _)) (fun _ _ h => h) (fun _ h => h.elim) (fun _ _ => trivial) ((Below.refl _ _).alloc (Nat.le_refl _) _) (by simp) (by have := HL.out; simpa using this) ?_; intro v1 w1 ho1 hb1 hg1 hat)
  go_ret
  exact ⟨_, rfl, by simpa using ho1, hb1⟩
mutual
def wire_Number.j0 : Nat → List Int → Int → Int → Int → Option (List Int)
 | 0, _, _, _, _ => none
 | k + 1, x0, x1, x5, x6 => (slices_Clone_byte_byte.f x0).bind fun t162 => (if t162.length < 140737488355328 then (wire_Number.l0 k x1 x5 (t162 ++ [x6]) x5 0) else (none))
def wire_Number.l0 : Nat → Int → Int → List Int → Int → Int → Option (List Int)
 | 0, _, _, _, _, _ => none
 | k + 1, x1, x5, x7, x28, x29 => if x29 < x28 then (if 0 ≤ (wrap64 (8 * (wrap64 ((wrap64 (x5 - 1)) - x29)))) then (if x7.length < 140737488355328 then (wire_Number.l0 k x1 x5 (x7 ++ [(shr .u64 x1 (wrap64 (8 * (wrap64 ((wrap64 (x5 - 1)) - x29))))) % 256]) x28 (wrap64 (x29 + 1))) else (none)) else (none)) else (some x7)
end
def wire_Number.f (k : Nat) (l0 : List Int) (a1 : Int) : Option (List Int) := (wire_extra.f k a1).bind fun t161 => (if 0 ≤ (wrap64 (8 - t161)) then (if t161 < 8 then (if 0 ≤ (wrap64 (8 * t161)) then (wire_Number.j0 k l0 a1 t161 (Go.bits .or .u8 (shl .u8 255 (wrap64 (8 - t161))) ((shr .u64 a1 (wrap64 (8 * t161))) % 256))) else (none)) else (wire_Number.j0 k l0 a1 t161 (shl .u8 255 (wrap64 (8 - t161))))) else (none))
set_option maxHeartbeats 8000000 in
set_option maxRecDepth 100000 in
theorem wire_Number.calls (k : Nat) (A0 : Option Addr) (c0 : Nat) (l0 : List Int) (a1 : Int) (r : List Int) (w : World) (hr0 : Kd.C (Kd.int .u8) w A0 l0.length l0) (hc0 : l0.length ≤ c0) (h : wire_Number.f k l0 a1 = some r) :
 Calls Try.prog 51 #[.slice A0 l0.length c0, .int .u64 a1] w fun e w' => ∃ v0_ : Value, e = .returned (v0_) ∧ Kd.R (Kd.int .u8) 5 w' w.heap.size (fun _ => True) v0_ r ∧ Below w.heap.size w w' := by
 have HR0 := Aside0.mk hr0
 have HC0 := Aside0.mk hc0
 clear hr0 hc0
 have HB := Aside0.mk (Below.refl w.heap.size w)
 have H : ((wire_extra.f k a1).bind fun t161 => (if 0 ≤ (wrap64 (8 - t161)) then (if t161 < 8 then (if 0 ≤ (wrap64 (8 * t161)) then (wire_Number.j0 k l0 a1 t161 (Go.bits .or .u8 (shl .u8 255 (wrap64 (8 - t161))) ((shr .u64 a1 (wrap64 (8 * t161))) % 256))) else (none)) else (wire_Number.j0 k l0 a1 t161 (shl .u8 255 (wrap64 (8 - t161))))) else (none))) = some r := h
 clear h
 replace H := Option.bind_eq_some_iff.mp H
 obtain ⟨t161, A30, H⟩ := H
 replace H : (if 0 ≤ (wrap64 (8 - t161)) then (if t161 < 8 then (if 0 ≤ (wrap64 (8 * t161)) then (wire_Number.j0 k l0 a1 t161 (Go.bits .or .u8 (shl .u8 255 (wrap64 (8 - t161))) ((shr .u64 a1 (wrap64 (8 * t161))) % 256))) else (none)) else (wire_Number.j0 k l0 a1 t161 (shl .u8 255 (wrap64 (8 - t161))))) else (none)) = some r := H
 have A3 := Aside0.mk A30
 clear A30
 obtain ⟨ji4, hji4⟩ : ∃ j_ : Int, (wrap64 (8 - t161)) = j_ := ⟨_, rfl⟩
 replace H : (if 0 ≤ (ji4) then (if t161 < 8 then (if 0 ≤ (wrap64 (8 * t161)) then (wire_Number.j0 k l0 a1 t161 (Go.bits .or .u8 (shl .u8 255 (ji4)) ((shr .u64 a1 (wrap64 (8 * t161))) % 256))) else (none)) else (wire_Number.j0 k l0 a1 t161 (shl .u8 255 (ji4)))) else (none)) = some r := by first | (rw [hji4] at H; exact H) | (simp only [hji4] at H ⊢; exact H)
 (try rw [hji4] at A3)
 have hji4w : (IntKind.i64.wrap (8 - t161)) = ji4 := (i64_w _).trans hji4
 by_cases c5 : 0 ≤ (ji4)
 · rw [if_pos c5] at H
   have c5b0 := eq_true c5
   have c5b1 : decide (0 ≤ (ji4)) = true := decide_eq_true c5
   clear c5
   obtain ⟨ji6, hji6⟩ : ∃ j_ : Int, (shl .u8 255 (ji4)) = j_ := ⟨_, rfl⟩
   replace H : (if t161 < 8 then (if 0 ≤ (wrap64 (8 * t161)) then (wire_Number.j0 k l0 a1 t161 (Go.bits .or .u8 (ji6) ((shr .u64 a1 (wrap64 (8 * t161))) % 256))) else (none)) else (wire_Number.j0 k l0 a1 t161 ji6)) = some r := by first | (rw [hji6] at H; exact H) | (simp only [hji6] at H ⊢; exact H)
   (try rw [hji6] at A3)
   have hji6_ : (IntKind.u8.wrap (255 * 2 ^ min (ji4).toNat 8)) = ji6 := hji6
   have hji6z : (ji4) ≤ 8 → (IntKind.u8.wrap (255 * 2 ^ (ji4).toNat)) = ji6 := shl_small hji6
   have HC7 := Aside0.mk H
   clear H
   go_enter Try.func51, Try.ntmps51
   go_upto_if 15 with (first | ((with_reducible refine gate_callee (f := 80) rfl ?_); refine goesL_ (some 10) rfl rfl Try.func80 (by kernel_rfl) rfl #[.int .u64 a1] rfl (by (try simp only [List.map_toArray, List.map_cons, List.map_nil]); first | done | rfl | (simp only [List.length_drop, List.length_take]; rfl)) ?_; (with_reducible refine (wire_extra.calls k a1 t161 _ A3.out).mono ?_); rintro e w8 ⟨rfl, hb⟩; refine ⟨_, rfl, ?_⟩; have n0_ := Aside0.mk (below_step (by repeat (first | (with_reducible first | exact HB.out | apply below_alloc | apply pw_below_drewN | apply below_drew1) | exact HB.out)) hb); clear HB; have HB := n0_; clear n0_; (try clear hb); (try clear hb2); (try clear hk); (try clear hi)))
   (try simp only [Act.put, List.setIfInBounds_toArray, List.set_cons_zero, List.set_cons_succ])
   go_cut [6] (fun v6 wc => ∃ (kq : Nat) (x6_6 : Int), v6 = .int .u8 x6_6 ∧ Aside0 (wire_Number.j0 kq l0 a1 t161 x6_6 = some r) ∧ Aside0 (kq ≤ k) ∧ Aside0 (Below w.heap.size w wc))
   case first =>
    have H := HC7.out
    clear HC7
    by_cases c9 : t161 < 8
    · rw [if_pos c9] at H
      have c9b0 : decide (t161 < 8) = true := decide_eq_true c9
      clear c9
      (first | rw [c9b0] | (simp only [i64_w, i32_w]; rw [c9b0]) | skip)
      obtain ⟨ji10, hji10⟩ : ∃ j_ : Int, (wrap64 (8 * t161)) = j_ := ⟨_, rfl⟩
      replace H : (if 0 ≤ (ji10) then (wire_Number.j0 k l0 a1 t161 (Go.bits .or .u8 (ji6) ((shr .u64 a1 (ji10)) % 256))) else (none)) = some r := by first | (rw [hji10] at H; exact H) | (simp only [hji10] at H ⊢; exact H)
      have hji10w : (IntKind.i64.wrap (8 * t161)) = ji10 := (i64_w _).trans hji10
      by_cases c11 : 0 ≤ (ji10)
      · rw [if_pos c11] at H
        have c11b0 := eq_true c11
        have c11b1 : decide (0 ≤ (ji10)) = true := decide_eq_true c11
        clear c11
        obtain ⟨ji12, hji12⟩ : ∃ j_ : Int, (shr .u64 a1 (ji10)) = j_ := ⟨_, rfl⟩
        replace H : (wire_Number.j0 k l0 a1 t161 (Go.bits .or .u8 (ji6) ((ji12) % 256))) = some r := by first | (rw [hji12] at H; exact H) | (simp only [hji12] at H ⊢; exact H)
        have hji12_ : (a1 / 2 ^ min (ji10).toNat 64) = ji12 := hji12
        have hji12z : (ji10) ≤ 64 → (a1 / 2 ^ (ji10).toNat) = ji12 := shr_small hji12
        have H' := Aside0.mk H
        clear H
        go_wp2
        go_meet
        case rel => exact ⟨_, (Go.bits .or .u8 (ji6) ((ji12) % 256)), (by first | rfl | (simp; done) | (simp only [← hji6, ← hji12] <;> (first | rfl | simp)) | (simp [*]; done)), H', ⟨by first | omega | exact Nat.le_refl _⟩, ⟨by repeat (first | (with_reducible first | exact HB.out | apply below_alloc | apply pw_below_drewN | apply below_drew1) | exact HB.out)⟩⟩
      · rw [if_neg c11] at H
        exact absurd H (by simp)
    · rw [if_neg c9] at H
      have c9b0 : decide (t161 < 8) = false := decide_eq_false c9
      clear c9
      (first | rw [c9b0] | (simp only [i64_w, i32_w]; rw [c9b0]) | skip)
      have H' := Aside0.mk H
      clear H
      go_wp2
      go_meet
      case rel => exact ⟨_, (ji6), (by first | rfl | (simp; done) | (simp only [← hji6] <;> (first | rfl | simp)) | (simp [*]; done)), H', ⟨by first | omega | exact Nat.le_refl _⟩, ⟨by repeat (first | (with_reducible first | exact HB.out | apply below_alloc | apply pw_below_drewN | apply below_drew1) | exact HB.out)⟩⟩
   case rest =>
    clear HC7
    try clear c1
    try clear p2
    try clear c5
    try clear c5b0
    try clear c5b1
    try clear p6
    try clear c7
    try clear c9
    try clear c9b0
    try clear c11
    try clear c11b0
    try clear c11b1
    obtain ⟨kq, x6_6, rfl, HA, HJ6, HB⟩ := hcut
    cases kq with
    | zero => exact absurd HA.out (by simp [wire_Number.j0])
    | succ kj6 =>
     have H := HA.out
     clear HA
     simp only [wire_Number.j0] at H
     replace H := Option.bind_eq_some_iff.mp H
     obtain ⟨t162, A130, H⟩ := H
     replace H : (if t162.length < 140737488355328 then (wire_Number.l0 kj6 a1 t161 (t162 ++ [x6_6]) t161 0) else (none)) = some r := H
     have A13 := Aside0.mk A130
     clear A130
     by_cases c14 : t162.length < 140737488355328
     · rw [if_pos c14] at H
       have LMc14 := Aside0.mk c14
       clear c14
       obtain ⟨y165, hy165⟩ : ∃ y_ : List Int, y_ = (t162 ++ [x6_6]) := ⟨_, rfl⟩
       replace H : (wire_Number.l0 kj6 a1 t161 y165 t161 0) = some r := by first | (rw [hy165]; with_reducible exact H) | (have H2_ := (Option.bind_some _ _).symm.trans H; rw [hy165]; with_reducible exact H2_) | (have H2_ := (Option.bind_some _ _).symm.trans H; with_reducible exact H2_) | with_reducible exact H | (rw [hy165]; exact H) | exact H
       have Ny165 := Aside0.mk hy165
       clear hy165
       have H' := Aside0.mk H
       clear H
       go_wp2_with (first | ((with_reducible refine gate_callee (f := 81) rfl ?_); refine goesL_ (some 24) rfl rfl Try.func81 (by kernel_rfl) rfl #[.slice A0 l0.length c0] rfl (by (try simp only [List.map_toArray, List.map_cons, List.map_nil]); first | done | rfl | (simp only [List.length_drop, List.length_take]; rfl)) ?_; (with_reducible refine (slices_Clone_byte_byte.calls _ _ l0 t162 _ ?side1 ?side2 A13.out).mono ?_); (case side1 => repeat (first | exact (Kd.C_below HR0.out HB.out) | (with_reducible refine Kd.C_alloc ?_ _) | (with_reducible refine Kd.C_drewN ?_ _) | (with_reducible refine Kd.C_drew ?_))); (case side2 => exact HC0.out); rintro e w15 ⟨v163, rfl, ho0, hb⟩; refine ⟨_, rfl, ?_⟩; have n0_ := Aside0.mk (Kd.R_lower ho0 (below_size (by repeat (first | (with_reducible first | exact HB.out | apply below_alloc | apply pw_below_drewN | apply below_drew1) | exact HB.out)))); have n1_ := Aside0.mk (below_step (by repeat (first | (with_reducible first | exact HB.out | apply below_alloc | apply pw_below_drewN | apply below_drew1) | exact HB.out)) hb); clear HB; have HO164 := n0_; have HB := n1_; clear n0_ n1_; (try clear hb); (try clear hb2); (try clear hk); (try clear hi); (try clear ho0)) | ((with_reducible refine gate_builtin (b := .append) (xs := #[.tmp 24, .tmp 26]) rfl ?_); at_builtin; refine Kd.R_append (Kd.int .u8) (w0 := w) w.heap.size rfl (.tmp 24) (.tmp 26) 100 5 (.int .u8 0) 1 rfl Try.underlying100 info5 rfl (by decide) (by omega) v163 t162 x6_6 [.int .u8 x6_6] (fun _ => True) (fun _ => False) rfl rfl ?aP (fun _ hk => hk.elim) ?aF ?aO ?aB ?aS ?aL ?_; (case aP => exact rfl); (case aB => exact (by repeat (first | (with_reducible first | exact HB.out | apply below_alloc | apply pw_below_drewN | apply below_drew1) | exact HB.out))); (case aF => exact (fun _ _ => trivial)); (case aO => exact (by (with_reducible repeat (first | apply Kd.R_alloc | apply Kd.R_drewN | apply Kd.R_drew)); exact HO164.out)); (case aS => exact (below_size (by repeat (first | (with_reducible first | exact HB.out | apply below_alloc | apply pw_below_drewN | apply below_drew1) | exact HB.out)))); (case aL => have := LMc14.out; omega); intro v166 w16 ho hb hg hat; rw [← Ny165.out] at ho; have n0_ := Aside0.mk (hb); have n1_ := Aside0.mk (ho); clear HB; clear HO164; have HB := n0_; have HO167 := n1_; clear n0_ n1_; clear ho hb hg hat))
       go_loopg [7, 29] kj6 (fun kq v7 v29 w' => ∃ (x7_2 : List Int) (x29_2 : Int), v29 = .int .i64 x29_2 ∧ Aside0 (wire_Number.l0 kq a1 t161 x7_2 t161 x29_2 = some r) ∧ Aside0 (kq ≤ kj6) ∧ Aside0 (Kd.R (Kd.int .u8) 5 w' w.heap.size (fun _ => True) v7 x7_2) ∧ Aside0 (Below w.heap.size w w'))
       case atStart => exact ⟨(y165), (0), (by first | rfl | (simp; done) | (simp [*]; done)), H', ⟨Nat.le_refl _⟩, ⟨by (with_reducible repeat (first | apply Kd.R_alloc | apply Kd.R_drewN | apply Kd.R_drew)); exact HO167.out⟩, ⟨by repeat (first | (with_reducible first | exact HB.out | apply below_alloc | apply pw_below_drewN | apply below_drew1) | exact HB.out)⟩⟩
       case round =>
        clear H'
        try clear c1
        try clear p2
        try clear c5
        try clear c5b0
        try clear c5b1
        try clear p6
        try clear c7
        try clear c9
        try clear c9b0
        try clear c11
        try clear c11b0
        try clear c11b1
        try clear c14
        try clear p2
        try clear p6
        obtain ⟨x7_2, x29_2, rfl, HA, HK2, HO_7, HB⟩ := hrel
        cases gk with
        | zero => exact absurd HA.out (by simp [wire_Number.l0])
        | succ k2 =>
         have H := HA.out
         clear HA
         simp only [wire_Number.l0] at H
         by_cases c17 : x29_2 < t161
         · rw [if_pos c17] at H
           have c17b0 : decide (x29_2 < t161) = true := decide_eq_true c17
           clear c17
           obtain ⟨ji18, hji18⟩ : ∃ j_ : Int, (wrap64 (8 * (wrap64 ((wrap64 (t161 - 1)) - x29_2)))) = j_ := ⟨_, rfl⟩
           replace H : (if 0 ≤ (ji18) then (if x7_2.length < 140737488355328 then (wire_Number.l0 k2 a1 t161 (x7_2 ++ [(shr .u64 a1 (ji18)) % 256]) t161 (wrap64 (x29_2 + 1))) else (none)) else (none)) = some r := by first | (rw [hji18] at H; exact H) | (simp only [hji18] at H ⊢; exact H)
           have hji18w : (IntKind.i64.wrap (8 * (wrap64 ((wrap64 (t161 - 1)) - x29_2)))) = ji18 := (i64_w _).trans hji18
           by_cases c19 : 0 ≤ (ji18)
           · rw [if_pos c19] at H
             have c19b0 := eq_true c19
             have c19b1 : decide (0 ≤ (ji18)) = true := decide_eq_true c19
             clear c19
             obtain ⟨ji20, hji20⟩ : ∃ j_ : Int, (shr .u64 a1 (ji18)) = j_ := ⟨_, rfl⟩
             replace H : (if x7_2.length < 140737488355328 then (wire_Number.l0 k2 a1 t161 (x7_2 ++ [(ji20) % 256]) t161 (wrap64 (x29_2 + 1))) else (none)) = some r := by first | (rw [hji20] at H; exact H) | (simp only [hji20] at H ⊢; exact H)
             have hji20_ : (a1 / 2 ^ min (ji18).toNat 64) = ji20 := hji20
             have hji20z : (ji18) ≤ 64 → (a1 / 2 ^ (ji18).toNat) = ji20 := shr_small hji20
             by_cases c21 : x7_2.length < 140737488355328
             · rw [if_pos c21] at H
               have LMc21 := Aside0.mk c21
               clear c21
               obtain ⟨y168, hy168⟩ : ∃ y_ : List Int, y_ = (x7_2 ++ [(ji20) % 256]) := ⟨_, rfl⟩
               replace H : (wire_Number.l0 k2 a1 t161 y168 t161 (wrap64 (x29_2 + 1))) = some r := by first | (rw [hy168]; with_reducible exact H) | (have H2_ := (Option.bind_some _ _).symm.trans H; rw [hy168]; with_reducible exact H2_) | (have H2_ := (Option.bind_some _ _).symm.trans H; with_reducible exact H2_) | with_reducible exact H | (rw [hy168]; exact H) | exact H
               have Ny168 := Aside0.mk hy168
               clear hy168
               have H' := Aside0.mk H
               clear H
               go_wp2_with (first | ((with_reducible refine gate_builtin (b := .append) (xs := #[.tmp 32, .tmp 41]) rfl ?_); at_builtin; refine Kd.R_append (Kd.int .u8) (w0 := w) w.heap.size rfl (.tmp 32) (.tmp 41) 100 5 (.int .u8 0) 1 rfl Try.underlying100 info5 rfl (by decide) (by omega) u7 x7_2 ((ji20) % 256) [.int .u8 ((ji20) % 256)] (fun _ => True) (fun _ => False) rfl rfl ?aP (fun _ hk => hk.elim) ?aF ?aO ?aB ?aS ?aL ?_; (case aP => exact rfl); (case aB => exact (by repeat (first | (with_reducible first | exact HB.out | apply below_alloc | apply pw_below_drewN | apply below_drew1) | exact HB.out))); (case aF => exact (fun _ _ => trivial)); (case aO => exact (by (with_reducible repeat (first | apply Kd.R_alloc | apply Kd.R_drewN | apply Kd.R_drew)); exact HO_7.out)); (case aS => exact (below_size (by repeat (first | (with_reducible first | exact HB.out | apply below_alloc | apply pw_below_drewN | apply below_drew1) | exact HB.out)))); (case aL => have := LMc21.out; omega); intro v169 w22 ho hb hg hat; rw [← Ny168.out] at ho; have n0_ := Aside0.mk (hb); have n1_ := Aside0.mk (ho); clear HB; clear HO_7; have HB := n0_; have HO170 := n1_; clear n0_ n1_; clear ho hb hg hat))
               go_roundg k2
               case measure => have := HJ6.out; have := HK2.out; omega
               case rel => exact ⟨(y168), (wrap64 (x29_2 + 1)), (by first | rfl | (simp; done) | (simp [*]; done)), H', ⟨by have := HJ6.out; have := HK2.out; omega⟩, ⟨by (with_reducible repeat (first | apply Kd.R_alloc | apply Kd.R_drewN | apply Kd.R_drew)); exact HO170.out⟩, ⟨by repeat (first | (with_reducible first | exact HB.out | apply below_alloc | apply pw_below_drewN | apply below_drew1) | exact HB.out)⟩⟩
             · rw [if_neg c21] at H
               exact absurd H (by simp)
           · rw [if_neg c19] at H
             exact absurd H (by simp)
         · rw [if_neg c17] at H
           have c17b0 : decide (x29_2 < t161) = false := decide_eq_false c17
           clear c17
           obtain rfl := Option.some.inj H
           go_wp2
           go_ret
           exact ⟨_, by first | rfl | (simp [errW_none, errW_some] <;> rfl) | (simp only [← hji4, ← hji6]; first | rfl | (simp [errW_none, errW_some] <;> rfl)) | (simp [*, errW_none, errW_some] <;> rfl), by (with_reducible repeat (first | apply Kd.R_alloc | apply Kd.R_drewN | apply Kd.R_drew)); exact HO_7.out, by repeat (first | (with_reducible first | exact HB.out | apply below_alloc | apply pw_below_drewN | apply below_drew1) | exact HB.out)⟩
     · rw [if_neg c14] at H
       exact absurd H (by simp)
 · rw [if_neg c5] at H
   exact absurd H (by simp)
def wire_Text.f (k : Nat) (l0 : List Int) (a1 : ByteArray) : Option (List Int) := (wire_Number.f k l0 (IntKind.u64.wrap ((a1.size : Int)))).bind fun t171 => (if t171.length + a1.size < 140737488355328 then (some (t171 ++ bytesOf a1)) else (none))
set_option maxHeartbeats 8000000 in
set_option maxRecDepth 100000 in
theorem wire_Text.calls (k : Nat) (A0 : Option Addr) (c0 : Nat) (l0 : List Int) (a1 : ByteArray) (r : List Int) (w : World) (hr0 : Kd.C (Kd.int .u8) w A0 l0.length l0) (hc0 : l0.length ≤ c0) (h : wire_Text.f k l0 a1 = some r) :
 Calls Try.prog 52 #[.slice A0 l0.length c0, .string a1] w fun e w' => ∃ v0_ : Value, e = .returned (v0_) ∧ Kd.R (Kd.int .u8) 5 w' w.heap.size (fun _ => True) v0_ r ∧ Below w.heap.size w w' := by
 have HR0 := Aside0.mk hr0
 have HC0 := Aside0.mk hc0
 clear hr0 hc0
 have HB := Aside0.mk (Below.refl w.heap.size w)
 have H : ((wire_Number.f k l0 (IntKind.u64.wrap ((a1.size : Int)))).bind fun t171 => (if t171.length + a1.size < 140737488355328 then (some (t171 ++ bytesOf a1)) else (none))) = some r := h
 clear h
 replace H := Option.bind_eq_some_iff.mp H
 obtain ⟨t171, A30, H⟩ := H
 replace H : (if t171.length + a1.size < 140737488355328 then (some (t171 ++ bytesOf a1)) else (none)) = some r := H
 have A3 := Aside0.mk A30
 clear A30
 by_cases c4 : t171.length + a1.size < 140737488355328
 · rw [if_pos c4] at H
   have LMc4 := Aside0.mk c4
   clear c4
   obtain ⟨y174, hy174⟩ : ∃ y_ : List Int, y_ = (t171 ++ bytesOf a1) := ⟨_, rfl⟩
   replace H : (some y174) = some r := by first | (rw [hy174]; with_reducible exact H) | (have H2_ := (Option.bind_some _ _).symm.trans H; rw [hy174]; with_reducible exact H2_) | (have H2_ := (Option.bind_some _ _).symm.trans H; with_reducible exact H2_) | with_reducible exact H | (rw [hy174]; exact H) | exact H
   have Ny174 := Aside0.mk hy174
   clear hy174
   obtain rfl := Option.some.inj H
   go_enter Try.func52, Try.ntmps52
   go_wp2_with (first | ((with_reducible refine gate_callee (f := 51) rfl ?_); refine goesL_ (some 9) rfl rfl Try.func51 (by kernel_rfl) rfl #[.slice A0 l0.length c0, .int .u64 (IntKind.u64.wrap ((a1.size : Int)))] rfl (by (try simp only [List.map_toArray, List.map_cons, List.map_nil]); first | done | rfl | (simp only [List.length_drop, List.length_take]; rfl)) ?_; (with_reducible refine (wire_Number.calls k _ _ l0 (IntKind.u64.wrap ((a1.size : Int))) t171 _ ?side1 ?side2 A3.out).mono ?_); (case side1 => repeat (first | exact HR0.out | (with_reducible refine Kd.C_alloc ?_ _) | (with_reducible refine Kd.C_drewN ?_ _) | (with_reducible refine Kd.C_drew ?_))); (case side2 => exact HC0.out); rintro e w5 ⟨v172, rfl, ho0, hb⟩; refine ⟨_, rfl, ?_⟩; have n0_ := Aside0.mk (Kd.R_lower ho0 (below_size (by repeat (first | (with_reducible first | exact HB.out | apply below_alloc | apply pw_below_drewN | apply below_drew1) | exact HB.out)))); have n1_ := Aside0.mk (below_step (by repeat (first | (with_reducible first | exact HB.out | apply below_alloc | apply pw_below_drewN | apply below_drew1) | exact HB.out)) hb); clear HB; have HO173 := n0_; have HB := n1_; clear n0_ n1_; (try clear hb); (try clear hb2); (try clear hk); (try clear hi); (try clear ho0)) | (at_builtin; refine print_append_str (w0 := w) w.heap.size rfl (.tmp 9) _ 100 9 5 rfl Try.underlying100 Try.underlying9 info5 v172 t171 a1 rfl rfl ?aO ?aB ?aS ?aL ?_; (case aB => exact (by repeat (first | (with_reducible first | exact HB.out | apply below_alloc | apply pw_below_drewN | apply below_drew1) | exact HB.out))); (case aO => exact (Kd.own_of_R (by (with_reducible repeat (first | apply Kd.R_alloc | apply Kd.R_drewN | apply Kd.R_drew)); exact HO173.out))); (case aS => exact (below_size (by repeat (first | (with_reducible first | exact HB.out | apply below_alloc | apply pw_below_drewN | apply below_drew1) | exact HB.out)))); (case aL => have := LMc4.out; omega); intro v175 w6 ho0 hb hg; have ho := Kd.R_of_own (h1 := fun _ => rfl) (ok := fun _ => True) ho0 (fun _ _ => trivial); clear ho0; have hat := True.intro; rw [← Ny174.out] at ho; change Kd.R (Kd.int .u8) 5 w6 w.heap.size (fun _ => True) v175 y174 at ho; have n0_ := Aside0.mk (hb); have n1_ := Aside0.mk (ho); clear HB; clear HO173; have HB := n0_; have HO176 := n1_; clear n0_ n1_; clear ho hb hg hat))
   go_ret
   exact ⟨_, by first | rfl | (simp [errW_none, errW_some] <;> rfl) | (simp [*, errW_none, errW_some] <;> rfl), by (with_reducible repeat (first | apply Kd.R_alloc | apply Kd.R_drewN | apply Kd.R_drew)); exact HO176.out, by repeat (first | (with_reducible first | exact HB.out | apply below_alloc | apply pw_below_drewN | apply below_drew1) | exact HB.out)⟩
 · rw [if_neg c4] at H
   exact absurd H (by simp)
def order_layDot.T1 : Bool × List (List Nat × List Nat) := (true, [([], []), ([], []), ([1], [1]), ([0, 2], [0, 2]), ([], []), ([4], [4]), ([5], [5]), ([3, 6, 3], [3, 6]), ([7, 7, 0, 1, 2, 3, 4, 5, 6, 7], [7])])
def order_layDot.B1 : List Nat := [0, 0, 2, 7, 0, 16, 48, 127, 255]
theorem order_layDot.bits1 : waitsOk order_layDot.T1.2 order_layDot.B1 = true := by kernel_rfl
end Go.Proofs.Ytjejhgjdmbodiaa.PO
end
section
section
namespace Go.Proofs.Ytjejhgjdmbodiaa.PO
open Go.Proofs.Ytjejhgjdmbodiaa
open Go.RowKit Go.Proofs.YtjejhgjdmbodiaaW.PrintWords Go.Proofs.YtjejhgjdmbodiaaW.PrintLast Go.Proofs.YtjejhgjdmbodiaaW.PrintMore
attribute [local go_sem] max2_int min2_int max_two min_two max_three min_three max_four min_four   -- for this text's walks alone
set_option linter.unusedVariables false
set_option linter.unusedSimpArgs false
def pannierref02_follow.l0 : Nat → Int → Int → Option (Int)
 | 0, _, _ => none
 | k + 1, x0, x3 => if x3 < 8 then (if 0 ≤ (wrap64 (7 + (wrap64 (7 * x3)))) then (if (shr .u64 x0 (wrap64 (7 + (wrap64 (7 * x3))))) > 0 then (pannierref02_follow.l0 k x0 (wrap64 (x3 + 1))) else (some x3)) else (none)) else (some x3)
def pannierref02_follow.f (k : Nat) (a0 : Int) : Option (Int) := pannierref02_follow.l0 k a0 0
set_option maxHeartbeats 8000000 in
set_option maxRecDepth 100000 in
theorem pannierref02_follow.calls (k : Nat) (a0 : Int) (r : Int) (w : World) (h : pannierref02_follow.f k a0 = some r) :
 Calls Try.prog 88 #[.int .u64 a0] w fun e w' => e = .returned (.int .i64 r) ∧ Drawn0 w w' := by
 have H : (pannierref02_follow.l0 k a0 0) = some r := h
 clear h
 have H' := Aside0.mk H
 clear H
 go_enter Try.func88, Try.ntmps88
 go_wp2
 go_loopg [3] k (fun kq v3 w' => ∃ (x3_1 : Int), v3 = .int .i64 x3_1 ∧ Aside0 (pannierref02_follow.l0 kq a0 x3_1 = some r) ∧ Aside0 (kq ≤ k) ∧ Drawn0 w w')
 case atStart => exact ⟨(0), (by first | rfl | (simp; done) | (simp [*]; done)), H', ⟨Nat.le_refl _⟩, by repeat (first | exact Drawn0.refl _ | apply Drawn0.step)⟩
 case round =>
  clear H'
  try clear c1
  obtain ⟨x3_1, rfl, HA, HK1, ⟨m1, rfl⟩⟩ := hrel
  cases gk with
  | zero => exact absurd HA.out (by simp [pannierref02_follow.l0])
  | succ k1 =>
   have H := HA.out
   clear HA
   simp only [pannierref02_follow.l0] at H
   by_cases c2 : x3_1 < 8
   · rw [if_pos c2] at H
     have c2b0 : decide (x3_1 < 8) = true := decide_eq_true c2
     clear c2
     obtain ⟨ji3, hji3⟩ : ∃ j_ : Int, (wrap64 (7 + (wrap64 (7 * x3_1)))) = j_ := ⟨_, rfl⟩
     replace H : (if 0 ≤ (ji3) then (if (shr .u64 a0 (ji3)) > 0 then (pannierref02_follow.l0 k1 a0 (wrap64 (x3_1 + 1))) else (some x3_1)) else (none)) = some r := by first | (rw [hji3] at H; exact H) | (simp only [hji3] at H ⊢; exact H)
     have hji3w : (IntKind.i64.wrap (7 + (wrap64 (7 * x3_1)))) = ji3 := (i64_w _).trans hji3
     by_cases c4 : 0 ≤ (ji3)
     · rw [if_pos c4] at H
       have c4b0 := eq_true c4
       have c4b1 : decide (0 ≤ (ji3)) = true := decide_eq_true c4
       clear c4
       obtain ⟨ji5, hji5⟩ : ∃ j_ : Int, (shr .u64 a0 (ji3)) = j_ := ⟨_, rfl⟩
       replace H : (if (ji5) > 0 then (pannierref02_follow.l0 k1 a0 (wrap64 (x3_1 + 1))) else (some x3_1)) = some r := by first | (rw [hji5] at H; exact H) | (simp only [hji5] at H ⊢; exact H)
       have hji5_ : (a0 / 2 ^ min (ji3).toNat 64) = ji5 := hji5
       have hji5z : (ji3) ≤ 64 → (a0 / 2 ^ (ji3).toNat) = ji5 := shr_small hji5
       by_cases c6 : (ji5) > 0
       · rw [if_pos c6] at H
         have c6b0 : decide (0 < (ji5)) = true := decide_eq_true c6
         clear c6
         have H' := Aside0.mk H
         clear H
         go_wp2
         go_roundg k1
         case measure => have := HK1.out; omega
         case rel => exact ⟨(wrap64 (x3_1 + 1)), (by first | rfl | (simp; done) | (simp [*]; done)), H', ⟨by have := HK1.out; omega⟩, by repeat (first | exact Drawn0.refl _ | apply Drawn0.step)⟩
       · rw [if_neg c6] at H
         have c6b0 : decide (0 < (ji5)) = false := decide_eq_false c6
         clear c6
         obtain rfl := Option.some.inj H
         go_wp2
         go_ret
         exact ⟨by first | rfl | (simp; done) | (simp only [← hji3, ← hji5] <;> (first | rfl | simp)) | (simp [*]; done), by repeat (first | exact Drawn0.refl _ | apply Drawn0.step)⟩
     · rw [if_neg c4] at H
       exact absurd H (by simp)
   · rw [if_neg c2] at H
     have c2b0 : decide (x3_1 < 8) = false := decide_eq_false c2
     clear c2
     obtain rfl := Option.some.inj H
     go_wp2
     go_ret
     exact ⟨by first | rfl | (simp; done) | (simp [*]; done), by repeat (first | exact Drawn0.refl _ | apply Drawn0.step)⟩
mutual
def pannierref02_Number.l0 : Nat → Int → List Int → Int → Int → Int → Option (List Int)
 | 0, _, _, _, _, _ => none
 | k + 1, x1, x5, x6, x7, x8 => if x8 < x6 then (if 0 ≤ x8 then (pannierref02_Number.l0 k x1 x5 x6 (Go.bits .or .u8 x7 (shr .u8 128 x8)) (wrap64 (x8 + 1))) else (none)) else (if x6 < 8 then (if 0 ≤ (wrap64 (8 * x6)) then (pannierref02_Number.j1 k x1 x5 x6 (Go.bits .or .u8 x7 ((shr .u64 x1 (wrap64 (8 * x6))) % 256))) else (none)) else (pannierref02_Number.j1 k x1 x5 x6 x7))
def pannierref02_Number.j1 : Nat → Int → List Int → Int → Int → Option (List Int)
 | 0, _, _, _, _ => none
 | k + 1, x1, x5, x6, x7 => if x5.length < 140737488355328 then (pannierref02_Number.l1 k x1 (x5 ++ [x7]) (wrap64 (x6 - 1))) else (none)
def pannierref02_Number.l1 : Nat → Int → List Int → Int → Option (List Int)
 | 0, _, _, _ => none
 | k + 1, x1, x5, x9 => if x9 ≥ 0 then (if 0 ≤ (wrap64 (8 * x9)) then (if x5.length < 140737488355328 then (pannierref02_Number.l1 k x1 (x5 ++ [(shr .u64 x1 (wrap64 (8 * x9))) % 256]) (wrap64 (x9 - 1))) else (none)) else (none)) else (some x5)
end
def pannierref02_Number.f (k : Nat) (l0 : List Int) (a1 : Int) : Option (List Int) := if 0 ≤ (wrap64 ((l0.length : Int) + 9)) then (if (wrap64 ((l0.length : Int) + 9) : Int).toNat ≤ 281474976710656 then ((some (([] : List Int) : List Int)).bind fun y246 => (if y246.length + l0.length < 140737488355328 then ((pannierref02_follow.f k a1).bind fun t252 => (pannierref02_Number.l0 k a1 (y246 ++ l0) t252 0 0)) else (none))) else (none)) else (none)
set_option maxHeartbeats 8000000 in
set_option maxRecDepth 100000 in
theorem pannierref02_Number.calls (k : Nat) (A0 : Option Addr) (c0 : Nat) (l0 : List Int) (a1 : Int) (r : List Int) (w : World) (hr0 : Kd.C (Kd.int .u8) w A0 l0.length l0) (hc0 : l0.length ≤ c0) (h : pannierref02_Number.f k l0 a1 = some r) :
 Calls Try.prog 54 #[.slice A0 l0.length c0, .int .u64 a1] w fun e w' => ∃ v0_ : Value, e = .returned (v0_) ∧ Kd.R (Kd.int .u8) 5 w' w.heap.size (fun _ => True) v0_ r ∧ Below w.heap.size w w' := by
 have HR0 := Aside0.mk hr0
 have HC0 := Aside0.mk hc0
 clear hr0 hc0
 have HB := Aside0.mk (Below.refl w.heap.size w)
 have H : (if 0 ≤ (wrap64 ((l0.length : Int) + 9)) then (if (wrap64 ((l0.length : Int) + 9) : Int).toNat ≤ 281474976710656 then ((some (([] : List Int) : List Int)).bind fun y246 => (if y246.length + l0.length < 140737488355328 then ((pannierref02_follow.f k a1).bind fun t252 => (pannierref02_Number.l0 k a1 (y246 ++ l0) t252 0 0)) else (none))) else (none)) else (none)) = some r := h
 clear h
 obtain ⟨ji3, hji3⟩ : ∃ j_ : Int, (wrap64 ((l0.length : Int) + 9)) = j_ := ⟨_, rfl⟩
 replace H : (if 0 ≤ (ji3) then (if (ji3 : Int).toNat ≤ 281474976710656 then ((some (([] : List Int) : List Int)).bind fun y246 => (if y246.length + l0.length < 140737488355328 then ((pannierref02_follow.f k a1).bind fun t252 => (pannierref02_Number.l0 k a1 (y246 ++ l0) t252 0 0)) else (none))) else (none)) else (none)) = some r := by first | (rw [hji3] at H; exact H) | (simp only [hji3] at H ⊢; exact H)
 have hji3w : (IntKind.i64.wrap ((l0.length : Int) + 9)) = ji3 := (i64_w _).trans hji3
 by_cases c4 : 0 ≤ (ji3)
 · rw [if_pos c4] at H
   have c4b0 := eq_true c4
   have c4b1 : decide (0 ≤ (ji3)) = true := decide_eq_true c4
   clear c4
   by_cases c5 : (ji3 : Int).toNat ≤ 281474976710656
   · rw [if_pos c5] at H
     have c5b0 := eq_true c5
     have c5b1 : decide ((ji3 : Int).toNat ≤ 281474976710656) = true := decide_eq_true c5
     clear c5
     obtain ⟨y246, hy246⟩ : ∃ y_ : List Int, y_ = (([] : List Int)) := ⟨_, rfl⟩
     replace H : (if y246.length + l0.length < 140737488355328 then ((pannierref02_follow.f k a1).bind fun t252 => (pannierref02_Number.l0 k a1 (y246 ++ l0) t252 0 0)) else (none)) = some r := by first | (rw [hy246]; with_reducible exact H) | (have H2_ := (Option.bind_some _ _).symm.trans H; rw [hy246]; with_reducible exact H2_) | (have H2_ := (Option.bind_some _ _).symm.trans H; with_reducible exact H2_) | with_reducible exact H | (rw [hy246]; exact H) | exact H
     have Ny246 := Aside0.mk hy246
     clear hy246
     by_cases c6 : y246.length + l0.length < 140737488355328
     · rw [if_pos c6] at H
       have LMc6 := Aside0.mk c6
       clear c6
       obtain ⟨y249, hy249⟩ : ∃ y_ : List Int, y_ = (y246 ++ l0) := ⟨_, rfl⟩
       replace H : ((pannierref02_follow.f k a1).bind fun t252 => (pannierref02_Number.l0 k a1 y249 t252 0 0)) = some r := by first | (rw [hy249]; with_reducible exact H) | (have H2_ := (Option.bind_some _ _).symm.trans H; rw [hy249]; with_reducible exact H2_) | (have H2_ := (Option.bind_some _ _).symm.trans H; with_reducible exact H2_) | with_reducible exact H | (rw [hy249]; exact H) | exact H
       have Ny249 := Aside0.mk hy249
       clear hy249
       replace H := Option.bind_eq_some_iff.mp H
       obtain ⟨t252, A70, H⟩ := H
       replace H : (pannierref02_Number.l0 k a1 y249 t252 0 0) = some r := H
       have A7 := Aside0.mk A70
       clear A70
       have H' := Aside0.mk H
       clear H
       go_enter Try.func54, Try.ntmps54
       go_wp2_with (first | ((with_reducible refine gate_dst (N := 13) rfl ?_); refine Kd.R_make0 (Kd.int .u8) _ 5 rfl (N := 13) rfl 100 _ _ rfl ji3 rfl rfl Try.underlying100 (.int .u8 0) 1 info5 rfl (by decide) (by omega) 0 (ok := fun _ => True) (okp := fun _ => True) rfl (fun _ hk => hk) trivial (of_decide_eq_true (by first | (with_reducible assumption) | assumption)) (Nat.le_trans (Nat.mul_le_mul_right _ (of_decide_eq_true (by first | (with_reducible assumption) | assumption) : ji3.toNat ≤ 281474976710656)) (by omega)) (Below.refl _ _) (Nat.le_refl _) ?_; intro v247 w8 ho9 hb hg_ hnew_; clear hg_ hnew_; (first | rw [← Ny246.out] at ho9 | (simp only [Int.reduceToNat] at ho9; rw [← Ny246.out] at ho9)); have n0_ := Aside0.mk (Kd.R_lower ho9 (below_size (by repeat (first | (with_reducible first | exact HB.out | apply below_alloc | apply pw_below_drewN | apply below_drew1) | exact HB.out)))); have n1_ := Aside0.mk (below_step (by repeat (first | (with_reducible first | exact HB.out | apply below_alloc | apply pw_below_drewN | apply below_drew1) | exact HB.out)) hb); clear HB; have HO248 := n0_; have HB := n1_; clear n0_ n1_; clear hb ho9) | ((with_reducible refine gate_builtin (b := .append) (xs := #[.tmp 13, .tmp 14]) rfl ?_); at_builtin; refine Kd.R_append_rows (Kd.int .u8) (w0 := w) w.heap.size rfl (.tmp 13) (.tmp 14) 100 5 (.int .u8 0) 1 rfl Try.underlying100 info5 rfl (by decide) (by omega) v247 y246 l0 _ _ _ (fun _ => True) (fun _ => False) rfl rfl ?aO ?aR (fun _ _ h => h) (fun _ h => h.elim) ?aF ?aB ?aS ?aL ?_; (case aR => repeat (first | exact (Kd.C_below HR0.out HB.out) | (with_reducible refine Kd.C_alloc ?_ _) | (with_reducible refine Kd.C_drewN ?_ _) | (with_reducible refine Kd.C_drew ?_))); (case aB => exact (by repeat (first | (with_reducible first | exact HB.out | apply below_alloc | apply pw_below_drewN | apply below_drew1) | exact HB.out))); (case aF => exact (fun _ _ => trivial)); (case aO => exact (by (with_reducible repeat (first | apply Kd.R_alloc | apply Kd.R_drewN | apply Kd.R_drew)); exact HO248.out)); (case aS => exact (below_size (by repeat (first | (with_reducible first | exact HB.out | apply below_alloc | apply pw_below_drewN | apply below_drew1) | exact HB.out)))); (case aL => have := LMc6.out; omega); intro v250 w10 ho hb hg hat; rw [← Ny249.out] at ho; have n0_ := Aside0.mk (hb); have n1_ := Aside0.mk (ho); clear HB; clear HO248; have HB := n0_; have HO251 := n1_; clear n0_ n1_; clear ho hb hg hat) | ((with_reducible refine gate_callee (f := 88) rfl ?_); refine goesL_ (some 17) rfl rfl Try.func88 (by kernel_rfl) rfl #[.int .u64 a1] rfl (by (try simp only [List.map_toArray, List.map_cons, List.map_nil]); first | done | rfl | (simp only [List.length_drop, List.length_take]; rfl)) ?_; (with_reducible refine (pannierref02_follow.calls k a1 t252 _ A7.out).mono ?_); rintro e w' ⟨rfl, ⟨nd, rfl⟩⟩; refine ⟨_, rfl, ?_⟩))
       go_loopg [7, 8] k (fun kq v7 v8 w' => ∃ (x7_1 : Int) (x8_1 : Int), v7 = .int .u8 x7_1 ∧ v8 = .int .i64 x8_1 ∧ Aside0 (pannierref02_Number.l0 kq a1 y249 t252 x7_1 x8_1 = some r) ∧ Aside0 (kq ≤ k) ∧ Aside0 (Kd.R (Kd.int .u8) 5 w' w.heap.size (fun _ => True) v250 y249) ∧ Aside0 (Below w.heap.size w w'))
       case atStart => exact ⟨(0), (0), (by first | rfl | (simp; done) | (simp [*]; done)), (by first | rfl | (simp; done) | (simp [*]; done)), H', ⟨Nat.le_refl _⟩, ⟨by (with_reducible repeat (first | apply Kd.R_alloc | apply Kd.R_drewN | apply Kd.R_drew)); exact HO251.out⟩, ⟨by repeat (first | (with_reducible first | exact HB.out | apply below_alloc | apply pw_below_drewN | apply below_drew1) | exact HB.out)⟩⟩
       case round =>
        clear H'
        try clear c1
        try clear p2
        try clear c4
        try clear c4b0
        try clear c4b1
        try clear c5
        try clear c5b0
        try clear c5b1
        try clear c6
        try clear p6
        try clear c8
        obtain ⟨x7_1, x8_1, rfl, rfl, HA, HK1, HO_5, HB⟩ := hrel
        cases gk with
        | zero => exact absurd HA.out (by simp [pannierref02_Number.l0])
        | succ k1 =>
         have H := HA.out
         clear HA
         simp only [pannierref02_Number.l0] at H
         by_cases c11 : x8_1 < t252
         · rw [if_pos c11] at H
           have c11b0 : decide (x8_1 < t252) = true := decide_eq_true c11
           clear c11
           by_cases c12 : 0 ≤ x8_1
           · rw [if_pos c12] at H
             have c12b0 := eq_true c12
             have c12b1 : decide (0 ≤ x8_1) = true := decide_eq_true c12
             clear c12
             obtain ⟨ji13, hji13⟩ : ∃ j_ : Int, (shr .u8 128 x8_1) = j_ := ⟨_, rfl⟩
             replace H : (pannierref02_Number.l0 k1 a1 y249 t252 (Go.bits .or .u8 x7_1 (ji13)) (wrap64 (x8_1 + 1))) = some r := by first | (rw [hji13] at H; exact H) | (simp only [hji13] at H ⊢; exact H)
             have hji13_ : (128 / 2 ^ min x8_1.toNat 8) = ji13 := hji13
             have hji13z : x8_1 ≤ 8 → (128 / 2 ^ x8_1.toNat) = ji13 := shr_small hji13
             have H' := Aside0.mk H
             clear H
             go_wp2
             go_roundg k1
             case measure => have := HK1.out; omega
             case rel => exact ⟨(Go.bits .or .u8 x7_1 (ji13)), (wrap64 (x8_1 + 1)), (by first | rfl | (simp; done) | (simp only [← hji13] <;> (first | rfl | simp)) | (simp [*]; done)), (by first | rfl | (simp; done) | (simp [*]; done)), H', ⟨by have := HK1.out; omega⟩, ⟨by (with_reducible repeat (first | apply Kd.R_alloc | apply Kd.R_drewN | apply Kd.R_drew)); exact HO_5.out⟩, ⟨by repeat (first | (with_reducible first | exact HB.out | apply below_alloc | apply pw_below_drewN | apply below_drew1) | exact HB.out)⟩⟩
           · rw [if_neg c12] at H
             exact absurd H (by simp)
         · rw [if_neg c11] at H
           have c11b0 : decide (x8_1 < t252) = false := decide_eq_false c11
           clear c11
           have HC14 := Aside0.mk H
           clear H
           go_upto_if 28 with (fail)
           go_cut [7] (fun v7 wc => ∃ (kq : Nat) (x7_13 : Int), v7 = .int .u8 x7_13 ∧ Aside0 (pannierref02_Number.j1 kq a1 y249 t252 x7_13 = some r) ∧ Aside0 (kq ≤ k1) ∧ Aside0 (Kd.R (Kd.int .u8) 5 wc w.heap.size (fun _ => True) v250 y249) ∧ Aside0 (Below w.heap.size w wc))
           case first =>
            have H := HC14.out
            clear HC14
            by_cases c15 : t252 < 8
            · rw [if_pos c15] at H
              have c15b0 : decide (t252 < 8) = true := decide_eq_true c15
              clear c15
              (first | rw [c15b0] | (simp only [i64_w, i32_w]; rw [c15b0]) | skip)
              obtain ⟨ji16, hji16⟩ : ∃ j_ : Int, (wrap64 (8 * t252)) = j_ := ⟨_, rfl⟩
              replace H : (if 0 ≤ (ji16) then (pannierref02_Number.j1 k1 a1 y249 t252 (Go.bits .or .u8 x7_1 ((shr .u64 a1 (ji16)) % 256))) else (none)) = some r := by first | (rw [hji16] at H; exact H) | (simp only [hji16] at H ⊢; exact H)
              have hji16w : (IntKind.i64.wrap (8 * t252)) = ji16 := (i64_w _).trans hji16
              by_cases c17 : 0 ≤ (ji16)
              · rw [if_pos c17] at H
                have c17b0 := eq_true c17
                have c17b1 : decide (0 ≤ (ji16)) = true := decide_eq_true c17
                clear c17
                obtain ⟨ji18, hji18⟩ : ∃ j_ : Int, (shr .u64 a1 (ji16)) = j_ := ⟨_, rfl⟩
                replace H : (pannierref02_Number.j1 k1 a1 y249 t252 (Go.bits .or .u8 x7_1 ((ji18) % 256))) = some r := by first | (rw [hji18] at H; exact H) | (simp only [hji18] at H ⊢; exact H)
                have hji18_ : (a1 / 2 ^ min (ji16).toNat 64) = ji18 := hji18
                have hji18z : (ji16) ≤ 64 → (a1 / 2 ^ (ji16).toNat) = ji18 := shr_small hji18
                have H' := Aside0.mk H
                clear H
                go_wp2
                go_meet
                case rel => exact ⟨_, (Go.bits .or .u8 x7_1 ((ji18) % 256)), (by first | rfl | (simp; done) | (simp only [← hji18] <;> (first | rfl | simp)) | (simp [*]; done)), H', ⟨by have := HK1.out; first | omega | exact Nat.le_refl _⟩, ⟨by (with_reducible repeat (first | apply Kd.R_alloc | apply Kd.R_drewN | apply Kd.R_drew)); exact HO_5.out⟩, ⟨by repeat (first | (with_reducible first | exact HB.out | apply below_alloc | apply pw_below_drewN | apply below_drew1) | exact HB.out)⟩⟩
              · rw [if_neg c17] at H
                exact absurd H (by simp)
            · rw [if_neg c15] at H
              have c15b0 : decide (t252 < 8) = false := decide_eq_false c15
              clear c15
              (first | rw [c15b0] | (simp only [i64_w, i32_w]; rw [c15b0]) | skip)
              have H' := Aside0.mk H
              clear H
              go_wp2
              go_meet
              case rel => exact ⟨_, (x7_1), (by first | rfl | (simp; done) | (simp [*]; done)), H', ⟨by have := HK1.out; first | omega | exact Nat.le_refl _⟩, ⟨by (with_reducible repeat (first | apply Kd.R_alloc | apply Kd.R_drewN | apply Kd.R_drew)); exact HO_5.out⟩, ⟨by repeat (first | (with_reducible first | exact HB.out | apply below_alloc | apply pw_below_drewN | apply below_drew1) | exact HB.out)⟩⟩
           case rest =>
            clear HC14
            try clear c1
            try clear p2
            try clear c4
            try clear c4b0
            try clear c4b1
            try clear c5
            try clear c5b0
            try clear c5b1
            try clear c6
            try clear p6
            try clear c8
            try clear c11
            try clear c11b0
            try clear c12
            try clear c12b0
            try clear c12b1
            try clear c15
            try clear c15b0
            try clear c17
            try clear c17b0
            try clear c17b1
            try clear p2
            try clear p6
            obtain ⟨kq, x7_13, rfl, HA, HJ13, HO_5, HB⟩ := hcut
            cases kq with
            | zero => exact absurd HA.out (by simp [pannierref02_Number.j1])
            | succ kj13 =>
             have H := HA.out
             clear HA
             simp only [pannierref02_Number.j1] at H
             by_cases c19 : y249.length < 140737488355328
             · rw [if_pos c19] at H
               have LMc19 := Aside0.mk c19
               clear c19
               obtain ⟨y253, hy253⟩ : ∃ y_ : List Int, y_ = (y249 ++ [x7_13]) := ⟨_, rfl⟩
               replace H : (pannierref02_Number.l1 kj13 a1 y253 (wrap64 (t252 - 1))) = some r := by first | (rw [hy253]; with_reducible exact H) | (have H2_ := (Option.bind_some _ _).symm.trans H; rw [hy253]; with_reducible exact H2_) | (have H2_ := (Option.bind_some _ _).symm.trans H; with_reducible exact H2_) | with_reducible exact H | (rw [hy253]; exact H) | exact H
               have Ny253 := Aside0.mk hy253
               clear hy253
               have H' := Aside0.mk H
               clear H
               go_wp2_with (first | ((with_reducible refine gate_builtin (b := .append) (xs := #[.tmp 36, .tmp 38]) rfl ?_); at_builtin; refine Kd.R_append (Kd.int .u8) (w0 := w) w.heap.size rfl (.tmp 36) (.tmp 38) 100 5 (.int .u8 0) 1 rfl Try.underlying100 info5 rfl (by decide) (by omega) v250 y249 x7_13 [.int .u8 x7_13] (fun _ => True) (fun _ => False) rfl rfl ?aP (fun _ hk => hk.elim) ?aF ?aO ?aB ?aS ?aL ?_; (case aP => exact rfl); (case aB => exact (by repeat (first | (with_reducible first | exact HB.out | apply below_alloc | apply pw_below_drewN | apply below_drew1) | exact HB.out))); (case aF => exact (fun _ _ => trivial)); (case aO => exact (by (with_reducible repeat (first | apply Kd.R_alloc | apply Kd.R_drewN | apply Kd.R_drew)); exact HO_5.out)); (case aS => exact (below_size (by repeat (first | (with_reducible first | exact HB.out | apply below_alloc | apply pw_below_drewN | apply below_drew1) | exact HB.out)))); (case aL => have := LMc19.out; omega); intro v254 w20 ho hb hg hat; rw [← Ny253.out] at ho; have n0_ := Aside0.mk (hb); have n1_ := Aside0.mk (ho); clear HB; clear HO_5; have HB := n0_; have HO255 := n1_; clear n0_ n1_; clear ho hb hg hat))
               go_loopg [5, 9] kj13 (fun kq v5 v9 w' => ∃ (x5_3 : List Int) (x9_3 : Int), v9 = .int .i64 x9_3 ∧ Aside0 (pannierref02_Number.l1 kq a1 x5_3 x9_3 = some r) ∧ Aside0 (kq ≤ kj13) ∧ Aside0 (Kd.R (Kd.int .u8) 5 w' w.heap.size (fun _ => True) v5 x5_3) ∧ Aside0 (Below w.heap.size w w'))
               case atStart => exact ⟨(y253), (wrap64 (t252 - 1)), (by first | rfl | (simp; done) | (simp [*]; done)), H', ⟨Nat.le_refl _⟩, ⟨by (with_reducible repeat (first | apply Kd.R_alloc | apply Kd.R_drewN | apply Kd.R_drew)); exact HO255.out⟩, ⟨by repeat (first | (with_reducible first | exact HB.out | apply below_alloc | apply pw_below_drewN | apply below_drew1) | exact HB.out)⟩⟩
               case round =>
                clear H'
                try clear c1
                try clear p2
                try clear c4
                try clear c4b0
                try clear c4b1
                try clear c5
                try clear c5b0
                try clear c5b1
                try clear c6
                try clear p6
                try clear c8
                try clear c11
                try clear c11b0
                try clear c12
                try clear c12b0
                try clear c12b1
                try clear c15
                try clear c15b0
                try clear c17
                try clear c17b0
                try clear c17b1
                try clear c19
                try clear p2
                try clear p6
                obtain ⟨x5_3, x9_3, rfl, HA, HK3, HO_5, HB⟩ := hrel
                cases gk with
                | zero => exact absurd HA.out (by simp [pannierref02_Number.l1])
                | succ k3 =>
                 have H := HA.out
                 clear HA
                 simp only [pannierref02_Number.l1] at H
                 by_cases c21 : x9_3 ≥ 0
                 · rw [if_pos c21] at H
                   have c21b0 : decide (0 ≤ x9_3) = true := decide_eq_true c21
                   clear c21
                   obtain ⟨ji22, hji22⟩ : ∃ j_ : Int, (wrap64 (8 * x9_3)) = j_ := ⟨_, rfl⟩
                   replace H : (if 0 ≤ (ji22) then (if x5_3.length < 140737488355328 then (pannierref02_Number.l1 k3 a1 (x5_3 ++ [(shr .u64 a1 (ji22)) % 256]) (wrap64 (x9_3 - 1))) else (none)) else (none)) = some r := by first | (rw [hji22] at H; exact H) | (simp only [hji22] at H ⊢; exact H)
                   have hji22w : (IntKind.i64.wrap (8 * x9_3)) = ji22 := (i64_w _).trans hji22
                   by_cases c23 : 0 ≤ (ji22)
                   · rw [if_pos c23] at H
                     have c23b0 := eq_true c23
                     have c23b1 : decide (0 ≤ (ji22)) = true := decide_eq_true c23
                     clear c23
                     obtain ⟨ji24, hji24⟩ : ∃ j_ : Int, (shr .u64 a1 (ji22)) = j_ := ⟨_, rfl⟩
                     replace H : (if x5_3.length < 140737488355328 then (pannierref02_Number.l1 k3 a1 (x5_3 ++ [(ji24) % 256]) (wrap64 (x9_3 - 1))) else (none)) = some r := by first | (rw [hji24] at H; exact H) | (simp only [hji24] at H ⊢; exact H)
                     have hji24_ : (a1 / 2 ^ min (ji22).toNat 64) = ji24 := hji24
                     have hji24z : (ji22) ≤ 64 → (a1 / 2 ^ (ji22).toNat) = ji24 := shr_small hji24
                     by_cases c25 : x5_3.length < 140737488355328
                     · rw [if_pos c25] at H
                       have LMc25 := Aside0.mk c25
                       clear c25
                       obtain ⟨y256, hy256⟩ : ∃ y_ : List Int, y_ = (x5_3 ++ [(ji24) % 256]) := ⟨_, rfl⟩
                       replace H : (pannierref02_Number.l1 k3 a1 y256 (wrap64 (x9_3 - 1))) = some r := by first | (rw [hy256]; with_reducible exact H) | (have H2_ := (Option.bind_some _ _).symm.trans H; rw [hy256]; with_reducible exact H2_) | (have H2_ := (Option.bind_some _ _).symm.trans H; with_reducible exact H2_) | with_reducible exact H | (rw [hy256]; exact H) | exact H
                       have Ny256 := Aside0.mk hy256
                       clear hy256
                       have H' := Aside0.mk H
                       clear H
                       go_wp2_with (first | ((with_reducible refine gate_builtin (b := .append) (xs := #[.tmp 46, .tmp 52]) rfl ?_); at_builtin; refine Kd.R_append (Kd.int .u8) (w0 := w) w.heap.size rfl (.tmp 46) (.tmp 52) 100 5 (.int .u8 0) 1 rfl Try.underlying100 info5 rfl (by decide) (by omega) u5 x5_3 ((ji24) % 256) [.int .u8 ((ji24) % 256)] (fun _ => True) (fun _ => False) rfl rfl ?aP (fun _ hk => hk.elim) ?aF ?aO ?aB ?aS ?aL ?_; (case aP => exact rfl); (case aB => exact (by repeat (first | (with_reducible first | exact HB.out | apply below_alloc | apply pw_below_drewN | apply below_drew1) | exact HB.out))); (case aF => exact (fun _ _ => trivial)); (case aO => exact (by (with_reducible repeat (first | apply Kd.R_alloc | apply Kd.R_drewN | apply Kd.R_drew)); exact HO_5.out)); (case aS => exact (below_size (by repeat (first | (with_reducible first | exact HB.out | apply below_alloc | apply pw_below_drewN | apply below_drew1) | exact HB.out)))); (case aL => have := LMc25.out; omega); intro v257 w26 ho hb hg hat; rw [← Ny256.out] at ho; have n0_ := Aside0.mk (hb); have n1_ := Aside0.mk (ho); clear HB; clear HO_5; have HB := n0_; have HO258 := n1_; clear n0_ n1_; clear ho hb hg hat))
                       go_roundg k3
                       case measure => have := HK1.out; have := HJ13.out; have := HK3.out; omega
                       case rel => exact ⟨(y256), (wrap64 (x9_3 - 1)), (by first | rfl | (simp; done) | (simp [*]; done)), H', ⟨by have := HK1.out; have := HJ13.out; have := HK3.out; omega⟩, ⟨by (with_reducible repeat (first | apply Kd.R_alloc | apply Kd.R_drewN | apply Kd.R_drew)); exact HO258.out⟩, ⟨by repeat (first | (with_reducible first | exact HB.out | apply below_alloc | apply pw_below_drewN | apply below_drew1) | exact HB.out)⟩⟩
                     · rw [if_neg c25] at H
                       exact absurd H (by simp)
                   · rw [if_neg c23] at H
                     exact absurd H (by simp)
                 · rw [if_neg c21] at H
                   have c21b0 : decide (0 ≤ x9_3) = false := decide_eq_false c21
                   clear c21
                   obtain rfl := Option.some.inj H
                   go_wp2
                   go_ret
                   exact ⟨_, by first | rfl | (simp [errW_none, errW_some] <;> rfl) | (simp only [← hji3]; first | rfl | (simp [errW_none, errW_some] <;> rfl)) | (simp [*, errW_none, errW_some] <;> rfl), by (with_reducible repeat (first | apply Kd.R_alloc | apply Kd.R_drewN | apply Kd.R_drew)); exact HO_5.out, by repeat (first | (with_reducible first | exact HB.out | apply below_alloc | apply pw_below_drewN | apply below_drew1) | exact HB.out)⟩
             · rw [if_neg c19] at H
               exact absurd H (by simp)
     · rw [if_neg c6] at H
       exact absurd H (by simp)
   · rw [if_neg c5] at H
     exact absurd H (by simp)
 · rw [if_neg c4] at H
   exact absurd H (by simp)
def pannierref02_Text.f (k : Nat) (l0 : List Int) (a1 : ByteArray) : Option (List Int) := (pannierref02_Number.f k l0 (IntKind.u64.wrap ((a1.size : Int)))).bind fun t259 => (if t259.length + a1.size < 140737488355328 then (some (t259 ++ bytesOf a1)) else (none))
set_option maxHeartbeats 8000000 in
set_option maxRecDepth 100000 in
theorem pannierref02_Text.calls (k : Nat) (A0 : Option Addr) (c0 : Nat) (l0 : List Int) (a1 : ByteArray) (r : List Int) (w : World) (hr0 : Kd.C (Kd.int .u8) w A0 l0.length l0) (hc0 : l0.length ≤ c0) (h : pannierref02_Text.f k l0 a1 = some r) :
 Calls Try.prog 55 #[.slice A0 l0.length c0, .string a1] w fun e w' => ∃ v0_ : Value, e = .returned (v0_) ∧ Kd.R (Kd.int .u8) 5 w' w.heap.size (fun _ => True) v0_ r ∧ Below w.heap.size w w' := by
 have HR0 := Aside0.mk hr0
 have HC0 := Aside0.mk hc0
 clear hr0 hc0
 have HB := Aside0.mk (Below.refl w.heap.size w)
 have H : ((pannierref02_Number.f k l0 (IntKind.u64.wrap ((a1.size : Int)))).bind fun t259 => (if t259.length + a1.size < 140737488355328 then (some (t259 ++ bytesOf a1)) else (none))) = some r := h
 clear h
 replace H := Option.bind_eq_some_iff.mp H
 obtain ⟨t259, A30, H⟩ := H
 replace H : (if t259.length + a1.size < 140737488355328 then (some (t259 ++ bytesOf a1)) else (none)) = some r := H
 have A3 := Aside0.mk A30
 clear A30
 by_cases c4 : t259.length + a1.size < 140737488355328
 · rw [if_pos c4] at H
   have LMc4 := Aside0.mk c4
   clear c4
   obtain ⟨y262, hy262⟩ : ∃ y_ : List Int, y_ = (t259 ++ bytesOf a1) := ⟨_, rfl⟩
   replace H : (some y262) = some r := by first | (rw [hy262]; with_reducible exact H) | (have H2_ := (Option.bind_some _ _).symm.trans H; rw [hy262]; with_reducible exact H2_) | (have H2_ := (Option.bind_some _ _).symm.trans H; with_reducible exact H2_) | with_reducible exact H | (rw [hy262]; exact H) | exact H
   have Ny262 := Aside0.mk hy262
   clear hy262
   obtain rfl := Option.some.inj H
   go_enter Try.func55, Try.ntmps55
   go_wp2_with (first | ((with_reducible refine gate_callee (f := 54) rfl ?_); refine goesL_ (some 9) rfl rfl Try.func54 (by kernel_rfl) rfl #[.slice A0 l0.length c0, .int .u64 (IntKind.u64.wrap ((a1.size : Int)))] rfl (by (try simp only [List.map_toArray, List.map_cons, List.map_nil]); first | done | rfl | (simp only [List.length_drop, List.length_take]; rfl)) ?_; (with_reducible refine (pannierref02_Number.calls k _ _ l0 (IntKind.u64.wrap ((a1.size : Int))) t259 _ ?side1 ?side2 A3.out).mono ?_); (case side1 => repeat (first | exact HR0.out | (with_reducible refine Kd.C_alloc ?_ _) | (with_reducible refine Kd.C_drewN ?_ _) | (with_reducible refine Kd.C_drew ?_))); (case side2 => exact HC0.out); rintro e w5 ⟨v260, rfl, ho0, hb⟩; refine ⟨_, rfl, ?_⟩; have n0_ := Aside0.mk (Kd.R_lower ho0 (below_size (by repeat (first | (with_reducible first | exact HB.out | apply below_alloc | apply pw_below_drewN | apply below_drew1) | exact HB.out)))); have n1_ := Aside0.mk (below_step (by repeat (first | (with_reducible first | exact HB.out | apply below_alloc | apply pw_below_drewN | apply below_drew1) | exact HB.out)) hb); clear HB; have HO261 := n0_; have HB := n1_; clear n0_ n1_; (try clear hb); (try clear hb2); (try clear hk); (try clear hi); (try clear ho0)) | (at_builtin; refine print_append_str (w0 := w) w.heap.size rfl (.tmp 9) _ 100 9 5 rfl Try.underlying100 Try.underlying9 info5 v260 t259 a1 rfl rfl ?aO ?aB ?aS ?aL ?_; (case aB => exact (by repeat (first | (with_reducible first | exact HB.out | apply below_alloc | apply pw_below_drewN | apply below_drew1) | exact HB.out))); (case aO => exact (Kd.own_of_R (by (with_reducible repeat (first | apply Kd.R_alloc | apply Kd.R_drewN | apply Kd.R_drew)); exact HO261.out))); (case aS => exact (below_size (by repeat (first | (with_reducible first | exact HB.out | apply below_alloc | apply pw_below_drewN | apply below_drew1) | exact HB.out)))); (case aL => have := LMc4.out; omega); intro v263 w6 ho0 hb hg; have ho := Kd.R_of_own (h1 := fun _ => rfl) (ok := fun _ => True) ho0 (fun _ _ => trivial); clear ho0; have hat := True.intro; rw [← Ny262.out] at ho; change Kd.R (Kd.int .u8) 5 w6 w.heap.size (fun _ => True) v263 y262 at ho; have n0_ := Aside0.mk (hb); have n1_ := Aside0.mk (ho); clear HB; clear HO261; have HB := n0_; have HO264 := n1_; clear n0_ n1_; clear ho hb hg hat))
   go_ret
   exact ⟨_, by first | rfl | (simp [errW_none, errW_some] <;> rfl) | (simp [*, errW_none, errW_some] <;> rfl), by (with_reducible repeat (first | apply Kd.R_alloc | apply Kd.R_drewN | apply Kd.R_drew)); exact HO264.out, by repeat (first | (with_reducible first | exact HB.out | apply below_alloc | apply pw_below_drewN | apply below_drew1) | exact HB.out)⟩
 · rw [if_neg c4] at H
   exact absurd H (by simp)
end Go.Proofs.Ytjejhgjdmbodiaa.PO
end
section
namespace Go.Proofs.Ytjejhgjdmbodiaa.PO
open Go.Proofs.Ytjejhgjdmbodiaa
open Go.RowKit Go.Proofs.YtjejhgjdmbodiaaW.PrintWords Go.Proofs.YtjejhgjdmbodiaaW.PrintLast Go.Proofs.YtjejhgjdmbodiaaW.PrintMore
attribute [local go_sem] max2_int min2_int max_two min_two max_three min_three max_four min_four   -- for this text's walks alone
set_option linter.unusedVariables false
set_option linter.unusedSimpArgs false
def pannierref08_dot.T1 : Bool × List (List Nat × List Nat) := (true, [([], []), ([], []), ([1], [1]), ([0, 2], [0, 2]), ([], []), ([4], [4]), ([5], [5]), ([3, 6, 3], [3, 6]), ([7, 7, 0, 1, 2, 3, 4, 5, 6, 7], [7])])
def pannierref08_dot.B1 : List Nat := [0, 0, 2, 7, 0, 16, 48, 127, 255]
theorem pannierref08_dot.bits1 : waitsOk pannierref08_dot.T1.2 pannierref08_dot.B1 = true := by kernel_rfl
end Go.Proofs.Ytjejhgjdmbodiaa.PO
end
section
namespace Go.Proofs.Ytjejhgjdmbodiaa.PO
open Go.Proofs.Ytjejhgjdmbodiaa
open Go.RowKit Go.Proofs.YtjejhgjdmbodiaaW.PrintWords Go.Proofs.YtjejhgjdmbodiaaW.PrintLast Go.Proofs.YtjejhgjdmbodiaaW.PrintMore
attribute [local go_sem] max2_int min2_int max_two min_two max_three min_three max_four min_four   -- for this text's walks alone
set_option linter.unusedVariables false
set_option linter.unusedSimpArgs false
end Go.Proofs.Ytjejhgjdmbodiaa.PO
end
end
