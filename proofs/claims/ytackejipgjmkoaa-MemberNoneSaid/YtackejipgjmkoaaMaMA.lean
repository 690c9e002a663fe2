/- What the rows of this claim use, out of the texts of this work (MA, MB, MC, MD). No condition beyond those that each statement names. -/
import Derived.Deep.DeepCutAuto
import Derived.Deep.CutBlock
import Derived.Test.YtackejipgjmkoaaProg
import Derived.Below
import Derived.Deep.Draws
import Derived.Deep.AppendLies
import Derived.Maps.AppendAt
import Derived.OwnWalk
import Derived.Laws.BytesArg
import Derived.Laws.MakeOwn
import Derived.Laws.OwnMore
import Derived.Deep.OwnRows
import Derived.Tactics
import Derived.Lib.ConvBytes
import Derived.Laws.Slices
import Derived.WalkKit
import Derived.KernelRfl
import Derived.RowKit3
import Derived.Deep.LoopGhost
import Derived.Deep.QuietTactic
import Derived.BigQuiet
import Derived.WideLaws
import Derived.Deep.RegionHeld3
import Derived.Laws.Rows
import Derived.Lib.AppendStr
import Derived.ArgAppend
import Derived.Laws.IdiomCopy
import Derived.OrdersHeld
import Derived.Laws.BitsLemmas
import Derived.RowKit
import Derived.BigRegionIn
import Derived.BigGuardIn
import Derived.Sort.QuietTacIn
import Derived.Lib.Strings
import Derived.Lib.Slices
import Derived.Lib.Walk
import Derived.Lib.Bytealg
import Derived.IntWalk
import Derived.Laws.CopyRow
import Derived.Lib.AppendZerosOnto
import Derived.Lib.Overlaps
import Derived.Laws.Externs
import Derived.Shelf.RegionOpenPlain
import Derived.Deep.RegionLaw
import Derived.Lib.SliceRun
import Derived.Laws.NewBlocks
import Derived.Laws.StructEq
import Derived.Laws.Cover3
import Derived.WalkSpells
import Derived.Test.YtackejipgjmkoaaMaX
import Derived.Test.YtackejipgjmkoaaMaW
section
namespace Go.Proofs.Ytackejipgjmkoaa.PM
open Go.RowKit Go.Proofs.YtackejipgjmkoaaW.PrintWords Go.Proofs.YtackejipgjmkoaaW.PrintLast Go.Proofs.YtackejipgjmkoaaW.PrintMore Go.Proofs.Ytackejipgjmkoaa.XW
attribute [local go_sem] max2_int min2_int max_two min_two max_three min_three max_four min_four   -- for this text's walks alone
set_option linter.unusedVariables false
set_option linter.unusedSimpArgs false
def okCh (c : UInt8) : Bool := (decide (97 ≤ c.toNat) && decide (c.toNat ≤ 122)) || (decide (48 ≤ c.toNat) && decide (c.toNat ≤ 57)) || decide (c.toNat = 46)
def isNameB (s : ByteArray) : Bool := s.data.toList.all okCh && decide (1 ≤ s.size) && decide (s.size ≤ 24)
def vector_IsName.f (a0 : ByteArray) : Option Bool := some (isNameB a0)
theorem okCh_hi {c : UInt8} (h : 128 ≤ c.toNat) : okCh c = false := by
 simp [okCh]; omega
theorem all_split (s : ByteArray) (k : Nat) (h : k < s.size) (hc : okCh (s[k]'h) = false) : isNameB s = false := by
 have : s.data.toList.all okCh = false := by
  rw [List.all_eq_false]
  exact ⟨s[k]'h, by simp [ByteArray.getElem_eq_getElem_data], by simp [hc]⟩
 simp [isNameB, this]
theorem okCh_iff (c : UInt8) : okCh c = true ↔ (97 ≤ c.toNat ∧ c.toNat ≤ 122) ∨ (48 ≤ c.toNat ∧ c.toNat ≤ 57) ∨ c.toNat = 46 := by
 simp [okCh, or_assoc]
theorem isNameB_end (s : ByteArray) (h : s.data.toList.all okCh = true) : isNameB s = (decide (1 ≤ s.size) && decide (s.size ≤ 24)) := by
 simp only [isNameB, h, Bool.true_and]
theorem all_snoc (s : ByteArray) (k : Nat) (h : k < s.size) (hk : (s.data.toList.take k).all okCh = true) (hc : okCh (s[k]'h) = true) : (s.data.toList.take (k + 1)).all okCh = true := by
 have : s.data.toList.take (k + 1) = s.data.toList.take k ++ [s[k]'h] := by
  rw [List.take_succ_eq_append_getElem (by simpa using h)]; rfl
 rw [this, List.all_append, hk]; simp [hc]
set_option maxHeartbeats 800000 in
theorem vector_IsName.calls (a0 : ByteArray) (r : Bool) (w : World) (h : vector_IsName.f a0 = some r) :
 Calls Try.prog 41 #[.string a0] w fun e w' => e = .returned (.bool r) ∧ Below w.heap.size w w' := by
 obtain rfl := Option.some.inj h
 clear h
 go_enter Try.func41, Try.ntmps41
 go_wp2
 go_loopw [4] (fun _ w' => ∃ pos : Nat, w' = w.iter a0 pos ∧ pos ≤ a0.size ∧ (a0.data.toList.take pos).all okCh = true) (fun _ w' => a0.size - w'.iterPos w.heap.size)
 case atStart => exact ⟨0, rfl, by omega, by simp⟩
 case round =>
  obtain ⟨pos, rfl, hle, hall⟩ := hrel
  have HA := Aside0.mk hall
  clear hall
  by_cases hp : pos < a0.size
  · have hnx : ∀ ty, (Instr.next (.pointer (some ⟨w.heap.size, 0, none⟩)) true ty).run Try.prog (w.iter a0 pos) = _ := fun ty => run_next_any w a0 pos ty hp
    by_cases ha : (a0[pos]'hp).toNat < 128
    · rw [decode_ascii a0 pos hp ha] at hnx
      have hi := okCh_iff (a0[pos]'hp)
      have HI := Aside0.mk hi
      clear hi
      have HS := Aside0.mk (all_split a0 pos hp)
      have HN := Aside0.mk (fun h => all_snoc a0 pos hp HA.out h)
      go_wp2
      all_goals first
       | (go_ret; exact ⟨by (rw [HS.out (by rw [Bool.eq_false_iff, ne_eq, HI.out]; simp at *; omega)]; rfl), (Below.refl _ _).alloc (Nat.le_refl _) _⟩)
       | (refine ⟨⟨pos + 1, rfl, hp, HN.out (by rw [HI.out]; simp at *; omega)⟩, ?_⟩; simp; omega)
    · have HD := Aside0.mk (decode_high a0 pos hp (by omega)).1
      have HF := Aside0.mk (all_split a0 pos hp (okCh_hi (by omega)))
      obtain ⟨d, e, hde⟩ : ∃ d e, Utf8.decode a0 pos = (d, e) := ⟨_, _, rfl⟩
      rw [hde] at hnx HD
      clear hde ha
      have h1 : (97 : Int) ≤ (d : Int) := by have := HD.out; simp at this; omega
      have h2 : (122 : Int) < (d : Int) := by have := HD.out; simp at this; omega
      have h3 : ((d : Int) != 46) = true := by rw [bne_iff_ne]; omega
      go_wp2
      go_ret
      exact ⟨by (rw [HF.out]; rfl), (Below.refl _ _).alloc (Nat.le_refl _) _⟩
  · have hnx : ∀ ty, (Instr.next (.pointer (some ⟨w.heap.size, 0, none⟩)) true ty).run Try.prog (w.iter a0 pos) = _ := fun ty => run_next_end w a0 pos ty hp
    have HE := Aside0.mk (isNameB_end a0 (by have := HA.out; rwa [List.take_of_length_le (by simp; omega)] at this))
    by_cases h0 : a0.size = 0
    · have h0' : a0.toList = [] := by rw [ByteArray.toList_eq, ← List.length_eq_zero_iff]; simpa using h0
      have h0'' : (!a0.toList.isEmpty) = false := by rw [h0']; rfl
      have HZ := Aside0.mk h0
      clear h0
      go_wp2
      go_ret
      exact ⟨by (rw [HE.out, HZ.out]; rfl), (Below.refl _ _).alloc (Nat.le_refl _) _⟩
    · have h0' : ¬ a0.toList = [] := by rw [ByteArray.toList_eq, ← List.length_eq_zero_iff]; simpa using h0
      have h0'' : (!a0.toList.isEmpty) = true := by simpa using h0'
      have HZ := Aside0.mk h0
      clear h0
      go_wp2
      go_ret
      exact ⟨by (rw [HE.out, decide_eq_true (show 1 ≤ a0.size by have := HZ.out; omega)]; simp [go_sem]; omega), (Below.refl _ _).alloc (Nat.le_refl _) _⟩
theorem name_calls (s : ByteArray) (w : World) : Calls Try.prog 41 #[.string s] w fun e w' => e = .returned (.bool (isNameB s)) ∧ Below w.heap.size w w' := vector_IsName.calls s _ w rfl
set_option maxHeartbeats 4000000 in
set_option maxRecDepth 100000 in
theorem clos_calls (s : ByteArray) (w : World) : Calls Try.prog 60 #[.string s] w fun e w' => e = .returned (.bool (!isNameB s)) ∧ Below w.heap.size w w' := by
 go_enter Try.func60, Try.ntmps60
 go_wp2_with fail
 refine (name_calls s w).mono ?_
 rintro e w1 ⟨rfl, hb⟩
 go_wp2
 go_ret
 exact ⟨rfl, hb⟩
set_option maxHeartbeats 4000000 in
set_option maxRecDepth 100000 in
theorem idx_calls (M : Nat) (l : List ByteArray) (hl : l.length ≤ 2) (w : World) (hM : M < w.heap.size) (hc : ∀ (j : Nat) (h : j < l.length), w.cell? ⟨M, j, none⟩ = some (.string l[j])) (hn : ∀ x, x ∈ l → isNameB x = true) :
 Calls Try.prog 67 #[.slice (some ⟨M, 0, none⟩) l.length l.length, .func (.func 60) #[] #[]] w fun e w' => e = .returned (.int .i64 (-1)) ∧ Below w.heap.size w w' := by
 have HC := Aside0.mk hc
 have HN := Aside0.mk hn
 clear hc hn
 go_enter Try.func67, Try.ntmps67
 go_wp2
 go_loopw [5, 8] (fun _ v8 wr => ∃ j : Nat, j ≤ l.length ∧ v8 = .int .i64 j ∧ Aside0 (Below w.heap.size w wr)) (fun _ v8 _ => l.length - (intOf v8).toNat)
 case atStart => exact ⟨0, Nat.zero_le _, rfl, ⟨Below.refl _ _⟩⟩
 case round =>
  obtain ⟨j, hj, rfl, HB⟩ := hrel
  by_cases hlt : j < l.length
  · obtain ⟨x, hx⟩ : ∃ x, l[j] = x := ⟨_, rfl⟩
    have hcx := HC.out j hlt
    rw [hx] at hcx
    have f0 : wr.cell? ⟨M, j, none⟩ = some (.string x) := (HB.out.cell (p := ⟨M, j, none⟩) hM).trans hcx
    have HX := Aside0.mk (HN.out x (by rw [← hx]; exact List.getElem_mem hlt))
    have hb3 : 0 ≤ (j : Int) ∧ (j : Int) < (l.length : Int) := by omega
    have q1 : decide ((j : Int) < (l.length : Int)) = true := by simp; omega
    clear hx hcx
    go_wp2_with fail
    refine (clos_calls x _).mono ?_
    rw [HX.out]
    rintro e w1 ⟨rfl, hb1⟩
    have HB1 := Aside0.mk (HB.out.trans (hb1.mono HB.out.size))
    clear hb1 f0
    go_wp2
    go_round
    case rel => exact ⟨j + 1, by omega, by go_num, HB1⟩
    case measure => simp [intOf]; omega
  · have q1 : decide ((j : Int) < (l.length : Int)) = false := by simp; omega
    go_wp2
    go_ret
    exact ⟨rfl, HB.out⟩
set_option maxHeartbeats 4000000 in
set_option maxRecDepth 100000 in
theorem has_calls (M : Nat) (l : List ByteArray) (hl : l.length ≤ 2) (w : World) (hM : M < w.heap.size) (hc : ∀ (j : Nat) (h : j < l.length), w.cell? ⟨M, j, none⟩ = some (.string l[j])) (hn : ∀ x, x ∈ l → isNameB x = true) :
 Calls Try.prog 59 #[.slice (some ⟨M, 0, none⟩) l.length l.length, .func (.func 60) #[] #[]] w fun e w' => e = .returned (.bool false) ∧ Below w.heap.size w w' := by
 have h := idx_calls M l hl w hM hc hn
 go_enter Try.func59, Try.ntmps59
 go_wp2_with fail
 refine h.mono ?_
 rintro e w1 ⟨rfl, hb1⟩
 go_wp2
 go_ret
 exact ⟨rfl, hb1⟩
set_option maxHeartbeats 4000000 in
set_option maxRecDepth 100000 in
theorem right_calls (t M : Nat) (cart : ByteArray) (l : List ByteArray) (hl : l.length ≤ 2) (w : World) (hM : M < w.heap.size) (hc : ∀ (j : Nat) (h : j < l.length), w.cell? ⟨M, j, none⟩ = some (.string l[j])) (hn : ∀ x, x ∈ l → isNameB x = true)
 (h1 : (cart.toList == ([] : List UInt8)) = false) (h2 : cart.size = 1) :
 Calls Try.prog 37 #[.pointer (some ⟨t, 0, none⟩), .string cart, .slice (some ⟨M, 0, none⟩) l.length l.length] w fun e w' => e = .returned (.int .i64 0) ∧ Below w.heap.size w w' := by
 have h := has_calls M l hl w hM hc hn
 have HC := Aside0.mk hc
 clear hc
 go_enter Try.func37, Try.ntmps37
 go_wp2_with fail
 refine h.mono ?_
 rintro e w1 ⟨rfl, hb1⟩
 go_wp2
 go_ret
 exact ⟨rfl, hb1⟩
theorem rightNil_calls (cart : ByteArray) (A : Option Addr) (n c : Nat) (w : World) : Calls Try.prog 37 #[.pointer none, .string cart, .slice A n c] w fun e w' => e = .returned (.int .i64 1) ∧ Below w.heap.size w w' := by
 go_enter Try.func37, Try.ntmps37
 go_wp2
 go_ret
 exact ⟨rfl, Below.refl _ _⟩
end Go.Proofs.Ytackejipgjmkoaa.PM
end
section
namespace Go.Proofs.Ytackejipgjmkoaa.PM
open Go.RowKit Go.Proofs.YtackejipgjmkoaaW.PrintWords Go.Proofs.YtackejipgjmkoaaW.PrintLast Go.Proofs.YtackejipgjmkoaaW.PrintMore Go.Proofs.Ytackejipgjmkoaa.XW
open Go.Proofs.Ytackejipgjmkoaa.XRange Go.Proofs.Ytackejipgjmkoaa.XMap
set_option linter.unusedVariables false
set_option linter.unusedSimpArgs false
set_option maxHeartbeats 4000000 in
set_option maxRecDepth 100000 in
theorem openNil_calls (cart who : ByteArray) (w : World) : Calls Try.prog 20 #[.pointer none, .string cart, .string who] w fun e w' => e = .returned (.int .i64 1) ∧ Below w.heap.size w w' := by
 go_enter Try.func20, Try.ntmps20
 go_wp2_with fail
 refine (rightNil_calls _ _ _ _ _).mono ?_
 rintro e w1 ⟨rfl, hb⟩
 have hb0 : Below w.heap.size w (w.alloc (.cells #[.string who] 9)) := (Below.refl _ w).alloc (Nat.le_refl _) _
 have HB := Aside0.mk (hb0.trans (hb.mono hb0.size))
 clear hb hb0
 go_wp2
 go_ret
 exact ⟨rfl, HB.out⟩
set_option maxHeartbeats 4000000 in
set_option maxRecDepth 100000 in
theorem inviteNil_calls (cart a b : ByteArray) (w : World) : Calls Try.prog 21 #[.pointer none, .string cart, .string a, .string b] w fun e w' => e = .returned (.int .i64 1) ∧ Below w.heap.size w w' := by
 go_enter Try.func21, Try.ntmps21
 go_wp2_with fail
 refine (rightNil_calls _ _ _ _ _).mono ?_
 rintro e w1 ⟨rfl, hb⟩
 have hb0 : Below w.heap.size w (w.alloc (.cells #[.string a, .string b] 9)) := (Below.refl _ w).alloc (Nat.le_refl _) _
 have HB := Aside0.mk (hb0.trans (hb.mono hb0.size))
 clear hb hb0
 go_wp2
 go_ret
 exact ⟨rfl, HB.out⟩
set_option maxHeartbeats 4000000 in
set_option maxRecDepth 100000 in
theorem leaveNil_calls (cart who : ByteArray) (w : World) : Calls Try.prog 22 #[.pointer none, .string cart, .string who] w fun e w' => e = .returned (.int .i64 1) ∧ Below w.heap.size w w' := by
 go_enter Try.func22, Try.ntmps22
 go_wp2_with fail
 refine (rightNil_calls _ _ _ _ _).mono ?_
 rintro e w1 ⟨rfl, hb⟩
 have hb0 : Below w.heap.size w (w.alloc (.cells #[.string who] 9)) := (Below.refl _ w).alloc (Nat.le_refl _) _
 have HB := Aside0.mk (hb0.trans (hb.mono hb0.size))
 clear hb hb0
 go_wp2
 go_ret
 exact ⟨rfl, HB.out⟩
theorem mayNil_calls (cart who : ByteArray) (w : World) : Calls Try.prog 13 #[.pointer none, .string cart, .string who] w fun e w' => e = .returned (.bool false) ∧ Below w.heap.size w w' := by
 go_enter Try.func13, Try.ntmps13
 go_wp2
 go_ret
 exact ⟨rfl, Below.refl _ _⟩
theorem passesNil_calls (w : World) : Calls Try.prog 12 #[.pointer none] w fun e w' => e = .returned (.slice none 0 0) ∧ Below w.heap.size w w' := by
 go_enter Try.func12, Try.ntmps12
 go_wp2
 go_ret
 exact ⟨rfl, Below.refl _ _⟩
theorem layNil_calls (w : World) : Calls Try.prog 11 #[.pointer none] w fun e w' => e = .returned (.string ⟨#[]⟩) ∧ Below w.heap.size w w' := by
 go_enter Try.func11, Try.ntmps11
 go_wp2
 go_ret
 exact ⟨rfl, Below.refl _ _⟩
theorem cartsNil_calls (who : ByteArray) (w : World) : Calls Try.prog 16 #[.pointer none, .string who] w fun e w' => e = .returned (.slice none 0 0) ∧ Below w.heap.size w w' := by
 go_enter Try.func16, Try.ntmps16
 go_wp2_with fail
 refine (passesNil_calls w).mono ?_
 rintro e w1 ⟨rfl, hb⟩
 go_wp2
 go_loopw [5, 7, 11] (fun v5 _ v11 wr => v5 = .slice none 0 0 ∧ v11 = .int .i64 0 ∧ Aside0 (Below w.heap.size w wr)) (fun _ _ _ _ => 0)
 case atStart => exact ⟨rfl, rfl, ⟨hb⟩⟩
 case round =>
  obtain ⟨rfl, rfl, HB⟩ := hrel
  go_wp2
  go_ret
  exact ⟨rfl, HB.out⟩
abbrev mV (b : Nat) : Value := .map (some b)
theorem kS : Keys Try.prog 9 Value.string := keys_string Try.underlying9
theorem info64 : (Try.prog.info? 64).map (fun i => i.zero) = some (some (.map none)) := by kernel_rfl
theorem info4 : (Try.prog.info? 4).map (fun i => i.zero) = some (some (.bool false)) := by kernel_rfl
theorem zero64 (w : World) : (zeroValue 64).run Try.prog w = .ok (.map none) w := by
 obtain ⟨i0, hi, hzz⟩ := Option.map_eq_some_iff.1 info64
 simp [zeroValue, typeInfo, hi, hzz]
theorem zero4 (w : World) : (zeroValue 4).run Try.prog w = .ok (.bool false) w := by
 obtain ⟨i0, hi, hzz⟩ := Option.map_eq_some_iff.1 info4
 simp [zeroValue, typeInfo, hi, hzz]
theorem neq64 (r : Option Nat) (w : World) : (binOp .neq 64 (.map r) (.map none)).run Try.prog w = .ok (.bool (!r.isNone)) w := by
 simp [run_neq_map_nil _ 64 _ _ r Try.underlying64]
theorem eql64 (r : Option Nat) (w : World) : (binOp .eql 64 (.map r) (.map none)).run Try.prog w = .ok (.bool r.isNone) w := by
 simp [binOp, run_equal_map_nil _ 64 _ _ r Try.underlying64]
theorem mk54 : Try.prog.underlying 54 = some (.map (Try.prog.mapKeyOf 54) (Try.prog.mapElemOf 54)) := by
 simp [Program.mapKeyOf, Program.mapElemOf, Try.underlying54]
theorem mk64 : Try.prog.underlying 64 = some (.map (Try.prog.mapKeyOf 64) (Try.prog.mapElemOf 64)) := by
 simp [Program.mapKeyOf, Program.mapElemOf, Try.underlying64]
theorem len_at {κ ν : Type} [DecidableEq κ] {K : κ → Value} {V : ν → Value} {t : TypeId} (ht : Try.prog.underlying t = some (.map (Try.prog.mapKeyOf t) (Try.prog.mapElemOf t))) {w : World} {b : Nat} {D : List (κ × ν)} (h : MapAt w b K V D) :
 (Builtin.len_ #[t] 3 #[.map (some b)]).run Try.prog w = .ok (.int .i64 (D.length : Int)) w := by
 obtain ⟨es, clock, hes, hk, _, _, _⟩ := h.at_
 rw [run_len_map _ t 3 b es clock ht hes, keys_len hk]
 rfl
structure Tab (w : World) (t m : Nat) (D : List (ByteArray × Nat)) : Prop where
 tb : w.heap[t]? = some (.cells #[.map (some m)] 56 (0, 0))
 mp : MapAt w m Value.string mV D
theorem tab_ne {w : World} {t m : Nat} {D : List (ByteArray × Nat)} (h : Tab w t m D) : t ≠ m := by
 rintro rfl
 obtain ⟨es, clock, hes, _⟩ := h.mp.at_
 rw [h.tb] at hes
 cases hes
theorem keeps_low {w w1 w2 : World} {B : Nat} {M : Nat → Prop} (h : Below B w w1) (hs : B ≤ w1.heap.size) (hk : Keeps M w1 w2) (hM : ∀ k, M k → B ≤ k) : Below B w w2 :=
 ⟨hk.os.trans h.os, hk.tape.trans h.tape, hk.output.trans h.output, Nat.le_trans h.size hk.size, fun k hb => (hk.block k (by omega) (fun hm => by have := hM k hm; omega)).trans (h.block k hb)⟩
theorem Tab.below {w w1 : World} {t m : Nat} {D : List (ByteArray × Nat)} (h : Tab w t m D) (hb : Below w.heap.size w w1) : Tab w1 t m D :=
 ⟨blk_below h.tb hb, h.mp.step (hb.block m h.mp.lt)⟩
set_option maxHeartbeats 4000000 in
set_option maxRecDepth 100000 in
theorem new_calls (w : World) : Calls Try.prog 9 #[] w fun e w' => ∃ t m, e = .returned (.pointer (some ⟨t, 0, none⟩)) ∧ Tab w' t m [] ∧ Below w.heap.size w w' ∧ w.heap.size ≤ m ∧ w.heap.size ≤ t := by
 go_enter Try.func9, Try.ntmps9
 have hmm := @run_makeMap Try.prog
 go_wp2
 go_ret
 have hb1 : Below w.heap.size w (w.alloc (.map #[] 0)) := (Below.refl _ w).alloc (Nat.le_refl _) _
 have hb2 := (Below.refl (w.alloc (.map #[] 0)).heap.size (w.alloc (.map #[] 0))).alloc (Nat.le_refl _) (.cells #[.map (some w.heap.size)] 56)
 refine ⟨_, w.heap.size, rfl, ⟨?_, (made w Value.string mV).step (hb2.block w.heap.size (by simp))⟩, hb1.trans (hb2.mono hb1.size), Nat.le_refl _, ?_⟩
 · have := World.alloc_heap_new (w.alloc (.map #[] 0)) (.cells #[.map (some w.heap.size)] 56)
   simpa using this
 · simp
set_option maxHeartbeats 4000000 in
set_option maxRecDepth 100000 in
theorem open0_calls (t m : Nat) (cart who : ByteArray) (w : World) (h : Tab w t m []) (B : Nat) (hB : B ≤ m) (htm : B ≤ t) (h1 : (cart.toList == ([] : List UInt8)) = false) (h2 : cart.size = 1) (hw : isNameB who = true) :
 Calls Try.prog 20 #[.pointer (some ⟨t, 0, none⟩), .string cart, .string who] w fun e w' => ∃ b, e = .returned (.int .i64 0) ∧ Tab w' t m [(cart, b)] ∧ MapAt w' b Value.string Value.bool [(who, true)] ∧ Below B w w' ∧ B ≤ b ∧ b ≠ m := by
 go_enter Try.func20, Try.ntmps20
 go_wp2_with fail
 obtain ⟨M, hM⟩ : ∃ M, w.heap.size = M := ⟨_, rfl⟩
 obtain ⟨w1, hw1⟩ : ∃ x, w.alloc (.cells #[.string who] 9) = x := ⟨_, rfl⟩
 have hb1 : Below w.heap.size w w1 := by rw [← hw1]; exact (Below.refl _ w).alloc (Nat.le_refl _) _
 have hx1 : w1.heap[M]? = some (.cells #[.string who] 9 (0, 0)) := by rw [← hw1, ← hM]; exact World.alloc_heap_new w _
 try rw [hw1]
 try rw [hM]
 clear hw1
 refine (right_calls t M cart [who] (by simp) w1 (blk_lt hx1) (fun j hj => by
  obtain rfl : j = 0 := by simp at hj; omega
  exact (blk_cell hx1 0).trans rfl) (fun x hx => by rw [List.mem_singleton.1 hx]; exact hw) h1 h2).mono ?_
 rintro e w2 ⟨rfl, hb2⟩
 have hbw : Below w.heap.size w w2 := hb1.trans (hb2.mono hb1.size)
 have HT2 := Aside0.mk (h.below hbw)
 have HBW := Aside0.mk hbw
 have c0 : w2.cell? ⟨t, 0, none⟩ = some (.map (some m)) := (blk_cell HT2.out.tb 0).trans rfl
 have hlk : (Instr.lookup 54 (.map (some m)) (.string cart) false).run Try.prog w2 = .ok (.map none) w2 := run_lookup_miss Try.underlying54 kS HT2.out.mp cart rfl _ (zero64 w2) false
 have hln := len_at mk54 HT2.out.mp
 have hmm := @run_makeMap Try.prog
 have hnn := neq64 none
 obtain ⟨b, hb⟩ : ∃ b, w2.heap.size = b := ⟨_, rfl⟩
 obtain ⟨w3, hw3⟩ : ∃ x, w2.alloc (.map #[] 0) = x := ⟨_, rfl⟩
 have hb3 : Below w2.heap.size w2 w3 := by rw [← hw3]; exact (Below.refl _ w2).alloc (Nat.le_refl _) _
 have hm3 : MapAt w3 b Value.string Value.bool ([] : List (ByteArray × Bool)) := by rw [← hw3, ← hb]; exact made w2 _ _
 obtain ⟨w4, hu4, hm4, hk4⟩ := run_update Try.underlying64 kS hm3 who true
 have HT3 := Aside0.mk (HT2.out.below hb3)
 have hmb : m ≠ b := by have := HT2.out.mp.lt; omega
 have htb : t ≠ b := by have := blk_lt HT2.out.tb; omega
 have hT4 : Tab w4 t m [] := ⟨(hk4.block t (blk_lt HT3.out.tb) htb).trans HT3.out.tb, HT3.out.mp.step (hk4.block m HT3.out.mp.lt hmb)⟩
 obtain ⟨w5, hu5, hm5, hk5⟩ := run_update Try.underlying54 kS hT4.mp cart b
 have hu5' : (Instr.mapUpdate 54 (.map (some m)) (.string cart) (.map (some b))).run Try.prog w4 = .ok () w5 := hu5
 have hu4' : (Instr.mapUpdate 64 (.map (some b)) (.string who) (.bool true)).run Try.prog w3 = .ok () w4 := hu4
 clear hu4 hu5
 have HM4 := Aside0.mk hm4
 have HM5 := Aside0.mk hm5
 have HK4 := Aside0.mk hk4
 have HK5 := Aside0.mk hk5
 have HT4 := Aside0.mk hT4
 have HB3 := Aside0.mk hb3
 have HTM := Aside0.mk (tab_ne h)
 clear hm4 hm5 hk4 hk5 hT4 hb3
 have hBw : B ≤ w.heap.size := by have := h.mp.lt; omega
 have hBb : B ≤ b := by have := HT2.out.mp.lt; omega
 go_wp2
 go_ret
 have hbl3 : Below B w w3 := (HBW.out.mono hBw).trans (HB3.out.mono (Nat.le_trans hBw HBW.out.size))
 have hbl4 := keeps_low hbl3 (Nat.le_trans hBw (Nat.le_trans HBW.out.size HB3.out.size)) HK4.out (by rintro k rfl; exact hBb)
 have hbl5 := keeps_low hbl4 (Nat.le_trans hBw (Nat.le_trans HBW.out.size (Nat.le_trans HB3.out.size HK4.out.size))) HK5.out (by rintro k rfl; exact hB)
 exact ⟨b, rfl, ⟨(HK5.out.block t (blk_lt HT4.out.tb) HTM.out).trans HT4.out.tb, HM5.out⟩, HM4.out.step (HK5.out.block b HM4.out.lt (fun e => hmb e.symm)), hbl5, hBb, fun e => hmb e.symm⟩
end Go.Proofs.Ytackejipgjmkoaa.PM
end
section
namespace Go.Proofs.Ytackejipgjmkoaa.PM
open Go.RowKit Go.Proofs.YtackejipgjmkoaaW.PrintWords Go.Proofs.YtackejipgjmkoaaW.PrintLast Go.Proofs.YtackejipgjmkoaaW.PrintMore Go.Proofs.Ytackejipgjmkoaa.XW
open Go.Proofs.Ytackejipgjmkoaa.XRange Go.Proofs.Ytackejipgjmkoaa.XMap
set_option linter.unusedVariables false
set_option linter.unusedSimpArgs false
theorem eql64_some (b : Nat) (w : World) : (binOp .eql 64 (.map (some b)) (.map none)).run Try.prog w = .ok (.bool false) w := eql64 (some b) w
set_option maxHeartbeats 4000000 in
set_option maxRecDepth 100000 in
theorem ofYes_calls (t m b : Nat) (D : List (ByteArray × Nat)) (E : List (ByteArray × Bool)) (cart who : ByteArray) (w : World) (h : Tab w t m D) (hE : MapAt w b Value.string Value.bool E) (h1 : XMap.look D cart = some b) (h2 : XMap.look E who = some true) :
 Calls Try.prog 38 #[.pointer (some ⟨t, 0, none⟩), .string cart, .string who] w fun e w' => e = .returned (.tuple #[.map (some b), .int .i64 0]) ∧ w' = w := by
 have c0 : w.cell? ⟨t, 0, none⟩ = some (.map (some m)) := (blk_cell h.tb 0).trans rfl
 have hl1 : (Instr.lookup 54 (.map (some m)) (.string cart) false).run Try.prog w = .ok (.map (some b)) w := run_lookup_hit Try.underlying54 kS h.mp cart b h1 false
 have hl2 : (Instr.lookup 64 (.map (some b)) (.string who) false).run Try.prog w = .ok (.bool true) w := run_lookup_hit Try.underlying64 kS hE who true h2 false
 have hnn := eql64_some b w
 clear h hE h1 h2
 go_enter Try.func38, Try.ntmps38
 go_wp2
 go_ret2
 exact ⟨rfl, rfl⟩
set_option maxHeartbeats 4000000 in
set_option maxRecDepth 100000 in
theorem ofNo_calls (t m b : Nat) (D : List (ByteArray × Nat)) (E : List (ByteArray × Bool)) (cart who : ByteArray) (w : World) (h : Tab w t m D) (hE : MapAt w b Value.string Value.bool E) (h1 : XMap.look D cart = some b) (h2 : XMap.look E who = none) :
 Calls Try.prog 38 #[.pointer (some ⟨t, 0, none⟩), .string cart, .string who] w fun e w' => e = .returned (.tuple #[.map none, .int .i64 130]) ∧ w' = w := by
 have c0 : w.cell? ⟨t, 0, none⟩ = some (.map (some m)) := (blk_cell h.tb 0).trans rfl
 have hl1 : (Instr.lookup 54 (.map (some m)) (.string cart) false).run Try.prog w = .ok (.map (some b)) w := run_lookup_hit Try.underlying54 kS h.mp cart b h1 false
 have hl2 : (Instr.lookup 64 (.map (some b)) (.string who) false).run Try.prog w = .ok (.bool false) w := run_lookup_miss Try.underlying64 kS hE who h2 _ (zero4 w) false
 have hnn := eql64_some b w
 clear h hE h1 h2
 go_enter Try.func38, Try.ntmps38
 go_wp2
 go_ret2
 exact ⟨rfl, rfl⟩
set_option maxHeartbeats 4000000 in
set_option maxRecDepth 100000 in
theorem may_calls (t m b : Nat) (D : List (ByteArray × Nat)) (E : List (ByteArray × Bool)) (cart who : ByteArray) (w : World) (h : Tab w t m D) (hE : MapAt w b Value.string Value.bool E) (h1 : XMap.look D cart = some b) (r : Bool) (h2 : (XMap.look E who).getD false = r) :
 Calls Try.prog 13 #[.pointer (some ⟨t, 0, none⟩), .string cart, .string who] w fun e w' => e = .returned (.bool r) ∧ w' = w := by
 have c0 : w.cell? ⟨t, 0, none⟩ = some (.map (some m)) := (blk_cell h.tb 0).trans rfl
 have hl1 : (Instr.lookup 54 (.map (some m)) (.string cart) false).run Try.prog w = .ok (.map (some b)) w := run_lookup_hit Try.underlying54 kS h.mp cart b h1 false
 have hl2 : (Instr.lookup 64 (.map (some b)) (.string who) false).run Try.prog w = .ok (.bool r) w := by
  cases hl : XMap.look E who with
  | none =>
    rw [hl] at h2
    cases h2
    exact run_lookup_miss Try.underlying64 kS hE who hl _ (zero4 w) false
  | some v =>
    rw [hl] at h2
    cases h2
    exact run_lookup_hit Try.underlying64 kS hE who v hl false
 clear h hE h1 h2
 go_enter Try.func13, Try.ntmps13
 go_wp2
 go_ret
 exact ⟨rfl, rfl⟩
set_option maxHeartbeats 4000000 in
set_option maxRecDepth 100000 in
theorem inviteNo_calls (t m b : Nat) (D : List (ByteArray × Nat)) (E : List (ByteArray × Bool)) (cart by_ who : ByteArray) (w : World) (h : Tab w t m D) (hE : MapAt w b Value.string Value.bool E) (h1 : XMap.look D cart = some b) (h2 : XMap.look E by_ = none)
 (hc1 : (cart.toList == ([] : List UInt8)) = false) (hc2 : cart.size = 1) (hn1 : isNameB by_ = true) (hn2 : isNameB who = true) :
 Calls Try.prog 21 #[.pointer (some ⟨t, 0, none⟩), .string cart, .string by_, .string who] w fun e w' => e = .returned (.int .i64 130) ∧ Below w.heap.size w w' := by
 go_enter Try.func21, Try.ntmps21
 go_wp2_with fail
 obtain ⟨M, hM⟩ : ∃ M, w.heap.size = M := ⟨_, rfl⟩
 obtain ⟨w1, hw1⟩ : ∃ x, w.alloc (.cells #[.string by_, .string who] 9) = x := ⟨_, rfl⟩
 have hb1 : Below w.heap.size w w1 := by rw [← hw1]; exact (Below.refl _ w).alloc (Nat.le_refl _) _
 have hx1 : w1.heap[M]? = some (.cells #[.string by_, .string who] 9 (0, 0)) := by rw [← hw1, ← hM]; exact World.alloc_heap_new w _
 try rw [hw1]
 try rw [hM]
 clear hw1
 refine (right_calls t M cart [by_, who] (by simp) w1 (blk_lt hx1) (fun j hj => by
  match j, hj with
  | 0, _ => exact (blk_cell hx1 0).trans rfl
  | 1, _ => exact (blk_cell hx1 1).trans rfl
  | j + 2, hj => exact absurd hj (by simp)) (fun x hx => by
  simp only [List.mem_cons, List.not_mem_nil, or_false] at hx
  rcases hx with rfl | rfl
  · exact hn1
  · exact hn2) hc1 hc2).mono ?_
 rintro e w2 ⟨rfl, hb2⟩
 have hbw : Below w.heap.size w w2 := hb1.trans (hb2.mono hb1.size)
 have HT2 := Aside0.mk (h.below hbw)
 have HE2 := Aside0.mk (hE.step (hbw.block b hE.lt))
 have HBW := Aside0.mk hbw
 clear hb1 hx1 hb2 hbw
 go_wp2_with fail
 refine (ofNo_calls t m b D E cart by_ w2 HT2.out HE2.out h1 h2).mono ?_
 rintro e w3 ⟨rfl, rfl⟩
 go_wp2
 go_ret
 exact ⟨rfl, by first | exact HBW.out | (rw [← hM]; exact HBW.out)⟩
set_option maxHeartbeats 4000000 in
set_option maxRecDepth 100000 in
theorem invite_calls (t m b : Nat) (D : List (ByteArray × Nat)) (E : List (ByteArray × Bool)) (cart by_ who : ByteArray) (w : World) (h : Tab w t m D) (hE : MapAt w b Value.string Value.bool E) (h1 : XMap.look D cart = some b) (h2 : XMap.look E by_ = some true) (h3 : XMap.look E who = none) (h4 : E.length = 1)
 (hbt : t ≠ b) (hbm : m ≠ b) (B : Nat) (hB : B ≤ b) (hc1 : (cart.toList == ([] : List UInt8)) = false) (hc2 : cart.size = 1) (hn1 : isNameB by_ = true) (hn2 : isNameB who = true) :
 Calls Try.prog 21 #[.pointer (some ⟨t, 0, none⟩), .string cart, .string by_, .string who] w fun e w' => e = .returned (.int .i64 0) ∧ Tab w' t m D ∧ MapAt w' b Value.string Value.bool (upd E who true) ∧ Below B w w' := by
 go_enter Try.func21, Try.ntmps21
 go_wp2_with fail
 obtain ⟨M, hM⟩ : ∃ M, w.heap.size = M := ⟨_, rfl⟩
 obtain ⟨w1, hw1⟩ : ∃ x, w.alloc (.cells #[.string by_, .string who] 9) = x := ⟨_, rfl⟩
 have hb1 : Below w.heap.size w w1 := by rw [← hw1]; exact (Below.refl _ w).alloc (Nat.le_refl _) _
 have hx1 : w1.heap[M]? = some (.cells #[.string by_, .string who] 9 (0, 0)) := by rw [← hw1, ← hM]; exact World.alloc_heap_new w _
 try rw [hw1]
 try rw [hM]
 clear hw1
 refine (right_calls t M cart [by_, who] (by simp) w1 (blk_lt hx1) (fun j hj => by
  match j, hj with
  | 0, _ => exact (blk_cell hx1 0).trans rfl
  | 1, _ => exact (blk_cell hx1 1).trans rfl
  | j + 2, hj => exact absurd hj (by simp)) (fun x hx => by
  simp only [List.mem_cons, List.not_mem_nil, or_false] at hx
  rcases hx with rfl | rfl
  · exact hn1
  · exact hn2) hc1 hc2).mono ?_
 rintro e w2 ⟨rfl, hb2⟩
 have hbw : Below w.heap.size w w2 := hb1.trans (hb2.mono hb1.size)
 have HT2 := Aside0.mk (h.below hbw)
 have HE2 := Aside0.mk (hE.step (hbw.block b hE.lt))
 have HBW := Aside0.mk hbw
 have hBw : B ≤ w.heap.size := by have := hE.lt; omega
 clear hb1 hx1 hb2 hbw
 go_wp2_with fail
 refine (ofYes_calls t m b D E cart by_ w2 HT2.out HE2.out h1 h2).mono ?_
 rintro e w3 ⟨rfl, rfl⟩
 have hl2 : (Instr.lookup 64 (.map (some b)) (.string who) false).run Try.prog w3 = .ok (.bool false) w3 := run_lookup_miss Try.underlying64 kS HE2.out who h3 _ (zero4 w3) false
 have hln := len_at mk64 HE2.out
 rw [h4] at hln
 obtain ⟨w4, hu4, hm4, hk4⟩ := run_update Try.underlying64 kS HE2.out who true
 have hu4' : (Instr.mapUpdate 64 (.map (some b)) (.string who) (.bool true)).run Try.prog w3 = .ok () w4 := hu4
 have HM4 := Aside0.mk hm4
 have HK4 := Aside0.mk hk4
 clear hu4 hm4 hk4 h4
 go_wp2
 go_ret
 exact ⟨rfl, ⟨(HK4.out.block t (blk_lt HT2.out.tb) hbt).trans HT2.out.tb, HT2.out.mp.step (HK4.out.block m HT2.out.mp.lt hbm)⟩, HM4.out, keeps_low (HBW.out.mono hBw) (Nat.le_trans hBw HBW.out.size) HK4.out (by rintro k rfl; exact hB)⟩
end Go.Proofs.Ytackejipgjmkoaa.PM
end
section
namespace Go.Proofs.Ytackejipgjmkoaa.PM
open Go.RowKit Go.Proofs.YtackejipgjmkoaaW.PrintWords Go.Proofs.YtackejipgjmkoaaW.PrintLast Go.Proofs.YtackejipgjmkoaaW.PrintMore Go.Proofs.Ytackejipgjmkoaa.XW
open Go.Proofs.Ytackejipgjmkoaa.XRange Go.Proofs.Ytackejipgjmkoaa.XMap
set_option linter.unusedVariables false
set_option linter.unusedSimpArgs false
def nA : ByteArray := ⟨#[97]⟩
def nB : ByteArray := ⟨#[98]⟩
def nC : ByteArray := ⟨#[99]⟩
def nX : ByteArray := ⟨#[120]⟩
def nY : ByteArray := ⟨#[121]⟩
theorem okA : isNameB nA = true := by decide
theorem okB : isNameB nB = true := by decide
theorem okX : isNameB nX = true := by decide
theorem okY : isNameB nY = true := by decide
theorem neC : (nC.toList == ([] : List UInt8)) = false := by rw [ByteArray.toList_eq]; rfl
theorem lkC (b : Nat) : XMap.look [(nC, b)] nC = some b := by rw [look_cons]; exact if_pos rfl
set_option maxHeartbeats 4000000 in
set_option maxRecDepth 100000 in
theorem shown_calls (w : World) : Calls Try.prog 8 #[] w fun e w' => e = .returned (.bool true) ∧ Below w.heap.size w w' := by
 go_enter Try.func8, Try.ntmps8
 go_wp2_with fail
 refine (new_calls w).mono ?_
 rintro e w1 ⟨t, m, rfl, ht1, hb1, hm, ht⟩
 have HT1 := Aside0.mk ht1
 have HB1 := Aside0.mk hb1
 have HM := Aside0.mk hm
 have HTT := Aside0.mk ht
 clear ht1 hb1 hm ht
 go_wp2_with fail
 refine (open0_calls t m nC nA w1 HT1.out w.heap.size HM.out HTT.out neC rfl okA).mono ?_
 rintro e w2 ⟨b, rfl, ht2, hm2, hb2, hwb, hbm⟩
 have HT2 := Aside0.mk ht2
 have HM2 := Aside0.mk hm2
 have HWB := Aside0.mk hwb
 have HBM := Aside0.mk hbm
 have HB2 := Aside0.mk (HB1.out.trans hb2)
 have HTB := Aside0.mk (show t ≠ b from by
  rintro rfl
  obtain ⟨es, clock, hes, _⟩ := hm2.at_
  rw [ht2.tb] at hes
  cases hes)
 clear ht2 hm2 hwb hbm hb2 HT1
 go_wp2_with fail
 refine (invite_calls t m b _ _ nC nA nB w2 HT2.out HM2.out (lkC b) (by decide) (by decide) rfl HTB.out (fun e => HBM.out e.symm) w.heap.size HWB.out neC rfl okA okB).mono ?_
 rintro e w3 ⟨rfl, ht3, hm3, hb3⟩
 have HT3 := Aside0.mk ht3
 have HM3 := Aside0.mk hm3
 have HB3 := Aside0.mk (HB2.out.trans hb3)
 clear ht3 hm3 hb3 HT2 HM2
 go_wp2_with fail
 refine (inviteNo_calls t m b _ _ nC nX nY w3 HT3.out HM3.out (lkC b) (by decide) neC rfl okX okY).mono ?_
 rintro e w4 ⟨rfl, hb4⟩
 have HT4 := Aside0.mk (HT3.out.below hb4)
 have HM4 := Aside0.mk (HM3.out.step (hb4.block b HM3.out.lt))
 have HB4 := Aside0.mk (HB3.out.trans (hb4.mono HB3.out.size))
 clear hb4 HT3 HM3
 go_wp2_with fail
 refine (may_calls t m b _ _ nC nB w4 HT4.out HM4.out (lkC b) true (by decide)).mono ?_
 rintro e w5 ⟨rfl, rfl⟩
 go_wp2_with fail
 refine (may_calls t m b _ _ nC nY w5 HT4.out HM4.out (lkC b) false (by decide)).mono ?_
 rintro e w6 ⟨rfl, rfl⟩
 go_wp2
 go_ret
 exact ⟨rfl, HB4.out⟩
set_option maxHeartbeats 4000000 in
set_option maxRecDepth 100000 in
theorem memberNone_calls (w : World) (cart who : ByteArray) (hc : cart.size ≤ 140737488351232) (hw : who.size ≤ 140737488351232) : Calls Try.prog 5 #[.string cart, .string who] w fun e w' => e = .returned (.bool true) ∧ Below w.heap.size w w' := by
 go_enter Try.func5, Try.ntmps5
 go_wp2_with fail
 refine (shown_calls w).mono ?_
 rintro e w1 ⟨rfl, hb⟩
 have HB1 := Aside0.mk hb
 clear hb
 go_wp2_with fail
 refine (openNil_calls cart who w1).mono ?_
 rintro e w2 ⟨rfl, hb⟩
 have HB2 := Aside0.mk (HB1.out.trans (hb.mono HB1.out.size))
 clear hb
 go_wp2_with fail
 refine (inviteNil_calls cart who who w2).mono ?_
 rintro e w3 ⟨rfl, hb⟩
 have HB3 := Aside0.mk (HB2.out.trans (hb.mono HB2.out.size))
 clear hb
 go_wp2_with fail
 refine (leaveNil_calls cart who w3).mono ?_
 rintro e w4 ⟨rfl, hb⟩
 have HB4 := Aside0.mk (HB3.out.trans (hb.mono HB3.out.size))
 clear hb
 go_wp2_with fail
 refine (mayNil_calls cart who w4).mono ?_
 rintro e w5 ⟨rfl, hb⟩
 have HB5 := Aside0.mk (HB4.out.trans (hb.mono HB4.out.size))
 clear hb
 go_wp2_with fail
 refine (cartsNil_calls who w5).mono ?_
 rintro e w6 ⟨rfl, hb⟩
 have HB6 := Aside0.mk (HB5.out.trans (hb.mono HB5.out.size))
 clear hb
 go_wp2_with fail
 refine (passesNil_calls w6).mono ?_
 rintro e w7 ⟨rfl, hb⟩
 have HB7 := Aside0.mk (HB6.out.trans (hb.mono HB6.out.size))
 clear hb
 go_wp2_with fail
 refine (layNil_calls w7).mono ?_
 rintro e w8 ⟨rfl, hb⟩
 have HB8 := Aside0.mk (HB7.out.trans (hb.mono HB7.out.size))
 clear hb
 go_wp2
 go_ret
 exact ⟨rfl, HB8.out⟩
end Go.Proofs.Ytackejipgjmkoaa.PM
end
