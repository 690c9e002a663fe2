/- What the rows of this claim use, out of the texts of this work (UOJ, PQ0). No condition beyond those that each statement names. -/
import Derived.Laws.CopyRow
import Derived.Laws.Tables
import Derived.WalkKit
import Derived.WalkMore
import Derived.WalkSpells
import Derived.Lib.SliceRun
import Derived.Laws.RangeAny
import Derived.RangeFuncNested
import Derived.RangeFuncBound
import Derived.RangeFuncCalls
import Derived.RangeFuncLeaves
import Derived.RangeFuncKeeps
import Derived.Shelf.Abstract
import Derived.Shelf.RegionOpen
import Derived.OwnWalkIn
import Derived.TacticsInMore
import Derived.LoopNIn
import Derived.LoopIn
import Derived.Deep.RegionHeld
import Derived.Lib.ConvBytes
import Derived.Laws.IdiomRangeMap
import Derived.MapKept
import Derived.Deep.Slices
import Derived.Deep.Fields
import Derived.ChangeSame
import Derived.ProofKit
import Derived.KernelRfl
import Derived.Below
import Derived.Deep.Draws
import Derived.Deep.AppendLies
import Derived.Maps.AppendAt
import Derived.OwnWalk
import Derived.Laws.BytesArg
import Derived.Laws.MakeOwn
import Derived.Laws.OwnMore
import Derived.Deep.OwnRows
import Derived.Tactics
import Derived.Laws.Slices
import Derived.RowKit3
import Derived.Deep.LoopGhost
import Derived.Deep.QuietTactic
import Derived.BigQuiet
import Derived.WideLaws
import Derived.Deep.DeepCutAuto
import Derived.Deep.CutBlock
import Derived.Deep.RegionHeld3
import Derived.Laws.Rows
import Derived.Lib.AppendStr
import Derived.ArgAppend
import Derived.Laws.IdiomCopy
import Derived.RowKit
import Derived.OrdersHeld
import Derived.Laws.BitsLemmas
import Derived.Laws.StructEq
import Derived.Test.YtjejhgjdmbodiaaProg
import Derived.BigRegionIn
import Derived.BigGuardIn
import Derived.Sort.QuietTacIn
import Derived.Lib.Strings
import Derived.Lib.Slices
import Derived.Lib.Walk
import Derived.Lib.Bytealg
import Derived.IntWalk
import Derived.Lib.AppendZerosOnto
import Derived.Lib.Overlaps
import Derived.Laws.Externs
import Derived.Shelf.RegionOpenPlain
import Derived.Deep.RegionLaw
import Derived.Laws.NewBlocks
import Derived.Test.YtjejhgjdmbodiaaZdUPOx3
import Derived.Test.YtjejhgjdmbodiaaZdUPOx10
import Derived.Test.YtjejhgjdmbodiaaZdUOV
import Derived.Test.YtjejhgjdmbodiaaZdUPD10
import Derived.Test.YtjejhgjdmbodiaaZdUPOx0
import Derived.Test.YtjejhgjdmbodiaaZdW
import Derived.Test.YtjejhgjdmbodiaaZdX
section
section
namespace Go.Proofs.Ytjejhgjdmbodiaa.PO
open Go.RowKit Go.Proofs.YtjejhgjdmbodiaaW.PrintWords Go.Proofs.YtjejhgjdmbodiaaW.PrintLast Go.Proofs.YtjejhgjdmbodiaaW.PrintMore Go.Proofs.Ytjejhgjdmbodiaa.XW
set_option linter.unusedVariables false
set_option linter.unusedSimpArgs false
def exN (n : Int) : Int := if n < 128 then 0 else if n < 16384 then 1 else if n < 2097152 then 2 else if n < 268435456 then 3 else if n < 34359738368 then 4 else if n < 4398046511104 then 5 else if n < 562949953421312 then 6 else if n < 72057594037927936 then 7 else 8
theorem ex_0 {n : Int} (h1 : n < 128) : exN n = 0 := by
 unfold exN
 rw [if_pos (by omega)]
theorem ex_1 {n : Int} (h0 : 128 ≤ n) (h1 : n < 16384) : exN n = 1 := by
 unfold exN
 rw [if_neg (by omega), if_pos (by omega)]
theorem ex_2 {n : Int} (h0 : 16384 ≤ n) (h1 : n < 2097152) : exN n = 2 := by
 unfold exN
 rw [if_neg (by omega), if_neg (by omega), if_pos (by omega)]
theorem ex_3 {n : Int} (h0 : 2097152 ≤ n) (h1 : n < 268435456) : exN n = 3 := by
 unfold exN
 rw [if_neg (by omega), if_neg (by omega), if_neg (by omega), if_pos (by omega)]
theorem ex_4 {n : Int} (h0 : 268435456 ≤ n) (h1 : n < 34359738368) : exN n = 4 := by
 unfold exN
 rw [if_neg (by omega), if_neg (by omega), if_neg (by omega), if_neg (by omega), if_pos (by omega)]
theorem ex_5 {n : Int} (h0 : 34359738368 ≤ n) (h1 : n < 4398046511104) : exN n = 5 := by
 unfold exN
 rw [if_neg (by omega), if_neg (by omega), if_neg (by omega), if_neg (by omega), if_neg (by omega), if_pos (by omega)]
theorem ex_6 {n : Int} (h0 : 4398046511104 ≤ n) (h1 : n < 562949953421312) : exN n = 6 := by
 unfold exN
 rw [if_neg (by omega), if_neg (by omega), if_neg (by omega), if_neg (by omega), if_neg (by omega), if_neg (by omega), if_pos (by omega)]
theorem ex_7 {n : Int} (h0 : 562949953421312 ≤ n) (h1 : n < 72057594037927936) : exN n = 7 := by
 unfold exN
 rw [if_neg (by omega), if_neg (by omega), if_neg (by omega), if_neg (by omega), if_neg (by omega), if_neg (by omega), if_neg (by omega), if_pos (by omega)]
theorem ex_8 {n : Int} (h0 : 72057594037927936 ≤ n) : exN n = 8 := by
 unfold exN
 rw [if_neg (by omega), if_neg (by omega), if_neg (by omega), if_neg (by omega), if_neg (by omega), if_neg (by omega), if_neg (by omega), if_neg (by omega)]
theorem exN_range (n : Int) : 0 ≤ exN n ∧ exN n ≤ 8 := by
 unfold exN
 repeat' split
 all_goals omega
def tabOk (x t : Int) : Prop := (x = 0 ∧ t = 0) ∨ (x = 1 ∧ t = 1) ∨ (2 ≤ x ∧ x < 4 ∧ t = 2) ∨ (4 ≤ x ∧ x < 8 ∧ t = 3) ∨ (8 ≤ x ∧ x < 16 ∧ t = 4) ∨ (16 ≤ x ∧ x < 32 ∧ t = 5) ∨ (32 ≤ x ∧ x < 64 ∧ t = 6) ∨ (64 ≤ x ∧ x < 128 ∧ t = 7) ∨ (128 ≤ x ∧ x < 256 ∧ t = 8)
def TAB : ByteArray := (⟨#[0, 1, 2, 2, 3, 3, 3, 3, 4, 4, 4, 4, 4, 4, 4, 4, 5, 5, 5, 5, 5, 5, 5, 5, 5, 5, 5, 5, 5, 5, 5, 5, 6, 6, 6, 6, 6, 6, 6, 6, 6, 6, 6, 6, 6, 6, 6, 6, 6, 6, 6, 6, 6, 6, 6, 6, 6, 6, 6, 6, 6, 6, 6, 6, 7, 7, 7, 7, 7, 7, 7, 7, 7, 7, 7, 7, 7, 7, 7, 7, 7, 7, 7, 7, 7, 7, 7, 7, 7, 7, 7, 7, 7, 7, 7, 7, 7, 7, 7, 7, 7, 7, 7, 7, 7, 7, 7, 7, 7, 7, 7, 7, 7, 7, 7, 7, 7, 7, 7, 7, 7, 7, 7, 7, 7, 7, 7, 7, 8, 8, 8, 8, 8, 8, 8, 8, 8, 8, 8, 8, 8, 8, 8, 8, 8, 8, 8, 8, 8, 8, 8, 8, 8, 8, 8, 8, 8, 8, 8, 8, 8, 8, 8, 8, 8, 8, 8, 8, 8, 8, 8, 8, 8, 8, 8, 8, 8, 8, 8, 8, 8, 8, 8, 8, 8, 8, 8, 8, 8, 8, 8, 8, 8, 8, 8, 8, 8, 8, 8, 8, 8, 8, 8, 8, 8, 8, 8, 8, 8, 8, 8, 8, 8, 8, 8, 8, 8, 8, 8, 8, 8, 8, 8, 8, 8, 8, 8, 8, 8, 8, 8, 8, 8, 8, 8, 8, 8, 8, 8, 8, 8, 8, 8, 8, 8, 8, 8, 8, 8, 8, 8, 8, 8, 8, 8, 8]⟩ : ByteArray)
theorem tab_ok : ∀ x : Nat, x < 256 → tabOk x (bt TAB x) := by unfold tabOk; decide +kernel
theorem tab_at (x : Int) (h0 : 0 ≤ x) (h1 : x < 256) : tabOk x (bt TAB x) := by
 have := tab_ok x.toNat (by omega)
 rwa [Int.toNat_of_nonneg h0] at this
theorem w_small {u : Int} (h0 : 0 ≤ u) (h1 : u ≤ 1000) : wrap64 u = u := by unfold wrap64; omega
theorem extra_of (u v : Int) (h0 : 0 ≤ u) (h1 : u ≤ 64) (hv : v = (if u = 0 then 0 else if 56 < u then 8 else (u - 1) / 7)) : mn 8 (wrap64 ((mx 0 (wrap64 (u - 1))) / 7)) = v := by
 have e : wrap64 (u - 1) = u - 1 := by unfold wrap64; omega
 have e2 : mx 0 (u - 1) = if u = 0 then 0 else u - 1 := by
  unfold mx
  split <;> split <;> omega
 rw [e, e2, hv]
 by_cases hu : u = 0
 · subst hu
   rw [if_pos rfl, if_pos rfl, w_small (by decide) (by decide)]
   rfl
 · rw [if_neg hu, if_neg hu, w_small (by omega) (by omega)]
   unfold mn
   split <;> split <;> omega
theorem len_0 (x t n : Int) (ht : tabOk x t) (h1 : x * 1 ≤ n) (h2 : n < (x + 1) * 1) : mn 8 (wrap64 ((mx 0 (wrap64 (0 + t - 1))) / 7)) = exN n := by
 rcases ht with ⟨rfl, rfl⟩ | ⟨rfl, rfl⟩ | ⟨h3, h4, rfl⟩ | ⟨h3, h4, rfl⟩ | ⟨h3, h4, rfl⟩ | ⟨h3, h4, rfl⟩ | ⟨h3, h4, rfl⟩ | ⟨h3, h4, rfl⟩ | ⟨h3, h4, rfl⟩
 · rw [ex_0 (by omega), extra_of (0 + 0) 0 (by decide) (by decide) (by decide)]
 · rw [ex_0 (by omega), extra_of (0 + 1) 0 (by decide) (by decide) (by decide)]
 · rw [ex_0 (by omega), extra_of (0 + 2) 0 (by decide) (by decide) (by decide)]
 · rw [ex_0 (by omega), extra_of (0 + 3) 0 (by decide) (by decide) (by decide)]
 · rw [ex_0 (by omega), extra_of (0 + 4) 0 (by decide) (by decide) (by decide)]
 · rw [ex_0 (by omega), extra_of (0 + 5) 0 (by decide) (by decide) (by decide)]
 · rw [ex_0 (by omega), extra_of (0 + 6) 0 (by decide) (by decide) (by decide)]
 · rw [ex_0 (by omega), extra_of (0 + 7) 0 (by decide) (by decide) (by decide)]
 · rw [ex_1 (by omega) (by omega), extra_of (0 + 8) 1 (by decide) (by decide) (by decide)]
theorem len_8 (x t n : Int) (ht : tabOk x t) (h1 : x * 256 ≤ n) (h2 : n < (x + 1) * 256) (hx : 1 ≤ x) : mn 8 (wrap64 ((mx 0 (wrap64 (8 + t - 1))) / 7)) = exN n := by
 rcases ht with ⟨rfl, rfl⟩ | ⟨rfl, rfl⟩ | ⟨h3, h4, rfl⟩ | ⟨h3, h4, rfl⟩ | ⟨h3, h4, rfl⟩ | ⟨h3, h4, rfl⟩ | ⟨h3, h4, rfl⟩ | ⟨h3, h4, rfl⟩ | ⟨h3, h4, rfl⟩
 · omega
 · rw [ex_1 (by omega) (by omega), extra_of (8 + 1) 1 (by decide) (by decide) (by decide)]
 · rw [ex_1 (by omega) (by omega), extra_of (8 + 2) 1 (by decide) (by decide) (by decide)]
 · rw [ex_1 (by omega) (by omega), extra_of (8 + 3) 1 (by decide) (by decide) (by decide)]
 · rw [ex_1 (by omega) (by omega), extra_of (8 + 4) 1 (by decide) (by decide) (by decide)]
 · rw [ex_1 (by omega) (by omega), extra_of (8 + 5) 1 (by decide) (by decide) (by decide)]
 · rw [ex_1 (by omega) (by omega), extra_of (8 + 6) 1 (by decide) (by decide) (by decide)]
 · rw [ex_2 (by omega) (by omega), extra_of (8 + 7) 2 (by decide) (by decide) (by decide)]
 · rw [ex_2 (by omega) (by omega), extra_of (8 + 8) 2 (by decide) (by decide) (by decide)]
theorem len_16 (x t n : Int) (ht : tabOk x t) (h1 : x * 65536 ≤ n) (h2 : n < (x + 1) * 65536) (hx : 1 ≤ x) : mn 8 (wrap64 ((mx 0 (wrap64 (16 + t - 1))) / 7)) = exN n := by
 rcases ht with ⟨rfl, rfl⟩ | ⟨rfl, rfl⟩ | ⟨h3, h4, rfl⟩ | ⟨h3, h4, rfl⟩ | ⟨h3, h4, rfl⟩ | ⟨h3, h4, rfl⟩ | ⟨h3, h4, rfl⟩ | ⟨h3, h4, rfl⟩ | ⟨h3, h4, rfl⟩
 · omega
 · rw [ex_2 (by omega) (by omega), extra_of (16 + 1) 2 (by decide) (by decide) (by decide)]
 · rw [ex_2 (by omega) (by omega), extra_of (16 + 2) 2 (by decide) (by decide) (by decide)]
 · rw [ex_2 (by omega) (by omega), extra_of (16 + 3) 2 (by decide) (by decide) (by decide)]
 · rw [ex_2 (by omega) (by omega), extra_of (16 + 4) 2 (by decide) (by decide) (by decide)]
 · rw [ex_2 (by omega) (by omega), extra_of (16 + 5) 2 (by decide) (by decide) (by decide)]
 · rw [ex_3 (by omega) (by omega), extra_of (16 + 6) 3 (by decide) (by decide) (by decide)]
 · rw [ex_3 (by omega) (by omega), extra_of (16 + 7) 3 (by decide) (by decide) (by decide)]
 · rw [ex_3 (by omega) (by omega), extra_of (16 + 8) 3 (by decide) (by decide) (by decide)]
theorem len_24 (x t n : Int) (ht : tabOk x t) (h1 : x * 16777216 ≤ n) (h2 : n < (x + 1) * 16777216) (hx : 1 ≤ x) : mn 8 (wrap64 ((mx 0 (wrap64 (24 + t - 1))) / 7)) = exN n := by
 rcases ht with ⟨rfl, rfl⟩ | ⟨rfl, rfl⟩ | ⟨h3, h4, rfl⟩ | ⟨h3, h4, rfl⟩ | ⟨h3, h4, rfl⟩ | ⟨h3, h4, rfl⟩ | ⟨h3, h4, rfl⟩ | ⟨h3, h4, rfl⟩ | ⟨h3, h4, rfl⟩
 · omega
 · rw [ex_3 (by omega) (by omega), extra_of (24 + 1) 3 (by decide) (by decide) (by decide)]
 · rw [ex_3 (by omega) (by omega), extra_of (24 + 2) 3 (by decide) (by decide) (by decide)]
 · rw [ex_3 (by omega) (by omega), extra_of (24 + 3) 3 (by decide) (by decide) (by decide)]
 · rw [ex_3 (by omega) (by omega), extra_of (24 + 4) 3 (by decide) (by decide) (by decide)]
 · rw [ex_4 (by omega) (by omega), extra_of (24 + 5) 4 (by decide) (by decide) (by decide)]
 · rw [ex_4 (by omega) (by omega), extra_of (24 + 6) 4 (by decide) (by decide) (by decide)]
 · rw [ex_4 (by omega) (by omega), extra_of (24 + 7) 4 (by decide) (by decide) (by decide)]
 · rw [ex_4 (by omega) (by omega), extra_of (24 + 8) 4 (by decide) (by decide) (by decide)]
theorem len_32 (x t n : Int) (ht : tabOk x t) (h1 : x * 4294967296 ≤ n) (h2 : n < (x + 1) * 4294967296) (hx : 1 ≤ x) : mn 8 (wrap64 ((mx 0 (wrap64 (32 + t - 1))) / 7)) = exN n := by
 rcases ht with ⟨rfl, rfl⟩ | ⟨rfl, rfl⟩ | ⟨h3, h4, rfl⟩ | ⟨h3, h4, rfl⟩ | ⟨h3, h4, rfl⟩ | ⟨h3, h4, rfl⟩ | ⟨h3, h4, rfl⟩ | ⟨h3, h4, rfl⟩ | ⟨h3, h4, rfl⟩
 · omega
 · rw [ex_4 (by omega) (by omega), extra_of (32 + 1) 4 (by decide) (by decide) (by decide)]
 · rw [ex_4 (by omega) (by omega), extra_of (32 + 2) 4 (by decide) (by decide) (by decide)]
 · rw [ex_4 (by omega) (by omega), extra_of (32 + 3) 4 (by decide) (by decide) (by decide)]
 · rw [ex_5 (by omega) (by omega), extra_of (32 + 4) 5 (by decide) (by decide) (by decide)]
 · rw [ex_5 (by omega) (by omega), extra_of (32 + 5) 5 (by decide) (by decide) (by decide)]
 · rw [ex_5 (by omega) (by omega), extra_of (32 + 6) 5 (by decide) (by decide) (by decide)]
 · rw [ex_5 (by omega) (by omega), extra_of (32 + 7) 5 (by decide) (by decide) (by decide)]
 · rw [ex_5 (by omega) (by omega), extra_of (32 + 8) 5 (by decide) (by decide) (by decide)]
theorem len_40 (x t n : Int) (ht : tabOk x t) (h1 : x * 1099511627776 ≤ n) (h2 : n < (x + 1) * 1099511627776) (hx : 1 ≤ x) : mn 8 (wrap64 ((mx 0 (wrap64 (40 + t - 1))) / 7)) = exN n := by
 rcases ht with ⟨rfl, rfl⟩ | ⟨rfl, rfl⟩ | ⟨h3, h4, rfl⟩ | ⟨h3, h4, rfl⟩ | ⟨h3, h4, rfl⟩ | ⟨h3, h4, rfl⟩ | ⟨h3, h4, rfl⟩ | ⟨h3, h4, rfl⟩ | ⟨h3, h4, rfl⟩
 · omega
 · rw [ex_5 (by omega) (by omega), extra_of (40 + 1) 5 (by decide) (by decide) (by decide)]
 · rw [ex_5 (by omega) (by omega), extra_of (40 + 2) 5 (by decide) (by decide) (by decide)]
 · rw [ex_6 (by omega) (by omega), extra_of (40 + 3) 6 (by decide) (by decide) (by decide)]
 · rw [ex_6 (by omega) (by omega), extra_of (40 + 4) 6 (by decide) (by decide) (by decide)]
 · rw [ex_6 (by omega) (by omega), extra_of (40 + 5) 6 (by decide) (by decide) (by decide)]
 · rw [ex_6 (by omega) (by omega), extra_of (40 + 6) 6 (by decide) (by decide) (by decide)]
 · rw [ex_6 (by omega) (by omega), extra_of (40 + 7) 6 (by decide) (by decide) (by decide)]
 · rw [ex_6 (by omega) (by omega), extra_of (40 + 8) 6 (by decide) (by decide) (by decide)]
theorem len_48 (x t n : Int) (ht : tabOk x t) (h1 : x * 281474976710656 ≤ n) (h2 : n < (x + 1) * 281474976710656) (hx : 1 ≤ x) : mn 8 (wrap64 ((mx 0 (wrap64 (48 + t - 1))) / 7)) = exN n := by
 rcases ht with ⟨rfl, rfl⟩ | ⟨rfl, rfl⟩ | ⟨h3, h4, rfl⟩ | ⟨h3, h4, rfl⟩ | ⟨h3, h4, rfl⟩ | ⟨h3, h4, rfl⟩ | ⟨h3, h4, rfl⟩ | ⟨h3, h4, rfl⟩ | ⟨h3, h4, rfl⟩
 · omega
 · rw [ex_6 (by omega) (by omega), extra_of (48 + 1) 6 (by decide) (by decide) (by decide)]
 · rw [ex_7 (by omega) (by omega), extra_of (48 + 2) 7 (by decide) (by decide) (by decide)]
 · rw [ex_7 (by omega) (by omega), extra_of (48 + 3) 7 (by decide) (by decide) (by decide)]
 · rw [ex_7 (by omega) (by omega), extra_of (48 + 4) 7 (by decide) (by decide) (by decide)]
 · rw [ex_7 (by omega) (by omega), extra_of (48 + 5) 7 (by decide) (by decide) (by decide)]
 · rw [ex_7 (by omega) (by omega), extra_of (48 + 6) 7 (by decide) (by decide) (by decide)]
 · rw [ex_7 (by omega) (by omega), extra_of (48 + 7) 7 (by decide) (by decide) (by decide)]
 · rw [ex_7 (by omega) (by omega), extra_of (48 + 8) 7 (by decide) (by decide) (by decide)]
theorem len_56 (x t n : Int) (ht : tabOk x t) (h1 : x * 72057594037927936 ≤ n) (h2 : n < (x + 1) * 72057594037927936) (hx : 1 ≤ x) : mn 8 (wrap64 ((mx 0 (wrap64 (56 + t - 1))) / 7)) = exN n := by
 rcases ht with ⟨rfl, rfl⟩ | ⟨rfl, rfl⟩ | ⟨h3, h4, rfl⟩ | ⟨h3, h4, rfl⟩ | ⟨h3, h4, rfl⟩ | ⟨h3, h4, rfl⟩ | ⟨h3, h4, rfl⟩ | ⟨h3, h4, rfl⟩ | ⟨h3, h4, rfl⟩
 · omega
 · rw [ex_8 (by omega), extra_of (56 + 1) 8 (by decide) (by decide) (by decide)]
 · rw [ex_8 (by omega), extra_of (56 + 2) 8 (by decide) (by decide) (by decide)]
 · rw [ex_8 (by omega), extra_of (56 + 3) 8 (by decide) (by decide) (by decide)]
 · rw [ex_8 (by omega), extra_of (56 + 4) 8 (by decide) (by decide) (by decide)]
 · rw [ex_8 (by omega), extra_of (56 + 5) 8 (by decide) (by decide) (by decide)]
 · rw [ex_8 (by omega), extra_of (56 + 6) 8 (by decide) (by decide) (by decide)]
 · rw [ex_8 (by omega), extra_of (56 + 7) 8 (by decide) (by decide) (by decide)]
 · rw [ex_8 (by omega), extra_of (56 + 8) 8 (by decide) (by decide) (by decide)]
theorem Len64_f (n : Int) (h0 : 0 ≤ n) (h1 : n < 18446744073709551616) (k : Nat) : ∃ L, bits_Len64.f (k + 1) n = some L ∧ mn 8 (wrap64 ((mx 0 (wrap64 (L - 1))) / 7)) = exN n := by
 have leaf : ∀ (s x t : Int), tabOk x t → 0 ≤ s → s ≤ 56 → 0 ≤ t ∧ t ≤ 8 := fun s x t ht _ _ => by
  rcases ht with ⟨_, rfl⟩ | ⟨_, rfl⟩ | ⟨_, _, rfl⟩ | ⟨_, _, rfl⟩ | ⟨_, _, rfl⟩ | ⟨_, _, rfl⟩ | ⟨_, _, rfl⟩ | ⟨_, _, rfl⟩ | ⟨_, _, rfl⟩ <;> omega
 unfold bits_Len64.f
 by_cases c : n ≥ 4294967296
 · rw [if_pos c, bits_Len64.j0]
   by_cases d : n / 4294967296 ≥ 65536
   · rw [if_pos d]
     by_cases e : n / 4294967296 / 65536 ≥ 256
     · rw [if_pos e, if_pos (by omega), if_pos (by omega)]
       have ht := tab_at (n / 4294967296 / 65536 / 256 % 256) (by omega) (by omega)
       have hb := leaf 0 _ _ ht (by decide) (by decide)
       refine ⟨_, rfl, ?_⟩
       show mn 8 (wrap64 ((mx 0 (wrap64 (wrap64 (wrap64 (wrap64 (32 + 16) + 8) + wrap64 (bt TAB (n / 4294967296 / 65536 / 256 % 256))) - 1))) / 7)) = exN n
       have ea : wrap64 (wrap64 (32 + 16) + 8) = 56 := by unfold wrap64; decide
       rw [ea, w_small (u := bt TAB (n / 4294967296 / 65536 / 256 % 256)) hb.1 (by omega), w_small (u := 56 + bt TAB (n / 4294967296 / 65536 / 256 % 256)) (by omega) (by omega)]
       exact len_56 _ _ n ht (by omega) (by omega) (by omega)
     · rw [if_neg e, if_pos (by omega), if_pos (by omega)]
       have ht := tab_at ((n / 4294967296 / 65536) % 256) (by omega) (by omega)
       have hb := leaf 0 _ _ ht (by decide) (by decide)
       refine ⟨_, rfl, ?_⟩
       show mn 8 (wrap64 ((mx 0 (wrap64 (wrap64 (wrap64 (32 + 16) + wrap64 (bt TAB ((n / 4294967296 / 65536) % 256))) - 1))) / 7)) = exN n
       have ea : wrap64 (32 + 16) = 48 := by unfold wrap64; decide
       rw [ea, w_small (u := bt TAB ((n / 4294967296 / 65536) % 256)) hb.1 (by omega), w_small (u := 48 + bt TAB ((n / 4294967296 / 65536) % 256)) (by omega) (by omega)]
       exact len_48 _ _ n ht (by omega) (by omega) (by omega)
   · rw [if_neg d]
     by_cases e : n / 4294967296 ≥ 256
     · rw [if_pos e, if_pos (by omega), if_pos (by omega)]
       have ht := tab_at (n / 4294967296 / 256 % 256) (by omega) (by omega)
       have hb := leaf 0 _ _ ht (by decide) (by decide)
       refine ⟨_, rfl, ?_⟩
       show mn 8 (wrap64 ((mx 0 (wrap64 (wrap64 (wrap64 (32 + 8) + wrap64 (bt TAB (n / 4294967296 / 256 % 256))) - 1))) / 7)) = exN n
       have ea : wrap64 (32 + 8) = 40 := by unfold wrap64; decide
       rw [ea, w_small (u := bt TAB (n / 4294967296 / 256 % 256)) hb.1 (by omega), w_small (u := 40 + bt TAB (n / 4294967296 / 256 % 256)) (by omega) (by omega)]
       exact len_40 _ _ n ht (by omega) (by omega) (by omega)
     · rw [if_neg e, if_pos (by omega), if_pos (by omega)]
       have ht := tab_at ((n / 4294967296) % 256) (by omega) (by omega)
       have hb := leaf 0 _ _ ht (by decide) (by decide)
       refine ⟨_, rfl, ?_⟩
       show mn 8 (wrap64 ((mx 0 (wrap64 (wrap64 (32 + wrap64 (bt TAB ((n / 4294967296) % 256))) - 1))) / 7)) = exN n
       rw [w_small (u := bt TAB ((n / 4294967296) % 256)) hb.1 (by omega), w_small (u := 32 + bt TAB ((n / 4294967296) % 256)) (by omega) (by omega)]
       exact len_32 _ _ n ht (by omega) (by omega) (by omega)
 · rw [if_neg c, bits_Len64.j0]
   by_cases d : n ≥ 65536
   · rw [if_pos d]
     by_cases e : n / 65536 ≥ 256
     · rw [if_pos e, if_pos (by omega), if_pos (by omega)]
       have ht := tab_at (n / 65536 / 256 % 256) (by omega) (by omega)
       have hb := leaf 0 _ _ ht (by decide) (by decide)
       refine ⟨_, rfl, ?_⟩
       show mn 8 (wrap64 ((mx 0 (wrap64 (wrap64 (wrap64 (wrap64 (0 + 16) + 8) + wrap64 (bt TAB (n / 65536 / 256 % 256))) - 1))) / 7)) = exN n
       have ea : wrap64 (wrap64 (0 + 16) + 8) = 24 := by unfold wrap64; decide
       rw [ea, w_small (u := bt TAB (n / 65536 / 256 % 256)) hb.1 (by omega), w_small (u := 24 + bt TAB (n / 65536 / 256 % 256)) (by omega) (by omega)]
       exact len_24 _ _ n ht (by omega) (by omega) (by omega)
     · rw [if_neg e, if_pos (by omega), if_pos (by omega)]
       have ht := tab_at ((n / 65536) % 256) (by omega) (by omega)
       have hb := leaf 0 _ _ ht (by decide) (by decide)
       refine ⟨_, rfl, ?_⟩
       show mn 8 (wrap64 ((mx 0 (wrap64 (wrap64 (wrap64 (0 + 16) + wrap64 (bt TAB ((n / 65536) % 256))) - 1))) / 7)) = exN n
       have ea : wrap64 (0 + 16) = 16 := by unfold wrap64; decide
       rw [ea, w_small (u := bt TAB ((n / 65536) % 256)) hb.1 (by omega), w_small (u := 16 + bt TAB ((n / 65536) % 256)) (by omega) (by omega)]
       exact len_16 _ _ n ht (by omega) (by omega) (by omega)
   · rw [if_neg d]
     by_cases e : n ≥ 256
     · rw [if_pos e, if_pos (by omega), if_pos (by omega)]
       have ht := tab_at (n / 256 % 256) (by omega) (by omega)
       have hb := leaf 0 _ _ ht (by decide) (by decide)
       refine ⟨_, rfl, ?_⟩
       show mn 8 (wrap64 ((mx 0 (wrap64 (wrap64 (wrap64 (0 + 8) + wrap64 (bt TAB (n / 256 % 256))) - 1))) / 7)) = exN n
       have ea : wrap64 (0 + 8) = 8 := by unfold wrap64; decide
       rw [ea, w_small (u := bt TAB (n / 256 % 256)) hb.1 (by omega), w_small (u := 8 + bt TAB (n / 256 % 256)) (by omega) (by omega)]
       exact len_8 _ _ n ht (by omega) (by omega) (by omega)
     · rw [if_neg e, if_pos (by omega), if_pos (by omega)]
       have ht := tab_at ((n) % 256) (by omega) (by omega)
       have hb := leaf 0 _ _ ht (by decide) (by decide)
       refine ⟨_, rfl, ?_⟩
       show mn 8 (wrap64 ((mx 0 (wrap64 (wrap64 (0 + wrap64 (bt TAB ((n) % 256))) - 1))) / 7)) = exN n
       rw [w_small (u := bt TAB ((n) % 256)) hb.1 (by omega), w_small (u := 0 + bt TAB ((n) % 256)) (by omega) (by omega)]
       exact len_0 _ _ n ht (by omega) (by omega)
theorem extra_f (n : Int) (h0 : 0 ≤ n) (h1 : n < 18446744073709551616) (k : Nat) (hk : 0 < k) : wire_extra.f k n = some (exN n) := by
 obtain ⟨k, rfl⟩ : ∃ m, k = m + 1 := ⟨k - 1, by omega⟩
 obtain ⟨L, h2, h3⟩ := Len64_f n h0 h1 k
 unfold wire_extra.f
 rw [h2, Option.bind_some, h3]
theorem w_id {u : Int} (h : -9223372036854775808 ≤ u ∧ u ≤ 9223372036854775807) : wrap64 u = u := by unfold wrap64; omega
theorem shr64 (n : Int) (j : Nat) (h : j ≤ 64) : shr .u64 n (j : Int) = n / 2 ^ j := by
 unfold shr
 rw [show min ((j : Int).toNat) (IntKind.bits .u64) = j from by rw [Int.toNat_natCast]; exact Nat.min_eq_left h]
theorem follow_step (n : Int) (k : Nat) (i : Nat) (p : Int) (hi : i < 8) (hp : (2 : Int) ^ (7 * i + 7) = p) (hp0 : 0 < p) (h0 : 0 ≤ n) : pannierref02_follow.l0 (k + 1) n (i : Int) = if p ≤ n then pannierref02_follow.l0 k n ((i + 1 : Nat) : Int) else some (i : Int) := by
 have e1 : wrap64 (7 + wrap64 (7 * (i : Int))) = ((7 * i + 7 : Nat) : Int) := by
  rw [w_id (u := 7 * (i : Int)) (by omega), w_id (by omega)]
  omega
 have e2 : wrap64 ((i : Int) + 1) = ((i + 1 : Nat) : Int) := by rw [w_id (by omega)]; omega
 rw [pannierref02_follow.l0, if_pos (by omega), e1, if_pos (by omega), shr64 n _ (by omega), hp, e2]
 by_cases h : p ≤ n
 · rw [if_pos h, if_pos]
   have h1 : p * 1 ≤ n := by omega
   have h2 := (Int.le_ediv_iff_mul_le hp0).2 (show 1 * p ≤ n by omega)
   omega
 · rw [if_neg h, if_neg]
   rw [Int.ediv_eq_zero_of_lt h0 (by omega)]
   decide
theorem follow_end (n : Int) (k : Nat) : pannierref02_follow.l0 (k + 1) n ((8 : Nat) : Int) = some 8 := by
 rw [pannierref02_follow.l0, if_neg (by decide)]
 rfl
theorem follow_f (n : Int) (h0 : 0 ≤ n) (k : Nat) (hk : 9 ≤ k) : pannierref02_follow.f k n = some (exN n) := by
 obtain ⟨k, rfl⟩ : ∃ m, k = m + 9 := ⟨k - 9, by omega⟩
 unfold pannierref02_follow.f
 show pannierref02_follow.l0 (k + 9) n ((0 : Nat) : Int) = _
 rw [follow_step n (k + 8) 0 128 (by omega) (by simp) (by omega) h0]
 by_cases c0 : 128 ≤ n
 case neg => rw [if_neg c0, ex_0 (by omega)]; rfl
 rw [if_pos c0]
 rw [follow_step n (k + 7) 1 16384 (by omega) (by simp) (by omega) h0]
 by_cases c1 : 16384 ≤ n
 case neg => rw [if_neg c1, ex_1 (by omega) (by omega)]; rfl
 rw [if_pos c1]
 rw [follow_step n (k + 6) 2 2097152 (by omega) (by simp) (by omega) h0]
 by_cases c2 : 2097152 ≤ n
 case neg => rw [if_neg c2, ex_2 (by omega) (by omega)]; rfl
 rw [if_pos c2]
 rw [follow_step n (k + 5) 3 268435456 (by omega) (by simp) (by omega) h0]
 by_cases c3 : 268435456 ≤ n
 case neg => rw [if_neg c3, ex_3 (by omega) (by omega)]; rfl
 rw [if_pos c3]
 rw [follow_step n (k + 4) 4 34359738368 (by omega) (by simp) (by omega) h0]
 by_cases c4 : 34359738368 ≤ n
 case neg => rw [if_neg c4, ex_4 (by omega) (by omega)]; rfl
 rw [if_pos c4]
 rw [follow_step n (k + 3) 5 4398046511104 (by omega) (by simp) (by omega) h0]
 by_cases c5 : 4398046511104 ≤ n
 case neg => rw [if_neg c5, ex_5 (by omega) (by omega)]; rfl
 rw [if_pos c5]
 rw [follow_step n (k + 2) 6 562949953421312 (by omega) (by simp) (by omega) h0]
 by_cases c6 : 562949953421312 ≤ n
 case neg => rw [if_neg c6, ex_6 (by omega) (by omega)]; rfl
 rw [if_pos c6]
 rw [follow_step n (k + 1) 7 72057594037927936 (by omega) (by simp) (by omega) h0]
 by_cases c7 : 72057594037927936 ≤ n
 case neg => rw [if_neg c7, ex_7 (by omega) (by omega)]; rfl
 rw [if_pos c7]
 rw [follow_end, ex_8 (by omega)]
def gB (n : Int) (j : Nat) : Int := shr .u64 n (8 * (j : Int)) % 256
def tailB (n : Int) : Nat → List Int
 | 0 => []
 | j + 1 => gB n j :: tailB n j
theorem tailB_len (n : Int) : ∀ j, (tailB n j).length = j
 | 0 => rfl
 | j + 1 => by simp [tailB, tailB_len n j]
def onesV : Nat → Int
 | 0 => 0 | 1 => 128 | 2 => 192 | 3 => 224 | 4 => 240 | 5 => 248 | 6 => 252 | 7 => 254 | _ => 255
theorem ones_shl : ∀ t : Nat, t ≤ 8 → shl .u8 255 (8 - (t : Int)) = onesV t := by decide
theorem ones_step : ∀ i : Nat, i < 8 → Go.bits .or .u8 (onesV i) (shr .u8 128 (i : Int)) = onesV (i + 1) := by decide
def encN (n : Int) : List Int := (if exN n < 8 then Go.bits .or .u8 (onesV (exN n).toNat) (gB n (exN n).toNat) else onesV (exN n).toNat) :: tailB n (exN n).toNat
theorem encN_len (n : Int) : (encN n).length ≤ 9 := by
 have := exN_range n
 simp only [encN, List.length_cons, tailB_len]
 omega
theorem num_l0 (n t : Int) (ht : t ≤ 8) : ∀ (k j : Nat) (out : List Int), (j : Int) ≤ t → j < k → out.length + j < 140737488355328 → wire_Number.l0 k n t out t (t - (j : Int)) = some (out ++ tailB n j)
 | 0, j, out, _, h, _ => by omega
 | k + 1, 0, out, hj, h, hl => by
   rw [wire_Number.l0, if_neg (by omega)]
   simp [tailB]
 | k + 1, j + 1, out, hj, h, hl => by
   have e1 : wrap64 (8 * wrap64 (wrap64 (t - 1) - (t - ((j + 1 : Nat) : Int)))) = 8 * (j : Int) := by
    rw [w_id (u := t - 1) (by omega), w_id (u := t - 1 - (t - ((j + 1 : Nat) : Int))) (by omega), w_id (by omega)]
    omega
   have e2 : wrap64 (t - ((j + 1 : Nat) : Int) + 1) = t - (j : Int) := by rw [w_id (by omega)]; omega
   rw [wire_Number.l0, if_pos (by omega), e1, if_pos (by omega), if_pos (by omega), e2, num_l0 n t ht k j _ (by omega) (by omega) (by simp; omega)]
   simp [tailB, gB]
theorem num_l1 (n : Int) : ∀ (k j : Nat) (out : List Int), j ≤ 8 → j < k → out.length + j < 140737488355328 → pannierref02_Number.l1 k n out ((j : Int) - 1) = some (out ++ tailB n j)
 | 0, j, out, _, h, _ => by omega
 | k + 1, 0, out, hj, h, hl => by
   rw [pannierref02_Number.l1, if_neg (by omega)]
   simp [tailB]
 | k + 1, j + 1, out, hj, h, hl => by
   have e0 : ((j + 1 : Nat) : Int) - 1 = (j : Int) := by omega
   have e1 : wrap64 (8 * (j : Int)) = 8 * (j : Int) := w_id (by omega)
   have e2 : wrap64 ((j : Int) - 1) = (j : Int) - 1 := w_id (by omega)
   rw [e0, pannierref02_Number.l1, if_pos (by omega), e1, if_pos (by omega), if_pos (by omega), e2, num_l1 n k j _ (by omega) (by omega) (by simp; omega)]
   simp [tailB, gB]
theorem number_f (n : Int) (h0 : 0 ≤ n) (h1 : n < 18446744073709551616) (b : List Int) (hb : b.length ≤ 140737488355300) (k : Nat) (hk : 20 ≤ k) : wire_Number.f k b n = some (b ++ encN n) := by
 obtain ⟨k, rfl⟩ : ∃ m, k = m + 1 := ⟨k - 1, by omega⟩
 have hr := exN_range n
 obtain ⟨t, ht⟩ : ∃ t : Nat, exN n = (t : Int) := ⟨(exN n).toNat, by omega⟩
 have e1 : wrap64 (8 - exN n) = 8 - (t : Int) := by rw [w_id (by omega), ht]
 have e2 : wrap64 (8 * exN n) = 8 * (t : Int) := by rw [w_id (by omega), ht]
 have hj : ∀ f0 : Int, wire_Number.j0 (k + 1) b n (exN n) f0 = some (b ++ f0 :: tailB n t) := fun f0 => by
  rw [wire_Number.j0]
  unfold slices_Clone_byte_byte.f
  rw [if_pos (by omega), Option.bind_some, if_pos (by omega)]
  have := num_l0 n (t : Int) (by omega) k t (b ++ [f0]) (by omega) (by omega) (by simp; omega)
  rw [Int.sub_self] at this
  rw [ht, this]
  simp
 unfold wire_Number.f
 rw [extra_f n h0 h1 _ (by omega), Option.bind_some, if_pos (by omega), e1, e2, ones_shl t (by omega)]
 unfold encN
 rw [show (exN n).toNat = t by omega]
 by_cases h8 : exN n < 8
 · rw [if_pos h8, if_pos h8, if_pos (by omega), hj]
   rfl
 · rw [if_neg h8, if_neg h8, hj]
theorem ref_l0 (n : Int) (t : Nat) (ht : t ≤ 8) (b : List Int) (hb : b.length ≤ 140737488355300) : ∀ (k i : Nat), i ≤ t → t - i + 12 < k →
 pannierref02_Number.l0 k n b (t : Int) (onesV i) (i : Int) = some (b ++ (if t < 8 then Go.bits .or .u8 (onesV t) (gB n t) else onesV t) :: tailB n t)
 | 0, i, _, h => by omega
 | k + 1, i, hi, h => by
   have hj : ∀ f0 : Int, pannierref02_Number.j1 k n b (t : Int) f0 = some (b ++ f0 :: tailB n t) := fun f0 => by
    obtain ⟨k, rfl⟩ : ∃ m, k = m + 1 := ⟨k - 1, by omega⟩
    have := num_l1 n k t (b ++ [f0]) (by omega) (by omega) (by simp; omega)
    rw [pannierref02_Number.j1, if_pos (by omega), w_id (by omega), this]
    simp
   rw [pannierref02_Number.l0]
   by_cases hlt : i < t
   · have e2 : wrap64 ((i : Int) + 1) = ((i + 1 : Nat) : Int) := by rw [w_id (by omega)]; omega
     rw [if_pos (by omega), if_pos (by omega), ones_step i (by omega), e2, ref_l0 n t ht b hb k (i + 1) (by omega) (by omega)]
   · obtain rfl : i = t := by omega
     have e2 : wrap64 (8 * (i : Int)) = 8 * (i : Int) := w_id (by omega)
     rw [if_neg (by omega), e2]
     by_cases h8 : i < 8
     · rw [if_pos (by omega), if_pos (by omega), hj, if_pos h8]
       rfl
     · rw [if_neg (by omega), hj, if_neg h8]
theorem refNumber_f (n : Int) (h0 : 0 ≤ n) (b : List Int) (hb : b.length ≤ 140737488355300) (k : Nat) (hk : 40 ≤ k) : pannierref02_Number.f k b n = some (b ++ encN n) := by
 have hr := exN_range n
 obtain ⟨t, ht⟩ : ∃ t : Nat, exN n = (t : Int) := ⟨(exN n).toNat, by omega⟩
 have e1 : wrap64 ((b.length : Int) + 9) = (b.length : Int) + 9 := w_id (by omega)
 unfold pannierref02_Number.f
 rw [e1, if_pos (by omega), if_pos (by omega), Option.bind_some, if_pos (by simp; omega), follow_f n h0 k (by omega), Option.bind_some, ht]
 have := ref_l0 n t (by omega) b hb k 0 (by omega) (by omega)
 simp only [List.nil_append]
 refine this.trans ?_
 unfold encN
 rw [ht, Int.toNat_natCast]
 congr 2
 by_cases h8 : t < 8
 · rw [if_pos h8, if_pos (by omega)]
 · rw [if_neg h8, if_neg (by omega)]
def bitV (x : Int) (k : Nat) : Bool := decide (Go.bits .and .u8 (shr .u8 x (7 - (k : Int))) 1 = 1)
def rl (x : Int) : Nat → Nat → Nat
 | 0, k => k
 | f + 1, k => if bitV x k = true then rl x f (k + 1) else k
def lo (x : Int) : Nat := rl x 8 0
theorem u_id {u : Int} (h0 : 0 ≤ u) (h1 : u < 18446744073709551616) : IntKind.u64.wrap u = u := by
 show u % 18446744073709551616 = u
 omega
def textS (b : List Int) (s : ByteArray) : List Int := b ++ encN (s.size : Int) ++ bytesOf s
theorem textS_len (b : List Int) (s : ByteArray) : (textS b s).length ≤ b.length + 9 + s.size := by
 have := encN_len (s.size : Int)
 unfold textS
 rw [List.length_append, List.length_append, bytesOf_length]
 omega
end Go.Proofs.Ytjejhgjdmbodiaa.PO
end
section
namespace Go.Proofs.Ytjejhgjdmbodiaa.PO
open Go.RowKit Go.Proofs.YtjejhgjdmbodiaaW.PrintWords Go.Proofs.YtjejhgjdmbodiaaW.PrintLast Go.Proofs.YtjejhgjdmbodiaaW.PrintMore
open Go.Proofs.Ytjejhgjdmbodiaa.XRange
set_option linter.unusedVariables false
set_option linter.unusedSimpArgs false
section
structure RdAt (T : Nat) (w : World) (g : Nat) (A : Option Addr) (c : Nat) (l : List Int) (at_ : Int) (flag : Bool) : Prop where
 blk : w.heap[g]? = some (.cells #[.slice A l.length c, .int .i64 at_, .bool flag] T (0, 0))
 le : l.length ≤ c
 foot : Kd.F (Kd.int .u8) w (fun k => k ≠ g) A l.length l
theorem RdAt.keep {T : Nat} {w w' : World} {g : Nat} {A : Option Addr} {c : Nat} {l : List Int} {at_ : Int} {flag : Bool} (h : RdAt T w g A c l at_ flag) (hk : Keeps (fun _ => False) w w') : RdAt T w' g A c l at_ flag :=
 ⟨(hk.block g (blk_lt h.blk) (fun f => f)).trans h.blk, h.le, Kd.F_step h.foot (fun k _ hlt => hk.block k hlt (fun f => f))⟩
theorem RdAt.put {T : Nat} {w : World} {g : Nat} {A : Option Addr} {c : Nat} {l : List Int} {at_ : Int} {flag : Bool} (h : RdAt T w g A c l at_ flag) (a' : Int) : RdAt T (w.setCell ⟨g, 1, none⟩ (.int .i64 a')) g A c l a' flag :=
 ⟨blk_set h.blk 1 _, h.le, Kd.F_far h.foot (fun _ hk => hk) _⟩
theorem RdAt.flag {T : Nat} {w : World} {g : Nat} {A : Option Addr} {c : Nat} {l : List Int} {at_ : Int} {flag : Bool} (h : RdAt T w g A c l at_ flag) (b' : Bool) : RdAt T (w.setCell ⟨g, 2, none⟩ (.bool b')) g A c l at_ b' :=
 ⟨blk_set h.blk 2 _, h.le, Kd.F_far h.foot (fun _ hk => hk) _⟩
end
end Go.Proofs.Ytjejhgjdmbodiaa.PO
end
section
namespace Go.Proofs.Ytjejhgjdmbodiaa.PO
open Go.RowKit Go.Proofs.YtjejhgjdmbodiaaW.PrintWords Go.Proofs.YtjejhgjdmbodiaaW.PrintLast Go.Proofs.YtjejhgjdmbodiaaW.PrintMore Go.Proofs.Ytjejhgjdmbodiaa.XW
set_option linter.unusedVariables false
set_option linter.unusedSimpArgs false
theorem wtext32_f (b : List Int) (s : ByteArray) (hs : s.size ≤ 32) (hb : b.length ≤ 140737488355200) (k : Nat) (hk : 20 ≤ k) : wire_Text.f k b s = some (textS b s) := by
 have := encN_len (s.size : Int)
 unfold wire_Text.f
 rw [u_id (by omega) (by omega), number_f _ (by omega) (by omega) b (by omega) k hk, Option.bind_some, if_pos (by rw [List.length_append]; omega)]
 rfl
def fine32 (l : List S72) : Prop := ∀ x, x ∈ l → x.f0.size ≤ 32 ∧ 0 ≤ x.f1 ∧ x.f1 ≤ 4611686018427387904
theorem dotOk_32 {d : S72} (h : dotOk d = true) : d.f0.size ≤ 24 ∧ 1 ≤ d.f1 ∧ d.f1 ≤ 4611686018427387904 := by
 simp only [dotOk, isNameB, Bool.and_eq_true, decide_eq_true_eq] at h
 omega
theorem seenS_fine (deps : List S72) : ∀ (l : List S72) (p : Option S72), seenS deps p l = true → fine32 l
 | [], p, _ => fun x hx => by cases hx
 | y :: l, p, h => fun x hx => by
   have h' : hasS deps y.f0 y.f1 = true ∧ seenS deps (some y) l = true := by
    unfold seenS at h
    simp only [Bool.and_eq_true] at h
    exact ⟨h.1.1, h.2⟩
   rcases List.mem_cons.1 hx with rfl | hx
   · have h1 := h'.1
     unfold hasS at h1
     simp only [Bool.and_eq_true] at h1
     have h3 : x.f0.size ≤ 24 ∧ 1 ≤ x.f1 ∧ x.f1 ≤ 4611686018427387904 := dotOk_32 h1.1.2
     omega
   · exact seenS_fine deps l (some y) h'.2 x hx
theorem rightO_all {o : S74} (h : rightO o = true) : dotOk o.f0 = true ∧ rightS o.f1 = true ∧ o.f2.size ≤ 32 ∧ o.f4.size ≤ 32 ∧ o.f6.length ≤ 128 ∧ fine32 o.f6 ∧ (1 ≤ o.f3 ∧ o.f3 ≤ 3) ∧ 0 ≤ o.f5 ∧ o.f5 ≤ 9999 := by
 unfold rightO at h
 simp only [Bool.and_eq_true, decide_eq_true_eq] at h
 obtain ⟨⟨⟨⟨⟨⟨⟨h1, h2⟩, h3⟩, h4⟩, h5⟩, h6⟩, h7⟩, h8⟩ := h
 refine ⟨h1, h2, h4.2, h5.2, h6, seenS_fine _ _ _ h7, ?_⟩
 unfold kindS at h8
 by_cases q1 : o.f3 = 1
 · rw [if_pos q1] at h8
   simp only [Bool.and_eq_true, decide_eq_true_eq] at h8
   omega
 · rw [if_neg q1] at h8
   by_cases q2 : o.f3 = 2
   · rw [if_pos q2] at h8
     simp only [Bool.and_eq_true, decide_eq_true_eq] at h8
     omega
   · rw [if_neg q2] at h8
     simp only [Bool.and_eq_true, decide_eq_true_eq] at h8
     omega
end Go.Proofs.Ytjejhgjdmbodiaa.PO
end
section
namespace Go.Proofs.Ytjejhgjdmbodiaa.PO
open Go.RowKit Go.Proofs.YtjejhgjdmbodiaaW.PrintWords Go.Proofs.YtjejhgjdmbodiaaW.PrintLast Go.Proofs.YtjejhgjdmbodiaaW.PrintMore
open Go.Proofs.Ytjejhgjdmbodiaa.XRange Go.Proofs.Ytjejhgjdmbodiaa.XMap
set_option linter.unusedVariables false
set_option linter.unusedSimpArgs false
section
variable {P : Program} {md : Region.Mode} {ops : Array Oper} {Q : Exit → Act → World → Prop} {S : World → Prop} {ds : List Nat}
theorem oneL {i : Nat} {oi : Oper} {fuel : Nat} {l : Array Bool} {a : Act} {w : World} (N : Option Tmp) (hi : ops[i]? = some oi) (hN : oi.dst = N) (hc : (Region.ready md ops l == [i]) = true) (hd : i ∉ ds)
 (h : ∀ K : Act → World → Prop, Shut (∀ a' w', S w' → (S w' → wpAnyLast P md ops Q S ds fuel (l.setIfInBounds i true) a' w') → K a' w') → if Region.wanted oi (yielded ops a.tmps) = true then Oper.wp P oi a w K Q else K (a.put N undef) w) :
 wpAnyLast P md ops Q S ds (fuel + 1) l a w := one_ _ hi hN (by simp only [readyB, hc, Bool.true_and, beq_self_eq_true]) hd h
end
theorem info74 : (Try.prog.info? 74).map (fun i => (i.zero, i.size, i.bytes)) = some (some (.agg #[(.string ⟨#[]⟩), (.int .i64 0), .slice none 0 0, (.string ⟨#[]⟩), (.int .i64 0), (.string ⟨#[]⟩), (.int .i64 0), .slice none 0 0]), 8, 120) := by kernel_rfl
theorem keeps_grown {w w1 : World} {row : Option Nat} (h : w.grownBy w1 row) : Keeps (fun k => some k = row) w w1 := ⟨h.os, h.tape, h.output, h.size, fun k hk hne => h.block k hk hne⟩
theorem keeps_weak {M M' : Nat → Prop} {A B : World} (h : Keeps M A B) (hm : ∀ k, M k → M' k) : Keeps M' A B := ⟨h.os, h.tape, h.output, h.size, fun k hk hne => h.block k hk (fun e => hne (hm k e))⟩
section
variable {G : Nat → Prop} {w w1 : World} {base g : Nat} {vl vk vw : Value} {m : Nat} {L : List S74} {K : List S72} {Q : List S74} {D : List (S72 × (S74 × List Value))}
end
end Go.Proofs.Ytjejhgjdmbodiaa.PO
end
section
namespace Go.Proofs.Ytjejhgjdmbodiaa.PO
open Go.RowKit Go.Proofs.YtjejhgjdmbodiaaW.PrintWords Go.Proofs.YtjejhgjdmbodiaaW.PrintLast Go.Proofs.YtjejhgjdmbodiaaW.PrintMore
open Go.Proofs.Ytjejhgjdmbodiaa.XRange Go.Proofs.Ytjejhgjdmbodiaa.XMap
set_option linter.unusedVariables false
set_option linter.unusedSimpArgs false
def z8 : List Value := [.string ⟨#[]⟩, .int .i64 0, .slice none 0 0, .string ⟨#[]⟩, .int .i64 0, .string ⟨#[]⟩, .int .i64 0, .slice none 0 0]
end Go.Proofs.Ytjejhgjdmbodiaa.PO
end
end
section
namespace Go.Proofs.Ytjejhgjdmbodiaa.PO
open Go.RowKit Go.Proofs.YtjejhgjdmbodiaaW.PrintWords Go.Proofs.YtjejhgjdmbodiaaW.PrintLast Go.Proofs.YtjejhgjdmbodiaaW.PrintMore
attribute [local go_sem] max2_int min2_int max_two min_two max_three min_three max_four min_four   -- for this text's walks alone
set_option linter.unusedVariables false
set_option linter.unusedSimpArgs false
structure S99 where
 f0 : ByteArray
 f1 : ByteArray
 f2 : Int
 f3 : Int
def z99 : S99 := ⟨(⟨#[]⟩ : ByteArray), (⟨#[]⟩ : ByteArray), (0 : Int), (0 : Int)⟩
def k99 : Kd S99 := Kd.iso (Kd.pair Kd.string (Kd.pair Kd.string (Kd.pair (Kd.int .i64) (Kd.int .i64)))) (fun x : S99 => (x.f0, x.f1, x.f2, x.f3))
theorem k99_open {w : World} {x : S99} {cs : List Value} (h : k99.K w x cs) : cs = [.string x.f0, .string x.f1, .int .i64 x.f2, .int .i64 x.f3] := by
 obtain ⟨_, _, rfl, rfl, ⟨_, _, rfl, rfl, ⟨_, _, rfl, rfl, rfl⟩⟩⟩ := h
 exact rfl
theorem k99_openM {w : World} {base : Nat} {ok : Nat → Prop} {x : S99} {cs : List Value} (h : k99.M w base ok x cs) : cs = [.string x.f0, .string x.f1, .int .i64 x.f2, .int .i64 x.f3] := by
 obtain ⟨_, _, rfl, rfl, ⟨_, _, rfl, rfl, ⟨_, _, rfl, rfl, rfl⟩⟩⟩ := h
 exact rfl
theorem k99_mkM (w : World) (base : Nat) (ok : Nat → Prop) (x : S99)  : k99.M w base ok x [.string x.f0, .string x.f1, .int .i64 x.f2, .int .i64 x.f3] := ⟨[.string x.f0], [.string x.f1, .int .i64 x.f2, .int .i64 x.f3], rfl, rfl, ⟨[.string x.f1], [.int .i64 x.f2, .int .i64 x.f3], rfl, rfl, ⟨[.int .i64 x.f2], [.int .i64 x.f3], rfl, rfl, rfl⟩⟩⟩
def rd_T99 (xs : List S99) (i : Int) : S99 := xs.getD i.toNat z99
theorem at_T99 {w : World} {A : Option Addr} {n : Nat} {xs : List S99} (h : Kd.C k99 w A n xs) (i : Int) (h0 : 0 ≤ i) (h1 : i < n) : ∃ ad , A = some ad ∧ w.cell? (ad.add (i.toNat * 4)) = some (.string (rd_T99 xs i).f0) ∧ w.cell? ⟨(ad.add (i.toNat * 4)).block, (ad.add (i.toNat * 4)).off + 1, none⟩ = some (.string (rd_T99 xs i).f1) ∧ w.cell? ⟨(ad.add (i.toNat * 4)).block, (ad.add (i.toNat * 4)).off + 2, none⟩ = some (.int .i64 (rd_T99 xs i).f2) ∧ w.cell? ⟨(ad.add (i.toNat * 4)).block, (ad.add (i.toNat * 4)).off + 3, none⟩ = some (.int .i64 (rd_T99 xs i).f3) := by
 obtain ⟨ad, c, e, _, hK, hc0⟩ := Kd.C_get h z99 i h0 h1
 have hc : ∀ j u, c[j]? = some u → w.cell? (ad.add (i.toNat * 4 + j)) = some u := hc0
 obtain rfl := k99_open hK
 exact ⟨ad, e, hc 0 _ rfl, by rw [← add_field _ _ 1 (by omega)]; exact hc 1 _ rfl, by rw [← add_field _ _ 2 (by omega)]; exact hc 2 _ rfl, by rw [← add_field _ _ 3 (by omega)]; exact hc 3 _ rfl⟩
end Go.Proofs.Ytjejhgjdmbodiaa.PO
end
