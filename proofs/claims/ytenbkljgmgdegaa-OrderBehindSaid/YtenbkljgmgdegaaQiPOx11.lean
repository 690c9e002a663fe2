/- What the rows of this claim use, out of the texts of this work (POx11). No condition beyond those that each statement names. -/
import Derived.Test.YtenbkljgmgdegaaQiX
import Derived.Test.YtenbkljgmgdegaaQiPOx0
import Derived.Test.YtenbkljgmgdegaaQiPOx9
import Derived.Test.YtenbkljgmgdegaaQiPOx10
namespace Go.Proofs.Ytenbkljgmgdegaa.PO
open Go.Proofs.Ytenbkljgmgdegaa
open Go.RowKit Go.Proofs.YtenbkljgmgdegaaW.PrintWords Go.Proofs.YtenbkljgmgdegaaW.PrintLast Go.Proofs.YtenbkljgmgdegaaW.PrintMore
attribute [local go_sem] max2_int min2_int max_two min_two max_three min_three max_four min_four   -- for this text's walks alone
set_option linter.unusedVariables false
set_option linter.unusedSimpArgs false
abbrev bqaPOx11_0 : Array Bool := #[false, false, false, false, false, false, false, false, false, false, false, false, false, false, false, false, false, false, false, false, false, false, false, false, false]
abbrev bqaPOx11_1 : Array Bool := #[true, false, false, false, false, false, false, false, false, false, false, false, false, false, false, false, false, false, false, false, false, false, false, false, false]
abbrev bqaPOx11_2 : Array Bool := #[true, true, false, false, false, false, false, false, false, false, false, false, false, false, false, false, false, false, false, false, false, false, false, false, false]
abbrev bqaPOx11_3 : Array Bool := #[true, true, true, false, false, false, false, false, false, false, false, false, false, false, false, false, false, false, false, false, false, false, false, false, false]
abbrev bqaPOx11_4 : Array Bool := #[true, true, true, true, false, false, false, false, false, false, false, false, false, false, false, false, false, false, false, false, false, false, false, false, false]
abbrev bqaPOx11_5 : Array Bool := #[true, true, true, true, true, false, false, false, false, false, false, false, false, false, false, false, false, false, false, false, false, false, false, false, false]
abbrev bqaPOx11_6 : Array Bool := #[true, true, true, true, true, true, false, false, false, false, false, false, false, false, false, false, false, false, false, false, false, false, false, false, false]
abbrev bqaPOx11_7 : Array Bool := #[true, true, true, true, true, true, true, false, false, false, false, false, false, false, false, false, false, false, false, false, false, false, false, false, false]
abbrev bqaPOx11_8 : Array Bool := #[true, true, true, true, true, true, true, true, false, false, false, false, false, false, false, false, false, false, false, false, false, false, false, false, false]
abbrev bqaPOx11_9 : Array Bool := #[true, true, true, true, true, true, true, true, false, true, false, false, false, false, false, false, false, false, false, false, false, false, false, false, false]
abbrev bqaPOx11_10 : Array Bool := #[true, true, true, true, true, true, true, true, false, true, true, false, false, false, false, false, false, false, false, false, false, false, false, false, false]
abbrev bqaPOx11_11 : Array Bool := #[true, true, true, true, true, true, true, true, false, true, true, false, false, true, false, false, false, false, false, false, false, false, false, false, false]
abbrev bqaPOx11_12 : Array Bool := #[true, true, true, true, true, true, true, true, false, true, true, false, false, true, true, false, false, false, false, false, false, false, false, false, false]
abbrev bqaPOx11_13 : Array Bool := #[true, true, true, true, true, true, true, true, true, true, true, false, false, true, true, false, false, false, false, false, false, false, false, false, false]
abbrev bqaPOx11_14 : Array Bool := #[true, true, true, true, true, true, true, true, true, true, true, true, false, true, true, false, false, false, false, false, false, false, false, false, false]
abbrev bqaPOx11_15 : Array Bool := #[true, true, true, true, true, true, true, true, true, true, true, true, false, true, true, true, false, false, false, false, false, false, false, false, false]
abbrev bqaPOx11_16 : Array Bool := #[true, true, true, true, true, true, true, true, true, true, true, true, false, true, true, true, true, false, false, false, false, false, false, false, false]
abbrev bqaPOx11_17 : Array Bool := #[true, true, true, true, true, true, true, true, true, true, true, true, true, true, true, true, true, false, false, false, false, false, false, false, false]
abbrev bqaPOx11_18 : Array Bool := #[true, true, true, true, true, true, true, true, true, true, true, true, true, true, true, true, true, true, false, false, false, false, false, false, false]
abbrev bqaPOx11_19 : Array Bool := #[true, true, true, true, true, true, true, true, true, true, true, true, true, true, true, true, true, true, true, false, false, false, false, false, false]
abbrev bqaPOx11_20 : Array Bool := #[true, true, true, true, true, true, true, true, true, true, true, true, true, true, true, true, true, true, true, true, false, false, false, false, false]
abbrev bqaPOx11_21 : Array Bool := #[true, true, true, true, true, true, true, true, true, true, true, true, true, true, true, true, true, true, true, true, true, false, false, false, false]
abbrev bqaPOx11_22 : Array Bool := #[true, true, true, true, true, true, true, true, true, true, true, true, true, true, true, true, true, true, true, true, true, true, false, false, false]
abbrev bqaPOx11_23 : Array Bool := #[true, true, true, true, true, true, true, true, true, true, true, true, true, true, true, true, true, true, true, true, true, true, true, false, false]
abbrev bqaPOx11_24 : Array Bool := #[true, true, true, true, true, true, true, true, true, true, true, true, true, true, true, true, true, true, true, true, true, true, true, true, false]
abbrev bqaPOx11_25 : Array Bool := #[true, true, true, true, true, true, true, true, true, true, true, true, true, true, true, true, true, true, true, true, true, true, true, true, true]
abbrev bqaPOx11_26 : Array Bool := #[true, true, true, true, true, true, true, true, true, false, false, false, false, false, false, false, false, false, false, false, false, false, false, false, false]
abbrev bqaPOx11_27 : Array Bool := #[true, true, true, true, true, true, true, true, true, true, false, false, false, false, false, false, false, false, false, false, false, false, false, false, false]
abbrev bqaPOx11_28 : Array Bool := #[true, true, true, true, true, true, true, true, true, true, true, false, false, false, false, false, false, false, false, false, false, false, false, false, false]
abbrev bqaPOx11_29 : Array Bool := #[true, true, true, true, true, true, true, true, true, true, true, true, false, false, false, false, false, false, false, false, false, false, false, false, false]
abbrev bqaPOx11_30 : Array Bool := #[true, true, true, true, true, true, true, true, true, true, true, true, true, false, false, false, false, false, false, false, false, false, false, false, false]
abbrev bqaPOx11_31 : Array Bool := #[true, true, true, true, true, true, true, true, true, true, true, true, true, true, false, false, false, false, false, false, false, false, false, false, false]
abbrev bqaPOx11_32 : Array Bool := #[true, true, true, true, true, true, true, true, true, true, true, true, true, true, true, false, false, false, false, false, false, false, false, false, false]
abbrev bqaPOx11_33 : Array Bool := #[true, true, true, true, true, true, true, true, true, true, true, true, true, true, true, true, false, false, false, false, false, false, false, false, false]
abbrev bqaPOx11_34 : Array Bool := #[false, false, false, false, false, false, false, false, false, false, false, false, false, false, false, false, false, false, false, false, false]
abbrev bqaPOx11_35 : Array Bool := #[true, false, false, false, false, false, false, false, false, false, false, false, false, false, false, false, false, false, false, false, false]
abbrev bqaPOx11_36 : Array Bool := #[true, true, false, false, false, false, false, false, false, false, false, false, false, false, false, false, false, false, false, false, false]
abbrev bqaPOx11_37 : Array Bool := #[true, true, true, false, false, false, false, false, false, false, false, false, false, false, false, false, false, false, false, false, false]
abbrev bqaPOx11_38 : Array Bool := #[true, true, true, true, false, false, false, false, false, false, false, false, false, false, false, false, false, false, false, false, false]
abbrev bqaPOx11_39 : Array Bool := #[true, true, true, true, true, false, false, false, false, false, false, false, false, false, false, false, false, false, false, false, false]
abbrev bqaPOx11_40 : Array Bool := #[true, true, true, true, true, true, false, false, false, false, false, false, false, false, false, false, false, false, false, false, false]
abbrev bqaPOx11_41 : Array Bool := #[true, true, true, true, true, true, true, false, false, false, false, false, false, false, false, false, false, false, false, false, false]
abbrev bqaPOx11_42 : Array Bool := #[true, true, true, true, true, true, true, false, true, false, false, false, false, false, false, false, false, false, false, false, false]
abbrev bqaPOx11_43 : Array Bool := #[true, true, true, true, true, true, true, false, true, true, false, false, false, false, false, false, false, false, false, false, false]
abbrev bqaPOx11_44 : Array Bool := #[true, true, true, true, true, true, true, false, true, true, false, false, true, false, false, false, false, false, false, false, false]
abbrev bqaPOx11_45 : Array Bool := #[true, true, true, true, true, true, true, false, true, true, false, false, true, false, true, false, false, false, false, false, false]
abbrev bqaPOx11_46 : Array Bool := #[true, true, true, true, true, true, true, true, true, true, false, false, true, false, true, false, false, false, false, false, false]
abbrev bqaPOx11_47 : Array Bool := #[true, true, true, true, true, true, true, true, true, true, true, false, true, false, true, false, false, false, false, false, false]
abbrev bqaPOx11_48 : Array Bool := #[true, true, true, true, true, true, true, true, true, true, true, true, true, false, true, false, false, false, false, false, false]
abbrev bqaPOx11_49 : Array Bool := #[true, true, true, true, true, true, true, true, true, true, true, true, true, true, true, false, false, false, false, false, false]
abbrev bqaPOx11_50 : Array Bool := #[true, true, true, true, true, true, true, true, true, true, true, true, true, true, true, true, false, false, false, false, false]
abbrev bqaPOx11_51 : Array Bool := #[true, true, true, true, true, true, true, true, true, true, true, true, true, true, true, true, true, false, false, false, false]
abbrev bqaPOx11_52 : Array Bool := #[true, true, true, true, true, true, true, true, true, true, true, true, true, true, true, true, true, true, false, false, false]
abbrev bqaPOx11_53 : Array Bool := #[true, true, true, true, true, true, true, true, true, true, true, true, true, true, true, true, true, true, true, false, false]
abbrev bqaPOx11_54 : Array Bool := #[true, true, true, true, true, true, true, true, true, true, true, true, true, true, true, true, true, true, true, true, false]
abbrev bqaPOx11_55 : Array Bool := #[true, true, true, true, true, true, true, true, true, true, true, true, true, true, true, true, true, true, true, true, true]
abbrev bqaPOx11_56 : Array Bool := #[true, true, true, true, true, true, true, true, false, false, false, false, false, false, false, false, false, false, false, false, false]
abbrev bqaPOx11_57 : Array Bool := #[true, true, true, true, true, true, true, true, true, false, false, false, false, false, false, false, false, false, false, false, false]
abbrev bqaPOx11_58 : Array Bool := #[true, true, true, true, true, true, true, true, true, true, false, false, false, false, false, false, false, false, false, false, false]
abbrev bqaPOx11_59 : Array Bool := #[true, true, true, true, true, true, true, true, true, true, true, false, false, false, false, false, false, false, false, false, false]
abbrev bqaPOx11_60 : Array Bool := #[true, true, true, true, true, true, true, true, true, true, true, true, false, false, false, false, false, false, false, false, false]
abbrev bqaPOx11_61 : Array Bool := #[true, true, true, true, true, true, true, true, true, true, true, true, true, false, false, false, false, false, false, false, false]
abbrev bqaPOx11_62 : Array Bool := #[true, true, true, true, true, true, true, true, true, true, true, true, true, true, false, false, false, false, false, false, false]
mutual
def pannierref08_Right.j0 : Nat → Bool → ByteArray → Int → List (S34) → ByteArray → Int → ByteArray → Int → List (S34) → Option (Bool)
  | 0, _, _, _, _, _, _, _, _, _ => none
  | k + 1, x38, x170000, x170001, x170002, x170003, x170004, x170005, x170006, x170007 => if x38 = true then (some false) else (if (x170003.size : Int) < 1 then (pannierref08_Right.j1 k true x170000 x170001 x170002 x170003 x170004 x170005 x170006 x170007) else (if (x170003.size : Int) > 32 then (pannierref08_Right.j1 k true x170000 x170001 x170002 x170003 x170004 x170005 x170006 x170007) else (if (x170005.size : Int) < 1 then (pannierref08_Right.j1 k true x170000 x170001 x170002 x170003 x170004 x170005 x170006 x170007) else (pannierref08_Right.j1 k (decide ((x170005.size : Int) > 32)) x170000 x170001 x170002 x170003 x170004 x170005 x170006 x170007))))
def pannierref08_Right.j1 : Nat → Bool → ByteArray → Int → List (S34) → ByteArray → Int → ByteArray → Int → List (S34) → Option (Bool)
  | 0, _, _, _, _, _, _, _, _, _ => none
  | k + 1, x60, x170000, x170001, x170002, x170003, x170004, x170005, x170006, x170007 => if x60 = true then (some false) else (pannierref08_Right.l0 k 0 x170000 x170001 x170002 x170003 x170004 x170005 x170006 x170007)
def pannierref08_Right.l0 : Nat → Int → ByteArray → Int → List (S34) → ByteArray → Int → ByteArray → Int → List (S34) → Option (Bool)
  | 0, _, _, _, _, _, _, _, _, _ => none
  | k + 1, x5, x170000, x170001, x170002, x170003, x170004, x170005, x170006, x170007 => if x5 < (x170007.length : Int) then (if 0 ≤ x5 then ((pannierref07_Has.f k x170002 ((rd_T34 x170007 x5).f0) ((rd_T34 x170007 x5).f1)).bind fun t174 => (if t174 = true then (if x5 > 0 then (if 0 ≤ (wrap64 (x5 - 1)) then (if (wrap64 (x5 - 1)) < (x170007.length : Int) then ((pannierref08_ahead.f ((rd_T34 x170007 (wrap64 (x5 - 1))).f0) ((rd_T34 x170007 (wrap64 (x5 - 1))).f1) ((rd_T34 x170007 x5).f0) ((rd_T34 x170007 x5).f1)).bind fun t177 => (if t177 = true then (pannierref08_Right.l0 k (wrap64 (x5 + 1)) x170000 x170001 x170002 x170003 x170004 x170005 x170006 x170007) else (some false))) else (none)) else (none)) else (pannierref08_Right.l0 k (wrap64 (x5 + 1)) x170000 x170001 x170002 x170003 x170004 x170005 x170006 x170007)) else (some false))) else (none)) else (if x170006 ≥ 1 then (pannierref08_Right.j3 k (decide (x170006 ≤ 9999)) x170000 x170001 x170002 x170003 x170004 x170005 x170006 x170007) else (pannierref08_Right.j3 k false x170000 x170001 x170002 x170003 x170004 x170005 x170006 x170007))
def pannierref08_Right.j3 : Nat → Bool → ByteArray → Int → List (S34) → ByteArray → Int → ByteArray → Int → List (S34) → Option (Bool)
  | 0, _, _, _, _, _, _, _, _, _ => none
  | k + 1, x7, x170000, x170001, x170002, x170003, x170004, x170005, x170006, x170007 => if x170004 = 1 then (if x7 = true then (some ((x170007.length : Int) == 0)) else (some false)) else (if x170004 = 2 then (some x7) else (if x170004 = 3 then (some (x170006 == 0)) else (some false)))
end
def pannierref08_Right.f (k : Nat) (a0_0 : ByteArray) (a0_1 : Int) (l0_2 : List (S34)) (a0_3 : ByteArray) (a0_4 : Int) (a0_5 : ByteArray) (a0_6 : Int) (l0_7 : List (S34)) : Option (Bool) := (pannierref07_IsDot.f k a0_0 a0_1).bind fun t170 => ((pannierref07_Right.f k l0_2).bind fun t171 => (if t170 = true then (if t171 = true then ((pannierref07_At.f k l0_2 a0_0).bind fun t172 => (if t172 = (wrap64 (a0_1 - 1)) then (pannierref08_Right.j0 k (decide ((l0_7.length : Int) > 128)) a0_0 a0_1 l0_2 a0_3 a0_4 a0_5 a0_6 l0_7) else (pannierref08_Right.j0 k true a0_0 a0_1 l0_2 a0_3 a0_4 a0_5 a0_6 l0_7))) else (pannierref08_Right.j0 k true a0_0 a0_1 l0_2 a0_3 a0_4 a0_5 a0_6 l0_7)) else (pannierref08_Right.j0 k true a0_0 a0_1 l0_2 a0_3 a0_4 a0_5 a0_6 l0_7)))
def pannierref08_Right.T3 : Bool × List (List Nat × List Nat) := (true, [([], []), ([0], [0]), ([1], [1]), ([2], [2]), ([3, 2], [2, 3]), ([2, 4], [2, 4]), ([5, 2], [5]), ([6], [6]), ([7, 6], [6, 7]), ([6], [6]), ([9, 6], [6, 9]), ([10, 6], [6, 10]), ([8, 11, 6, 6], [6, 8, 11]), ([6], [6]), ([13, 6], [6, 13]), ([14, 6], [6, 14]), ([15, 6], [6, 15]), ([12, 16, 6], [6, 12, 16]), ([6, 17], [6, 17]), ([18, 12], [18]), ([19], [19]), ([20, 19], [19, 20]), ([21, 19], [19, 21]), ([22, 19], [19, 22]), ([19, 23], [19, 23])])
def pannierref08_Right.B3 : List Nat := [0, 1, 3, 7, 15, 31, 63, 127, 255, 127, 639, 1663, 4095, 127, 8319, 24703, 57471, 131071, 262143, 524287, 1048575, 2097151, 4194303, 8388607, 16777215]
theorem pannierref08_Right.tab3 : rtab .any (opsOf Try.f46 3) = pannierref08_Right.T3 := by kernel_rfl
theorem pannierref08_Right.bits3 : waitsOk pannierref08_Right.T3.2 pannierref08_Right.B3 = true := by kernel_rfl
def pannierref08_Right.T10 : Bool × List (List Nat × List Nat) := (true, [([], []), ([0], [0]), ([], []), ([2], [2]), ([], []), ([3, 4], [3, 4]), ([5], [5]), ([1, 6], [1, 6]), ([7, 7, 0, 1, 2, 3, 4, 5, 6, 7], [7])])
def pannierref08_Right.B10 : List Nat := [0, 1, 0, 4, 0, 28, 60, 127, 255]
theorem pannierref08_Right.tab10 : rtab .any (opsOf Try.f46 10) = pannierref08_Right.T10 := by kernel_rfl
theorem pannierref08_Right.bits10 : waitsOk pannierref08_Right.T10.2 pannierref08_Right.B10 = true := by kernel_rfl
def pannierref08_Right.T11 : Bool × List (List Nat × List Nat) := (true, [([], []), ([0], [0]), ([1], [1]), ([2], [2]), ([3, 2], [2, 3]), ([4, 2, 2], [2, 4]), ([5], [5]), ([6, 5], [5, 6]), ([5], [5]), ([8, 5], [5, 8]), ([7, 9, 5], [5, 7, 9]), ([10, 5], [5, 10]), ([5], [5]), ([12, 5], [5, 12]), ([5], [5]), ([13, 14, 5], [5, 13, 14]), ([15, 5], [5, 15]), ([11, 16, 5, 5], [5, 11, 16]), ([17, 5], [5, 17]), ([5, 18, 2], [2, 5, 18]), ([2, 19], [2, 19])])
def pannierref08_Right.B11 : List Nat := [0, 1, 3, 7, 15, 31, 63, 127, 63, 319, 1023, 2047, 63, 4159, 63, 28735, 61503, 131071, 262143, 524287, 1048575]
theorem pannierref08_Right.tab11 : rtab .any (opsOf Try.f46 11) = pannierref08_Right.T11 := by kernel_rfl
theorem pannierref08_Right.bits11 : waitsOk pannierref08_Right.T11.2 pannierref08_Right.B11 = true := by kernel_rfl
set_option maxHeartbeats 8000000 in
set_option maxRecDepth 100000 in
theorem pannierref08_Right.calls (k : Nat) (a0_0 : ByteArray) (a0_1 : Int) (A0_2 : Option Addr) (c0_2 : Nat) (l0_2 : List (S34)) (a0_3 : ByteArray) (a0_4 : Int) (a0_5 : ByteArray) (a0_6 : Int) (A0_7 : Option Addr) (c0_7 : Nat) (l0_7 : List (S34)) (r : Bool) (w : World) (hr0_2 : Kd.C k34 w A0_2 l0_2.length l0_2) (hc0_2 : l0_2.length ≤ c0_2) (hr0_7 : Kd.C k34 w A0_7 l0_7.length l0_7) (hc0_7 : l0_7.length ≤ c0_7) (h : pannierref08_Right.f k a0_0 a0_1 l0_2 a0_3 a0_4 a0_5 a0_6 l0_7 = some r) :
    Calls Try.prog 46 #[.agg #[.string a0_0, .int .i64 a0_1, .slice A0_2 l0_2.length c0_2, .string a0_3, .int .i64 a0_4, .string a0_5, .int .i64 a0_6, .slice A0_7 l0_7.length c0_7]] w fun e w' => e = .returned (.bool r) ∧ Below w.heap.size w w' := by
 have hu36 := Try.underlying36
 have hu34 := Try.underlying34
 have HR0_2 := Aside0.mk hr0_2
 have HC0_2 := Aside0.mk hc0_2
 clear hr0_2 hc0_2
 have HR0_7 := Aside0.mk hr0_7
 have HC0_7 := Aside0.mk hc0_7
 clear hr0_7 hc0_7
 have HB := Aside0.mk (Below.refl w.heap.size w)
 have H : ((pannierref07_IsDot.f k a0_0 a0_1).bind fun t170 => ((pannierref07_Right.f k l0_2).bind fun t171 => (if t170 = true then (if t171 = true then ((pannierref07_At.f k l0_2 a0_0).bind fun t172 => (if t172 = (wrap64 (a0_1 - 1)) then (pannierref08_Right.j0 k (decide ((l0_7.length : Int) > 128)) a0_0 a0_1 l0_2 a0_3 a0_4 a0_5 a0_6 l0_7) else (pannierref08_Right.j0 k true a0_0 a0_1 l0_2 a0_3 a0_4 a0_5 a0_6 l0_7))) else (pannierref08_Right.j0 k true a0_0 a0_1 l0_2 a0_3 a0_4 a0_5 a0_6 l0_7)) else (pannierref08_Right.j0 k true a0_0 a0_1 l0_2 a0_3 a0_4 a0_5 a0_6 l0_7)))) = some r := h
 clear h
 replace H := Option.bind_eq_some_iff.mp H
 obtain ⟨t170, A20, H⟩ := H
 replace H : ((pannierref07_Right.f k l0_2).bind fun t171 => (if t170 = true then (if t171 = true then ((pannierref07_At.f k l0_2 a0_0).bind fun t172 => (if t172 = (wrap64 (a0_1 - 1)) then (pannierref08_Right.j0 k (decide ((l0_7.length : Int) > 128)) a0_0 a0_1 l0_2 a0_3 a0_4 a0_5 a0_6 l0_7) else (pannierref08_Right.j0 k true a0_0 a0_1 l0_2 a0_3 a0_4 a0_5 a0_6 l0_7))) else (pannierref08_Right.j0 k true a0_0 a0_1 l0_2 a0_3 a0_4 a0_5 a0_6 l0_7)) else (pannierref08_Right.j0 k true a0_0 a0_1 l0_2 a0_3 a0_4 a0_5 a0_6 l0_7))) = some r := H
 have A2 := Aside0.mk A20
 clear A20
 replace H := Option.bind_eq_some_iff.mp H
 obtain ⟨t171, A30, H⟩ := H
 replace H : (if t170 = true then (if t171 = true then ((pannierref07_At.f k l0_2 a0_0).bind fun t172 => (if t172 = (wrap64 (a0_1 - 1)) then (pannierref08_Right.j0 k (decide ((l0_7.length : Int) > 128)) a0_0 a0_1 l0_2 a0_3 a0_4 a0_5 a0_6 l0_7) else (pannierref08_Right.j0 k true a0_0 a0_1 l0_2 a0_3 a0_4 a0_5 a0_6 l0_7))) else (pannierref08_Right.j0 k true a0_0 a0_1 l0_2 a0_3 a0_4 a0_5 a0_6 l0_7)) else (pannierref08_Right.j0 k true a0_0 a0_1 l0_2 a0_3 a0_4 a0_5 a0_6 l0_7)) = some r := H
 have A3 := Aside0.mk A30
 clear A30
 have HC4 := Aside0.mk H
 clear H
 go_enter Try.func46, Try.ntmps46
 go_upto_region 3 with (first | ((with_reducible refine gate_dst (N := 1) rfl ?_); (try (refine gate_guard (by rfl) ?_; dsimp only)); refine box_event ?hg (N := 1) ?hd (cs := #[.string a0_0, .int .i64 a0_1, .slice A0_2 l0_2.length c0_2, .string a0_3, .int .i64 a0_4, .string a0_5, .int .i64 a0_6, .slice A0_7 l0_7.length c0_7]) (t := 36) ?hr ?_; (case hd => rfl); (case hg => rfl); (case hr => first | (go_simp; done) | (go_simp; rfl)); intro gb169 hg w5 hbox hb; have n0_ := Aside0.mk (below_step (by repeat (first | (with_reducible first | exact HB.out | apply below_alloc | apply pw_below_drewN | apply below_drew1) | exact HB.out)) hb); have n1_ := Aside0.mk (hbox); have n2_ := Aside0.mk ((by rw [hg]; exact (below_size (by repeat (first | (with_reducible first | exact HB.out | apply below_alloc | apply pw_below_drewN | apply below_drew1) | exact HB.out))) : w.heap.size ≤ gb169)); have n3_ := Aside0.mk ((by rw [hg]; exact (below_size (by repeat (first | (with_reducible first | exact HB.out | apply below_alloc | apply pw_below_drewN | apply below_drew1) | exact HB.out))) : w.heap.size ≤ gb169)); clear HB; have HB := n0_; have BK169 := n1_; have GW169 := n2_; have GE169 := n3_; clear n0_ n1_ n2_ n3_; clear hb hbox hg; have hcz6_0 : w5.cell? ⟨gb169, 0, none⟩ = some (.string a0_0) := (blk_cell BK169.out 0).trans rfl; have hcz6_1 : w5.cell? ⟨gb169, 1, none⟩ = some (.int .i64 a0_1) := (blk_cell BK169.out 1).trans rfl; have hcz6_2 : w5.cell? ⟨gb169, 2, none⟩ = some (.slice A0_2 l0_2.length c0_2) := (blk_cell BK169.out 2).trans rfl; have hcz6_3 : w5.cell? ⟨gb169, 3, none⟩ = some (.string a0_3) := (blk_cell BK169.out 3).trans rfl; have hcz6_4 : w5.cell? ⟨gb169, 4, none⟩ = some (.int .i64 a0_4) := (blk_cell BK169.out 4).trans rfl; have hcz6_5 : w5.cell? ⟨gb169, 5, none⟩ = some (.string a0_5) := (blk_cell BK169.out 5).trans rfl; have hcz6_6 : w5.cell? ⟨gb169, 6, none⟩ = some (.int .i64 a0_6) := (blk_cell BK169.out 6).trans rfl; have hcz6_7 : w5.cell? ⟨gb169, 7, none⟩ = some (.slice A0_7 l0_7.length c0_7) := (blk_cell BK169.out 7).trans rfl; have hfz6_0 := blk_frozen BK169.out 0; have hfz6_1 := blk_frozen BK169.out 1; have hfz6_2 := blk_frozen BK169.out 2; have hfz6_3 := blk_frozen BK169.out 3; have hfz6_4 := blk_frozen BK169.out 4; have hfz6_5 := blk_frozen BK169.out 5; have hfz6_6 := blk_frozen BK169.out 6; have hfz6_7 := blk_frozen BK169.out 7) | ((with_reducible refine gate_callee (f := 64) rfl ?_); refine goesL_ (some 10) rfl rfl Try.func64 (by kernel_rfl) rfl #[.agg #[.string a0_0, .int .i64 a0_1]] rfl (by (try simp only [List.map_toArray, List.map_cons, List.map_nil]); first | done | rfl | (simp only [List.length_drop, List.length_take]; rfl)) ?_; (with_reducible refine (pannierref07_IsDot.calls k a0_0 a0_1 t170 _ A2.out).mono ?_); rintro e w7 ⟨rfl, hb⟩; refine ⟨_, rfl, ?_⟩; have n0_ := Aside0.mk (blk_below (g := gb169) (o := .cells #[.string a0_0, .int .i64 a0_1, .slice A0_2 l0_2.length c0_2, .string a0_3, .int .i64 a0_4, .string a0_5, .int .i64 a0_6, .slice A0_7 l0_7.length c0_7] 36 (0, 0)) (by (with_reducible repeat (first | refine blk_drewN ?_ _ | refine blk_drew ?_ | refine blk_alloc ?_ _)); exact BK169.out) hb); have n1_ := Aside0.mk (below_step (by repeat (first | (with_reducible first | exact HB.out | apply below_alloc | apply pw_below_drewN | apply below_drew1 | refine below_set ?_ GE169.out) | exact HB.out)) hb); clear BK169; clear HB; have BK169 := n0_; have HB := n1_; clear n0_ n1_; (try clear hb); (try clear hb2); (try clear hk); (try clear hi); have hcz8_0 : w7.cell? ⟨gb169, 0, none⟩ = some (.string a0_0) := (blk_cell BK169.out 0).trans rfl; have hcz8_1 : w7.cell? ⟨gb169, 1, none⟩ = some (.int .i64 a0_1) := (blk_cell BK169.out 1).trans rfl; have hcz8_2 : w7.cell? ⟨gb169, 2, none⟩ = some (.slice A0_2 l0_2.length c0_2) := (blk_cell BK169.out 2).trans rfl; have hcz8_3 : w7.cell? ⟨gb169, 3, none⟩ = some (.string a0_3) := (blk_cell BK169.out 3).trans rfl; have hcz8_4 : w7.cell? ⟨gb169, 4, none⟩ = some (.int .i64 a0_4) := (blk_cell BK169.out 4).trans rfl; have hcz8_5 : w7.cell? ⟨gb169, 5, none⟩ = some (.string a0_5) := (blk_cell BK169.out 5).trans rfl; have hcz8_6 : w7.cell? ⟨gb169, 6, none⟩ = some (.int .i64 a0_6) := (blk_cell BK169.out 6).trans rfl; have hcz8_7 : w7.cell? ⟨gb169, 7, none⟩ = some (.slice A0_7 l0_7.length c0_7) := (blk_cell BK169.out 7).trans rfl; have hfz8_0 := blk_frozen BK169.out 0; have hfz8_1 := blk_frozen BK169.out 1; have hfz8_2 := blk_frozen BK169.out 2; have hfz8_3 := blk_frozen BK169.out 3; have hfz8_4 := blk_frozen BK169.out 4; have hfz8_5 := blk_frozen BK169.out 5; have hfz8_6 := blk_frozen BK169.out 6; have hfz8_7 := blk_frozen BK169.out 7) | ((with_reducible refine gate_callee (f := 62) rfl ?_); refine goesL_ (some 13) rfl rfl Try.func62 (by kernel_rfl) rfl #[.slice A0_2 l0_2.length c0_2] rfl (by (try simp only [List.map_toArray, List.map_cons, List.map_nil]); first | done | rfl | (simp only [List.length_drop, List.length_take]; rfl)) ?_; (with_reducible refine (pannierref07_Right.calls k _ _ l0_2 t171 _ ?side1 ?side2 A3.out).mono ?_); (case side1 => repeat (first | exact (Kd.C_below HR0_2.out HB.out) | (with_reducible refine Kd.C_alloc ?_ _) | (with_reducible refine Kd.C_drewN ?_ _) | (with_reducible refine Kd.C_drew ?_))); (case side2 => exact HC0_2.out); rintro e w9 ⟨rfl, hb⟩; refine ⟨_, rfl, ?_⟩; have n0_ := Aside0.mk (blk_below (g := gb169) (o := .cells #[.string a0_0, .int .i64 a0_1, .slice A0_2 l0_2.length c0_2, .string a0_3, .int .i64 a0_4, .string a0_5, .int .i64 a0_6, .slice A0_7 l0_7.length c0_7] 36 (0, 0)) (by (with_reducible repeat (first | refine blk_drewN ?_ _ | refine blk_drew ?_ | refine blk_alloc ?_ _)); exact BK169.out) hb); have n1_ := Aside0.mk (below_step (by repeat (first | (with_reducible first | exact HB.out | apply below_alloc | apply pw_below_drewN | apply below_drew1 | refine below_set ?_ GE169.out) | exact HB.out)) hb); clear BK169; clear HB; have BK169 := n0_; have HB := n1_; clear n0_ n1_; (try clear hb); (try clear hb2); (try clear hk); (try clear hi)))
 (try simp only [Act.put, List.setIfInBounds_toArray, List.set_cons_zero, List.set_cons_succ])
 go_cut [38] (fun v38 wc => ∃ (kq : Nat) (x38_3 : Bool), v38 = .bool x38_3 ∧ Aside0 (pannierref08_Right.j0 kq x38_3 a0_0 a0_1 l0_2 a0_3 a0_4 a0_5 a0_6 l0_7 = some r) ∧ Aside0 (kq ≤ k) ∧ Aside0 (wc.heap[gb169]? = some (.cells #[.string a0_0, .int .i64 a0_1, (.slice A0_2 l0_2.length c0_2), .string a0_3, .int .i64 a0_4, .string a0_5, .int .i64 a0_6, (.slice A0_7 l0_7.length c0_7)] 36 (0, 0))) ∧ Aside0 (Below w.heap.size w wc))
 case first =>
  have H := HC4.out
  clear HC4
  by_cases c10 : t170 = true
  · subst c10
    have H1 : (if t171 = true then ((pannierref07_At.f k l0_2 a0_0).bind fun t172 => (if t172 = (wrap64 (a0_1 - 1)) then (pannierref08_Right.j0 k (decide ((l0_7.length : Int) > 128)) a0_0 a0_1 l0_2 a0_3 a0_4 a0_5 a0_6 l0_7) else (pannierref08_Right.j0 k true a0_0 a0_1 l0_2 a0_3 a0_4 a0_5 a0_6 l0_7))) else (pannierref08_Right.j0 k true a0_0 a0_1 l0_2 a0_3 a0_4 a0_5 a0_6 l0_7)) = some r := by rw [if_pos rfl] at H; exact H
    clear H
    have H := H1
    clear H1
    by_cases c11 : t171 = true
    · subst c11
      have H1 : ((pannierref07_At.f k l0_2 a0_0).bind fun t172 => (if t172 = (wrap64 (a0_1 - 1)) then (pannierref08_Right.j0 k (decide ((l0_7.length : Int) > 128)) a0_0 a0_1 l0_2 a0_3 a0_4 a0_5 a0_6 l0_7) else (pannierref08_Right.j0 k true a0_0 a0_1 l0_2 a0_3 a0_4 a0_5 a0_6 l0_7))) = some r := by rw [if_pos rfl] at H; exact H
      clear H
      have H := H1
      clear H1
      replace H := Option.bind_eq_some_iff.mp H
      obtain ⟨t172, A120, H⟩ := H
      replace H : (if t172 = (wrap64 (a0_1 - 1)) then (pannierref08_Right.j0 k (decide ((l0_7.length : Int) > 128)) a0_0 a0_1 l0_2 a0_3 a0_4 a0_5 a0_6 l0_7) else (pannierref08_Right.j0 k true a0_0 a0_1 l0_2 a0_3 a0_4 a0_5 a0_6 l0_7)) = some r := H
      have A12 := Aside0.mk A120
      clear A120
      by_cases c13 : t172 = (wrap64 (a0_1 - 1))
      · rw [if_pos c13] at H
        have c13b0 : (t172 == (wrap64 (a0_1 - 1))) = true := beq_iff_eq.mpr c13
        have c13b1 : (t172 != (wrap64 (a0_1 - 1))) = false := bne_eq_false_iff_eq.mpr c13
        clear c13
        (first | rw [c13b0] | (simp only [i64_w, i32_w]; rw [c13b0]) | skip)
        have H' := Aside0.mk H
        clear H
        try go_wp2
        have n0_ := Aside0.mk (blk_drew BK169.out)
        have n1_ := Aside0.mk (below_drew1 HB.out)
        clear BK169
        clear HB
        have BK169 := n0_
        have HB := n1_
        clear n0_ n1_
        refine start_ (n := 25) (S := fun w' => w'.cell? ⟨gb169, 0, none⟩ = some (.string a0_0) ∧ w'.cell? ⟨gb169, 1, none⟩ = some (.int .i64 a0_1) ∧ w'.cell? ⟨gb169, 2, none⟩ = some (.slice A0_2 l0_2.length c0_2) ∧ w'.cell? ⟨gb169, 3, none⟩ = some (.string a0_3) ∧ w'.cell? ⟨gb169, 4, none⟩ = some (.int .i64 a0_4) ∧ w'.cell? ⟨gb169, 5, none⟩ = some (.string a0_5) ∧ w'.cell? ⟨gb169, 6, none⟩ = some (.int .i64 a0_6) ∧ w'.cell? ⟨gb169, 7, none⟩ = some (.slice A0_7 l0_7.length c0_7)) (ds := []) bqaPOx11_0 (by kernel_rfl) rfl rfl ⟨(blk_cell BK169.out 0).trans rfl, (blk_cell BK169.out 1).trans rfl, (blk_cell BK169.out 2).trans rfl, (blk_cell BK169.out 3).trans rfl, (blk_cell BK169.out 4).trans rfl, (blk_cell BK169.out 5).trans rfl, (blk_cell BK169.out 6).trans rfl, (blk_cell BK169.out 7).trans rfl⟩ (fun hHeld => ?_); refine with_tabW pannierref08_Right.tab3 pannierref08_Right.bits3 (fun HT_ HW_ => ?_)
        generalize w9.drew = w14 at BK169 HB hHeld ⊢
        refine XReg.pu 0 14 (h := ?_)
        refine XReg.pu 1 15 (h := ?_)
        refine XReg.pu 2 16 (h := ?_)
        refine XReg.pu 3 17 (h := ?_)
        refine XReg.pu 4 18 (h := ?_)
        refine XReg.pu 5 19 (h := ?_)
        refine XReg.pu 6 20 (h := ?_)
        refine XReg.pu 7 21 (h := ?_)
        refine XReg.pu 9 23 (h := ?_)
        refine XReg.pu 10 24 (h := ?_)
        refine XReg.pu 13 27 (h := ?_)
        refine XReg.pu 14 28 (h := ?_)
        refine XReg.tk 8 22 (hS := hHeld) (h := ?_)
        refine XReg.tk 11 25 (hS := hHeld) (h := ?_)
        refine XReg.tk 15 29 (hS := hHeld) (h := ?_)
        refine XReg.pu 16 30 (h := ?_)
        refine one_ (i := 12) (N := some 26) bqaPOx11_17 rfl rfl (one_of HT_.out (by kernel_rfl)) (by decide) (fun K hK => ?_)
        refine goes_ Try.func57 (by kernel_rfl) rfl #[.slice A0_2 l0_2.length c0_2, .string a0_0] (by rfl) rfl rfl (by (try simp only [List.map_toArray, List.map_cons, List.map_nil]); first | done | rfl | (simp only [List.length_drop, List.length_take]; rfl)) ?_
        with_reducible refine (pannierref07_At.calls k _ _ l0_2 a0_0 t172 _ ?side1 ?side2 A12.out).mono ?_
        (case side1 => repeat (first | exact (Kd.C_below HR0_2.out HB.out) | (with_reducible refine Kd.C_alloc ?_ _) | (with_reducible refine Kd.C_drewN ?_ _) | (with_reducible refine Kd.C_drew ?_)))
        (case side2 => exact HC0_2.out)
        rintro e w' ⟨rfl, ⟨nd, rfl⟩⟩
        refine ⟨_, rfl, ?_⟩
        refine hK.out _ _ ⟨(blk_cell BK169.out 0).trans rfl, (blk_cell BK169.out 1).trans rfl, (blk_cell BK169.out 2).trans rfl, (blk_cell BK169.out 3).trans rfl, (blk_cell BK169.out 4).trans rfl, (blk_cell BK169.out 5).trans rfl, (blk_cell BK169.out 6).trans rfl, (blk_cell BK169.out 7).trans rfl⟩ (fun hHeld => ?_)
        clear hK K
        refine norm_ (a' := ?_) ?_ ?_
        rotate_left
        · show Act.put _ (some 26) _ = _
          simp only [Act.put, List.setIfInBounds_toArray, List.set_cons_zero, List.set_cons_succ, i64_w, i32_w]
          rfl
        refine XReg.pu 17 31 (h := ?_)
        refine XReg.pu 18 32 (h := ?_)
        refine XReg.pu 19 33 (h := ?_)
        refine XReg.pu 20 34 (h := ?_)
        refine XReg.tk 21 35 (hS := hHeld) (h := ?_)
        refine XReg.pu 22 36 (h := ?_)
        refine XReg.pu 23 37 (h := ?_)
        refine XReg.pu 24 38 (h := ?_)
        refine done_ (done_of HT_.out (by kernel_rfl)) ?_
        try go_wp2
        go_meet
        case rel => exact ⟨_, (decide ((l0_7.length : Int) > 128)), (by first | rfl | (simp; done) | (simp [*]; done)), H', ⟨by first | omega | exact Nat.le_refl _⟩, ⟨by (with_reducible repeat (first | refine blk_drewN ?_ _ | refine blk_drew ?_ | refine blk_alloc ?_ _)); exact BK169.out⟩, ⟨by repeat (first | (with_reducible first | exact HB.out | apply below_alloc | apply pw_below_drewN | apply below_drew1 | refine below_set ?_ GE169.out) | exact HB.out)⟩⟩
      · rw [if_neg c13] at H
        have c13b0 : (t172 == (wrap64 (a0_1 - 1))) = false := beq_eq_false_iff_ne.mpr c13
        have c13b1 : (t172 != (wrap64 (a0_1 - 1))) = true := bne_iff_ne.mpr c13
        (first | rw [c13b0] | (simp only [i64_w, i32_w]; rw [c13b0]) | skip)
        have H' := Aside0.mk H
        clear H
        try go_wp2
        have n0_ := Aside0.mk (blk_drew BK169.out)
        have n1_ := Aside0.mk (below_drew1 HB.out)
        clear BK169
        clear HB
        have BK169 := n0_
        have HB := n1_
        clear n0_ n1_
        refine start_ (n := 25) (S := fun w' => w'.cell? ⟨gb169, 0, none⟩ = some (.string a0_0) ∧ w'.cell? ⟨gb169, 1, none⟩ = some (.int .i64 a0_1) ∧ w'.cell? ⟨gb169, 2, none⟩ = some (.slice A0_2 l0_2.length c0_2) ∧ w'.cell? ⟨gb169, 3, none⟩ = some (.string a0_3) ∧ w'.cell? ⟨gb169, 4, none⟩ = some (.int .i64 a0_4) ∧ w'.cell? ⟨gb169, 5, none⟩ = some (.string a0_5) ∧ w'.cell? ⟨gb169, 6, none⟩ = some (.int .i64 a0_6) ∧ w'.cell? ⟨gb169, 7, none⟩ = some (.slice A0_7 l0_7.length c0_7)) (ds := []) bqaPOx11_0 (by kernel_rfl) rfl rfl ⟨(blk_cell BK169.out 0).trans rfl, (blk_cell BK169.out 1).trans rfl, (blk_cell BK169.out 2).trans rfl, (blk_cell BK169.out 3).trans rfl, (blk_cell BK169.out 4).trans rfl, (blk_cell BK169.out 5).trans rfl, (blk_cell BK169.out 6).trans rfl, (blk_cell BK169.out 7).trans rfl⟩ (fun hHeld => ?_); refine with_tabW pannierref08_Right.tab3 pannierref08_Right.bits3 (fun HT_ HW_ => ?_)
        generalize w9.drew = w15 at BK169 HB hHeld ⊢
        refine XReg.pu 0 14 (h := ?_)
        refine XReg.pu 1 15 (h := ?_)
        refine XReg.pu 2 16 (h := ?_)
        refine XReg.pu 3 17 (h := ?_)
        refine XReg.pu 4 18 (h := ?_)
        refine XReg.pu 5 19 (h := ?_)
        refine XReg.pu 6 20 (h := ?_)
        refine XReg.pu 7 21 (h := ?_)
        refine XReg.pu 9 23 (h := ?_)
        refine XReg.pu 10 24 (h := ?_)
        refine XReg.pu 13 27 (h := ?_)
        refine XReg.pu 14 28 (h := ?_)
        refine XReg.tk 8 22 (hS := hHeld) (h := ?_)
        refine XReg.tk 11 25 (hS := hHeld) (h := ?_)
        refine XReg.tk 15 29 (hS := hHeld) (h := ?_)
        refine XReg.pu 16 30 (h := ?_)
        refine one_ (i := 12) (N := some 26) bqaPOx11_17 rfl rfl (one_of HT_.out (by kernel_rfl)) (by decide) (fun K hK => ?_)
        refine goes_ Try.func57 (by kernel_rfl) rfl #[.slice A0_2 l0_2.length c0_2, .string a0_0] (by rfl) rfl rfl (by (try simp only [List.map_toArray, List.map_cons, List.map_nil]); first | done | rfl | (simp only [List.length_drop, List.length_take]; rfl)) ?_
        with_reducible refine (pannierref07_At.calls k _ _ l0_2 a0_0 t172 _ ?side1 ?side2 A12.out).mono ?_
        (case side1 => repeat (first | exact (Kd.C_below HR0_2.out HB.out) | (with_reducible refine Kd.C_alloc ?_ _) | (with_reducible refine Kd.C_drewN ?_ _) | (with_reducible refine Kd.C_drew ?_)))
        (case side2 => exact HC0_2.out)
        rintro e w' ⟨rfl, ⟨nd, rfl⟩⟩
        refine ⟨_, rfl, ?_⟩
        refine hK.out _ _ ⟨(blk_cell BK169.out 0).trans rfl, (blk_cell BK169.out 1).trans rfl, (blk_cell BK169.out 2).trans rfl, (blk_cell BK169.out 3).trans rfl, (blk_cell BK169.out 4).trans rfl, (blk_cell BK169.out 5).trans rfl, (blk_cell BK169.out 6).trans rfl, (blk_cell BK169.out 7).trans rfl⟩ (fun hHeld => ?_)
        clear hK K
        refine norm_ (a' := ?_) ?_ ?_
        rotate_left
        · show Act.put _ (some 26) _ = _
          simp only [Act.put, List.setIfInBounds_toArray, List.set_cons_zero, List.set_cons_succ, i64_w, i32_w]
          rfl
        refine XReg.pu 17 31 (h := ?_)
        refine XReg.pu 18 32 (h := ?_)
        refine XReg.pu 19 33 (h := ?_)
        refine XReg.pn 20 34 (h := ?_)
        refine XReg.pn 21 35 (h := ?_)
        refine XReg.pn 22 36 (h := ?_)
        refine XReg.pn 23 37 (h := ?_)
        refine XReg.pu 24 38 (h := ?_)
        refine done_ (done_of HT_.out (by kernel_rfl)) ?_
        try go_wp2
        go_meet
        case rel => exact ⟨_, (true), (by first | rfl | (simp; done) | (simp [*]; done)), H', ⟨by first | omega | exact Nat.le_refl _⟩, ⟨by (with_reducible repeat (first | refine blk_drewN ?_ _ | refine blk_drew ?_ | refine blk_alloc ?_ _)); exact BK169.out⟩, ⟨by repeat (first | (with_reducible first | exact HB.out | apply below_alloc | apply pw_below_drewN | apply below_drew1 | refine below_set ?_ GE169.out) | exact HB.out)⟩⟩
    · replace c11 := Bool.eq_false_iff.mpr c11
      subst c11
      have H1 : (pannierref08_Right.j0 k true a0_0 a0_1 l0_2 a0_3 a0_4 a0_5 a0_6 l0_7) = some r := by rw [if_neg (show ¬ (false = true) by decide)] at H; exact H
      clear H
      have H := H1
      clear H1
      have H' := Aside0.mk H
      clear H
      try go_wp2
      have n0_ := Aside0.mk (blk_drew BK169.out)
      have n1_ := Aside0.mk (below_drew1 HB.out)
      clear BK169
      clear HB
      have BK169 := n0_
      have HB := n1_
      clear n0_ n1_
      refine start_ (n := 25) (S := fun w' => True) (ds := []) bqaPOx11_0 (by kernel_rfl) rfl rfl trivial (fun hHeld => ?_); refine with_tabW pannierref08_Right.tab3 pannierref08_Right.bits3 (fun HT_ HW_ => ?_)
      generalize w9.drew = w16 at BK169 HB hHeld ⊢
      refine XReg.pu 0 14 (h := ?_)
      refine XReg.pu 1 15 (h := ?_)
      refine XReg.pu 2 16 (h := ?_)
      refine XReg.pu 3 17 (h := ?_)
      refine XReg.pu 4 18 (h := ?_)
      refine XReg.pu 5 19 (h := ?_)
      refine XReg.pu 6 20 (h := ?_)
      refine XReg.pn 7 21 (h := ?_)
      refine XReg.pn 8 22 (h := ?_)
      refine XReg.pn 9 23 (h := ?_)
      refine XReg.pn 10 24 (h := ?_)
      refine XReg.pn 11 25 (h := ?_)
      refine XReg.pn 12 26 (h := ?_)
      refine XReg.pn 13 27 (h := ?_)
      refine XReg.pn 14 28 (h := ?_)
      refine XReg.pn 15 29 (h := ?_)
      refine XReg.pn 16 30 (h := ?_)
      refine XReg.pn 17 31 (h := ?_)
      refine XReg.pu 18 32 (h := ?_)
      refine XReg.pu 19 33 (h := ?_)
      refine XReg.pn 20 34 (h := ?_)
      refine XReg.pn 21 35 (h := ?_)
      refine XReg.pn 22 36 (h := ?_)
      refine XReg.pn 23 37 (h := ?_)
      refine XReg.pu 24 38 (h := ?_)
      refine done_ (done_of HT_.out (by kernel_rfl)) ?_
      try go_wp2
      go_meet
      case rel => exact ⟨_, (true), (by first | rfl | (simp; done) | (simp [*]; done)), H', ⟨by first | omega | exact Nat.le_refl _⟩, ⟨by (with_reducible repeat (first | refine blk_drewN ?_ _ | refine blk_drew ?_ | refine blk_alloc ?_ _)); exact BK169.out⟩, ⟨by repeat (first | (with_reducible first | exact HB.out | apply below_alloc | apply pw_below_drewN | apply below_drew1 | refine below_set ?_ GE169.out) | exact HB.out)⟩⟩
  · replace c10 := Bool.eq_false_iff.mpr c10
    subst c10
    have H1 : (pannierref08_Right.j0 k true a0_0 a0_1 l0_2 a0_3 a0_4 a0_5 a0_6 l0_7) = some r := by rw [if_neg (show ¬ (false = true) by decide)] at H; exact H
    clear H
    have H := H1
    clear H1
    have H' := Aside0.mk H
    clear H
    try go_wp2
    have n0_ := Aside0.mk (blk_drew BK169.out)
    have n1_ := Aside0.mk (below_drew1 HB.out)
    clear BK169
    clear HB
    have BK169 := n0_
    have HB := n1_
    clear n0_ n1_
    refine start_ (n := 25) (S := fun w' => True) (ds := []) bqaPOx11_0 (by kernel_rfl) rfl rfl trivial (fun hHeld => ?_); refine with_tabW pannierref08_Right.tab3 pannierref08_Right.bits3 (fun HT_ HW_ => ?_)
    generalize w9.drew = w17 at BK169 HB hHeld ⊢
    refine XReg.pu 0 14 (h := ?_)
    refine XReg.pu 1 15 (h := ?_)
    refine XReg.pu 2 16 (h := ?_)
    refine XReg.pn 3 17 (h := ?_)
    refine XReg.pn 4 18 (h := ?_)
    refine XReg.pu 5 19 (h := ?_)
    refine XReg.pu 6 20 (h := ?_)
    refine XReg.pn 7 21 (h := ?_)
    refine XReg.pn 8 22 (h := ?_)
    refine XReg.pn 9 23 (h := ?_)
    refine XReg.pn 10 24 (h := ?_)
    refine XReg.pn 11 25 (h := ?_)
    refine XReg.pn 12 26 (h := ?_)
    refine XReg.pn 13 27 (h := ?_)
    refine XReg.pn 14 28 (h := ?_)
    refine XReg.pn 15 29 (h := ?_)
    refine XReg.pn 16 30 (h := ?_)
    refine XReg.pn 17 31 (h := ?_)
    refine XReg.pu 18 32 (h := ?_)
    refine XReg.pu 19 33 (h := ?_)
    refine XReg.pn 20 34 (h := ?_)
    refine XReg.pn 21 35 (h := ?_)
    refine XReg.pn 22 36 (h := ?_)
    refine XReg.pn 23 37 (h := ?_)
    refine XReg.pu 24 38 (h := ?_)
    refine done_ (done_of HT_.out (by kernel_rfl)) ?_
    try go_wp2
    go_meet
    case rel => exact ⟨_, (true), (by first | rfl | (simp; done) | (simp [*]; done)), H', ⟨by first | omega | exact Nat.le_refl _⟩, ⟨by (with_reducible repeat (first | refine blk_drewN ?_ _ | refine blk_drew ?_ | refine blk_alloc ?_ _)); exact BK169.out⟩, ⟨by repeat (first | (with_reducible first | exact HB.out | apply below_alloc | apply pw_below_drewN | apply below_drew1 | refine below_set ?_ GE169.out) | exact HB.out)⟩⟩
 case rest =>
  clear HC4
  try clear c1
  try clear p2
  try clear c5
  try clear p6
  try clear c10
  try clear c11
  try clear c13
  try clear c13b0
  try clear c13b1
  obtain ⟨kq, x38_3, rfl, HA, HJ3, BK169, HB⟩ := hcut
  cases kq with
  | zero => exact absurd HA.out (by simp [pannierref08_Right.j0])
  | succ kj3 =>
   have H := HA.out
   clear HA
   simp only [pannierref08_Right.j0] at H
   by_cases c18 : x38_3 = true
   · subst c18
     have H1 : (some false) = some r := by rw [if_pos rfl] at H; exact H
     clear H
     have H := H1
     clear H1
     obtain rfl := Option.some.inj H
     go_wp2
     go_ret
     exact ⟨by first | rfl | (simp [errW_none, errW_some] <;> rfl) | (simp [*, errW_none, errW_some] <;> rfl), by repeat (first | (with_reducible first | exact HB.out | apply below_alloc | apply pw_below_drewN | apply below_drew1 | refine below_set ?_ GE169.out) | exact HB.out)⟩
   · replace c18 := Bool.eq_false_iff.mpr c18
     subst c18
     have H1 : (if (a0_3.size : Int) < 1 then (pannierref08_Right.j1 kj3 true a0_0 a0_1 l0_2 a0_3 a0_4 a0_5 a0_6 l0_7) else (if (a0_3.size : Int) > 32 then (pannierref08_Right.j1 kj3 true a0_0 a0_1 l0_2 a0_3 a0_4 a0_5 a0_6 l0_7) else (if (a0_5.size : Int) < 1 then (pannierref08_Right.j1 kj3 true a0_0 a0_1 l0_2 a0_3 a0_4 a0_5 a0_6 l0_7) else (pannierref08_Right.j1 kj3 (decide ((a0_5.size : Int) > 32)) a0_0 a0_1 l0_2 a0_3 a0_4 a0_5 a0_6 l0_7)))) = some r := by rw [if_neg (show ¬ (false = true) by decide)] at H; exact H
     clear H
     have H := H1
     clear H1
     have HC19 := Aside0.mk H
     clear H
     go_upto_region 5 with (fail)
     go_cut [60] (fun v60 wc => ∃ (kq : Nat) (x60_18 : Bool), v60 = .bool x60_18 ∧ Aside0 (pannierref08_Right.j1 kq x60_18 a0_0 a0_1 l0_2 a0_3 a0_4 a0_5 a0_6 l0_7 = some r) ∧ Aside0 (kq ≤ kj3) ∧ Aside0 (wc.heap[gb169]? = some (.cells #[.string a0_0, .int .i64 a0_1, (.slice A0_2 l0_2.length c0_2), .string a0_3, .int .i64 a0_4, .string a0_5, .int .i64 a0_6, (.slice A0_7 l0_7.length c0_7)] 36 (0, 0))) ∧ Aside0 (Below w.heap.size w wc))
     case first =>
      have H := HC19.out
      clear HC19
      by_cases c20 : (a0_3.size : Int) < 1
      rw [if_pos c20] at H
      have c20b0 : decide ((a0_3.size : Int) < 1) = true := decide_eq_true c20
      have c20b1 : decide (a0_3.size < 1) = true := decide_eq_true (by omega)
      clear c20
      (first | rw [c20b0] | (simp only [i64_w, i32_w]; rw [c20b0]) | skip)
      rotate_left
      rw [if_neg c20] at H
      have c20b0 : decide ((a0_3.size : Int) < 1) = false := decide_eq_false c20
      have c20b1 : decide (a0_3.size < 1) = false := decide_eq_false (by omega)
      clear c20
      (first | rw [c20b0] | (simp only [i64_w, i32_w]; rw [c20b0]) | skip)
      by_cases c22 : (a0_3.size : Int) > 32
      rw [if_pos c22] at H
      have c22b0 : decide (32 < (a0_3.size : Int)) = true := decide_eq_true c22
      have c22b1 : decide (32 < a0_3.size) = true := decide_eq_true (by omega)
      clear c22
      rotate_left
      rw [if_neg c22] at H
      have c22b0 : decide (32 < (a0_3.size : Int)) = false := decide_eq_false c22
      have c22b1 : decide (32 < a0_3.size) = false := decide_eq_false (by omega)
      clear c22
      by_cases c24 : (a0_5.size : Int) < 1
      rw [if_pos c24] at H
      have c24b0 : decide ((a0_5.size : Int) < 1) = true := decide_eq_true c24
      have c24b1 : decide (a0_5.size < 1) = true := decide_eq_true (by omega)
      clear c24
      rotate_left
      rw [if_neg c24] at H
      have c24b0 : decide ((a0_5.size : Int) < 1) = false := decide_eq_false c24
      have c24b1 : decide (a0_5.size < 1) = false := decide_eq_false (by omega)
      clear c24
      rotate_left
      all_goals (
       have H' := Aside0.mk H
       clear H
       have hcz9001_0 : wc.cell? ⟨gb169, 0, none⟩ = some (.string a0_0) := (blk_cell BK169.out 0).trans rfl
       have hcz9001_1 : wc.cell? ⟨gb169, 1, none⟩ = some (.int .i64 a0_1) := (blk_cell BK169.out 1).trans rfl
       have hcz9001_2 : wc.cell? ⟨gb169, 2, none⟩ = some (.slice A0_2 l0_2.length c0_2) := (blk_cell BK169.out 2).trans rfl
       have hcz9001_3 : wc.cell? ⟨gb169, 3, none⟩ = some (.string a0_3) := (blk_cell BK169.out 3).trans rfl
       have hcz9001_4 : wc.cell? ⟨gb169, 4, none⟩ = some (.int .i64 a0_4) := (blk_cell BK169.out 4).trans rfl
       have hcz9001_5 : wc.cell? ⟨gb169, 5, none⟩ = some (.string a0_5) := (blk_cell BK169.out 5).trans rfl
       have hcz9001_6 : wc.cell? ⟨gb169, 6, none⟩ = some (.int .i64 a0_6) := (blk_cell BK169.out 6).trans rfl
       have hcz9001_7 : wc.cell? ⟨gb169, 7, none⟩ = some (.slice A0_7 l0_7.length c0_7) := (blk_cell BK169.out 7).trans rfl
       have hfz9001_0 := blk_frozen BK169.out 0
       have hfz9001_1 := blk_frozen BK169.out 1
       have hfz9001_2 := blk_frozen BK169.out 2
       have hfz9001_3 := blk_frozen BK169.out 3
       have hfz9001_4 := blk_frozen BK169.out 4
       have hfz9001_5 := blk_frozen BK169.out 5
       have hfz9001_6 := blk_frozen BK169.out 6
       have hfz9001_7 := blk_frozen BK169.out 7
       go_wp2
       go_meet
       case rel => exact ⟨_, _, (by first | rfl | (simp; done) | (simp [*]; done)), H', ⟨by have := HJ3.out; first | omega | exact Nat.le_refl _⟩, ⟨by (with_reducible repeat (first | refine blk_drewN ?_ _ | refine blk_drew ?_ | refine blk_alloc ?_ _)); exact BK169.out⟩, ⟨by repeat (first | (with_reducible first | exact HB.out | apply below_alloc | apply pw_below_drewN | apply below_drew1 | refine below_set ?_ GE169.out) | exact HB.out)⟩⟩
       )
     case rest =>
      clear HC19
      try clear c1
      try clear c2
      try clear p2
      try clear c5
      try clear p6
      try clear c10
      try clear c11
      try clear c13
      try clear c13b0
      try clear c13b1
      try clear c18
      try clear c20
      try clear c20b0
      try clear c20b1
      try clear c22
      try clear c22b0
      try clear c22b1
      try clear c24
      try clear c24b0
      try clear c24b1
      try clear hcz21_0
      try clear hcz21_1
      try clear hcz21_2
      try clear hcz21_3
      try clear hcz21_4
      try clear hcz21_5
      try clear hcz21_6
      try clear hcz21_7
      try clear hcz23_0
      try clear hcz23_1
      try clear hcz23_2
      try clear hcz23_3
      try clear hcz23_4
      try clear hcz23_5
      try clear hcz23_6
      try clear hcz23_7
      try clear hcz25_0
      try clear hcz25_1
      try clear hcz25_2
      try clear hcz25_3
      try clear hcz25_4
      try clear hcz25_5
      try clear hcz25_6
      try clear hcz25_7
      try clear hcz26_0
      try clear hcz26_1
      try clear hcz26_2
      try clear hcz26_3
      try clear hcz26_4
      try clear hcz26_5
      try clear hcz26_6
      try clear hcz26_7
      try clear hfz21_0
      try clear hfz21_1
      try clear hfz21_2
      try clear hfz21_3
      try clear hfz21_4
      try clear hfz21_5
      try clear hfz21_6
      try clear hfz21_7
      try clear hfz23_0
      try clear hfz23_1
      try clear hfz23_2
      try clear hfz23_3
      try clear hfz23_4
      try clear hfz23_5
      try clear hfz23_6
      try clear hfz23_7
      try clear hfz25_0
      try clear hfz25_1
      try clear hfz25_2
      try clear hfz25_3
      try clear hfz25_4
      try clear hfz25_5
      try clear hfz25_6
      try clear hfz25_7
      try clear hfz26_0
      try clear hfz26_1
      try clear hfz26_2
      try clear hfz26_3
      try clear hfz26_4
      try clear hfz26_5
      try clear hfz26_6
      try clear hfz26_7
      try clear p2
      try clear p6
      obtain ⟨kq, x60_18, rfl, HA, HJ18, BK169, HB⟩ := hcut
      cases kq with
      | zero => exact absurd HA.out (by simp [pannierref08_Right.j1])
      | succ kj18 =>
       have H := HA.out
       clear HA
       simp only [pannierref08_Right.j1] at H
       by_cases c27 : x60_18 = true
       · subst c27
         have H1 : (some false) = some r := by rw [if_pos rfl] at H; exact H
         clear H
         have H := H1
         clear H1
         obtain rfl := Option.some.inj H
         go_wp2
         go_ret
         exact ⟨by first | rfl | (simp [errW_none, errW_some] <;> rfl) | (simp [*, errW_none, errW_some] <;> rfl), by repeat (first | (with_reducible first | exact HB.out | apply below_alloc | apply pw_below_drewN | apply below_drew1 | refine below_set ?_ GE169.out) | exact HB.out)⟩
       · replace c27 := Bool.eq_false_iff.mpr c27
         subst c27
         have H1 : (pannierref08_Right.l0 kj18 0 a0_0 a0_1 l0_2 a0_3 a0_4 a0_5 a0_6 l0_7) = some r := by rw [if_neg (show ¬ (false = true) by decide)] at H; exact H
         clear H
         have H := H1
         clear H1
         have H' := Aside0.mk H
         clear H
         go_wp2
         go_loopg [5] kj18 (fun kq v5 w' => ∃ (x5_3 : Int), v5 = .int .i64 x5_3 ∧ Aside0 (pannierref08_Right.l0 kq x5_3 a0_0 a0_1 l0_2 a0_3 a0_4 a0_5 a0_6 l0_7 = some r) ∧ Aside0 (kq ≤ kj18) ∧ Aside0 (w'.heap[gb169]? = some (.cells #[.string a0_0, .int .i64 a0_1, (.slice A0_2 l0_2.length c0_2), .string a0_3, .int .i64 a0_4, .string a0_5, .int .i64 a0_6, (.slice A0_7 l0_7.length c0_7)] 36 (0, 0))) ∧ Aside0 (Below w.heap.size w w'))
         case atStart => exact ⟨(0), (by first | rfl | (simp; done) | (simp [*]; done)), H', ⟨Nat.le_refl _⟩, ⟨by (with_reducible repeat (first | refine blk_drewN ?_ _ | refine blk_drew ?_ | refine blk_alloc ?_ _)); exact BK169.out⟩, ⟨by repeat (first | (with_reducible first | exact HB.out | apply below_alloc | apply pw_below_drewN | apply below_drew1 | refine below_set ?_ GE169.out) | exact HB.out)⟩⟩
         case round =>
          clear H'
          try clear c1
          try clear c2
          try clear p2
          try clear c5
          try clear p6
          try clear c10
          try clear c11
          try clear c13
          try clear c13b0
          try clear c13b1
          try clear c18
          try clear c20
          try clear c20b0
          try clear c20b1
          try clear c22
          try clear c22b0
          try clear c22b1
          try clear c24
          try clear c24b0
          try clear c24b1
          try clear c27
          try clear hcz21_0
          try clear hcz21_1
          try clear hcz21_2
          try clear hcz21_3
          try clear hcz21_4
          try clear hcz21_5
          try clear hcz21_6
          try clear hcz21_7
          try clear hcz23_0
          try clear hcz23_1
          try clear hcz23_2
          try clear hcz23_3
          try clear hcz23_4
          try clear hcz23_5
          try clear hcz23_6
          try clear hcz23_7
          try clear hcz25_0
          try clear hcz25_1
          try clear hcz25_2
          try clear hcz25_3
          try clear hcz25_4
          try clear hcz25_5
          try clear hcz25_6
          try clear hcz25_7
          try clear hcz26_0
          try clear hcz26_1
          try clear hcz26_2
          try clear hcz26_3
          try clear hcz26_4
          try clear hcz26_5
          try clear hcz26_6
          try clear hcz26_7
          try clear hfz21_0
          try clear hfz21_1
          try clear hfz21_2
          try clear hfz21_3
          try clear hfz21_4
          try clear hfz21_5
          try clear hfz21_6
          try clear hfz21_7
          try clear hfz23_0
          try clear hfz23_1
          try clear hfz23_2
          try clear hfz23_3
          try clear hfz23_4
          try clear hfz23_5
          try clear hfz23_6
          try clear hfz23_7
          try clear hfz25_0
          try clear hfz25_1
          try clear hfz25_2
          try clear hfz25_3
          try clear hfz25_4
          try clear hfz25_5
          try clear hfz25_6
          try clear hfz25_7
          try clear hfz26_0
          try clear hfz26_1
          try clear hfz26_2
          try clear hfz26_3
          try clear hfz26_4
          try clear hfz26_5
          try clear hfz26_6
          try clear hfz26_7
          try clear p2
          try clear p6
          obtain ⟨x5_3, rfl, HA, HK3, BK169, HB⟩ := hrel
          cases gk with
          | zero => exact absurd HA.out (by simp [pannierref08_Right.l0])
          | succ k3 =>
           have H := HA.out
           clear HA
           simp only [pannierref08_Right.l0] at H
           by_cases c28 : x5_3 < (l0_7.length : Int)
           · rw [if_pos c28] at H
             have c28b0 : decide (x5_3 < (l0_7.length : Int)) = true := decide_eq_true c28
             clear c28
             by_cases c29 : 0 ≤ x5_3
             · rw [if_pos c29] at H
               have c29b0 : decide (0 ≤ x5_3) = true := decide_eq_true c29
               clear c29
               replace H := Option.bind_eq_some_iff.mp H
               obtain ⟨t174, A300, H⟩ := H
               replace H : (if t174 = true then (if x5_3 > 0 then (if 0 ≤ (wrap64 (x5_3 - 1)) then (if (wrap64 (x5_3 - 1)) < (l0_7.length : Int) then ((pannierref08_ahead.f ((rd_T34 l0_7 (wrap64 (x5_3 - 1))).f0) ((rd_T34 l0_7 (wrap64 (x5_3 - 1))).f1) ((rd_T34 l0_7 x5_3).f0) ((rd_T34 l0_7 x5_3).f1)).bind fun t177 => (if t177 = true then (pannierref08_Right.l0 k3 (wrap64 (x5_3 + 1)) a0_0 a0_1 l0_2 a0_3 a0_4 a0_5 a0_6 l0_7) else (some false))) else (none)) else (none)) else (pannierref08_Right.l0 k3 (wrap64 (x5_3 + 1)) a0_0 a0_1 l0_2 a0_3 a0_4 a0_5 a0_6 l0_7)) else (some false)) = some r := H
               have A30 := Aside0.mk A300
               clear A300
               by_cases c31 : t174 = true
               · subst c31
                 have H1 : (if x5_3 > 0 then (if 0 ≤ (wrap64 (x5_3 - 1)) then (if (wrap64 (x5_3 - 1)) < (l0_7.length : Int) then ((pannierref08_ahead.f ((rd_T34 l0_7 (wrap64 (x5_3 - 1))).f0) ((rd_T34 l0_7 (wrap64 (x5_3 - 1))).f1) ((rd_T34 l0_7 x5_3).f0) ((rd_T34 l0_7 x5_3).f1)).bind fun t177 => (if t177 = true then (pannierref08_Right.l0 k3 (wrap64 (x5_3 + 1)) a0_0 a0_1 l0_2 a0_3 a0_4 a0_5 a0_6 l0_7) else (some false))) else (none)) else (none)) else (pannierref08_Right.l0 k3 (wrap64 (x5_3 + 1)) a0_0 a0_1 l0_2 a0_3 a0_4 a0_5 a0_6 l0_7)) = some r := by rw [if_pos rfl] at H; exact H
                 clear H
                 have H := H1
                 clear H1
                 by_cases c32 : x5_3 > 0
                 · rw [if_pos c32] at H
                   have c32b0 : decide (0 < x5_3) = true := decide_eq_true c32
                   clear c32
                   obtain ⟨ji33, hji33⟩ : ∃ j_ : Int, (wrap64 (x5_3 - 1)) = j_ := ⟨_, rfl⟩
                   replace H : (if 0 ≤ (ji33) then (if (ji33) < (l0_7.length : Int) then ((pannierref08_ahead.f ((rd_T34 l0_7 (ji33)).f0) ((rd_T34 l0_7 (ji33)).f1) ((rd_T34 l0_7 x5_3).f0) ((rd_T34 l0_7 x5_3).f1)).bind fun t177 => (if t177 = true then (pannierref08_Right.l0 k3 (wrap64 (x5_3 + 1)) a0_0 a0_1 l0_2 a0_3 a0_4 a0_5 a0_6 l0_7) else (some false))) else (none)) else (none)) = some r := by first | (rw [hji33] at H; exact H) | (simp only [hji33] at H ⊢; exact H)
                   (try rw [hji33] at A30)
                   have hji33w : (IntKind.i64.wrap (x5_3 - 1)) = ji33 := (i64_w _).trans hji33
                   by_cases c34 : 0 ≤ (ji33)
                   · rw [if_pos c34] at H
                     have c34b0 : decide (0 ≤ (ji33)) = true := decide_eq_true c34
                     clear c34
                     by_cases c35 : (ji33) < (l0_7.length : Int)
                     · rw [if_pos c35] at H
                       have c35b0 : decide ((ji33) < (l0_7.length : Int)) = true := decide_eq_true c35
                       clear c35
                       replace H := Option.bind_eq_some_iff.mp H
                       obtain ⟨t177, A360, H⟩ := H
                       replace H : (if t177 = true then (pannierref08_Right.l0 k3 (wrap64 (x5_3 + 1)) a0_0 a0_1 l0_2 a0_3 a0_4 a0_5 a0_6 l0_7) else (some false)) = some r := H
                       have A36 := Aside0.mk A360
                       clear A360
                       by_cases c37 : t177 = true
                       · subst c37
                         have H1 : (pannierref08_Right.l0 k3 (wrap64 (x5_3 + 1)) a0_0 a0_1 l0_2 a0_3 a0_4 a0_5 a0_6 l0_7) = some r := by rw [if_pos rfl] at H; exact H
                         clear H
                         have H := H1
                         clear H1
                         have H' := Aside0.mk H
                         clear H
                         have hcz38_0 : wr.cell? ⟨gb169, 0, none⟩ = some (.string a0_0) := (blk_cell BK169.out 0).trans rfl
                         have hcz38_1 : wr.cell? ⟨gb169, 1, none⟩ = some (.int .i64 a0_1) := (blk_cell BK169.out 1).trans rfl
                         have hcz38_2 : wr.cell? ⟨gb169, 2, none⟩ = some (.slice A0_2 l0_2.length c0_2) := (blk_cell BK169.out 2).trans rfl
                         have hcz38_3 : wr.cell? ⟨gb169, 3, none⟩ = some (.string a0_3) := (blk_cell BK169.out 3).trans rfl
                         have hcz38_4 : wr.cell? ⟨gb169, 4, none⟩ = some (.int .i64 a0_4) := (blk_cell BK169.out 4).trans rfl
                         have hcz38_5 : wr.cell? ⟨gb169, 5, none⟩ = some (.string a0_5) := (blk_cell BK169.out 5).trans rfl
                         have hcz38_6 : wr.cell? ⟨gb169, 6, none⟩ = some (.int .i64 a0_6) := (blk_cell BK169.out 6).trans rfl
                         have hcz38_7 : wr.cell? ⟨gb169, 7, none⟩ = some (.slice A0_7 l0_7.length c0_7) := (blk_cell BK169.out 7).trans rfl
                         have hfz38_0 := blk_frozen BK169.out 0
                         have hfz38_1 := blk_frozen BK169.out 1
                         have hfz38_2 := blk_frozen BK169.out 2
                         have hfz38_3 := blk_frozen BK169.out 3
                         have hfz38_4 := blk_frozen BK169.out 4
                         have hfz38_5 := blk_frozen BK169.out 5
                         have hfz38_6 := blk_frozen BK169.out 6
                         have hfz38_7 := blk_frozen BK169.out 7
                         try go_wp2
                         have n0_ := Aside0.mk (blk_drew BK169.out)
                         have n1_ := Aside0.mk (below_drew1 HB.out)
                         clear BK169
                         clear HB
                         have BK169 := n0_
                         have HB := n1_
                         clear n0_ n1_
                         have p173 : 0 ≤ (x5_3 : Int) := of_decide_eq_true (by first | (with_reducible assumption) | assumption)
                         have q173 : x5_3 < (l0_7.length : Int) := of_decide_eq_true (by first | (with_reducible assumption) | assumption)
                         obtain ⟨ad173, e173, hx173_0, hx173_1⟩ := at_T34 HR0_7.out x5_3 p173 q173
                         have hw173_1 := hx173_1
                         have hw173_0 := hx173_0
                         cases e173
                         replace hx173_0 := (HB.out.cell (World.block_lt_of_cell? w _ hx173_0)).trans hx173_0
                         replace hx173_1 := (HB.out.cell (World.block_lt_of_cell? w _ hx173_1)).trans hx173_1
                         replace p173 := eq_true p173
                         replace q173 := eq_true q173
                         refine start_ (n := 9) (S := fun w' => w'.cell? ⟨gb169, 0, none⟩ = some (.string a0_0) ∧ w'.cell? ⟨gb169, 1, none⟩ = some (.int .i64 a0_1) ∧ w'.cell? ⟨gb169, 2, none⟩ = some (.slice A0_2 l0_2.length c0_2) ∧ w'.cell? ⟨gb169, 3, none⟩ = some (.string a0_3) ∧ w'.cell? ⟨gb169, 4, none⟩ = some (.int .i64 a0_4) ∧ w'.cell? ⟨gb169, 5, none⟩ = some (.string a0_5) ∧ w'.cell? ⟨gb169, 6, none⟩ = some (.int .i64 a0_6) ∧ w'.cell? ⟨gb169, 7, none⟩ = some (.slice (some ad173) l0_7.length c0_7) ∧ w'.cell? (ad173.add ((x5_3).toNat * 2)) = some (.string ((rd_T34 l0_7 x5_3).f0)) ∧ w'.cell? ⟨(ad173.add ((x5_3).toNat * 2)).block, (ad173.add ((x5_3).toNat * 2)).off + 1, none⟩ = some (.int .i64 ((rd_T34 l0_7 x5_3).f1))) (ds := []) #[false, false, false, false, false, false, false, false, false] (by kernel_rfl) rfl rfl ⟨(blk_cell BK169.out 0).trans rfl, (blk_cell BK169.out 1).trans rfl, (blk_cell BK169.out 2).trans rfl, (blk_cell BK169.out 3).trans rfl, (blk_cell BK169.out 4).trans rfl, (blk_cell BK169.out 5).trans rfl, (blk_cell BK169.out 6).trans rfl, (blk_cell BK169.out 7).trans rfl, ((HB.out.cell (World.block_lt_of_cell? w _ hw173_0)).trans hw173_0), ((HB.out.cell (World.block_lt_of_cell? w _ hw173_1)).trans hw173_1)⟩ (fun hHeld => ?_); refine with_tabW pannierref08_Right.tab10 pannierref08_Right.bits10 (fun HT_ HW_ => ?_)
                         generalize wr.drew = w39 at BK169 HB hx173_0 hx173_1 hHeld ⊢
                         refine XReg.pu 0 68 (h := ?_)
                         refine XReg.pu 2 70 (h := ?_)
                         refine XReg.pu 4 72 (h := ?_)
                         refine XReg.tk 1 69 (hS := hHeld) (h := ?_)
                         refine XReg.tk 3 71 (hS := hHeld) (h := ?_)
                         refine XReg.pu 5 73 (h := ?_)
                         refine XReg.tk 6 74 (hS := hHeld) (h := ?_)
                         refine one_ (i := 7) (N := some 75) #[true, true, true, true, true, true, true, true, false] rfl rfl (one_of HT_.out (by kernel_rfl)) (by decide) (fun K hK => ?_)
                         refine goes_ Try.func63 (by kernel_rfl) rfl #[.slice A0_2 l0_2.length c0_2, .agg #[.string ((rd_T34 l0_7 x5_3).f0), .int .i64 ((rd_T34 l0_7 x5_3).f1)]] (by rfl) rfl rfl (by (try simp only [List.map_toArray, List.map_cons, List.map_nil]); first | done | rfl | (simp only [List.length_drop, List.length_take]; rfl)) ?_
                         with_reducible refine (pannierref07_Has.calls k3 _ _ l0_2 ((rd_T34 l0_7 x5_3).f0) ((rd_T34 l0_7 x5_3).f1) true _ ?side1 ?side2 A30.out).mono ?_
                         (case side1 => repeat (first | exact (Kd.C_below HR0_2.out HB.out) | (with_reducible refine Kd.C_alloc ?_ _) | (with_reducible refine Kd.C_drewN ?_ _) | (with_reducible refine Kd.C_drew ?_)))
                         (case side2 => exact HC0_2.out)
                         rintro e w40 ⟨rfl, hb⟩
                         refine ⟨_, rfl, ?_⟩
                         have n0_ := Aside0.mk (blk_below (g := gb169) (o := .cells #[.string a0_0, .int .i64 a0_1, .slice A0_2 l0_2.length c0_2, .string a0_3, .int .i64 a0_4, .string a0_5, .int .i64 a0_6, .slice (some ad173) l0_7.length c0_7] 36 (0, 0)) (by (with_reducible repeat (first | refine blk_drewN ?_ _ | refine blk_drew ?_ | refine blk_alloc ?_ _)); exact BK169.out) hb)
                         have n1_ := Aside0.mk (below_step (by repeat (first | (with_reducible first | exact HB.out | apply below_alloc | apply pw_below_drewN | apply below_drew1 | refine below_set ?_ GE169.out) | exact HB.out)) hb)
                         clear BK169
                         clear HB
                         have BK169 := n0_
                         have HB := n1_
                         clear n0_ n1_
                         (try clear hb)
                         (try clear hb2)
                         (try clear hk)
                         (try clear hi)
                         refine hK.out _ _ ⟨(blk_cell BK169.out 0).trans rfl, (blk_cell BK169.out 1).trans rfl, (blk_cell BK169.out 2).trans rfl, (blk_cell BK169.out 3).trans rfl, (blk_cell BK169.out 4).trans rfl, (blk_cell BK169.out 5).trans rfl, (blk_cell BK169.out 6).trans rfl, (blk_cell BK169.out 7).trans rfl, ((HB.out.cell (World.block_lt_of_cell? w _ hw173_0)).trans hw173_0), ((HB.out.cell (World.block_lt_of_cell? w _ hw173_1)).trans hw173_1)⟩ (fun hHeld => ?_)
                         clear hK K
                         refine norm_ (a' := ?_) ?_ ?_
                         rotate_left
                         · show Act.put _ (some 75) _ = _
                           simp only [Act.put, List.setIfInBounds_toArray, List.set_cons_zero, List.set_cons_succ, i64_w, i32_w]
                           rfl
                         refine XReg.pu 8 6 (h := ?_)
                         refine done_ (done_of HT_.out (by kernel_rfl)) ?_
                         try go_wp2
                         have n0_ := Aside0.mk (blk_drew BK169.out)
                         have n1_ := Aside0.mk (below_drew1 HB.out)
                         clear BK169
                         clear HB
                         have BK169 := n0_
                         have HB := n1_
                         clear n0_ n1_
                         have p175 : 0 ≤ ((ji33) : Int) := of_decide_eq_true (by first | (with_reducible assumption) | assumption)
                         have q175 : (ji33) < (l0_7.length : Int) := of_decide_eq_true (by first | (with_reducible assumption) | assumption)
                         obtain ⟨ad175, e175, hx175_0, hx175_1⟩ := at_T34 HR0_7.out (ji33) p175 q175
                         have hw175_1 := hx175_1
                         have hw175_0 := hx175_0
                         obtain rfl : ad173 = ad175 := (by injection e175)
                         replace hx175_0 := (HB.out.cell (World.block_lt_of_cell? w _ hx175_0)).trans hx175_0
                         replace hx175_1 := (HB.out.cell (World.block_lt_of_cell? w _ hx175_1)).trans hx175_1
                         replace p175 := eq_true p175
                         replace q175 := eq_true q175
                         have p176 : 0 ≤ (x5_3 : Int) := of_decide_eq_true (by first | (with_reducible assumption) | assumption)
                         have q176 : x5_3 < (l0_7.length : Int) := of_decide_eq_true (by first | (with_reducible assumption) | assumption)
                         obtain ⟨ad176, e176, hx176_0, hx176_1⟩ := at_T34 HR0_7.out x5_3 p176 q176
                         have hw176_1 := hx176_1
                         have hw176_0 := hx176_0
                         obtain rfl : ad173 = ad176 := (by injection e176)
                         replace hx176_0 := (HB.out.cell (World.block_lt_of_cell? w _ hx176_0)).trans hx176_0
                         replace hx176_1 := (HB.out.cell (World.block_lt_of_cell? w _ hx176_1)).trans hx176_1
                         replace p176 := eq_true p176
                         replace q176 := eq_true q176
                         refine start_ (n := 21) (S := fun w' => w'.cell? ⟨gb169, 0, none⟩ = some (.string a0_0) ∧ w'.cell? ⟨gb169, 1, none⟩ = some (.int .i64 a0_1) ∧ w'.cell? ⟨gb169, 2, none⟩ = some (.slice A0_2 l0_2.length c0_2) ∧ w'.cell? ⟨gb169, 3, none⟩ = some (.string a0_3) ∧ w'.cell? ⟨gb169, 4, none⟩ = some (.int .i64 a0_4) ∧ w'.cell? ⟨gb169, 5, none⟩ = some (.string a0_5) ∧ w'.cell? ⟨gb169, 6, none⟩ = some (.int .i64 a0_6) ∧ w'.cell? ⟨gb169, 7, none⟩ = some (.slice (some ad173) l0_7.length c0_7) ∧ w'.cell? (ad173.add (((ji33)).toNat * 2)) = some (.string ((rd_T34 l0_7 (ji33)).f0)) ∧ w'.cell? ⟨(ad173.add (((ji33)).toNat * 2)).block, (ad173.add (((ji33)).toNat * 2)).off + 1, none⟩ = some (.int .i64 ((rd_T34 l0_7 (ji33)).f1)) ∧ w'.cell? (ad173.add ((x5_3).toNat * 2)) = some (.string ((rd_T34 l0_7 x5_3).f0)) ∧ w'.cell? ⟨(ad173.add ((x5_3).toNat * 2)).block, (ad173.add ((x5_3).toNat * 2)).off + 1, none⟩ = some (.int .i64 ((rd_T34 l0_7 x5_3).f1))) (ds := []) bqaPOx11_34 (by kernel_rfl) rfl rfl ⟨(blk_cell BK169.out 0).trans rfl, (blk_cell BK169.out 1).trans rfl, (blk_cell BK169.out 2).trans rfl, (blk_cell BK169.out 3).trans rfl, (blk_cell BK169.out 4).trans rfl, (blk_cell BK169.out 5).trans rfl, (blk_cell BK169.out 6).trans rfl, (blk_cell BK169.out 7).trans rfl, ((HB.out.cell (World.block_lt_of_cell? w _ hw175_0)).trans hw175_0), ((HB.out.cell (World.block_lt_of_cell? w _ hw175_1)).trans hw175_1), ((HB.out.cell (World.block_lt_of_cell? w _ hw176_0)).trans hw176_0), ((HB.out.cell (World.block_lt_of_cell? w _ hw176_1)).trans hw176_1)⟩ (fun hHeld => ?_); refine with_tabW pannierref08_Right.tab11 pannierref08_Right.bits11 (fun HT_ HW_ => ?_)
                         generalize w40.drew = w41 at BK169 HB hx175_0 hx175_1 hx176_0 hx176_1 hHeld ⊢
                         refine XReg.pu 0 76 (h := ?_)
                         refine XReg.pu 1 77 (h := ?_)
                         refine XReg.pu 2 78 (h := ?_)
                         refine XReg.pu 3 79 (h := ?_)
                         refine XReg.pu 4 80 (h := ?_)
                         refine XReg.pu 5 81 (h := ?_)
                         refine XReg.pu 6 82 (h := ?_)
                         refine XReg.pu 8 84 (h := ?_)
                         refine XReg.pu 9 85 (h := ?_)
                         refine XReg.pu 12 88 (h := ?_)
                         refine XReg.pu 14 90 (h := ?_)
                         refine XReg.tk 7 83 (hS := hHeld) (hy := by (rintro w' ⟨s0, s1, s2, s3, s4, s5, s6, s7, s8, s9, s10, s11⟩; go_simp; with_reducible rfl)) (h := ?_)
                         refine XReg.pu 10 86 (h := ?_)
                         refine XReg.tk 11 87 (hS := hHeld) (hy := by (rintro w' ⟨s0, s1, s2, s3, s4, s5, s6, s7, s8, s9, s10, s11⟩; go_simp; with_reducible rfl)) (h := ?_)
                         refine XReg.tk 13 89 (hS := hHeld) (hy := by (rintro w' ⟨s0, s1, s2, s3, s4, s5, s6, s7, s8, s9, s10, s11⟩; go_simp; with_reducible rfl)) (h := ?_)
                         refine XReg.pu 15 91 (h := ?_)
                         refine XReg.tk 16 92 (hS := hHeld) (hy := by (rintro w' ⟨s0, s1, s2, s3, s4, s5, s6, s7, s8, s9, s10, s11⟩; go_simp; with_reducible rfl)) (h := ?_)
                         refine one_ (i := 17) (N := some 93) bqaPOx11_52 rfl rfl (one_of HT_.out (by kernel_rfl)) (by decide) (fun K hK => ?_)
                         refine goes_ Try.func105 (by kernel_rfl) rfl #[.agg #[.string ((rd_T34 l0_7 (ji33)).f0), .int .i64 ((rd_T34 l0_7 (ji33)).f1)], .agg #[.string ((rd_T34 l0_7 x5_3).f0), .int .i64 ((rd_T34 l0_7 x5_3).f1)]] (by rfl) rfl rfl (by (try simp only [List.map_toArray, List.map_cons, List.map_nil]); first | done | (simp only [hji33]; rfl) | rfl | (simp only [List.length_drop, List.length_take]; rfl)) ?_
                         with_reducible refine (pannierref08_ahead.calls ((rd_T34 l0_7 (ji33)).f0) ((rd_T34 l0_7 (ji33)).f1) ((rd_T34 l0_7 x5_3).f0) ((rd_T34 l0_7 x5_3).f1) true _ A36.out).mono ?_
                         rintro e w42 ⟨rfl, hb⟩
                         refine ⟨_, rfl, ?_⟩
                         have n0_ := Aside0.mk (blk_below (g := gb169) (o := .cells #[.string a0_0, .int .i64 a0_1, .slice A0_2 l0_2.length c0_2, .string a0_3, .int .i64 a0_4, .string a0_5, .int .i64 a0_6, .slice (some ad173) l0_7.length c0_7] 36 (0, 0)) (by (with_reducible repeat (first | refine blk_drewN ?_ _ | refine blk_drew ?_ | refine blk_alloc ?_ _)); exact BK169.out) hb)
                         have n1_ := Aside0.mk (below_step (by repeat (first | (with_reducible first | exact HB.out | apply below_alloc | apply pw_below_drewN | apply below_drew1 | refine below_set ?_ GE169.out) | exact HB.out)) hb)
                         clear BK169
                         clear HB
                         have BK169 := n0_
                         have HB := n1_
                         clear n0_ n1_
                         (try clear hb)
                         (try clear hb2)
                         (try clear hk)
                         (try clear hi)
                         refine hK.out _ _ ⟨(blk_cell BK169.out 0).trans rfl, (blk_cell BK169.out 1).trans rfl, (blk_cell BK169.out 2).trans rfl, (blk_cell BK169.out 3).trans rfl, (blk_cell BK169.out 4).trans rfl, (blk_cell BK169.out 5).trans rfl, (blk_cell BK169.out 6).trans rfl, (blk_cell BK169.out 7).trans rfl, ((HB.out.cell (World.block_lt_of_cell? w _ hw175_0)).trans hw175_0), ((HB.out.cell (World.block_lt_of_cell? w _ hw175_1)).trans hw175_1), ((HB.out.cell (World.block_lt_of_cell? w _ hw176_0)).trans hw176_0), ((HB.out.cell (World.block_lt_of_cell? w _ hw176_1)).trans hw176_1)⟩ (fun hHeld => ?_)
                         clear hK K
                         refine norm_ (a' := ?_) ?_ ?_
                         rotate_left
                         · show Act.put _ (some 93) _ = _
                           simp only [Act.put, List.setIfInBounds_toArray, List.set_cons_zero, List.set_cons_succ, i64_w, i32_w]
                           rfl
                         refine XReg.pu 18 94 (h := ?_)
                         refine XReg.pu 19 95 (h := ?_)
                         refine XReg.pu 20 96 (h := ?_)
                         refine done_ (done_of HT_.out (by kernel_rfl)) ?_
                         try go_wp2
                         go_roundg k3
                         case measure => have := HJ3.out; have := HJ18.out; have := HK3.out; omega
                         case rel => exact ⟨(wrap64 (x5_3 + 1)), (by first | rfl | (simp; done) | (simp [*]; done)), H', ⟨by have := HJ3.out; have := HJ18.out; have := HK3.out; omega⟩, ⟨by (with_reducible repeat (first | refine blk_drewN ?_ _ | refine blk_drew ?_ | refine blk_alloc ?_ _)); exact BK169.out⟩, ⟨by repeat (first | (with_reducible first | exact HB.out | apply below_alloc | apply pw_below_drewN | apply below_drew1 | refine below_set ?_ GE169.out) | exact HB.out)⟩⟩
                       · replace c37 := Bool.eq_false_iff.mpr c37
                         subst c37
                         have H1 : (some false) = some r := by rw [if_neg (show ¬ (false = true) by decide)] at H; exact H
                         clear H
                         have H := H1
                         clear H1
                         obtain rfl := Option.some.inj H
                         have hcz43_0 : wr.cell? ⟨gb169, 0, none⟩ = some (.string a0_0) := (blk_cell BK169.out 0).trans rfl
                         have hcz43_1 : wr.cell? ⟨gb169, 1, none⟩ = some (.int .i64 a0_1) := (blk_cell BK169.out 1).trans rfl
                         have hcz43_2 : wr.cell? ⟨gb169, 2, none⟩ = some (.slice A0_2 l0_2.length c0_2) := (blk_cell BK169.out 2).trans rfl
                         have hcz43_3 : wr.cell? ⟨gb169, 3, none⟩ = some (.string a0_3) := (blk_cell BK169.out 3).trans rfl
                         have hcz43_4 : wr.cell? ⟨gb169, 4, none⟩ = some (.int .i64 a0_4) := (blk_cell BK169.out 4).trans rfl
                         have hcz43_5 : wr.cell? ⟨gb169, 5, none⟩ = some (.string a0_5) := (blk_cell BK169.out 5).trans rfl
                         have hcz43_6 : wr.cell? ⟨gb169, 6, none⟩ = some (.int .i64 a0_6) := (blk_cell BK169.out 6).trans rfl
                         have hcz43_7 : wr.cell? ⟨gb169, 7, none⟩ = some (.slice A0_7 l0_7.length c0_7) := (blk_cell BK169.out 7).trans rfl
                         have hfz43_0 := blk_frozen BK169.out 0
                         have hfz43_1 := blk_frozen BK169.out 1
                         have hfz43_2 := blk_frozen BK169.out 2
                         have hfz43_3 := blk_frozen BK169.out 3
                         have hfz43_4 := blk_frozen BK169.out 4
                         have hfz43_5 := blk_frozen BK169.out 5
                         have hfz43_6 := blk_frozen BK169.out 6
                         have hfz43_7 := blk_frozen BK169.out 7
                         try go_wp2
                         have n0_ := Aside0.mk (blk_drew BK169.out)
                         have n1_ := Aside0.mk (below_drew1 HB.out)
                         clear BK169
                         clear HB
                         have BK169 := n0_
                         have HB := n1_
                         clear n0_ n1_
                         have p173 : 0 ≤ (x5_3 : Int) := of_decide_eq_true (by first | (with_reducible assumption) | assumption)
                         have q173 : x5_3 < (l0_7.length : Int) := of_decide_eq_true (by first | (with_reducible assumption) | assumption)
                         obtain ⟨ad173, e173, hx173_0, hx173_1⟩ := at_T34 HR0_7.out x5_3 p173 q173
                         have hw173_1 := hx173_1
                         have hw173_0 := hx173_0
                         cases e173
                         replace hx173_0 := (HB.out.cell (World.block_lt_of_cell? w _ hx173_0)).trans hx173_0
                         replace hx173_1 := (HB.out.cell (World.block_lt_of_cell? w _ hx173_1)).trans hx173_1
                         replace p173 := eq_true p173
                         replace q173 := eq_true q173
                         refine start_ (n := 9) (S := fun w' => w'.cell? ⟨gb169, 0, none⟩ = some (.string a0_0) ∧ w'.cell? ⟨gb169, 1, none⟩ = some (.int .i64 a0_1) ∧ w'.cell? ⟨gb169, 2, none⟩ = some (.slice A0_2 l0_2.length c0_2) ∧ w'.cell? ⟨gb169, 3, none⟩ = some (.string a0_3) ∧ w'.cell? ⟨gb169, 4, none⟩ = some (.int .i64 a0_4) ∧ w'.cell? ⟨gb169, 5, none⟩ = some (.string a0_5) ∧ w'.cell? ⟨gb169, 6, none⟩ = some (.int .i64 a0_6) ∧ w'.cell? ⟨gb169, 7, none⟩ = some (.slice (some ad173) l0_7.length c0_7) ∧ w'.cell? (ad173.add ((x5_3).toNat * 2)) = some (.string ((rd_T34 l0_7 x5_3).f0)) ∧ w'.cell? ⟨(ad173.add ((x5_3).toNat * 2)).block, (ad173.add ((x5_3).toNat * 2)).off + 1, none⟩ = some (.int .i64 ((rd_T34 l0_7 x5_3).f1))) (ds := []) #[false, false, false, false, false, false, false, false, false] (by kernel_rfl) rfl rfl ⟨(blk_cell BK169.out 0).trans rfl, (blk_cell BK169.out 1).trans rfl, (blk_cell BK169.out 2).trans rfl, (blk_cell BK169.out 3).trans rfl, (blk_cell BK169.out 4).trans rfl, (blk_cell BK169.out 5).trans rfl, (blk_cell BK169.out 6).trans rfl, (blk_cell BK169.out 7).trans rfl, ((HB.out.cell (World.block_lt_of_cell? w _ hw173_0)).trans hw173_0), ((HB.out.cell (World.block_lt_of_cell? w _ hw173_1)).trans hw173_1)⟩ (fun hHeld => ?_); refine with_tabW pannierref08_Right.tab10 pannierref08_Right.bits10 (fun HT_ HW_ => ?_)
                         generalize wr.drew = w44 at BK169 HB hx173_0 hx173_1 hHeld ⊢
                         refine XReg.pu 0 68 (h := ?_)
                         refine XReg.pu 2 70 (h := ?_)
                         refine XReg.pu 4 72 (h := ?_)
                         refine XReg.tk 1 69 (hS := hHeld) (h := ?_)
                         refine XReg.tk 3 71 (hS := hHeld) (h := ?_)
                         refine XReg.pu 5 73 (h := ?_)
                         refine XReg.tk 6 74 (hS := hHeld) (h := ?_)
                         refine one_ (i := 7) (N := some 75) #[true, true, true, true, true, true, true, true, false] rfl rfl (one_of HT_.out (by kernel_rfl)) (by decide) (fun K hK => ?_)
                         refine goes_ Try.func63 (by kernel_rfl) rfl #[.slice A0_2 l0_2.length c0_2, .agg #[.string ((rd_T34 l0_7 x5_3).f0), .int .i64 ((rd_T34 l0_7 x5_3).f1)]] (by rfl) rfl rfl (by (try simp only [List.map_toArray, List.map_cons, List.map_nil]); first | done | rfl | (simp only [List.length_drop, List.length_take]; rfl)) ?_
                         with_reducible refine (pannierref07_Has.calls k3 _ _ l0_2 ((rd_T34 l0_7 x5_3).f0) ((rd_T34 l0_7 x5_3).f1) true _ ?side1 ?side2 A30.out).mono ?_
                         (case side1 => repeat (first | exact (Kd.C_below HR0_2.out HB.out) | (with_reducible refine Kd.C_alloc ?_ _) | (with_reducible refine Kd.C_drewN ?_ _) | (with_reducible refine Kd.C_drew ?_)))
                         (case side2 => exact HC0_2.out)
                         rintro e w45 ⟨rfl, hb⟩
                         refine ⟨_, rfl, ?_⟩
                         have n0_ := Aside0.mk (blk_below (g := gb169) (o := .cells #[.string a0_0, .int .i64 a0_1, .slice A0_2 l0_2.length c0_2, .string a0_3, .int .i64 a0_4, .string a0_5, .int .i64 a0_6, .slice (some ad173) l0_7.length c0_7] 36 (0, 0)) (by (with_reducible repeat (first | refine blk_drewN ?_ _ | refine blk_drew ?_ | refine blk_alloc ?_ _)); exact BK169.out) hb)
                         have n1_ := Aside0.mk (below_step (by repeat (first | (with_reducible first | exact HB.out | apply below_alloc | apply pw_below_drewN | apply below_drew1 | refine below_set ?_ GE169.out) | exact HB.out)) hb)
                         clear BK169
                         clear HB
                         have BK169 := n0_
                         have HB := n1_
                         clear n0_ n1_
                         (try clear hb)
                         (try clear hb2)
                         (try clear hk)
                         (try clear hi)
                         refine hK.out _ _ ⟨(blk_cell BK169.out 0).trans rfl, (blk_cell BK169.out 1).trans rfl, (blk_cell BK169.out 2).trans rfl, (blk_cell BK169.out 3).trans rfl, (blk_cell BK169.out 4).trans rfl, (blk_cell BK169.out 5).trans rfl, (blk_cell BK169.out 6).trans rfl, (blk_cell BK169.out 7).trans rfl, ((HB.out.cell (World.block_lt_of_cell? w _ hw173_0)).trans hw173_0), ((HB.out.cell (World.block_lt_of_cell? w _ hw173_1)).trans hw173_1)⟩ (fun hHeld => ?_)
                         clear hK K
                         refine norm_ (a' := ?_) ?_ ?_
                         rotate_left
                         · show Act.put _ (some 75) _ = _
                           simp only [Act.put, List.setIfInBounds_toArray, List.set_cons_zero, List.set_cons_succ, i64_w, i32_w]
                           rfl
                         refine XReg.pu 8 6 (h := ?_)
                         refine done_ (done_of HT_.out (by kernel_rfl)) ?_
                         try go_wp2
                         have n0_ := Aside0.mk (blk_drew BK169.out)
                         have n1_ := Aside0.mk (below_drew1 HB.out)
                         clear BK169
                         clear HB
                         have BK169 := n0_
                         have HB := n1_
                         clear n0_ n1_
                         have p175 : 0 ≤ ((ji33) : Int) := of_decide_eq_true (by first | (with_reducible assumption) | assumption)
                         have q175 : (ji33) < (l0_7.length : Int) := of_decide_eq_true (by first | (with_reducible assumption) | assumption)
                         obtain ⟨ad175, e175, hx175_0, hx175_1⟩ := at_T34 HR0_7.out (ji33) p175 q175
                         have hw175_1 := hx175_1
                         have hw175_0 := hx175_0
                         obtain rfl : ad173 = ad175 := (by injection e175)
                         replace hx175_0 := (HB.out.cell (World.block_lt_of_cell? w _ hx175_0)).trans hx175_0
                         replace hx175_1 := (HB.out.cell (World.block_lt_of_cell? w _ hx175_1)).trans hx175_1
                         replace p175 := eq_true p175
                         replace q175 := eq_true q175
                         have p176 : 0 ≤ (x5_3 : Int) := of_decide_eq_true (by first | (with_reducible assumption) | assumption)
                         have q176 : x5_3 < (l0_7.length : Int) := of_decide_eq_true (by first | (with_reducible assumption) | assumption)
                         obtain ⟨ad176, e176, hx176_0, hx176_1⟩ := at_T34 HR0_7.out x5_3 p176 q176
                         have hw176_1 := hx176_1
                         have hw176_0 := hx176_0
                         obtain rfl : ad173 = ad176 := (by injection e176)
                         replace hx176_0 := (HB.out.cell (World.block_lt_of_cell? w _ hx176_0)).trans hx176_0
                         replace hx176_1 := (HB.out.cell (World.block_lt_of_cell? w _ hx176_1)).trans hx176_1
                         replace p176 := eq_true p176
                         replace q176 := eq_true q176
                         refine start_ (n := 21) (S := fun w' => w'.cell? ⟨gb169, 0, none⟩ = some (.string a0_0) ∧ w'.cell? ⟨gb169, 1, none⟩ = some (.int .i64 a0_1) ∧ w'.cell? ⟨gb169, 2, none⟩ = some (.slice A0_2 l0_2.length c0_2) ∧ w'.cell? ⟨gb169, 3, none⟩ = some (.string a0_3) ∧ w'.cell? ⟨gb169, 4, none⟩ = some (.int .i64 a0_4) ∧ w'.cell? ⟨gb169, 5, none⟩ = some (.string a0_5) ∧ w'.cell? ⟨gb169, 6, none⟩ = some (.int .i64 a0_6) ∧ w'.cell? ⟨gb169, 7, none⟩ = some (.slice (some ad173) l0_7.length c0_7) ∧ w'.cell? (ad173.add (((ji33)).toNat * 2)) = some (.string ((rd_T34 l0_7 (ji33)).f0)) ∧ w'.cell? ⟨(ad173.add (((ji33)).toNat * 2)).block, (ad173.add (((ji33)).toNat * 2)).off + 1, none⟩ = some (.int .i64 ((rd_T34 l0_7 (ji33)).f1)) ∧ w'.cell? (ad173.add ((x5_3).toNat * 2)) = some (.string ((rd_T34 l0_7 x5_3).f0)) ∧ w'.cell? ⟨(ad173.add ((x5_3).toNat * 2)).block, (ad173.add ((x5_3).toNat * 2)).off + 1, none⟩ = some (.int .i64 ((rd_T34 l0_7 x5_3).f1))) (ds := []) bqaPOx11_34 (by kernel_rfl) rfl rfl ⟨(blk_cell BK169.out 0).trans rfl, (blk_cell BK169.out 1).trans rfl, (blk_cell BK169.out 2).trans rfl, (blk_cell BK169.out 3).trans rfl, (blk_cell BK169.out 4).trans rfl, (blk_cell BK169.out 5).trans rfl, (blk_cell BK169.out 6).trans rfl, (blk_cell BK169.out 7).trans rfl, ((HB.out.cell (World.block_lt_of_cell? w _ hw175_0)).trans hw175_0), ((HB.out.cell (World.block_lt_of_cell? w _ hw175_1)).trans hw175_1), ((HB.out.cell (World.block_lt_of_cell? w _ hw176_0)).trans hw176_0), ((HB.out.cell (World.block_lt_of_cell? w _ hw176_1)).trans hw176_1)⟩ (fun hHeld => ?_); refine with_tabW pannierref08_Right.tab11 pannierref08_Right.bits11 (fun HT_ HW_ => ?_)
                         generalize w45.drew = w46 at BK169 HB hx175_0 hx175_1 hx176_0 hx176_1 hHeld ⊢
                         refine XReg.pu 0 76 (h := ?_)
                         refine XReg.pu 1 77 (h := ?_)
                         refine XReg.pu 2 78 (h := ?_)
                         refine XReg.pu 3 79 (h := ?_)
                         refine XReg.pu 4 80 (h := ?_)
                         refine XReg.pu 5 81 (h := ?_)
                         refine XReg.pu 6 82 (h := ?_)
                         refine XReg.pu 8 84 (h := ?_)
                         refine XReg.pu 9 85 (h := ?_)
                         refine XReg.pu 12 88 (h := ?_)
                         refine XReg.pu 14 90 (h := ?_)
                         refine XReg.tk 7 83 (hS := hHeld) (hy := by (rintro w' ⟨s0, s1, s2, s3, s4, s5, s6, s7, s8, s9, s10, s11⟩; go_simp; with_reducible rfl)) (h := ?_)
                         refine XReg.pu 10 86 (h := ?_)
                         refine XReg.tk 11 87 (hS := hHeld) (hy := by (rintro w' ⟨s0, s1, s2, s3, s4, s5, s6, s7, s8, s9, s10, s11⟩; go_simp; with_reducible rfl)) (h := ?_)
                         refine XReg.tk 13 89 (hS := hHeld) (hy := by (rintro w' ⟨s0, s1, s2, s3, s4, s5, s6, s7, s8, s9, s10, s11⟩; go_simp; with_reducible rfl)) (h := ?_)
                         refine XReg.pu 15 91 (h := ?_)
                         refine XReg.tk 16 92 (hS := hHeld) (hy := by (rintro w' ⟨s0, s1, s2, s3, s4, s5, s6, s7, s8, s9, s10, s11⟩; go_simp; with_reducible rfl)) (h := ?_)
                         refine one_ (i := 17) (N := some 93) bqaPOx11_52 rfl rfl (one_of HT_.out (by kernel_rfl)) (by decide) (fun K hK => ?_)
                         refine goes_ Try.func105 (by kernel_rfl) rfl #[.agg #[.string ((rd_T34 l0_7 (ji33)).f0), .int .i64 ((rd_T34 l0_7 (ji33)).f1)], .agg #[.string ((rd_T34 l0_7 x5_3).f0), .int .i64 ((rd_T34 l0_7 x5_3).f1)]] (by rfl) rfl rfl (by (try simp only [List.map_toArray, List.map_cons, List.map_nil]); first | done | (simp only [hji33]; rfl) | rfl | (simp only [List.length_drop, List.length_take]; rfl)) ?_
                         with_reducible refine (pannierref08_ahead.calls ((rd_T34 l0_7 (ji33)).f0) ((rd_T34 l0_7 (ji33)).f1) ((rd_T34 l0_7 x5_3).f0) ((rd_T34 l0_7 x5_3).f1) false _ A36.out).mono ?_
                         rintro e w47 ⟨rfl, hb⟩
                         refine ⟨_, rfl, ?_⟩
                         have n0_ := Aside0.mk (blk_below (g := gb169) (o := .cells #[.string a0_0, .int .i64 a0_1, .slice A0_2 l0_2.length c0_2, .string a0_3, .int .i64 a0_4, .string a0_5, .int .i64 a0_6, .slice (some ad173) l0_7.length c0_7] 36 (0, 0)) (by (with_reducible repeat (first | refine blk_drewN ?_ _ | refine blk_drew ?_ | refine blk_alloc ?_ _)); exact BK169.out) hb)
                         have n1_ := Aside0.mk (below_step (by repeat (first | (with_reducible first | exact HB.out | apply below_alloc | apply pw_below_drewN | apply below_drew1 | refine below_set ?_ GE169.out) | exact HB.out)) hb)
                         clear BK169
                         clear HB
                         have BK169 := n0_
                         have HB := n1_
                         clear n0_ n1_
                         (try clear hb)
                         (try clear hb2)
                         (try clear hk)
                         (try clear hi)
                         refine hK.out _ _ ⟨(blk_cell BK169.out 0).trans rfl, (blk_cell BK169.out 1).trans rfl, (blk_cell BK169.out 2).trans rfl, (blk_cell BK169.out 3).trans rfl, (blk_cell BK169.out 4).trans rfl, (blk_cell BK169.out 5).trans rfl, (blk_cell BK169.out 6).trans rfl, (blk_cell BK169.out 7).trans rfl, ((HB.out.cell (World.block_lt_of_cell? w _ hw175_0)).trans hw175_0), ((HB.out.cell (World.block_lt_of_cell? w _ hw175_1)).trans hw175_1), ((HB.out.cell (World.block_lt_of_cell? w _ hw176_0)).trans hw176_0), ((HB.out.cell (World.block_lt_of_cell? w _ hw176_1)).trans hw176_1)⟩ (fun hHeld => ?_)
                         clear hK K
                         refine norm_ (a' := ?_) ?_ ?_
                         rotate_left
                         · show Act.put _ (some 93) _ = _
                           simp only [Act.put, List.setIfInBounds_toArray, List.set_cons_zero, List.set_cons_succ, i64_w, i32_w]
                           rfl
                         refine XReg.pu 18 94 (h := ?_)
                         refine XReg.pu 19 95 (h := ?_)
                         refine XReg.pu 20 96 (h := ?_)
                         refine done_ (done_of HT_.out (by kernel_rfl)) ?_
                         try go_wp2
                         go_ret
                         exact ⟨by first | rfl | (simp [errW_none, errW_some] <;> rfl) | (simp only [← hji33]; first | rfl | (simp [errW_none, errW_some] <;> rfl)) | (simp [*, errW_none, errW_some] <;> rfl), by repeat (first | (with_reducible first | exact HB.out | apply below_alloc | apply pw_below_drewN | apply below_drew1 | refine below_set ?_ GE169.out) | exact HB.out)⟩
                     · rw [if_neg c35] at H
                       exact absurd H (by simp)
                   · rw [if_neg c34] at H
                     exact absurd H (by simp)
                 · rw [if_neg c32] at H
                   have c32b0 : decide (0 < x5_3) = false := decide_eq_false c32
                   clear c32
                   have H' := Aside0.mk H
                   clear H
                   have hcz48_0 : wr.cell? ⟨gb169, 0, none⟩ = some (.string a0_0) := (blk_cell BK169.out 0).trans rfl
                   have hcz48_1 : wr.cell? ⟨gb169, 1, none⟩ = some (.int .i64 a0_1) := (blk_cell BK169.out 1).trans rfl
                   have hcz48_2 : wr.cell? ⟨gb169, 2, none⟩ = some (.slice A0_2 l0_2.length c0_2) := (blk_cell BK169.out 2).trans rfl
                   have hcz48_3 : wr.cell? ⟨gb169, 3, none⟩ = some (.string a0_3) := (blk_cell BK169.out 3).trans rfl
                   have hcz48_4 : wr.cell? ⟨gb169, 4, none⟩ = some (.int .i64 a0_4) := (blk_cell BK169.out 4).trans rfl
                   have hcz48_5 : wr.cell? ⟨gb169, 5, none⟩ = some (.string a0_5) := (blk_cell BK169.out 5).trans rfl
                   have hcz48_6 : wr.cell? ⟨gb169, 6, none⟩ = some (.int .i64 a0_6) := (blk_cell BK169.out 6).trans rfl
                   have hcz48_7 : wr.cell? ⟨gb169, 7, none⟩ = some (.slice A0_7 l0_7.length c0_7) := (blk_cell BK169.out 7).trans rfl
                   have hfz48_0 := blk_frozen BK169.out 0
                   have hfz48_1 := blk_frozen BK169.out 1
                   have hfz48_2 := blk_frozen BK169.out 2
                   have hfz48_3 := blk_frozen BK169.out 3
                   have hfz48_4 := blk_frozen BK169.out 4
                   have hfz48_5 := blk_frozen BK169.out 5
                   have hfz48_6 := blk_frozen BK169.out 6
                   have hfz48_7 := blk_frozen BK169.out 7
                   try go_wp2
                   have n0_ := Aside0.mk (blk_drew BK169.out)
                   have n1_ := Aside0.mk (below_drew1 HB.out)
                   clear BK169
                   clear HB
                   have BK169 := n0_
                   have HB := n1_
                   clear n0_ n1_
                   have p173 : 0 ≤ (x5_3 : Int) := of_decide_eq_true (by first | (with_reducible assumption) | assumption)
                   have q173 : x5_3 < (l0_7.length : Int) := of_decide_eq_true (by first | (with_reducible assumption) | assumption)
                   obtain ⟨ad173, e173, hx173_0, hx173_1⟩ := at_T34 HR0_7.out x5_3 p173 q173
                   have hw173_1 := hx173_1
                   have hw173_0 := hx173_0
                   cases e173
                   replace hx173_0 := (HB.out.cell (World.block_lt_of_cell? w _ hx173_0)).trans hx173_0
                   replace hx173_1 := (HB.out.cell (World.block_lt_of_cell? w _ hx173_1)).trans hx173_1
                   replace p173 := eq_true p173
                   replace q173 := eq_true q173
                   refine start_ (n := 9) (S := fun w' => w'.cell? ⟨gb169, 0, none⟩ = some (.string a0_0) ∧ w'.cell? ⟨gb169, 1, none⟩ = some (.int .i64 a0_1) ∧ w'.cell? ⟨gb169, 2, none⟩ = some (.slice A0_2 l0_2.length c0_2) ∧ w'.cell? ⟨gb169, 3, none⟩ = some (.string a0_3) ∧ w'.cell? ⟨gb169, 4, none⟩ = some (.int .i64 a0_4) ∧ w'.cell? ⟨gb169, 5, none⟩ = some (.string a0_5) ∧ w'.cell? ⟨gb169, 6, none⟩ = some (.int .i64 a0_6) ∧ w'.cell? ⟨gb169, 7, none⟩ = some (.slice (some ad173) l0_7.length c0_7) ∧ w'.cell? (ad173.add ((x5_3).toNat * 2)) = some (.string ((rd_T34 l0_7 x5_3).f0)) ∧ w'.cell? ⟨(ad173.add ((x5_3).toNat * 2)).block, (ad173.add ((x5_3).toNat * 2)).off + 1, none⟩ = some (.int .i64 ((rd_T34 l0_7 x5_3).f1))) (ds := []) #[false, false, false, false, false, false, false, false, false] (by kernel_rfl) rfl rfl ⟨(blk_cell BK169.out 0).trans rfl, (blk_cell BK169.out 1).trans rfl, (blk_cell BK169.out 2).trans rfl, (blk_cell BK169.out 3).trans rfl, (blk_cell BK169.out 4).trans rfl, (blk_cell BK169.out 5).trans rfl, (blk_cell BK169.out 6).trans rfl, (blk_cell BK169.out 7).trans rfl, ((HB.out.cell (World.block_lt_of_cell? w _ hw173_0)).trans hw173_0), ((HB.out.cell (World.block_lt_of_cell? w _ hw173_1)).trans hw173_1)⟩ (fun hHeld => ?_); refine with_tabW pannierref08_Right.tab10 pannierref08_Right.bits10 (fun HT_ HW_ => ?_)
                   generalize wr.drew = w49 at BK169 HB hx173_0 hx173_1 hHeld ⊢
                   refine XReg.pu 0 68 (h := ?_)
                   refine XReg.pu 2 70 (h := ?_)
                   refine XReg.pu 4 72 (h := ?_)
                   refine XReg.tk 1 69 (hS := hHeld) (h := ?_)
                   refine XReg.tk 3 71 (hS := hHeld) (h := ?_)
                   refine XReg.pu 5 73 (h := ?_)
                   refine XReg.tk 6 74 (hS := hHeld) (h := ?_)
                   refine one_ (i := 7) (N := some 75) #[true, true, true, true, true, true, true, true, false] rfl rfl (one_of HT_.out (by kernel_rfl)) (by decide) (fun K hK => ?_)
                   refine goes_ Try.func63 (by kernel_rfl) rfl #[.slice A0_2 l0_2.length c0_2, .agg #[.string ((rd_T34 l0_7 x5_3).f0), .int .i64 ((rd_T34 l0_7 x5_3).f1)]] (by rfl) rfl rfl (by (try simp only [List.map_toArray, List.map_cons, List.map_nil]); first | done | rfl | (simp only [List.length_drop, List.length_take]; rfl)) ?_
                   with_reducible refine (pannierref07_Has.calls k3 _ _ l0_2 ((rd_T34 l0_7 x5_3).f0) ((rd_T34 l0_7 x5_3).f1) true _ ?side1 ?side2 A30.out).mono ?_
                   (case side1 => repeat (first | exact (Kd.C_below HR0_2.out HB.out) | (with_reducible refine Kd.C_alloc ?_ _) | (with_reducible refine Kd.C_drewN ?_ _) | (with_reducible refine Kd.C_drew ?_)))
                   (case side2 => exact HC0_2.out)
                   rintro e w50 ⟨rfl, hb⟩
                   refine ⟨_, rfl, ?_⟩
                   have n0_ := Aside0.mk (blk_below (g := gb169) (o := .cells #[.string a0_0, .int .i64 a0_1, .slice A0_2 l0_2.length c0_2, .string a0_3, .int .i64 a0_4, .string a0_5, .int .i64 a0_6, .slice (some ad173) l0_7.length c0_7] 36 (0, 0)) (by (with_reducible repeat (first | refine blk_drewN ?_ _ | refine blk_drew ?_ | refine blk_alloc ?_ _)); exact BK169.out) hb)
                   have n1_ := Aside0.mk (below_step (by repeat (first | (with_reducible first | exact HB.out | apply below_alloc | apply pw_below_drewN | apply below_drew1 | refine below_set ?_ GE169.out) | exact HB.out)) hb)
                   clear BK169
                   clear HB
                   have BK169 := n0_
                   have HB := n1_
                   clear n0_ n1_
                   (try clear hb)
                   (try clear hb2)
                   (try clear hk)
                   (try clear hi)
                   refine hK.out _ _ ⟨(blk_cell BK169.out 0).trans rfl, (blk_cell BK169.out 1).trans rfl, (blk_cell BK169.out 2).trans rfl, (blk_cell BK169.out 3).trans rfl, (blk_cell BK169.out 4).trans rfl, (blk_cell BK169.out 5).trans rfl, (blk_cell BK169.out 6).trans rfl, (blk_cell BK169.out 7).trans rfl, ((HB.out.cell (World.block_lt_of_cell? w _ hw173_0)).trans hw173_0), ((HB.out.cell (World.block_lt_of_cell? w _ hw173_1)).trans hw173_1)⟩ (fun hHeld => ?_)
                   clear hK K
                   refine norm_ (a' := ?_) ?_ ?_
                   rotate_left
                   · show Act.put _ (some 75) _ = _
                     simp only [Act.put, List.setIfInBounds_toArray, List.set_cons_zero, List.set_cons_succ, i64_w, i32_w]
                     rfl
                   refine XReg.pu 8 6 (h := ?_)
                   refine done_ (done_of HT_.out (by kernel_rfl)) ?_
                   try go_wp2
                   have n0_ := Aside0.mk (blk_drew BK169.out)
                   have n1_ := Aside0.mk (below_drew1 HB.out)
                   clear BK169
                   clear HB
                   have BK169 := n0_
                   have HB := n1_
                   clear n0_ n1_
                   refine start_ (n := 21) (S := fun w' => True) (ds := []) bqaPOx11_34 (by kernel_rfl) rfl rfl trivial (fun hHeld => ?_); refine with_tabW pannierref08_Right.tab11 pannierref08_Right.bits11 (fun HT_ HW_ => ?_)
                   generalize w50.drew = w51 at BK169 HB hHeld ⊢
                   refine XReg.pu 0 76 (h := ?_)
                   refine XReg.pu 1 77 (h := ?_)
                   refine XReg.pu 2 78 (h := ?_)
                   refine XReg.pu 3 79 (h := ?_)
                   refine XReg.pu 4 80 (h := ?_)
                   refine XReg.pu 5 81 (h := ?_)
                   refine XReg.pn 6 82 (h := ?_)
                   refine XReg.pn 7 83 (h := ?_)
                   refine XReg.pn 8 84 (h := ?_)
                   refine XReg.pn 9 85 (h := ?_)
                   refine XReg.pn 10 86 (h := ?_)
                   refine XReg.pn 11 87 (h := ?_)
                   refine XReg.pn 12 88 (h := ?_)
                   refine XReg.pn 13 89 (h := ?_)
                   refine XReg.pn 14 90 (h := ?_)
                   refine XReg.pn 15 91 (h := ?_)
                   refine XReg.pn 16 92 (h := ?_)
                   refine XReg.pn 17 93 (h := ?_)
                   refine XReg.pn 18 94 (h := ?_)
                   refine XReg.pu 19 95 (h := ?_)
                   refine XReg.pu 20 96 (h := ?_)
                   refine done_ (done_of HT_.out (by kernel_rfl)) ?_
                   try go_wp2
                   go_roundg k3
                   case measure => have := HJ3.out; have := HJ18.out; have := HK3.out; omega
                   case rel => exact ⟨(wrap64 (x5_3 + 1)), (by first | rfl | (simp; done) | (simp [*]; done)), H', ⟨by have := HJ3.out; have := HJ18.out; have := HK3.out; omega⟩, ⟨by (with_reducible repeat (first | refine blk_drewN ?_ _ | refine blk_drew ?_ | refine blk_alloc ?_ _)); exact BK169.out⟩, ⟨by repeat (first | (with_reducible first | exact HB.out | apply below_alloc | apply pw_below_drewN | apply below_drew1 | refine below_set ?_ GE169.out) | exact HB.out)⟩⟩
               · replace c31 := Bool.eq_false_iff.mpr c31
                 subst c31
                 have H1 : (some false) = some r := by rw [if_neg (show ¬ (false = true) by decide)] at H; exact H
                 clear H
                 have H := H1
                 clear H1
                 obtain rfl := Option.some.inj H
                 have hcz52_0 : wr.cell? ⟨gb169, 0, none⟩ = some (.string a0_0) := (blk_cell BK169.out 0).trans rfl
                 have hcz52_1 : wr.cell? ⟨gb169, 1, none⟩ = some (.int .i64 a0_1) := (blk_cell BK169.out 1).trans rfl
                 have hcz52_2 : wr.cell? ⟨gb169, 2, none⟩ = some (.slice A0_2 l0_2.length c0_2) := (blk_cell BK169.out 2).trans rfl
                 have hcz52_3 : wr.cell? ⟨gb169, 3, none⟩ = some (.string a0_3) := (blk_cell BK169.out 3).trans rfl
                 have hcz52_4 : wr.cell? ⟨gb169, 4, none⟩ = some (.int .i64 a0_4) := (blk_cell BK169.out 4).trans rfl
                 have hcz52_5 : wr.cell? ⟨gb169, 5, none⟩ = some (.string a0_5) := (blk_cell BK169.out 5).trans rfl
                 have hcz52_6 : wr.cell? ⟨gb169, 6, none⟩ = some (.int .i64 a0_6) := (blk_cell BK169.out 6).trans rfl
                 have hcz52_7 : wr.cell? ⟨gb169, 7, none⟩ = some (.slice A0_7 l0_7.length c0_7) := (blk_cell BK169.out 7).trans rfl
                 have hfz52_0 := blk_frozen BK169.out 0
                 have hfz52_1 := blk_frozen BK169.out 1
                 have hfz52_2 := blk_frozen BK169.out 2
                 have hfz52_3 := blk_frozen BK169.out 3
                 have hfz52_4 := blk_frozen BK169.out 4
                 have hfz52_5 := blk_frozen BK169.out 5
                 have hfz52_6 := blk_frozen BK169.out 6
                 have hfz52_7 := blk_frozen BK169.out 7
                 try go_wp2
                 have n0_ := Aside0.mk (blk_drew BK169.out)
                 have n1_ := Aside0.mk (below_drew1 HB.out)
                 clear BK169
                 clear HB
                 have BK169 := n0_
                 have HB := n1_
                 clear n0_ n1_
                 have p173 : 0 ≤ (x5_3 : Int) := of_decide_eq_true (by first | (with_reducible assumption) | assumption)
                 have q173 : x5_3 < (l0_7.length : Int) := of_decide_eq_true (by first | (with_reducible assumption) | assumption)
                 obtain ⟨ad173, e173, hx173_0, hx173_1⟩ := at_T34 HR0_7.out x5_3 p173 q173
                 have hw173_1 := hx173_1
                 have hw173_0 := hx173_0
                 cases e173
                 replace hx173_0 := (HB.out.cell (World.block_lt_of_cell? w _ hx173_0)).trans hx173_0
                 replace hx173_1 := (HB.out.cell (World.block_lt_of_cell? w _ hx173_1)).trans hx173_1
                 replace p173 := eq_true p173
                 replace q173 := eq_true q173
                 refine start_ (n := 9) (S := fun w' => w'.cell? ⟨gb169, 0, none⟩ = some (.string a0_0) ∧ w'.cell? ⟨gb169, 1, none⟩ = some (.int .i64 a0_1) ∧ w'.cell? ⟨gb169, 2, none⟩ = some (.slice A0_2 l0_2.length c0_2) ∧ w'.cell? ⟨gb169, 3, none⟩ = some (.string a0_3) ∧ w'.cell? ⟨gb169, 4, none⟩ = some (.int .i64 a0_4) ∧ w'.cell? ⟨gb169, 5, none⟩ = some (.string a0_5) ∧ w'.cell? ⟨gb169, 6, none⟩ = some (.int .i64 a0_6) ∧ w'.cell? ⟨gb169, 7, none⟩ = some (.slice (some ad173) l0_7.length c0_7) ∧ w'.cell? (ad173.add ((x5_3).toNat * 2)) = some (.string ((rd_T34 l0_7 x5_3).f0)) ∧ w'.cell? ⟨(ad173.add ((x5_3).toNat * 2)).block, (ad173.add ((x5_3).toNat * 2)).off + 1, none⟩ = some (.int .i64 ((rd_T34 l0_7 x5_3).f1))) (ds := []) #[false, false, false, false, false, false, false, false, false] (by kernel_rfl) rfl rfl ⟨(blk_cell BK169.out 0).trans rfl, (blk_cell BK169.out 1).trans rfl, (blk_cell BK169.out 2).trans rfl, (blk_cell BK169.out 3).trans rfl, (blk_cell BK169.out 4).trans rfl, (blk_cell BK169.out 5).trans rfl, (blk_cell BK169.out 6).trans rfl, (blk_cell BK169.out 7).trans rfl, ((HB.out.cell (World.block_lt_of_cell? w _ hw173_0)).trans hw173_0), ((HB.out.cell (World.block_lt_of_cell? w _ hw173_1)).trans hw173_1)⟩ (fun hHeld => ?_); refine with_tabW pannierref08_Right.tab10 pannierref08_Right.bits10 (fun HT_ HW_ => ?_)
                 generalize wr.drew = w53 at BK169 HB hx173_0 hx173_1 hHeld ⊢
                 refine XReg.pu 0 68 (h := ?_)
                 refine XReg.pu 2 70 (h := ?_)
                 refine XReg.pu 4 72 (h := ?_)
                 refine XReg.tk 1 69 (hS := hHeld) (h := ?_)
                 refine XReg.tk 3 71 (hS := hHeld) (h := ?_)
                 refine XReg.pu 5 73 (h := ?_)
                 refine XReg.tk 6 74 (hS := hHeld) (h := ?_)
                 refine one_ (i := 7) (N := some 75) #[true, true, true, true, true, true, true, true, false] rfl rfl (one_of HT_.out (by kernel_rfl)) (by decide) (fun K hK => ?_)
                 refine goes_ Try.func63 (by kernel_rfl) rfl #[.slice A0_2 l0_2.length c0_2, .agg #[.string ((rd_T34 l0_7 x5_3).f0), .int .i64 ((rd_T34 l0_7 x5_3).f1)]] (by rfl) rfl rfl (by (try simp only [List.map_toArray, List.map_cons, List.map_nil]); first | done | rfl | (simp only [List.length_drop, List.length_take]; rfl)) ?_
                 with_reducible refine (pannierref07_Has.calls k3 _ _ l0_2 ((rd_T34 l0_7 x5_3).f0) ((rd_T34 l0_7 x5_3).f1) false _ ?side1 ?side2 A30.out).mono ?_
                 (case side1 => repeat (first | exact (Kd.C_below HR0_2.out HB.out) | (with_reducible refine Kd.C_alloc ?_ _) | (with_reducible refine Kd.C_drewN ?_ _) | (with_reducible refine Kd.C_drew ?_)))
                 (case side2 => exact HC0_2.out)
                 rintro e w54 ⟨rfl, hb⟩
                 refine ⟨_, rfl, ?_⟩
                 have n0_ := Aside0.mk (blk_below (g := gb169) (o := .cells #[.string a0_0, .int .i64 a0_1, .slice A0_2 l0_2.length c0_2, .string a0_3, .int .i64 a0_4, .string a0_5, .int .i64 a0_6, .slice (some ad173) l0_7.length c0_7] 36 (0, 0)) (by (with_reducible repeat (first | refine blk_drewN ?_ _ | refine blk_drew ?_ | refine blk_alloc ?_ _)); exact BK169.out) hb)
                 have n1_ := Aside0.mk (below_step (by repeat (first | (with_reducible first | exact HB.out | apply below_alloc | apply pw_below_drewN | apply below_drew1 | refine below_set ?_ GE169.out) | exact HB.out)) hb)
                 clear BK169
                 clear HB
                 have BK169 := n0_
                 have HB := n1_
                 clear n0_ n1_
                 (try clear hb)
                 (try clear hb2)
                 (try clear hk)
                 (try clear hi)
                 refine hK.out _ _ ⟨(blk_cell BK169.out 0).trans rfl, (blk_cell BK169.out 1).trans rfl, (blk_cell BK169.out 2).trans rfl, (blk_cell BK169.out 3).trans rfl, (blk_cell BK169.out 4).trans rfl, (blk_cell BK169.out 5).trans rfl, (blk_cell BK169.out 6).trans rfl, (blk_cell BK169.out 7).trans rfl, ((HB.out.cell (World.block_lt_of_cell? w _ hw173_0)).trans hw173_0), ((HB.out.cell (World.block_lt_of_cell? w _ hw173_1)).trans hw173_1)⟩ (fun hHeld => ?_)
                 clear hK K
                 refine norm_ (a' := ?_) ?_ ?_
                 rotate_left
                 · show Act.put _ (some 75) _ = _
                   simp only [Act.put, List.setIfInBounds_toArray, List.set_cons_zero, List.set_cons_succ, i64_w, i32_w]
                   rfl
                 refine XReg.pu 8 6 (h := ?_)
                 refine done_ (done_of HT_.out (by kernel_rfl)) ?_
                 try go_wp2
                 have n0_ := Aside0.mk (blk_drew BK169.out)
                 have n1_ := Aside0.mk (below_drew1 HB.out)
                 clear BK169
                 clear HB
                 have BK169 := n0_
                 have HB := n1_
                 clear n0_ n1_
                 refine start_ (n := 21) (S := fun w' => True) (ds := []) bqaPOx11_34 (by kernel_rfl) rfl rfl trivial (fun hHeld => ?_); refine with_tabW pannierref08_Right.tab11 pannierref08_Right.bits11 (fun HT_ HW_ => ?_)
                 generalize w54.drew = w55 at BK169 HB hHeld ⊢
                 refine XReg.pu 0 76 (h := ?_)
                 refine XReg.pu 1 77 (h := ?_)
                 refine XReg.pu 2 78 (h := ?_)
                 refine XReg.pn 3 79 (h := ?_)
                 refine XReg.pn 4 80 (h := ?_)
                 refine XReg.pn 5 81 (h := ?_)
                 refine XReg.pn 6 82 (h := ?_)
                 refine XReg.pn 7 83 (h := ?_)
                 refine XReg.pn 8 84 (h := ?_)
                 refine XReg.pn 9 85 (h := ?_)
                 refine XReg.pn 10 86 (h := ?_)
                 refine XReg.pn 11 87 (h := ?_)
                 refine XReg.pn 12 88 (h := ?_)
                 refine XReg.pn 13 89 (h := ?_)
                 refine XReg.pn 14 90 (h := ?_)
                 refine XReg.pn 15 91 (h := ?_)
                 refine XReg.pn 16 92 (h := ?_)
                 refine XReg.pn 17 93 (h := ?_)
                 refine XReg.pn 18 94 (h := ?_)
                 refine XReg.pn 19 95 (h := ?_)
                 refine XReg.pu 20 96 (h := ?_)
                 refine done_ (done_of HT_.out (by kernel_rfl)) ?_
                 try go_wp2
                 go_ret
                 exact ⟨by first | rfl | (simp [errW_none, errW_some] <;> rfl) | (simp [*, errW_none, errW_some] <;> rfl), by repeat (first | (with_reducible first | exact HB.out | apply below_alloc | apply pw_below_drewN | apply below_drew1 | refine below_set ?_ GE169.out) | exact HB.out)⟩
             · rw [if_neg c29] at H
               exact absurd H (by simp)
           · rw [if_neg c28] at H
             have c28b0 : decide (x5_3 < (l0_7.length : Int)) = false := decide_eq_false c28
             clear c28
             have HC56 := Aside0.mk H
             clear H
             have hcz57_0 : wr.cell? ⟨gb169, 0, none⟩ = some (.string a0_0) := (blk_cell BK169.out 0).trans rfl
             have hcz57_1 : wr.cell? ⟨gb169, 1, none⟩ = some (.int .i64 a0_1) := (blk_cell BK169.out 1).trans rfl
             have hcz57_2 : wr.cell? ⟨gb169, 2, none⟩ = some (.slice A0_2 l0_2.length c0_2) := (blk_cell BK169.out 2).trans rfl
             have hcz57_3 : wr.cell? ⟨gb169, 3, none⟩ = some (.string a0_3) := (blk_cell BK169.out 3).trans rfl
             have hcz57_4 : wr.cell? ⟨gb169, 4, none⟩ = some (.int .i64 a0_4) := (blk_cell BK169.out 4).trans rfl
             have hcz57_5 : wr.cell? ⟨gb169, 5, none⟩ = some (.string a0_5) := (blk_cell BK169.out 5).trans rfl
             have hcz57_6 : wr.cell? ⟨gb169, 6, none⟩ = some (.int .i64 a0_6) := (blk_cell BK169.out 6).trans rfl
             have hcz57_7 : wr.cell? ⟨gb169, 7, none⟩ = some (.slice A0_7 l0_7.length c0_7) := (blk_cell BK169.out 7).trans rfl
             have hfz57_0 := blk_frozen BK169.out 0
             have hfz57_1 := blk_frozen BK169.out 1
             have hfz57_2 := blk_frozen BK169.out 2
             have hfz57_3 := blk_frozen BK169.out 3
             have hfz57_4 := blk_frozen BK169.out 4
             have hfz57_5 := blk_frozen BK169.out 5
             have hfz57_6 := blk_frozen BK169.out 6
             have hfz57_7 := blk_frozen BK169.out 7
             go_upto_region 13 with (fail)
             go_cut [7] (fun v7 wc => ∃ (kq : Nat) (x7_55 : Bool), v7 = .bool x7_55 ∧ Aside0 (pannierref08_Right.j3 kq x7_55 a0_0 a0_1 l0_2 a0_3 a0_4 a0_5 a0_6 l0_7 = some r) ∧ Aside0 (kq ≤ k3) ∧ Aside0 (wc.heap[gb169]? = some (.cells #[.string a0_0, .int .i64 a0_1, (.slice A0_2 l0_2.length c0_2), .string a0_3, .int .i64 a0_4, .string a0_5, .int .i64 a0_6, (.slice A0_7 l0_7.length c0_7)] 36 (0, 0))) ∧ Aside0 (Below w.heap.size w wc))
             case first =>
              have H := HC56.out
              clear HC56
              by_cases c58 : a0_6 ≥ 1
              rw [if_pos c58] at H
              have c58b0 : decide (1 ≤ a0_6) = true := decide_eq_true c58
              clear c58
              (first | rw [c58b0] | (simp only [i64_w, i32_w]; rw [c58b0]) | skip)
              rotate_left
              rw [if_neg c58] at H
              have c58b0 : decide (1 ≤ a0_6) = false := decide_eq_false c58
              clear c58
              (first | rw [c58b0] | (simp only [i64_w, i32_w]; rw [c58b0]) | skip)
              rotate_left
              all_goals (
               have H' := Aside0.mk H
               clear H
               have hcz9001_0 : wr.cell? ⟨gb169, 0, none⟩ = some (.string a0_0) := (blk_cell BK169.out 0).trans rfl
               have hcz9001_1 : wr.cell? ⟨gb169, 1, none⟩ = some (.int .i64 a0_1) := (blk_cell BK169.out 1).trans rfl
               have hcz9001_2 : wr.cell? ⟨gb169, 2, none⟩ = some (.slice A0_2 l0_2.length c0_2) := (blk_cell BK169.out 2).trans rfl
               have hcz9001_3 : wr.cell? ⟨gb169, 3, none⟩ = some (.string a0_3) := (blk_cell BK169.out 3).trans rfl
               have hcz9001_4 : wr.cell? ⟨gb169, 4, none⟩ = some (.int .i64 a0_4) := (blk_cell BK169.out 4).trans rfl
               have hcz9001_5 : wr.cell? ⟨gb169, 5, none⟩ = some (.string a0_5) := (blk_cell BK169.out 5).trans rfl
               have hcz9001_6 : wr.cell? ⟨gb169, 6, none⟩ = some (.int .i64 a0_6) := (blk_cell BK169.out 6).trans rfl
               have hcz9001_7 : wr.cell? ⟨gb169, 7, none⟩ = some (.slice A0_7 l0_7.length c0_7) := (blk_cell BK169.out 7).trans rfl
               have hfz9001_0 := blk_frozen BK169.out 0
               have hfz9001_1 := blk_frozen BK169.out 1
               have hfz9001_2 := blk_frozen BK169.out 2
               have hfz9001_3 := blk_frozen BK169.out 3
               have hfz9001_4 := blk_frozen BK169.out 4
               have hfz9001_5 := blk_frozen BK169.out 5
               have hfz9001_6 := blk_frozen BK169.out 6
               have hfz9001_7 := blk_frozen BK169.out 7
               go_wp2
               go_meet
               case rel => exact ⟨_, _, (by first | rfl | (simp; done) | (simp [*]; done)), H', ⟨by have := HJ3.out; have := HJ18.out; have := HK3.out; first | omega | exact Nat.le_refl _⟩, ⟨by (with_reducible repeat (first | refine blk_drewN ?_ _ | refine blk_drew ?_ | refine blk_alloc ?_ _)); exact BK169.out⟩, ⟨by repeat (first | (with_reducible first | exact HB.out | apply below_alloc | apply pw_below_drewN | apply below_drew1 | refine below_set ?_ GE169.out) | exact HB.out)⟩⟩
               )
             case rest =>
              clear HC56
              try clear p1
              try clear q1
              try clear hx1
              try clear c2
              try clear p2
              try clear c3
              try clear c5
              try clear c6
              try clear p6
              try clear p17
              try clear q17
              try clear hx17
              try clear c28
              try clear c28b0
              try clear c29
              try clear c31
              try clear c32
              try clear c32b0
              try clear c34
              try clear c35
              try clear c58
              try clear c58b0
              try clear hcz48_0
              try clear hcz48_1
              try clear hcz48_2
              try clear hcz48_3
              try clear hcz48_4
              try clear hcz48_5
              try clear hcz48_6
              try clear hcz48_7
              try clear hcz52_0
              try clear hcz52_1
              try clear hcz52_2
              try clear hcz52_3
              try clear hcz52_4
              try clear hcz52_5
              try clear hcz52_6
              try clear hcz52_7
              try clear hcz57_0
              try clear hcz57_1
              try clear hcz57_2
              try clear hcz57_3
              try clear hcz57_4
              try clear hcz57_5
              try clear hcz57_6
              try clear hcz57_7
              try clear hcz59_0
              try clear hcz59_1
              try clear hcz59_2
              try clear hcz59_3
              try clear hcz59_4
              try clear hcz59_5
              try clear hcz59_6
              try clear hcz59_7
              try clear hcz60_0
              try clear hcz60_1
              try clear hcz60_2
              try clear hcz60_3
              try clear hcz60_4
              try clear hcz60_5
              try clear hcz60_6
              try clear hcz60_7
              try clear hfz48_0
              try clear hfz48_1
              try clear hfz48_2
              try clear hfz48_3
              try clear hfz48_4
              try clear hfz48_5
              try clear hfz48_6
              try clear hfz48_7
              try clear hfz52_0
              try clear hfz52_1
              try clear hfz52_2
              try clear hfz52_3
              try clear hfz52_4
              try clear hfz52_5
              try clear hfz52_6
              try clear hfz52_7
              try clear hfz57_0
              try clear hfz57_1
              try clear hfz57_2
              try clear hfz57_3
              try clear hfz57_4
              try clear hfz57_5
              try clear hfz57_6
              try clear hfz57_7
              try clear hfz59_0
              try clear hfz59_1
              try clear hfz59_2
              try clear hfz59_3
              try clear hfz59_4
              try clear hfz59_5
              try clear hfz59_6
              try clear hfz59_7
              try clear hfz60_0
              try clear hfz60_1
              try clear hfz60_2
              try clear hfz60_3
              try clear hfz60_4
              try clear hfz60_5
              try clear hfz60_6
              try clear hfz60_7
              try clear hx173_0
              try clear hx173_1
              try clear p173
              try clear q173
              obtain ⟨kq, x7_55, rfl, HA, HJ55, BK169, HB⟩ := hcut
              cases kq with
              | zero => exact absurd HA.out (by simp [pannierref08_Right.j3])
              | succ kj55 =>
               have H := HA.out
               clear HA
               simp only [pannierref08_Right.j3] at H
               by_cases c61 : a0_4 = 1
               rw [if_pos c61] at H
               have c61b0 : (a0_4 == 1) = true := beq_iff_eq.mpr c61
               have c61b1 : (a0_4 != 1) = false := bne_eq_false_iff_eq.mpr c61
               clear c61
               by_cases c62 : x7_55 = true
               subst c62
               have H1 : (some ((l0_7.length : Int) == 0)) = some r := by rw [if_pos rfl] at H; exact H
               clear H
               have H := H1
               clear H1
               obtain rfl := Option.some.inj H
               rotate_left
               replace c62 := Bool.eq_false_iff.mpr c62
               subst c62
               have H1 : (some false) = some r := by rw [if_neg (show ¬ (false = true) by decide)] at H; exact H
               clear H
               have H := H1
               clear H1
               obtain rfl := Option.some.inj H
               rotate_left
               rw [if_neg c61] at H
               have c61b0 : (a0_4 == 1) = false := beq_eq_false_iff_ne.mpr c61
               have c61b1 : (a0_4 != 1) = true := bne_iff_ne.mpr c61
               by_cases c65 : a0_4 = 2
               rw [if_pos c65] at H
               have c65b0 : (a0_4 == 2) = true := beq_iff_eq.mpr c65
               have c65b1 : (a0_4 != 2) = false := bne_eq_false_iff_eq.mpr c65
               clear c65
               obtain rfl := Option.some.inj H
               rotate_left
               rw [if_neg c65] at H
               have c65b0 : (a0_4 == 2) = false := beq_eq_false_iff_ne.mpr c65
               have c65b1 : (a0_4 != 2) = true := bne_iff_ne.mpr c65
               by_cases c67 : a0_4 = 3
               rw [if_pos c67] at H
               have c67b0 : (a0_4 == 3) = true := beq_iff_eq.mpr c67
               have c67b1 : (a0_4 != 3) = false := bne_eq_false_iff_eq.mpr c67
               clear c67
               obtain rfl := Option.some.inj H
               rotate_left
               rw [if_neg c67] at H
               have c67b0 : (a0_4 == 3) = false := beq_eq_false_iff_ne.mpr c67
               have c67b1 : (a0_4 != 3) = true := bne_iff_ne.mpr c67
               obtain rfl := Option.some.inj H
               rotate_left
               all_goals (
                have hcz9001_0 : wc.cell? ⟨gb169, 0, none⟩ = some (.string a0_0) := (blk_cell BK169.out 0).trans rfl
                have hcz9001_1 : wc.cell? ⟨gb169, 1, none⟩ = some (.int .i64 a0_1) := (blk_cell BK169.out 1).trans rfl
                have hcz9001_2 : wc.cell? ⟨gb169, 2, none⟩ = some (.slice A0_2 l0_2.length c0_2) := (blk_cell BK169.out 2).trans rfl
                have hcz9001_3 : wc.cell? ⟨gb169, 3, none⟩ = some (.string a0_3) := (blk_cell BK169.out 3).trans rfl
                have hcz9001_4 : wc.cell? ⟨gb169, 4, none⟩ = some (.int .i64 a0_4) := (blk_cell BK169.out 4).trans rfl
                have hcz9001_5 : wc.cell? ⟨gb169, 5, none⟩ = some (.string a0_5) := (blk_cell BK169.out 5).trans rfl
                have hcz9001_6 : wc.cell? ⟨gb169, 6, none⟩ = some (.int .i64 a0_6) := (blk_cell BK169.out 6).trans rfl
                have hcz9001_7 : wc.cell? ⟨gb169, 7, none⟩ = some (.slice A0_7 l0_7.length c0_7) := (blk_cell BK169.out 7).trans rfl
                have hfz9001_0 := blk_frozen BK169.out 0
                have hfz9001_1 := blk_frozen BK169.out 1
                have hfz9001_2 := blk_frozen BK169.out 2
                have hfz9001_3 := blk_frozen BK169.out 3
                have hfz9001_4 := blk_frozen BK169.out 4
                have hfz9001_5 := blk_frozen BK169.out 5
                have hfz9001_6 := blk_frozen BK169.out 6
                have hfz9001_7 := blk_frozen BK169.out 7
                go_wp2
                go_ret
                exact ⟨by first | rfl | (simp [errW_none, errW_some] <;> rfl) | (simp [*, errW_none, errW_some] <;> rfl), by repeat (first | (with_reducible first | exact HB.out | apply below_alloc | apply pw_below_drewN | apply below_drew1 | refine below_set ?_ GE169.out) | exact HB.out)⟩
                )
end Go.Proofs.Ytenbkljgmgdegaa.PO
