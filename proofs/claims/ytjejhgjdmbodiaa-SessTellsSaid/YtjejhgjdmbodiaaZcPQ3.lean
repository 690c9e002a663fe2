/- What the rows of this claim use, out of the texts of this work (PQ3, SA, SB, SC, SD). No condition beyond those that each statement names. -/
import Derived.Test.YtjejhgjdmbodiaaProg
import Derived.Below
import Derived.Deep.Draws
import Derived.Deep.AppendLies
import Derived.Maps.AppendAt
import Derived.OwnWalk
import Derived.Laws.BytesArg
import Derived.Laws.MakeOwn
import Derived.Laws.OwnMore
import Derived.Deep.OwnRows
import Derived.Tactics
import Derived.Lib.ConvBytes
import Derived.Laws.Slices
import Derived.WalkKit
import Derived.KernelRfl
import Derived.RowKit3
import Derived.Deep.LoopGhost
import Derived.Deep.QuietTactic
import Derived.BigQuiet
import Derived.WideLaws
import Derived.Deep.DeepCutAuto
import Derived.Deep.CutBlock
import Derived.Deep.RegionHeld3
import Derived.Laws.Rows
import Derived.Lib.AppendStr
import Derived.ArgAppend
import Derived.Laws.IdiomCopy
import Derived.OrdersHeld
import Derived.Laws.BitsLemmas
import Derived.RowKit
import Derived.BigRegionIn
import Derived.BigGuardIn
import Derived.Sort.QuietTacIn
import Derived.Lib.Strings
import Derived.Lib.Slices
import Derived.Lib.Walk
import Derived.Lib.Bytealg
import Derived.IntWalk
import Derived.Laws.CopyRow
import Derived.Lib.AppendZerosOnto
import Derived.Lib.Overlaps
import Derived.Laws.Externs
import Derived.Shelf.RegionOpenPlain
import Derived.Deep.RegionLaw
import Derived.Lib.SliceRun
import Derived.Laws.NewBlocks
import Derived.Test.YtjejhgjdmbodiaaZcUPOx10
import Derived.Test.YtjejhgjdmbodiaaZcUPD10
import Derived.Test.YtjejhgjdmbodiaaZcUOV
import Derived.Test.YtjejhgjdmbodiaaZcUPOx0
import Derived.Test.YtjejhgjdmbodiaaZcX
import Derived.Test.YtjejhgjdmbodiaaZcW
import Derived.Test.YtjejhgjdmbodiaaZcPQ2
section
namespace Go.Proofs.Ytjejhgjdmbodiaa.PO
open Go.RowKit Go.Proofs.YtjejhgjdmbodiaaW.PrintWords Go.Proofs.YtjejhgjdmbodiaaW.PrintLast Go.Proofs.YtjejhgjdmbodiaaW.PrintMore
attribute [local go_sem] max2_int min2_int max_two min_two max_three min_three max_four min_four   -- for this text's walks alone
set_option linter.unusedVariables false
set_option linter.unusedSimpArgs false
def pannierlaw16_list.l0 : Nat → Int → List (S74) → Int → Option ((List (S74)))
 | 0, _, _, _ => none
 | k + 1, x0, x3, x4 => if x4 < x0 then ((pannierlaw16_made.f (wrap64 (x4 + 1))).bind fun bt144 => (if x3.length < 1172812402961 then (pannierlaw16_list.l0 k x0 (x3 ++ [(⟨(⟨bt144.1, bt144.2.1⟩ : S72), bt144.2.2.1, bt144.2.2.2.1, bt144.2.2.2.2.1, bt144.2.2.2.2.2.1, bt144.2.2.2.2.2.2.1, bt144.2.2.2.2.2.2.2⟩ : S74)]) (wrap64 (x4 + 1))) else (none))) else (some x3)
def pannierlaw16_list.f (k : Nat) (a0 : Int) : Option ((List (S74))) := pannierlaw16_list.l0 k a0 ([] : List (S74)) 0
set_option maxHeartbeats 8000000 in
set_option maxRecDepth 100000 in
theorem pannierlaw16_list.calls (k : Nat) (a0 : Int) (r : List (S74)) (w : World) (h : pannierlaw16_list.f k a0 = some r) :
 Calls Try.prog 19 #[.int .i64 a0] w fun e w' => ∃ v0_ : Value, e = .returned (v0_) ∧ Kd.S k74 74 w' w.heap.size (fun _ => True) v0_ r ∧ Below w.heap.size w w' := by
 have HB := Aside0.mk (Below.refl w.heap.size w)
 have H : (pannierlaw16_list.l0 k a0 ([] : List (S74)) 0) = some r := h
 clear h
 have H' := Aside0.mk H
 clear H
 go_enter Try.func19, Try.ntmps19
 go_wp2
 go_loopg [3, 4] k (fun kq v3 v4 w' => ∃ (x3_1 : List (S74)) (x4_1 : Int), v4 = .int .i64 x4_1 ∧ Aside0 (pannierlaw16_list.l0 kq a0 x3_1 x4_1 = some r) ∧ Aside0 (kq ≤ k) ∧ Aside0 (Kd.S k74 74 w' w.heap.size (fun _ => True) v3 x3_1) ∧ Aside0 (Below w.heap.size w w'))
 case atStart => exact ⟨(([] : List (S74))), (0), (by first | rfl | (simp; done) | (simp [*]; done)), H', ⟨Nat.le_refl _⟩, ⟨by first | exact Kd.S_nil _ _ _ _ _ | exact Kd.N_nil _ _ _ _ _ | exact Kd.V_nil _ _ _ _ _ | exact Kd.Q_nil _ _ _ _ _ | exact Kd.R_nil _ _ _ _ _⟩, ⟨by repeat (first | (with_reducible first | exact HB.out | apply below_alloc | apply pw_below_drewN | apply below_drew1) | exact HB.out)⟩⟩
 case round =>
  clear H'
  try clear c1
  obtain ⟨x3_1, x4_1, rfl, HA, HK1, HO_3, HB⟩ := hrel
  cases gk with
  | zero => exact absurd HA.out (by simp [pannierlaw16_list.l0])
  | succ k1 =>
   have H := HA.out
   clear HA
   simp only [pannierlaw16_list.l0] at H
   by_cases c2 : x4_1 < a0
   · rw [if_pos c2] at H
     have c2b0 : decide (x4_1 < a0) = true := decide_eq_true c2
     clear c2
     replace H := Option.bind_eq_some_iff.mp H
     obtain ⟨⟨t144, t145, t146, t149, t150, t151, t152, t153⟩, A30, H⟩ := H
     replace H : (if x3_1.length < 1172812402961 then (pannierlaw16_list.l0 k1 a0 (x3_1 ++ [(⟨(⟨t144, t145⟩ : S72), t146, t149, t150, t151, t152, t153⟩ : S74)]) (wrap64 (x4_1 + 1))) else (none)) = some r := H
     have A3 := Aside0.mk A30
     clear A30
     by_cases c4 : x3_1.length < 1172812402961
     · rw [if_pos c4] at H
       have LMc4 := Aside0.mk c4
       clear c4
       obtain ⟨y156, hy156⟩ : ∃ y_ : List (S74), y_ = (x3_1 ++ [(⟨(⟨t144, t145⟩ : S72), t146, t149, t150, t151, t152, t153⟩ : S74)]) := ⟨_, rfl⟩
       replace H : (pannierlaw16_list.l0 k1 a0 y156 (wrap64 (x4_1 + 1))) = some r := by first | (rw [hy156]; with_reducible exact H) | (have H2_ := (Option.bind_some _ _).symm.trans H; rw [hy156]; with_reducible exact H2_) | (have H2_ := (Option.bind_some _ _).symm.trans H; with_reducible exact H2_) | with_reducible exact H | (rw [hy156]; exact H) | exact H
       have Ny156 := Aside0.mk hy156
       clear hy156
       have H' := Aside0.mk H
       clear H
       go_wp2_with (first | ((with_reducible refine gate_callee (f := 48) rfl ?_); refine goesL_ (some 13) rfl rfl Try.func48 (by kernel_rfl) rfl #[.int .i64 (wrap64 (x4_1 + 1))] rfl (by (try simp only [List.map_toArray, List.map_cons, List.map_nil]); first | done | rfl | (simp only [List.length_drop, List.length_take]; rfl)) ?_; (with_reducible refine (pannierlaw16_made.calls (wrap64 (x4_1 + 1)) t144 t145 t146 t149 t150 t151 t152 t153 _ A3.out).mono ?_); rintro e w5 ⟨v147, v154, rfl, ho0, ho1, hb⟩; refine ⟨_, rfl, ?_⟩; have n0_ := Aside0.mk (Kd.S_mono (Kd.S_told (Kd.S_told (Kd.S_old (by (with_reducible repeat (first | apply Kd.S_alloc | apply Kd.S_drewN | apply Kd.S_drew)); exact HO_3.out) hb) (Kd.R_base ho0)) (Kd.R_base ho1)) (fun _ h_ => h_.1)); have n1_ := Aside0.mk (Kd.R_lower ho0 (below_size (by repeat (first | (with_reducible first | exact HB.out | apply below_alloc | apply pw_below_drewN | apply below_drew1) | exact HB.out)))); have n2_ := Aside0.mk (Kd.R_lower ho1 (below_size (by repeat (first | (with_reducible first | exact HB.out | apply below_alloc | apply pw_below_drewN | apply below_drew1) | exact HB.out)))); have n3_ := Aside0.mk (below_step (by repeat (first | (with_reducible first | exact HB.out | apply below_alloc | apply pw_below_drewN | apply below_drew1) | exact HB.out)) hb); clear HO_3; clear HB; have HO_3 := n0_; have HO148 := n1_; have HO155 := n2_; have HB := n3_; clear n0_ n1_ n2_ n3_; (try clear hb); (try clear hb2); (try clear hk); (try clear hi); (try clear ho0); (try clear ho1); obtain ⟨Ao7, co7, eo7⟩ := Kd.R_slice HO148.out; subst eo7; obtain ⟨Ao8, co8, eo8⟩ := Kd.R_slice HO155.out; subst eo8) | ((with_reducible refine gate_builtin (b := .append) (xs := #[.tmp 10, .tmp 14]) rfl ?_); at_builtin; refine Kd.S_append k74 (w0 := w) w.heap.size rfl (.tmp 10) (.tmp 14) 22 74 (.agg #[(.string ⟨#[]⟩), (.int .i64 0), (.slice none 0 0), (.string ⟨#[]⟩), (.int .i64 0), (.string ⟨#[]⟩), (.int .i64 0), (.slice none 0 0)]) 120 rfl Try.underlying22 info74 rfl (by decide) (by omega) u3 x3_1 (⟨(⟨t144, t145⟩ : S72), t146, t149, t150, t151, t152, t153⟩ : S74) [.string t144, .int .i64 t145, .slice Ao7 t146.length co7, .string t149, .int .i64 t150, .string t151, .int .i64 t152, .slice Ao8 t153.length co8] (fun _ => True) (fun k_ => some k_ = (.slice Ao7 t146.length co7 : Value).ownBlock ∨ some k_ = (.slice Ao8 t153.length co8 : Value).ownBlock) rfl rfl ?aP (fun k_ hk_ => hk_.elim (fun h_ => ((Kd.R_mono (ok' := fun k_ => ((fun _ => True)) k_ ∧ some k_ ≠ (u3 : Value).ownBlock) (Kd.R_apart' (HO148.out) (Kd.S_typed HO_3.out) (by decide)) (fun k_ hk => ⟨trivial, hk.2⟩))).1 k_ h_.symm) (fun h_ => ((Kd.R_mono (ok' := fun k_ => ((fun _ => True)) k_ ∧ some k_ ≠ (u3 : Value).ownBlock) (Kd.R_apart' (HO155.out) (Kd.S_typed HO_3.out) (by decide)) (fun k_ hk => ⟨trivial, hk.2⟩))).1 k_ h_.symm)) ?aF ?aO ?aB ?aS ?aL ?_; (case aP => exact k74_mkM _ _ _ (⟨(⟨t144, t145⟩ : S72), t146, t149, t150, t151, t152, t153⟩ : S74) (Kd.R_mono (Kd.R_tight rfl (Kd.R_mono (ok' := fun k_ => ((fun _ => True)) k_ ∧ some k_ ≠ (u3 : Value).ownBlock) (Kd.R_apart' (HO148.out) (Kd.S_typed HO_3.out) (by decide)) (fun k_ hk => ⟨trivial, hk.2⟩))) (fun _ h_ => Or.inl h_)) (Kd.R_mono (Kd.R_tight rfl (Kd.R_mono (ok' := fun k_ => ((fun _ => True)) k_ ∧ some k_ ≠ (u3 : Value).ownBlock) (Kd.R_apart' (HO155.out) (Kd.S_typed HO_3.out) (by decide)) (fun k_ hk => ⟨trivial, hk.2⟩))) (fun _ h_ => Or.inr (h_)))); (case aB => exact (by repeat (first | (with_reducible first | exact HB.out | apply below_alloc | apply pw_below_drewN | apply below_drew1) | exact HB.out))); (case aF => exact (fun _ _ => trivial)); (case aO => exact (by (with_reducible repeat (first | apply Kd.S_alloc | apply Kd.S_drewN | apply Kd.S_drew)); exact Kd.S_mono HO_3.out (fun k_ hk => ⟨trivial, fun e_ => e_.elim (fun h_ => hk.1.2 h_) (fun h_ => hk.2 h_)⟩))); (case aS => exact (below_size (by repeat (first | (with_reducible first | exact HB.out | apply below_alloc | apply pw_below_drewN | apply below_drew1) | exact HB.out)))); (case aL => have := LMc4.out; omega); intro v157 w6 ho hb hg hat; rw [← Ny156.out] at ho; have n0_ := Aside0.mk (hb); have n1_ := Aside0.mk (ho); clear HB; clear HO_3; clear HO148; clear HO155; have HB := n0_; have HO158 := n1_; clear n0_ n1_; clear ho hb hg hat))
       go_roundg k1
       case measure => have := HK1.out; omega
       case rel => exact ⟨(y156), (wrap64 (x4_1 + 1)), (by first | rfl | (simp; done) | (simp [*]; done)), H', ⟨by have := HK1.out; omega⟩, ⟨by (with_reducible repeat (first | apply Kd.S_alloc | apply Kd.S_drewN | apply Kd.S_drew)); exact HO158.out⟩, ⟨by repeat (first | (with_reducible first | exact HB.out | apply below_alloc | apply pw_below_drewN | apply below_drew1) | exact HB.out)⟩⟩
     · rw [if_neg c4] at H
       exact absurd H (by simp)
   · rw [if_neg c2] at H
     have c2b0 : decide (x4_1 < a0) = false := decide_eq_false c2
     clear c2
     obtain rfl := Option.some.inj H
     go_wp2
     go_ret
     exact ⟨_, by first | rfl | (simp [errW_none, errW_some] <;> rfl) | (simp [*, errW_none, errW_some] <;> rfl), by (with_reducible repeat (first | apply Kd.S_alloc | apply Kd.S_drewN | apply Kd.S_drew)); exact HO_3.out, by repeat (first | (with_reducible first | exact HB.out | apply below_alloc | apply pw_below_drewN | apply below_drew1) | exact HB.out)⟩
def pannierref16_isCart.f (a0 : ByteArray) : Option (Bool) := if (a0.size : Int) ≥ 1 then (some (decide ((a0.size : Int) ≤ 32))) else (some false)
set_option maxHeartbeats 8000000 in
set_option maxRecDepth 100000 in
theorem pannierref16_isCart.calls (a0 : ByteArray) (r : Bool) (w : World) (h : pannierref16_isCart.f a0 = some r) :
 Calls Try.prog 42 #[.string a0] w fun e w' => e = .returned (.bool r) ∧ Drawn0 w w' := by
 have H : (if (a0.size : Int) ≥ 1 then (some (decide ((a0.size : Int) ≤ 32))) else (some false)) = some r := h
 clear h
 by_cases c2 : (a0.size : Int) ≥ 1
 · rw [if_pos c2] at H
   have c2b0 : decide (1 ≤ (a0.size : Int)) = true := decide_eq_true c2
   have c2b1 : decide (1 ≤ a0.size) = true := decide_eq_true (by omega)
   clear c2
   obtain rfl := Option.some.inj H
   go_enter Try.func42, Try.ntmps42
   go_wp2
   go_ret
   exact ⟨by first | rfl | (simp; done) | (simp [*]; done), by repeat (first | exact Drawn0.refl _ | apply Drawn0.step)⟩
 · rw [if_neg c2] at H
   have c2b0 : decide (1 ≤ (a0.size : Int)) = false := decide_eq_false c2
   have c2b1 : decide (1 ≤ a0.size) = false := decide_eq_false (by omega)
   clear c2
   obtain rfl := Option.some.inj H
   go_enter Try.func42, Try.ntmps42
   go_wp2
   go_ret
   exact ⟨by first | rfl | (simp; done) | (simp [*]; done), by repeat (first | exact Drawn0.refl _ | apply Drawn0.step)⟩
end Go.Proofs.Ytjejhgjdmbodiaa.PO
end
section
namespace Go.Proofs.Ytjejhgjdmbodiaa.PO
open Go.RowKit Go.Proofs.YtjejhgjdmbodiaaW.PrintWords Go.Proofs.YtjejhgjdmbodiaaW.PrintLast Go.Proofs.YtjejhgjdmbodiaaW.PrintMore Go.Proofs.Ytjejhgjdmbodiaa.XW
open Go.Proofs.Ytjejhgjdmbodiaa.XRange
set_option linter.unusedVariables false
set_option linter.unusedSimpArgs false
theorem rd74_eq (l : List S74) (i : Nat) (h : i < l.length) : rd_T74 l (i : Int) = l[i] := by
 simp [rd_T74, List.getD, h]
theorem owns_l0 (l : List S74) (hl : l.length ≤ 1000000000) (hz : ∀ x, x ∈ l → x.f1.length ≤ 1000000 ∧ x.f6.length ≤ 1000000) : ∀ (k i : Nat), i ≤ l.length → l.length - i < k → sess_owns.l0 k (l.take i) l (l.length : Int) (i : Int) = some l := by
 intro k
 induction k with
 | zero => intro i _ h; omega
 | succ k ih =>
   intro i hi hk
   unfold sess_owns.l0
   by_cases hlt : i < l.length
   · have hx := rd74_eq l i hlt
     obtain ⟨z1, z6⟩ := hz _ (List.getElem_mem hlt)
     rw [if_pos (by omega), if_pos (by omega), if_pos (by omega), hx]
     have ho : sess_own.f l[i].f0.f0 l[i].f0.f1 l[i].f1 l[i].f2 l[i].f3 l[i].f4 l[i].f5 l[i].f6 = some (l[i].f0.f0, l[i].f0.f1, l[i].f1, l[i].f2, l[i].f3, l[i].f4, l[i].f5, l[i].f6) := by
      unfold sess_own.f api_Dot.f
      rw [if_pos (by omega), if_pos (by omega)]
      rfl
     rw [ho, Option.bind_some, if_pos (by rw [List.length_take]; omega)]
     have e : l.take i ++ [(⟨⟨l[i].f0.f0, l[i].f0.f1⟩, l[i].f1, l[i].f2, l[i].f3, l[i].f4, l[i].f5, l[i].f6⟩ : S74)] = l.take (i + 1) := by
      rw [List.take_succ_eq_append_getElem hlt]
     have e2 : wrap64 ((i : Int) + 1) = ((i + 1 : Nat) : Int) := by rw [w_id (by omega)]; rfl
     show sess_owns.l0 k (l.take i ++ [(⟨⟨l[i].f0.f0, l[i].f0.f1⟩, l[i].f1, l[i].f2, l[i].f3, l[i].f4, l[i].f5, l[i].f6⟩ : S74)]) l _ (wrap64 ((i : Int) + 1)) = some l
     rw [e, e2]
     exact ih (i + 1) (by omega) (by omega)
   · rw [if_neg (by omega), List.take_of_length_le (by omega)]
theorem owns_f (l : List S74) (hl : l.length ≤ 1000000000) (hz : ∀ x, x ∈ l → x.f1.length ≤ 1000000 ∧ x.f6.length ≤ 1000000) : sess_owns.f (l.length + 1) l = some l :=
 owns_l0 l hl hz (l.length + 1) 0 (by omega) (by omega)
theorem owns_calls (l : List S74) (A : Option Addr) (c : Nat) (w : World) (hC : Kd.C k74 w A l.length l) (hc : l.length ≤ c) (hl : l.length ≤ 1000000000) (hz : ∀ x, x ∈ l → x.f1.length ≤ 1000000 ∧ x.f6.length ≤ 1000000) :
 Calls Try.prog 40 #[.slice A l.length c] w fun e w' => ∃ v0_ : Value, e = .returned v0_ ∧ Kd.S k74 74 w' w.heap.size (fun _ => True) v0_ l ∧ Below w.heap.size w w' :=
 sess_owns.calls (l.length + 1) A c l l w hC hc (owns_f l hl hz)
def bA : ByteArray := ⟨#[97]⟩
def bC : ByteArray := ⟨#[99]⟩
def bI : ByteArray := ⟨#[105]⟩
def madeO (n : Int) : S74 := ⟨⟨bA, n⟩, if n > 1 then [⟨bA, n - 1⟩] else [], bC, 1, bI, 1, []⟩
def listO (n : Nat) : List S74 := (List.range n).map (fun i : Nat => madeO ((i : Int) + 1))
theorem listO_len (n : Nat) : (listO n).length = n := by simp [listO]
theorem list_l0 (n : Nat) (hn : n ≤ 1000000) : ∀ (k i : Nat), i ≤ n → n - i < k → pannierlaw16_list.l0 k (n : Int) (listO i) (i : Int) = some (listO n) := by
 intro k
 induction k with
 | zero => intro i _ h; omega
 | succ k ih =>
   intro i hi hk
   unfold pannierlaw16_list.l0
   by_cases hlt : i < n
   · rw [if_pos (by omega)]
     have e2 : wrap64 ((i : Int) + 1) = ((i + 1 : Nat) : Int) := by rw [w_id (by omega)]; rfl
     have ho : ∃ t, pannierlaw16_made.f (wrap64 ((i : Int) + 1)) = some t ∧ (⟨⟨t.1, t.2.1⟩, t.2.2.1, t.2.2.2.1, t.2.2.2.2.1, t.2.2.2.2.2.1, t.2.2.2.2.2.2.1, t.2.2.2.2.2.2.2⟩ : S74) = madeO ((i : Int) + 1) := by
      rw [e2]
      unfold pannierlaw16_made.f madeO
      by_cases h1 : ((i + 1 : Nat) : Int) > 1
      · rw [if_pos h1]
        refine ⟨_, rfl, ?_⟩
        have h2 : ((i : Int) + 1) > 1 := by omega
        rw [if_pos h2]
        have h3 : wrap64 (((i + 1 : Nat) : Int) - 1) = (i : Int) + 1 - 1 := by rw [w_id (by omega)]; omega
        show (⟨⟨bA, ((i + 1 : Nat) : Int)⟩, [⟨bA, wrap64 (((i + 1 : Nat) : Int) - 1)⟩], bC, 1, bI, 1, []⟩ : S74) = _
        rw [h3]
        rfl
      · rw [if_neg h1]
        refine ⟨_, rfl, ?_⟩
        have h2 : ¬ ((i : Int) + 1) > 1 := by omega
        rw [if_neg h2]
        rfl
     obtain ⟨t, ht, hm⟩ := ho
     rw [ht, Option.bind_some, if_pos (by rw [listO_len]; omega)]
     show pannierlaw16_list.l0 k (n : Int) (listO i ++ [(⟨⟨t.1, t.2.1⟩, t.2.2.1, t.2.2.2.1, t.2.2.2.2.1, t.2.2.2.2.2.1, t.2.2.2.2.2.2.1, t.2.2.2.2.2.2.2⟩ : S74)]) (wrap64 ((i : Int) + 1)) = some (listO n)
     rw [hm, e2]
     have e : listO i ++ [madeO ((i : Int) + 1)] = listO (i + 1) := by simp [listO, List.range_succ]
     rw [e]
     exact ih (i + 1) (by omega) (by omega)
   · rw [if_neg (by omega)]
     have : i = n := by omega
     rw [this]
theorem list_calls (n : Nat) (hn : n ≤ 1000000) (w : World) :
 Calls Try.prog 19 #[.int .i64 (n : Int)] w fun e w' => ∃ v0_ : Value, e = .returned v0_ ∧ Kd.S k74 74 w' w.heap.size (fun _ => True) v0_ (listO n) ∧ Below w.heap.size w w' :=
 pannierlaw16_list.calls (n + 1) (n : Int) (listO n) w (list_l0 n hn (n + 1) 0 (by omega) (by omega))
set_option maxHeartbeats 8000000 in
set_option maxRecDepth 100000 in
theorem badN_calls (G : Nat) (cart : ByteArray) (x : S74) (A2 : Option Addr) (c2 : Nat) (A7 : Option Addr) (c7 : Nat) (w : World) (l2 : x.f1.length ≤ c2) (g2 : Kd.C k72 w A2 x.f1.length x.f1) (l7 : x.f6.length ≤ c7) (g7 : Kd.C k72 w A7 x.f6.length x.f6) (hG : w.cell? ⟨G, 0, none⟩ = some (.string cart)) :
 Calls Try.prog 37 #[.agg #[.string x.f0.f0, .int .i64 x.f0.f1, .slice A2 x.f1.length c2, .string x.f2, .int .i64 x.f3, .string x.f4, .int .i64 x.f5, .slice A7 x.f6.length c7], .pointer (some ⟨G, 0, none⟩)] w fun e w' => e = .returned (.bool (badO cart x)) ∧ Below w.heap.size w w' := by
 have HG2 := Aside0.mk g2
 have HG7 := Aside0.mk g7
 have HL2 := Aside0.mk l2
 have HL7 := Aside0.mk l7
 have hGl := World.block_lt_of_cell? w _ hG
 obtain ⟨N, hN⟩ : ∃ N, w.heap.size = N := ⟨_, rfl⟩
 clear l2 g2 l7 g7
 go_enter Try.func37, Try.ntmps37
 obtain ⟨w0, hw0⟩ : ∃ w0, w.alloc (.cells #[.string x.f0.f0, .int .i64 x.f0.f1, .slice A2 x.f1.length c2, .string x.f2, .int .i64 x.f3, .string x.f4, .int .i64 x.f5, .slice A7 x.f6.length c7] 74) = w0 := ⟨_, rfl⟩
 have HB := Aside0.mk (show Below w.heap.size w w0 from by rw [← hw0]; exact (Below.refl _ w).alloc (Nat.le_refl _) _)
 have KX := Aside0.mk (show w0.heap[N]? = some (.cells #[.string x.f0.f0, .int .i64 x.f0.f1, .slice A2 x.f1.length c2, .string x.f2, .int .i64 x.f3, .string x.f4, .int .i64 x.f5, .slice A7 x.f6.length c7] 74 (0, 0)) from by rw [← hw0, ← hN]; exact World.alloc_heap_new w _)
 obtain ⟨n0, n1, n2, n3, n4, n5, n6, n7⟩ := cells8 KX.out
 have hG0 : w0.cell? ⟨G, 0, none⟩ = some (.string cart) := (HB.out.cell hGl).trans hG
 clear hG
 by_cases he : x.f2.toList = cart.toList
 · have q1 : (x.f2.toList == cart.toList) = true := by simp [he]
   have HE := Aside0.mk (bytes_inj he)
   go_wp2_with fail
   refine (orderRight_calls x A2 c2 A7 c7 _ HL2.out (Kd.C_below HG2.out HB.out) HL7.out (Kd.C_below HG7.out HB.out)).mono ?_
   rintro e w1 ⟨rfl, hb1⟩
   have HB1 := Aside0.mk (HB.out.trans (hb1.mono HB.out.size))
   clear n0 n1 n2 n3 n4 n5 n6 n7 hb1
   go_wp2
   go_ret
   refine ⟨?_, by first | exact HB1.out | (rw [← hN]; exact HB1.out)⟩
   unfold badO
   rw [HE.out]
   simp
 · have q1 : (x.f2.toList == cart.toList) = false := by simp [he]
   go_wp2
   go_ret
   refine ⟨?_, by first | exact HB.out | (rw [← hN]; exact HB.out)⟩
   unfold badO
   have : x.f2 ≠ cart := fun h => he (by rw [h])
   simp [this]
set_option maxHeartbeats 8000000 in
set_option maxRecDepth 100000 in
theorem idxBadN_calls (G : Nat) (cart : ByteArray) (l : List S74) (A : Option Addr) (c : Nat) (w : World) (hc : l.length ≤ c) (hC : Kd.C k74 w A l.length l) (hG : w.cell? ⟨G, 0, none⟩ = some (.string cart)) :
 Calls Try.prog 64 #[.slice A l.length c, .func (.func 37) #[] #[.pointer (some ⟨G, 0, none⟩)]] w fun e w' => ∃ r : Int, e = .returned (.int .i64 r) ∧ decide (0 ≤ r) = l.any (badO cart) ∧ Below w.heap.size w w' := by
 have HC := Aside0.mk hC
 have hm : l.length ≤ 9223372036854775807 := hC.2.1
 have hGl := World.block_lt_of_cell? w _ hG
 have HG := Aside0.mk hG
 clear hC hG
 go_enter Try.func64, Try.ntmps64
 go_wp2
 go_loopw [5, 8] (fun _ v8 wr => ∃ j : Nat, j ≤ l.length ∧ v8 = .int .i64 j ∧ Aside0 ((l.drop j).any (badO cart) = l.any (badO cart)) ∧ Aside0 (Below w.heap.size w wr)) (fun _ v8 _ => l.length - (intOf v8).toNat)
 case atStart => exact ⟨0, Nat.zero_le _, rfl, ⟨by simp⟩, ⟨Below.refl _ _⟩⟩
 case round =>
  obtain ⟨j, hj, rfl, HJ, HB⟩ := hrel
  by_cases hlt : j < l.length
  · obtain ⟨ad, A2, c2, A7, c7, rfl, f0, f1, f2, f3, f4, f5, f6, f7, l2, g2, l7, g7⟩ := at_T74 (Kd.C_below HC.out HB.out) (j : Int) (by omega) (by omega)
    simp only [Int.toNat_natCast] at f0 f1 f2 f3 f4 f5 f6 f7
    obtain ⟨x, hx⟩ : ∃ x, rd_T74 l (j : Int) = x := ⟨_, rfl⟩
    rw [hx] at f0 f1 f2 f3 f4 f5 f6 f7 l2 g2 l7 g7
    have HD := Aside0.mk (show l.drop j = x :: l.drop (j + 1) from by rw [← hx]; exact rd_drop36' l j hlt)
    have HL2 := Aside0.mk l2
    have HG2 := Aside0.mk g2
    have HL7 := Aside0.mk l7
    have HG7 := Aside0.mk g7
    have hb3 : 0 ≤ (j : Int) ∧ (j : Int) < (l.length : Int) := by omega
    have q1 : decide ((j : Int) < (l.length : Int)) = true := by simp; omega
    clear l2 g2 l7 g7 hx
    go_wp2_with fail
    refine (badN_calls G cart x A2 c2 A7 c7 _ HL2.out HG2.out HL7.out HG7.out ((HB.out.cell hGl).trans HG.out)).mono ?_
    rintro e w1 ⟨rfl, hb1⟩
    have HB1 := Aside0.mk (HB.out.trans (hb1.mono HB.out.size))
    obtain ⟨b, hb⟩ : ∃ b, badO cart x = b := ⟨_, rfl⟩
    have HBX := Aside0.mk hb
    rw [hb]
    clear hb hb1 f0 f1 f2 f3 f4 f5 f6 f7
    cases b with
    | true =>
      go_wp2
      go_ret
      exact ⟨_, rfl, by rw [← HJ.out, HD.out, List.any_cons, HBX.out]; simp, HB1.out⟩
    | false =>
      go_wp2
      go_round
      case rel => exact ⟨j + 1, by omega, by go_num, ⟨by rw [← HJ.out, HD.out, List.any_cons, HBX.out]; simp⟩, HB1⟩
      case measure => simp [intOf]; omega
  · have q1 : decide ((j : Int) < (l.length : Int)) = false := by simp; omega
    go_wp2
    go_ret
    exact ⟨_, rfl, by rw [← HJ.out, List.drop_eq_nil_of_le (by omega)]; simp, HB.out⟩
set_option maxHeartbeats 8000000 in
set_option maxRecDepth 100000 in
theorem hasBadN_calls (G : Nat) (cart : ByteArray) (l : List S74) (A : Option Addr) (c : Nat) (w : World) (hc : l.length ≤ c) (hC : Kd.C k74 w A l.length l) (hG : w.cell? ⟨G, 0, none⟩ = some (.string cart)) :
 Calls Try.prog 36 #[.slice A l.length c, .func (.func 37) #[] #[.pointer (some ⟨G, 0, none⟩)]] w fun e w' => e = .returned (.bool (l.any (badO cart))) ∧ Below w.heap.size w w' := by
 have h := idxBadN_calls G cart l A c w hc hC hG
 go_enter Try.func36, Try.ntmps36
 go_wp2_with fail
 refine h.mono ?_
 rintro e w1 ⟨r, rfl, hr, hb1⟩
 go_wp2
 go_ret
 exact ⟨by rw [← hr]; rfl, hb1⟩
end Go.Proofs.Ytjejhgjdmbodiaa.PO
end
section
namespace Go.Proofs.Ytjejhgjdmbodiaa.PO
open Go.RowKit Go.Proofs.YtjejhgjdmbodiaaW.PrintWords Go.Proofs.YtjejhgjdmbodiaaW.PrintLast Go.Proofs.YtjejhgjdmbodiaaW.PrintMore Go.Proofs.Ytjejhgjdmbodiaa.XW
open Go.Proofs.Ytjejhgjdmbodiaa.XRange
set_option linter.unusedVariables false
set_option linter.unusedSimpArgs false
def offV (b n i : Nat) : Value := .slice (some ⟨b, 64 * i, none⟩) (min 8 (n - 8 * i)) (min 8 (n - 8 * i))
def npc (n : Nat) : Nat := (n + 7) / 8
def cellLen (w : World) (B : Nat) : Nat := match w.cell? ⟨B, 0, none⟩ with | some (.slice _ n _) => n | _ => 0
theorem cellLen_of {w : World} {B n c : Nat} {A : Option Addr} (h : w.cell? ⟨B, 0, none⟩ = some (.slice A n c)) : cellLen w B = n := by
 unfold cellLen; rw [h]
set_option maxHeartbeats 8000000 in
set_option maxRecDepth 100000 in
theorem cut1_seq (n b B len c : Nat) (A : Option Addr) (w : World) (hB : w.heap[B]? = some (.cells #[.slice A len c] 22 (0, 0))) (hA : 0 < len → A = some ⟨b, 0, none⟩) (hc : len ≤ c) (hl : len ≤ 1000000000) :
 SeqC n Try.prog 70 #[.pointer (some ⟨B, 0, none⟩)] (fun i : Nat => #[offV b len i]) (fun k => k = B) (fun k => k = B) (fun xs => xs = List.range (npc len)) (fun _ => True) (npc len) w := by
 intro q J Jx W hW hJ hJx hY h0
 have HJ := Aside0.mk hJ
 have HJx := Aside0.mk hJx
 have HY := Aside0.mk hY
 have H0 := Aside0.mk h0
 have HB := Aside0.mk ((hW.block B (blk_lt hB) (fun f => f)).trans hB)
 have HA := Aside0.mk hA
 clear hJ hJx hY h0 hB hW hA
 refine callsIn_of_wp Try.func70 rfl trivial ?_ rfl
 simp only [Try.ntmps70, List.size_toArray, List.length_cons, List.length_nil, Nat.reduceAdd, Nat.reduceSub, Array.replicate_succ, Array.replicate_zero, List.push_toArray, List.append_toArray, List.nil_append, List.cons_append, Array.size_append]
 gi_wp2
 gi_loopw [3] (fun _ wr => ∃ (i m ci : Nat) (Ai : Option Addr), Aside0 (wr.heap[B]? = some (.cells #[.slice Ai m ci] 22 (0, 0))) ∧ m + 8 * i = max len (8 * i) ∧ i ≤ npc len ∧ m ≤ ci ∧ Aside0 (0 < m → Ai = some ⟨b, 64 * i, none⟩) ∧ Aside0 (J (List.range i) wr)) (fun _ wr => cellLen wr B)
 case atStart => exact ⟨0, len, c, A, ⟨HB.out⟩, by omega, Nat.zero_le _, hc, ⟨HA.out⟩, ⟨H0.out⟩⟩
 case round =>
  obtain ⟨i, m, ci, Ai, HBr, hm, hi, hmc, HAi, HJR⟩ := hrel
  have e0 : wr.cell? ⟨B, 0, none⟩ = some (.slice Ai m ci) := (blk_cell HBr.out 0).trans rfl
  have ef := blk_frozen HBr.out 0
  have hlen := cellLen_of e0
  by_cases hlt : 0 < m
  · have hAi := HAi.out hlt
    subst hAi
    have q1 : decide ((0 : Int) < (m : Int)) = true := by simp; omega
    obtain ⟨k, hk⟩ : ∃ k, min 8 (len - 8 * i) = k := ⟨_, rfl⟩
    have hkm : k ≤ m ∧ 0 < k ∧ k ≤ 8 ∧ (k < 8 → k = m) := by omega
    have hi2 : i < npc len := by unfold npc; omega
    have ek : min 8 (m : Int) = (k : Int) := by omega
    have HK := Aside0.mk hk
    have hJ2 := HJR.out
    obtain ⟨fn, tmps, asg, bdy, hyy, hR⟩ := HY.out _ i wr hJ2 (by simpa using hi2)
    simp only [offV, hk] at hyy
    clear hk hJ2
    have b1 : (0 : Int) ≤ (k : Int) := by omega
    have b2 : (k : Int) ≤ (ci : Int) := by omega
    have b3 : (k : Int) ≤ (m : Int) := by omega
    gi_wp2
    refine ⟨(fun h => by cases h), hR.mono ?_⟩
    rintro e w3 (⟨rfl, hJ3, hk3⟩ | ⟨rfl, hJx3⟩)
    · have HJ3 := Aside0.mk hJ3
      have HB3 := Aside0.mk ((hk3.2 B rfl).trans HBr.out)
      clear hJ3 hk3 e0 ef hyy hR
      have e0 : w3.cell? ⟨B, 0, none⟩ = some (.slice (some ⟨b, 64 * i, none⟩) m ci) := (blk_cell HB3.out 0).trans rfl
      have ef := blk_frozen HB3.out 0
      gi_wp2
      have hS := blk_set HB3.out 0 (.slice (if ci = k then some ⟨b, 64 * i, none⟩ else some ⟨b, 64 * i + k * 8, none⟩) (m - k) (ci - k))
      go_round
      case rel =>
       refine ⟨i + 1, m - k, ci - k, _, ⟨hS⟩, by omega, by omega, by omega, ⟨fun h => ?_⟩, ⟨?_⟩⟩
       · have h8 : k = 8 := by omega
         subst h8
         rw [if_neg (by omega)]
         rfl
       · refine HJ.out _ w3 _ ?_ (Keeps.setCell (M := fun k => k = B) (Keeps.refl _ _) (p := ⟨B, 0, none⟩) (.inl rfl) _)
         rw [List.range_succ]
         exact HJ3.out
      case measure =>
       rw [cellLen_of ((blk_cell hS 0).trans rfl), hlen]
       omega
    · have HJX := Aside0.mk hJx3
      clear hJx3
      gi_wp2
      refine bodyPost_ret (results_none rfl _ _ _) rfl ?_
      exact ⟨⟨_, rfl⟩, .inr ⟨_, trivial, HJX.out⟩⟩
  · have q1 : decide ((0 : Int) < (m : Int)) = false := by simp; omega
    gi_wp2
    go_end0
    refine ⟨⟨_, rfl⟩, .inl ⟨_, rfl, ?_⟩⟩
    have : npc len = i := by unfold npc at hi ⊢; omega
    rw [this]
    exact HJR.out
end Go.Proofs.Ytjejhgjdmbodiaa.PO
end
section
namespace Go.Proofs.Ytjejhgjdmbodiaa.PO
open Go.RowKit Go.Proofs.YtjejhgjdmbodiaaW.PrintWords Go.Proofs.YtjejhgjdmbodiaaW.PrintLast Go.Proofs.YtjejhgjdmbodiaaW.PrintMore Go.Proofs.Ytjejhgjdmbodiaa.XW
open Go.Proofs.Ytjejhgjdmbodiaa.XRange
set_option linter.unusedVariables false
set_option linter.unusedSimpArgs false
structure OutD where
 fr : ByteArray
 tw : ByteArray
 ct : ByteArray
 se : Int
 l : List S74
def headO (d : OutD) : Bool := isNameB d.fr && isNameB d.tw && decide (d.fr ≠ d.tw) && decide (1 ≤ d.ct.size) && decide (d.ct.size ≤ 32) && decide (1 ≤ d.se) && decide (d.se ≤ 1152921504606846976) && decide (d.l.length ≤ 512)
def okOut (d : OutD) : Bool := headO d && !d.l.any (badO d.ct)
theorem headO_parts {d : OutD} (h : headO d = true) : isNameB d.fr = true ∧ isNameB d.tw = true ∧ ¬ d.fr.toList = d.tw.toList ∧ ¬ d.ct.toList = [] ∧ (d.ct.size : Int) ≤ 32 ∧ 1 ≤ d.se ∧ d.se ≤ 1152921504606846976 ∧ d.l.length ≤ 512 := by
 unfold headO at h
 simp only [Bool.and_eq_true, decide_eq_true_eq] at h
 obtain ⟨⟨⟨⟨⟨⟨⟨h1, h2⟩, h3⟩, h4⟩, h5⟩, h6⟩, h7⟩, h8⟩ := h
 exact ⟨h1, h2, fun h => h3 (bytes_inj h), fun h => by have := nil_size.1 h; omega, by omega, h6, h7, h8⟩
theorem headO_true {d : OutD} (h1 : isNameB d.fr = true) (h2 : isNameB d.tw = true) (h3 : ¬ d.fr.toList = d.tw.toList) (h4 : ¬ d.ct.toList = []) (h5 : (d.ct.size : Int) ≤ 32) (h6 : 1 ≤ d.se) (h7 : d.se ≤ 1152921504606846976) (h8 : d.l.length ≤ 512) : headO d = true := by
 have h3' : d.fr ≠ d.tw := fun h => h3 (by rw [h])
 have h4' : 1 ≤ d.ct.size := by
  rcases Nat.eq_zero_or_pos d.ct.size with h | h
  · exact absurd (nil_size.2 h) h4
  · exact h
 unfold headO
 simp [h1, h2, h3', h4', h6, h7, h8]
 omega
abbrev outCells (d : OutD) (P : Option Addr) (m c : Nat) (ack : Int) : Array Value := #[.int .i64 2, .string d.fr, .string d.tw, .string d.ct, .int .i64 d.se, .int .i64 0, .int .i64 0, .slice none 0 0, .slice none 0 0, .slice P m c, .int .i64 ack]
def pcs (b n : Nat) (xs : List Nat) : List (List Value) := xs.map (fun i => [offV b n i])
structure OutAt (G : Nat → Prop) (w : World) (o : Nat) (d : OutD) (ack : Int) : Prop where
 ng : ¬ G o
 ex : ∃ P c b, w.heap[o]? = some (.cells (outCells d P (npc d.l.length) c ack) 78 (0, 0)) ∧ npc d.l.length ≤ c ∧ Kd.F (Kd.raw 1) w G P (npc d.l.length) (pcs b d.l.length (List.range (npc d.l.length))) ∧ (0 < d.l.length → Kd.F k74 w G (some ⟨b, 0, none⟩) d.l.length d.l)
theorem OutAt.step {G : Nat → Prop} {w w1 : World} {o : Nat} {d : OutD} {ack : Int} (h : OutAt G w o d ack) (ho : w1.heap[o]? = w.heap[o]?) (hm : ∀ k, G k → k < w.heap.size → w1.heap[k]? = w.heap[k]?) : OutAt G w1 o d ack := by
 obtain ⟨ng, P, c, b, h1, h2, h3, h4⟩ := h
 exact ⟨ng, P, c, b, ho.trans h1, h2, Kd.F_step h3 hm, fun h => Kd.F_step (h4 h) hm⟩
theorem OutAt.lt {G : Nat → Prop} {w : World} {o : Nat} {d : OutD} {ack : Int} (h : OutAt G w o d ack) : o < w.heap.size := by
 obtain ⟨ng, P, c, b, h1, _⟩ := h
 exact blk_lt h1
theorem OutAt.below {G : Nat → Prop} {w w1 : World} {o : Nat} {d : OutD} {ack : Int} (h : OutAt G w o d ack) (hb : Below w.heap.size w w1) : OutAt G w1 o d ack :=
 h.step (hb.block o h.lt) (fun k _ hk => hb.block k hk)
theorem OutAt.acked {G : Nat → Prop} {w : World} {o : Nat} {d : OutD} {ack : Int} (h : OutAt G w o d ack) (a : Int) : OutAt G (w.setCell ⟨o, 10, none⟩ (.int .i64 a)) o d a := by
 obtain ⟨ng, P, c, b, h1, h2, h3, h4⟩ := h
 have hs : ∀ k, G k → k < w.heap.size → (w.setCell ⟨o, 10, none⟩ (.int .i64 a)).heap[k]? = w.heap[k]? := fun k hk _ => Below.heap_setCell w ⟨o, 10, none⟩ _ k (fun e => ng (by rw [← show k = o from e]; exact hk))
 exact ⟨ng, P, c, b, blk_set h1 10 _, h2, Kd.F_step h3 hs, fun h => Kd.F_step (h4 h) hs⟩
theorem badO_right {ct : ByteArray} {x : S74} (h : badO ct x = false) : x.f2 = ct ∧ rightO x = true := by
 unfold badO at h
 simp at h
 exact h
set_option maxHeartbeats 8000000 in
set_option maxRecDepth 100000 in
theorem newOutBad_calls (d : OutD) (A : Option Addr) (c : Nat) (w : World) (hc : d.l.length ≤ c) (hC : Kd.C k74 w A d.l.length d.l) (hk : okOut d = false) :
 Calls Try.prog 11 #[.string d.fr, .string d.tw, .string d.ct, .int .i64 d.se, .slice A d.l.length c] w fun e w' => e = .returned (.tuple #[.pointer none, .int .i64 2]) ∧ Below w.heap.size w w' := by
 have HC := Aside0.mk hC
 have HCL := Aside0.mk hc
 have HK := Aside0.mk hk
 have hm : d.l.length ≤ 9223372036854775807 := hC.2.1
 obtain ⟨N, hN⟩ : ∃ N, w.heap.size = N := ⟨_, rfl⟩
 clear hC hc hk
 obtain ⟨b1, h1⟩ : ∃ b, isNameB d.fr = b := ⟨_, rfl⟩
 obtain ⟨b2, h2⟩ : ∃ b, isNameB d.tw = b := ⟨_, rfl⟩
 have H1 := Aside0.mk h1
 have H2 := Aside0.mk h2
 clear h1 h2
 go_enter Try.func11, Try.ntmps11
 obtain ⟨w0, hw0⟩ : ∃ w0, w.alloc (.cells #[.string d.ct] 9) = w0 := ⟨_, rfl⟩
 have HB := Aside0.mk (show Below w.heap.size w w0 from by rw [← hw0]; exact (Below.refl _ w).alloc (Nat.le_refl _) _)
 have KX := Aside0.mk (show w0.heap[N]? = some (.cells #[.string d.ct] 9 (0, 0)) from by rw [← hw0, ← hN]; exact World.alloc_heap_new w _)
 go_wp2_with fail
 refine (vector_IsName.calls d.fr b1 _ (congrArg some H1.out)).mono ?_
 rintro e w1 ⟨rfl, hb1⟩
 have HB1 := Aside0.mk (HB.out.trans (hb1.mono HB.out.size))
 have KX1 := Aside0.mk (blk_below KX.out hb1)
 clear hb1 KX HB hw0
 cases b1 with
 | false =>
   go_wp2
   go_ret2
   exact ⟨rfl, by first | exact HB1.out | (rw [← hN]; exact HB1.out)⟩
 | true =>
   go_wp2_with fail
   refine (vector_IsName.calls d.tw b2 _ (congrArg some H2.out)).mono ?_
   rintro e w2 ⟨rfl, hb2⟩
   have HB2 := Aside0.mk (HB1.out.trans (hb2.mono HB1.out.size))
   have KX2 := Aside0.mk (blk_below KX1.out hb2)
   clear hb2 KX1 HB1
   cases b2 with
   | false =>
     go_wp2
     go_ret2
     exact ⟨rfl, by first | exact HB2.out | (rw [← hN]; exact HB2.out)⟩
   | true =>
     have n0 : w2.cell? ⟨N, 0, none⟩ = some (.string d.ct) := (blk_cell KX2.out 0).trans rfl
     by_cases q3 : d.fr.toList = d.tw.toList
     · have p3 : (d.fr.toList == d.tw.toList) = true := by simp [q3]
       go_wp2
       go_ret2
       exact ⟨rfl, by first | exact HB2.out | (rw [← hN]; exact HB2.out)⟩
     · have p3 : (d.fr.toList == d.tw.toList) = false := by simp [q3]
       have Q3 := Aside0.mk q3
       clear q3
       obtain ⟨b4, h4⟩ : ∃ b, sess_isCart.f d.ct = some b := by
        unfold sess_isCart.f
        split
        · exact ⟨_, rfl⟩
        · exact ⟨_, rfl⟩
       have H4 := Aside0.mk h4
       clear h4
       go_wp2_with fail
       refine (sess_isCart.calls d.ct b4 _ H4.out).mono ?_
       rintro e w3 ⟨rfl, hb3⟩
       have hb3 : Below w2.heap.size w2 w3 := hb3.below
       have HB3 := Aside0.mk (HB2.out.trans (hb3.mono HB2.out.size))
       have KX3 := Aside0.mk (blk_below KX2.out hb3)
       clear hb3 KX2 HB2 n0
       have n0 : w3.cell? ⟨N, 0, none⟩ = some (.string d.ct) := (blk_cell KX3.out 0).trans rfl
       cases b4 with
       | false =>
         go_wp2
         go_ret2
         exact ⟨rfl, by first | exact HB3.out | (rw [← hN]; exact HB3.out)⟩
       | true =>
         have h4 : ¬ d.ct.toList = [] ∧ (d.ct.size : Int) ≤ 32 := by
          have h := H4.out
          unfold sess_isCart.f at h
          split at h
          · cases h
          · exact ⟨by assumption, by simpa using h⟩
         by_cases hh : 1 ≤ d.se ∧ d.se ≤ 1152921504606846976 ∧ d.l.length ≤ 512
         · have HH := Aside0.mk (headO_true H1.out H2.out Q3.out h4.1 h4.2 hh.1 hh.2.1 hh.2.2)
           have p6 : decide (d.se < 1) = false := by simp; omega
           have p7 : decide ((1152921504606846976 : Int) < d.se) = false := by simp; omega
           have p8 : decide ((512 : Int) < (d.l.length : Int)) = false := by simp; omega
           have HBAD := Aside0.mk (show d.l.any (badO d.ct) = true from by have := HK.out; unfold okOut at this; rw [HH.out] at this; simpa using this)
           clear h4 hh
           go_wp2_with fail
           refine (hasBadN_calls N d.ct d.l A c _ HCL.out (Kd.C_below HC.out HB3.out) n0).mono ?_
           rw [HBAD.out]
           rintro e w4 ⟨rfl, hb4⟩
           have HB4 := Aside0.mk (HB3.out.trans (hb4.mono HB3.out.size))
           clear hb4
           go_wp2
           go_ret2
           exact ⟨rfl, by first | exact HB4.out | (rw [← hN]; exact HB4.out)⟩
         · clear h4
           go_wp2
           all_goals first
            | (go_ret2; exact ⟨rfl, by first | exact HB3.out | (rw [← hN]; exact HB3.out)⟩)
            | exact absurd ⟨by omega, by omega, by omega⟩ hh
end Go.Proofs.Ytjejhgjdmbodiaa.PO
end
section
namespace Go.Proofs.Ytjejhgjdmbodiaa.PO
open Go.RowKit Go.Proofs.YtjejhgjdmbodiaaW.PrintWords Go.Proofs.YtjejhgjdmbodiaaW.PrintLast Go.Proofs.YtjejhgjdmbodiaaW.PrintMore Go.Proofs.Ytjejhgjdmbodiaa.XW
open Go.Proofs.Ytjejhgjdmbodiaa.XRange
set_option linter.unusedVariables false
set_option linter.unusedSimpArgs false
attribute [local go_sem] Oper.semAt_some
theorem cut_calls (A : Option Addr) (n c : Nat) (w : World) : Calls Try.prog 39 #[.slice A n c] w fun e w' => e = .returned (.func (.func 70) #[] #[.pointer (some ⟨w.heap.size, 0, none⟩)]) ∧ w' = w.alloc (.cells #[.slice A n c] 22) := by
 go_enter Try.func39, Try.ntmps39
 go_wp2
 go_ret
 exact ⟨rfl, rfl⟩
def PInv (w6 : World) (o B b D : Nat) (d : OutD) (pre : List Nat) (W : World) : Prop :=
 Keeps (fun k => k = o ∨ k = B) w6 W ∧ ∃ P c, W.heap[o]? = some (.cells (outCells d P pre.length c 0) 78 (0, 0)) ∧ Kd.R (Kd.raw 1) 22 W D (fun k => k ≠ D ∧ k ≠ D + 1) (.slice P pre.length c) (pcs b d.l.length pre)
theorem PInv.keeps {w6 : World} {o B b D : Nat} {d : OutD} {pre : List Nat} {A A' : World} {M : Nat → Prop} (hD : w6.heap.size = D) (h : PInv w6 o B b D d pre A) (ho : o < D) (hB : B < D) (hk : Keeps M A A')
 (h1 : ∀ k, M k → k < D → k = B) (h2 : ∀ k, M k → D ≤ k → k = D ∨ k = D + 1) (hoB : o ≠ B) : PInv w6 o B b D d pre A' := by
 obtain ⟨hK, P, c, hO, hR⟩ := h
 have hsz := hK.size
 refine ⟨⟨hk.os.trans hK.os, hk.tape.trans hK.tape, hk.output.trans hK.output, Nat.le_trans hK.size hk.size, fun k hlt hne => ?_⟩, P, c, ?_, ?_⟩
 · refine (hk.block k (by omega) (fun hm => ?_)).trans (hK.block k hlt hne)
   exact hne (.inr (h1 k hm (by omega)))
 · exact (hk.block o (blk_lt hO) (fun hm => hoB (h1 o hm ho))).trans hO
 · refine Kd.R_mono (Kd.R_step (Kd.R_bound hR) (fun k hok hlt => hk.block k hlt (fun hm => ?_))) (fun k hk => hk.1)
   have := hok.2.1
   rcases h2 k hm this with e | e
   · exact hok.1.1 e
   · exact hok.1.2 e
theorem info22 : (Try.prog.info? 22).map (fun i => (i.zero, i.size, i.bytes)) = some (some (.slice none 0 0), 1, 24) := by kernel_rfl
theorem lit_one {w : World} {v : Value} {t : TypeId} (h1 : v.oneCell' = true) : ReadsRow (fun y c => y = [v] ∧ c = [v]) 1 (w.alloc (.cells #[v] t)) (some ⟨w.heap.size, 0, none⟩) 1 [[v]] :=
 ⟨rfl, by decide, fun _ => ⟨_, rfl, fun j p hj => by
  cases j with
  | zero =>
    simp only [List.getElem?_cons_zero, Option.some.injEq] at hj
    subst hj
    refine ⟨[v], rfl, ⟨rfl, rfl⟩, fun i u hu => ?_⟩
    cases i with
    | zero =>
      simp only [List.getElem?_cons_zero, Option.some.injEq] at hu
      subst hu
      exact (blk_cell (World.alloc_heap_new w (.cells #[v] t)) 0).trans rfl
    | succ i => simp at hu
  | succ j => simp at hj⟩⟩
set_option maxHeartbeats 8000000 in
set_option maxRecDepth 100000 in
theorem newOut_calls (d : OutD) (A : Option Addr) (c : Nat) (w : World) (hc : d.l.length ≤ c) (hC : Kd.C k74 w A d.l.length d.l) (hk : okOut d = true) :
 Calls Try.prog 11 #[.string d.fr, .string d.tw, .string d.ct, .int .i64 d.se, .slice A d.l.length c] w fun e w' => ∃ o, e = .returned (.tuple #[.pointer (some ⟨o, 0, none⟩), .int .i64 0]) ∧ OutAt (fun k => w.heap.size ≤ k ∧ k < w'.heap.size ∧ k ≠ o) w' o d 0 ∧ w.heap.size ≤ o ∧ Below w.heap.size w w' := by
 have HC := Aside0.mk hC
 have HCL := Aside0.mk hc
 have hK2 := hk
 unfold okOut at hK2
 simp only [Bool.and_eq_true, Bool.not_eq_true'] at hK2
 obtain ⟨hH, hany⟩ := hK2
 obtain ⟨z1, z2, q3, q4, q5, q6, q7, q8⟩ := headO_parts hH
 have HANY := Aside0.mk hany
 have HZ := Aside0.mk (show ∀ x, x ∈ d.l → x.f1.length ≤ 1000000 ∧ x.f6.length ≤ 1000000 from by
  intro x hx
  have hb : badO d.ct x = false := by
   have := List.any_eq_false.1 hany x hx
   simpa using this
  obtain ⟨_, h1, _, _, h6, _⟩ := rightO_all (badO_right hb).2
  have h2 := (rightS_le h1).1
  omega)
 have H1 := Aside0.mk z1
 have H2 := Aside0.mk z2
 have p3 : (d.fr.toList == d.tw.toList) = false := by simp [q3]
 have p6 : decide (d.se < 1) = false := by simp; omega
 have p7 : decide ((1152921504606846976 : Int) < d.se) = false := by simp; omega
 have p8 : decide ((512 : Int) < (d.l.length : Int)) = false := by simp; omega
 have H4 := Aside0.mk (show sess_isCart.f d.ct = some true from by unfold sess_isCart.f; simp [q4, q5])
 have HL := Aside0.mk q8
 obtain ⟨N, hN⟩ : ∃ N, w.heap.size = N := ⟨_, rfl⟩
 clear hC hc hk hH hany z1 z2 q3 q4 q5 q6 q7
 obtain ⟨w0, hw0⟩ : ∃ w0, w.alloc (.cells #[.string d.ct] 9) = w0 := ⟨_, rfl⟩
 have HB := Aside0.mk (show Below w.heap.size w w0 from by rw [← hw0]; exact (Below.refl _ w).alloc (Nat.le_refl _) _)
 have KX := Aside0.mk (show w0.heap[N]? = some (.cells #[.string d.ct] 9 (0, 0)) from by rw [← hw0, ← hN]; exact World.alloc_heap_new w _)
 refine (callsIn_wide (n := 3)).1 ?_
 refine callsIn_of_wp_marks Try.func11 rfl trivial ?_ rfl
 simp only [Try.ntmps11, List.size_toArray, List.length_cons, List.length_nil, Nat.reduceAdd, Nat.reduceSub, Array.replicate_succ, Array.replicate_zero, List.push_toArray, List.append_toArray, List.nil_append, List.cons_append]
 gi_wp2_with fail
 try rw [hw0]
 try rw [hN]
 refine ⟨trivial, (callsIn_wide.2 (vector_IsName.calls d.fr true _ (congrArg some H1.out))).mono ?_⟩
 rintro e w1 ⟨rfl, hb1⟩
 have HB1 := Aside0.mk (HB.out.trans (hb1.mono HB.out.size))
 have KX1 := Aside0.mk (blk_below KX.out hb1)
 clear hb1 KX HB hw0
 gi_wp2_with fail
 refine ⟨trivial, (callsIn_wide.2 (vector_IsName.calls d.tw true _ (congrArg some H2.out))).mono ?_⟩
 rintro e w2 ⟨rfl, hb2⟩
 have HB2 := Aside0.mk (HB1.out.trans (hb2.mono HB1.out.size))
 have KX2 := Aside0.mk (blk_below KX1.out hb2)
 clear hb2 KX1 HB1
 have n0 : w2.cell? ⟨N, 0, none⟩ = some (.string d.ct) := (blk_cell KX2.out 0).trans rfl
 gi_wp2_with fail
 refine ⟨trivial, (callsIn_wide.2 (sess_isCart.calls d.ct true _ H4.out)).mono ?_⟩
 rintro e w3 ⟨rfl, hb3⟩
 have hb3 : Below w2.heap.size w2 w3 := hb3.below
 have HB3 := Aside0.mk (HB2.out.trans (hb3.mono HB2.out.size))
 have KX3 := Aside0.mk (blk_below KX2.out hb3)
 clear hb3 KX2 HB2 n0
 have n0 : w3.cell? ⟨N, 0, none⟩ = some (.string d.ct) := (blk_cell KX3.out 0).trans rfl
 gi_wp2_with fail
 refine ⟨trivial, (callsIn_wide.2 (hasBadN_calls N d.ct d.l A c _ HCL.out (Kd.C_below HC.out HB3.out) n0)).mono ?_⟩
 rw [HANY.out]
 rintro e w4 ⟨rfl, hb4⟩
 have HB4 := Aside0.mk (HB3.out.trans (hb4.mono HB3.out.size))
 have KX4 := Aside0.mk (blk_below KX3.out hb4)
 clear hb4 KX3 HB3 n0
 have n0 : w4.cell? ⟨N, 0, none⟩ = some (.string d.ct) := (blk_cell KX4.out 0).trans rfl
 obtain ⟨o, ho⟩ : ∃ o, w4.heap.size = o := ⟨_, rfl⟩
 obtain ⟨w5, hw5⟩ : ∃ w5, (w4.alloc (.cells (outCells d none 0 0 0) 78)).alloc (.cells #[.pointer (some ⟨o, 0, none⟩)] 25) = w5 := ⟨_, rfl⟩
 have HO5 := Aside0.mk (show w5.heap[o]? = some (.cells (outCells d none 0 0 0) 78 (0, 0)) from by rw [← hw5, ← ho]; exact blk_alloc (World.alloc_heap_new w4 _) _)
 have HP5 := Aside0.mk (show w5.heap[o + 1]? = some (.cells #[.pointer (some ⟨o, 0, none⟩)] 25 (0, 0)) from by
  rw [← hw5, ← ho]
  have h := World.alloc_heap_new (w4.alloc (.cells (outCells d none 0 0 0) 78)) (.cells #[.pointer (some ⟨w4.heap.size, 0, none⟩)] 25)
  simpa using h)
 have HS5 := Aside0.mk (show w5.heap.size = o + 2 from by rw [← hw5, ← ho]; simp)
 have hb45 : Below w4.heap.size w4 w5 := by rw [← hw5]; exact ((Below.refl _ w4).alloc (Nat.le_refl _) _).alloc (by simp) _
 have HB5 := Aside0.mk (HB4.out.trans (hb45.mono HB4.out.size))
 have HNO := Aside0.mk (show w.heap.size ≤ o from by rw [← ho]; exact HB4.out.size)
 clear hb45
 gi_wp2_with fail
 first | rw [hw5] | (rw [ho] at *; rw [hw5]) | skip
 clear hw5
 refine ⟨trivial, (callsIn_wide.2 (owns_calls d.l A c w5 (Kd.C_below HC.out HB5.out) HCL.out (by have := HL.out; omega) HZ.out)).mono ?_⟩
 rintro e w6 ⟨v0, rfl, hS, hb6⟩
 obtain ⟨A6, c6, b, rfl, hc6, hA6, hF6⟩ : ∃ A6 c6 b, v0 = .slice A6 d.l.length c6 ∧ d.l.length ≤ c6 ∧ (0 < d.l.length → A6 = some ⟨b, 0, none⟩) ∧ (0 < d.l.length → Kd.F k74 w6 (fun k => w5.heap.size ≤ k ∧ k < w6.heap.size) (some ⟨b, 0, none⟩) d.l.length d.l) := by
  rcases Nat.eq_zero_or_pos d.l.length with h0 | h0
  · obtain ⟨A6, c6, rfl, hc, _⟩ := Kd.S_reads hS
    exact ⟨A6, c6, 0, rfl, hc, fun h => by omega, fun h => by omega⟩
  · obtain ⟨g, cap, rfl, hg, _⟩ := Kd.S_form hS h0
    exact ⟨_, cap, g, rfl, (Kd.S_reads' hS).2.1, fun _ => rfl, fun _ => Kd.F_mono (Kd.S_F (Kd.S_bound hS)) (fun k hk => ⟨hk.2.1, hk.2.2.1⟩)⟩
 have HA6 := Aside0.mk hA6
 have HF6 := Aside0.mk hF6
 have HC6 := Aside0.mk hc6
 have HO6 := Aside0.mk (blk_below HO5.out hb6)
 have HP6 := Aside0.mk (blk_below HP5.out hb6)
 have HB6 := Aside0.mk (HB5.out.trans (hb6.mono HB5.out.size))
 have HSZ6 := Aside0.mk (show o + 2 ≤ w6.heap.size ∧ w5.heap.size = o + 2 from ⟨by have := hb6.size; have := HS5.out; omega, HS5.out⟩)
 clear hS hb6 hA6 hF6 hc6 HO5 HP5 HB5 n0
 gi_wp2_with fail
 refine ⟨trivial, (callsIn_wide.2 (cut_calls A6 d.l.length c6 _)).mono ?_⟩
 rintro e w7 ⟨rfl, hw7⟩
 obtain ⟨B, hBe⟩ : ∃ B, w6.heap.size = B := ⟨_, rfl⟩
 have hb67 : Below w6.heap.size w6 w7 := by rw [hw7]; exact (Below.refl _ w6).alloc (Nat.le_refl _) _
 have HBB := Aside0.mk (show w7.heap[B]? = some (.cells #[.slice A6 d.l.length c6] 22 (0, 0)) from by rw [hw7, ← hBe]; exact World.alloc_heap_new w6 _)
 have HO7 := Aside0.mk (blk_below HO6.out hb67)
 have HP7 := Aside0.mk (blk_below HP6.out hb67)
 have HB7 := Aside0.mk (HB6.out.trans (hb67.mono HB6.out.size))
 have HF7 := Aside0.mk (show 0 < d.l.length → Kd.F k74 w7 (fun k => o + 2 ≤ k ∧ k < B) (some ⟨b, 0, none⟩) d.l.length d.l from fun h => by
  have h1 := HF6.out h
  rw [HSZ6.out.2, hBe] at h1
  exact Kd.F_below h1 hb67)
 obtain ⟨D, hD⟩ : ∃ D, w7.heap.size = D := ⟨_, rfl⟩
 have HD := Aside0.mk (show D = B + 1 ∧ o + 2 ≤ B ∧ w7.heap.size = D from ⟨by rw [← hD, hw7, ← hBe]; simp, by rw [← hBe]; exact HSZ6.out.1, hD⟩)
 rw [hBe]
 clear hw7 hb67 hD HO6 HP6 HB6 HF6 HSZ6 HS5
 have hDD := HD.out
 have hno := HNO.out
 gi_wp2_with fail
 refine range_law (gf := 70) rfl (enters_of Try.func70 (by kernel_rfl) rfl)
  (cut1_seq 2 b B d.l.length c6 A6 w7 HBB.out HA6.out HC6.out (by have := HL.out; omega))
  (fun _ => rfl) (fun k hk => by omega) (fun k hk => by omega)
  (PInv w7 o B b D d) (fun _ _ _ => False)
  (fun s X X' h hk => PInv.keeps hDD.2.2 h (by omega) (by omega) hk (fun k hk _ => hk) (fun k hk h => by omega) (by omega)) (fun c s X X' h _ => h)
  (fun s X X' h hk => PInv.keeps hDD.2.2 h (by omega) (by omega) hk (fun k hk h => by omega) (fun k hk h => by omega) (by omega)) (fun c s X X' h _ => h)
  ⟨Keeps.refl _ _, none, 0, HO7.out, Kd.R_nil _ _ _ _ _⟩ ?round ?done ?stop
 case stop => exact fun c pre W _ h => h.elim
 case round =>
  rintro pre x W hI hlen hsz
  have HPL := Aside0.mk hlen
  have HSZ := Aside0.mk hsz
  clear hI hlen hsz
  gi_wp2_with fail
  refine ⟨Keeps.refl _ _, fun Wb hkb hib => ?_⟩
  have hsb := hkb.size
  have hsz := HSZ.out
  clear hkb
  obtain ⟨hK, P, cc, hO, hR⟩ := hib
  have hPP : Wb.heap[o + 1]? = some (.cells #[.pointer (some ⟨o, 0, none⟩)] 25 (0, 0)) := (hK.block (o + 1) (by omega) (by omega)).trans HP7.out
  have HK := Aside0.mk hK
  have HR := Aside0.mk hR
  have HOb := Aside0.mk hO
  have HPb := Aside0.mk hPP
  clear hK hR hO hPP
  try gi_wp2_with fail
  have e9 : ∀ w' : World, w'.heap[o]? = Wb.heap[o]? → w'.cell? ⟨o, 9, none⟩ = some (.slice P pre.length cc) := fun w' h => (blk_cell (h.trans HOb.out) 9).trans rfl
  have ep : ∀ w' : World, w'.heap[o + 1]? = Wb.heap[o + 1]? → w'.cell? ⟨o + 1, 0, none⟩ = some (.pointer (some ⟨o, 0, none⟩)) := fun w' h => (blk_cell (h.trans HPb.out) 0).trans rfl
  have EP := Aside0.mk ep
  have E9 := Aside0.mk e9
  have hoW : o + 1 < Wb.heap.size := by omega
  clear ep e9
  obtain ⟨AD, K1, hov⟩ : ∃ AD K1, offV b d.l.length x = .slice (some AD) K1 K1 := ⟨_, _, rfl⟩
  have HOV := Aside0.mk hov
  rw [hov]
  clear hov
  refine XRnd.startR_ (k := 11) (ds := [10]) (S := fun w' => w'.cell? ⟨o + 1, 0, none⟩ = some (.pointer (some ⟨o, 0, none⟩)) ∧ w'.cell? ⟨o, 9, none⟩ = some (.slice P pre.length cc)) _ (by kernel_rfl) rfl rfl (by kernel_rfl) (by rintro ⟨_, _, h⟩; exact h)
   ⟨EP.out _ rfl, E9.out _ rfl⟩ (fun hH => ?_)
  refine XReg.tk 0 59 (h := ?_)
  refine XReg.tk 1 60 (h := ?_)
  refine XReg.pu 2 61 (h := ?_)
  refine XReg.pu 3 62 (h := ?_)
  refine XReg.tk 4 63 (h := ?_)
  refine XReg.pu 5 64 (h := ?_)
  refine XReg.one (i := 6) (some 65) rfl rfl (by kernel_rfl) (by decide) (fun Kc hKc => ?_)
  go_simp
  refine hKc.out _ _ ⟨EP.out _ (((Below.refl _ Wb).alloc (Nat.le_refl _) _).block _ (by omega)), E9.out _ (((Below.refl _ Wb).alloc (Nat.le_refl _) _).block _ (by omega))⟩ (fun hH2 => ?_)
  clear hKc Kc hH hH2
  refine XReg.one (i := 7) (some 66) rfl rfl (by kernel_rfl) (by decide) (fun Kc hKc => ?_)
  obtain ⟨wa, hwa⟩ : ∃ wa, (Wb.alloc (.cells #[.slice (some AD) K1 K1] 22)).drew = wa := ⟨_, rfl⟩
  have hba : Below Wb.heap.size Wb wa := by rw [← hwa]; exact below_drew1 ((Below.refl _ Wb).alloc (Nat.le_refl _) _)
  have hla : ReadsRow (fun y c => y = [Value.slice (some AD) K1 K1] ∧ c = [Value.slice (some AD) K1 K1]) 1 wa (some ⟨Wb.heap.size, 0, none⟩) 1 [[.slice (some AD) K1 K1]] := by rw [← hwa]; exact lit_one rfl
  have hsa : wa.heap.size = Wb.heap.size + 1 := by rw [← hwa]; simp
  rw [hwa]
  clear hwa
  have hRa := Kd.R_below HR.out hba
  have hob : ∀ k, (Value.slice P pre.length cc).ownBlock = some k → D ≤ k := fun k hk => by
   rcases Kd.R_base2 HR.out with h | ⟨j, h, hj⟩
   · rw [h] at hk; cases hk
   · rw [h] at hk; cases hk; exact hj
  have hon : some o ≠ (Value.slice P pre.length cc).ownBlock ∧ some (o + 1) ≠ (Value.slice P pre.length cc).ownBlock ∧ some B ≠ (Value.slice P pre.length cc).ownBlock := ⟨fun h => by have := hob _ h.symm; omega, fun h => by have := hob _ h.symm; omega, fun h => by have := hob _ h.symm; omega⟩
  have hod : some D ≠ (Value.slice P pre.length cc).ownBlock ∧ some (D + 1) ≠ (Value.slice P pre.length cc).ownBlock := ⟨fun h => (HR.out.1 _ h.symm).1 rfl, fun h => (HR.out.1 _ h.symm).2 rfl⟩
  refine Kd.R_append_rows_step (Kd.raw 1) (Rr := fun y c => y = [Value.slice (some AD) K1 K1] ∧ c = [Value.slice (some AD) K1 K1]) (w0 := wa) D (by rfl) (.tmp 63) (.tmp 65) 76 22 (.slice none 0 0) 24 rfl Try.underlying76 info22 rfl (by show 0 < 1; omega) (by omega) _ (pcs b d.l.length pre) [[.slice (some AD) K1 K1]] (some ⟨Wb.heap.size, 0, none⟩) 1 1
   (fun k => k ≠ D ∧ k ≠ D + 1) (fun _ => False) rfl rfl hRa hla (fun y c hyc => by obtain ⟨rfl, rfl⟩ := hyc; exact ⟨rfl, rfl, fun u hu => by simp at hu; subst hu; rfl⟩) (fun _ h => h.elim) (fun k hk => ⟨by omega, by omega⟩) (Below.refl _ _) (by omega) (by
    have h1 : (pcs b d.l.length pre).length = pre.length := by simp [pcs]
    have h2 := HPL.out
    have h3 := HL.out
    unfold npc at h2
    omega) (fun v1 wc hr4 _ hg4 hat4 => ?_)
  change Kc (Act.put _ (some 66) v1) wc
  simp only [Act.put, List.setIfInBounds_toArray, List.set_cons_zero, List.set_cons_succ]
  have hkb : ∀ k, k < Wb.heap.size → some k ≠ (Value.slice P pre.length cc).ownBlock → wc.heap[k]? = Wb.heap[k]? := fun k h1 h2 => (hg4.block k (by omega) h2).trans (hba.block k h1)
  have hbo := hkb o (by omega) hon.1
  have HBO := Aside0.mk hbo
  have HKB := Aside0.mk hkb
  have HR4 := Aside0.mk hr4
  have hszc : Wb.heap.size ≤ wc.heap.size := Nat.le_trans hba.size hg4.size
  have HOS := Aside0.mk (show wc.os = Wb.os ∧ wc.tape = Wb.tape ∧ wc.output = Wb.output from ⟨hg4.os.trans hba.os, hg4.tape.trans hba.tape, hg4.output.trans hba.output⟩)
  refine hKc.out _ _ ⟨EP.out _ (hkb (o + 1) (by omega) hon.2.1), E9.out _ hbo⟩ (fun hH2 => ?_)
  obtain ⟨A1, c1, hv1⟩ := Kd.R_slice hr4
  have c9 : wc.cell? ⟨o, 9, none⟩ = some (.slice P pre.length cc) := E9.out _ hbo
  have f9 : wc.frozen? ⟨o, 9, none⟩ = false := blk_frozen (hbo.trans HOb.out) 9
  clear hKc Kc hH2 hla hRa hr4 hat4 hg4 hbo hkb hba
  refine XReg.pu 8 67 (h := ?_)
  refine XReg.pu 9 68 (h := ?_)
  refine XReg.last (i := 10) none rfl rfl (by kernel_rfl) (by decide) (fun Kc hKc => ?_)
  subst hv1
  refine store_last rfl rfl (by first | (go_simp; done) | (go_simp; rfl)) ?_
  refine hKc.out _ _ ?_
  clear hKc Kc
  refine done_ (by kernel_rfl) ?_
  gi_wp2_with fail
  have hB := HD.out
  have hll : (pcs b d.l.length pre).length + 1 = (pre ++ [x]).length := by simp [pcs]
  rw [hll]
  obtain ⟨w9, hw9⟩ : ∃ w9, wc.setCell ⟨o, 9, none⟩ (.slice A1 (pre ++ [x]).length c1) = w9 := ⟨_, rfl⟩
  have hset : ∀ k, k ≠ o → w9.heap[k]? = wc.heap[k]? := fun k hk => by rw [← hw9]; exact Below.heap_setCell wc ⟨o, 9, none⟩ _ k hk
  have hsz9 : Wb.heap.size ≤ w9.heap.size := by rw [← hw9]; simpa [World.setCell] using hszc
  have hos9 : w9.os = wc.os ∧ w9.tape = wc.tape ∧ w9.output = wc.output := by rw [← hw9]; exact ⟨rfl, rfl, rfl⟩
  have hblk9 : w9.heap[o]? = some (.cells (outCells d A1 (pre ++ [x]).length c1 0) 78 (0, 0)) := by rw [← hw9]; exact blk_set (HBO.out.trans HOb.out) 9 _
  have hR9 := Kd.R_far (p := ⟨o, 9, none⟩) (Kd.R_bound HR4.out) (fun k hk => by have := hk.2.1; show k ≠ o; omega) (.slice A1 (pre ++ [x]).length c1)
  rw [hw9] at hR9
  rw [hw9]
  have hkp : ∀ k, k < Wb.heap.size → k ≠ o → some k ≠ (Value.slice P pre.length cc).ownBlock → w9.heap[k]? = Wb.heap[k]? := fun k h1 h2 h3 => (hset k h2).trans (HKB.out k h1 h3)
  refine ⟨⟨hsz9, ?_⟩, ⟨hsz9, ?_⟩, ?_⟩
  · rintro k (rfl | rfl)
    · exact hkp _ (by omega) (by omega) (by rw [hB.2.2]; exact hod.2)
    · exact hkp _ (by omega) (by omega) (by rw [hB.2.2]; exact hod.1)
  · rintro k rfl
    exact hkp _ (by omega) (by omega) hon.2.2
  · refine ⟨⟨hos9.1.trans (HOS.out.1.trans HK.out.os), hos9.2.1.trans (HOS.out.2.1.trans HK.out.tape), hos9.2.2.trans (HOS.out.2.2.trans HK.out.output), Nat.le_trans HK.out.size hsz9, fun k hlt hne => ?_⟩, A1, c1, hblk9, ?_⟩
    · refine (hkp k (by have := HK.out.size; omega) (fun e => hne (.inl e)) (fun e => ?_)).trans (HK.out.block k hlt hne)
      have := hob k e.symm
      omega
    · have hp : pcs b d.l.length (pre ++ [x]) = pcs b d.l.length pre ++ [[.slice (some AD) K1 K1]] := by rw [← HOV.out]; simp [pcs]
      rw [hp]
      have hl2 : (pcs b d.l.length pre ++ [[Value.slice (some AD) K1 K1]]).length = (pre ++ [x]).length := by simp [pcs]
      rw [hl2] at hR9
      exact Kd.R_mono hR9 (fun k hk => hk.1)
 case done =>
  rintro xs W rfl hI hsz hdf
  obtain ⟨hK, P, cc, hO, hR⟩ := hI
  have hPP : W.heap[o + 1]? = some (.cells #[.pointer (some ⟨o, 0, none⟩)] 25 (0, 0)) := (hK.block (o + 1) (by omega) (by omega)).trans HP7.out
  have e0 : W.cell? ⟨o + 1, 0, none⟩ = some (.pointer (some ⟨o, 0, none⟩)) := (blk_cell hPP 0).trans rfl
  have HK := Aside0.mk hK
  have HR := Aside0.mk hR
  have HOb := Aside0.mk hO
  have HDF := Aside0.mk hdf
  have HSZ := Aside0.mk hsz
  clear hK hR hO hPP hdf hsz
  gi_wp2
  have hsz := HSZ.out
  have hk9 := keeps_putObj (fun k => k = w7.heap.size) W w7.heap.size (.deferred none) rfl
  obtain ⟨W9, hW9⟩ : ∃ W9, W.putObj w7.heap.size (.deferred none) = W9 := ⟨_, rfl⟩
  have hs9 : W9.heap.size = W.heap.size := by rw [← hW9]; simp
  refine leave_mark HDF.out ?_
  rw [hW9] at hk9 ⊢
  have hw7 : w.heap.size ≤ w7.heap.size := HB7.out.size
  refine ⟨.tuple #[.pointer (some ⟨o, 0, none⟩), .int .i64 0], by simp [results, Try.f11, go_sem], o, rfl, ⟨fun h => h.2.2 rfl, P, cc, b, ?_, ?_, ?_, fun h => ?_⟩, hno, ?_⟩
  · have h1 := HOb.out
    rw [List.length_range] at h1
    exact (hk9.block o (blk_lt h1) (by omega)).trans h1
  · have h1 := (Kd.R_reads' HR.out).2.1
    rwa [List.length_range] at h1
  · have h1 := Kd.R_F (Kd.R_bound HR.out)
    rw [List.length_range] at h1
    exact Kd.F_mono (Kd.F_step h1 (fun k hk hlt => hk9.block k hlt (by have := hk.1.1; omega))) (fun k hk => ⟨by have := hk.2.1; omega, by have := hk.2.2.1; omega, by have := hk.2.1; omega⟩)
  · have h1 := Kd.F_step (HF7.out h) (fun k hk hlt => HK.out.block k hlt (by omega))
    exact Kd.F_mono (Kd.F_step h1 (fun k hk hlt => hk9.block k hlt (by omega))) (fun k hk => ⟨by omega, by omega, by omega⟩)
  · exact below_keeps (below_keeps HB7.out (fun m hm => by omega) hw7 HK.out) (fun m hm => by omega) (by omega) hk9
end Go.Proofs.Ytjejhgjdmbodiaa.PO
end
