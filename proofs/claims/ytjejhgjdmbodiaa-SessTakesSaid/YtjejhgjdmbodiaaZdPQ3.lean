/- What the rows of this claim use, out of the texts of this work (PQ3, SA, SB, SC, SF). No condition beyond those that each statement names. -/
import Derived.Test.YtjejhgjdmbodiaaZdUPOx10
import Derived.Test.YtjejhgjdmbodiaaZdUOJ
import Derived.Test.YtjejhgjdmbodiaaZdUOV
import Derived.Test.YtjejhgjdmbodiaaZdUPOx0
import Derived.Test.YtjejhgjdmbodiaaZdPQ2
import Derived.Test.YtjejhgjdmbodiaaZdX
section
namespace Go.Proofs.Ytjejhgjdmbodiaa.PO
open Go.RowKit Go.Proofs.YtjejhgjdmbodiaaW.PrintWords Go.Proofs.YtjejhgjdmbodiaaW.PrintLast Go.Proofs.YtjejhgjdmbodiaaW.PrintMore
attribute [local go_sem] max2_int min2_int max_two min_two max_three min_three max_four min_four   -- for this text's walks alone
set_option linter.unusedVariables false
set_option linter.unusedSimpArgs false
def pannierlaw16_list.l0 : Nat → Int → List (S74) → Int → Option ((List (S74)))
 | 0, _, _, _ => none
 | k + 1, x0, x3, x4 => if x4 < x0 then ((pannierlaw16_made.f (wrap64 (x4 + 1))).bind fun bt144 => (if x3.length < 1172812402961 then (pannierlaw16_list.l0 k x0 (x3 ++ [(⟨(⟨bt144.1, bt144.2.1⟩ : S72), bt144.2.2.1, bt144.2.2.2.1, bt144.2.2.2.2.1, bt144.2.2.2.2.2.1, bt144.2.2.2.2.2.2.1, bt144.2.2.2.2.2.2.2⟩ : S74)]) (wrap64 (x4 + 1))) else (none))) else (some x3)
def pannierlaw16_list.f (k : Nat) (a0 : Int) : Option ((List (S74))) := pannierlaw16_list.l0 k a0 ([] : List (S74)) 0
set_option maxHeartbeats 8000000 in
set_option maxRecDepth 100000 in
theorem pannierlaw16_list.calls (k : Nat) (a0 : Int) (r : List (S74)) (w : World) (h : pannierlaw16_list.f k a0 = some r) :
 Calls Try.prog 19 #[.int .i64 a0] w fun e w' => ∃ v0_ : Value, e = .returned (v0_) ∧ Kd.S k74 74 w' w.heap.size (fun _ => True) v0_ r ∧ Below w.heap.size w w' := by
 have HB := Aside0.mk (Below.refl w.heap.size w)
 have H : (pannierlaw16_list.l0 k a0 ([] : List (S74)) 0) = some r := h
 clear h
 have H' := Aside0.mk H
 clear H
 go_enter Try.func19, Try.ntmps19
 go_wp2
 go_loopg [3, 4] k (fun kq v3 v4 w' => ∃ (x3_1 : List (S74)) (x4_1 : Int), v4 = .int .i64 x4_1 ∧ Aside0 (pannierlaw16_list.l0 kq a0 x3_1 x4_1 = some r) ∧ Aside0 (kq ≤ k) ∧ Aside0 (Kd.S k74 74 w' w.heap.size (fun _ => True) v3 x3_1) ∧ Aside0 (Below w.heap.size w w'))
 case atStart => exact ⟨(([] : List (S74))), (0), (by first | rfl | (simp; done) | (simp [*]; done)), H', ⟨Nat.le_refl _⟩, ⟨by first | exact Kd.S_nil _ _ _ _ _ | exact Kd.N_nil _ _ _ _ _ | exact Kd.V_nil _ _ _ _ _ | exact Kd.Q_nil _ _ _ _ _ | exact Kd.R_nil _ _ _ _ _⟩, ⟨by repeat (first | (with_reducible first | exact HB.out | apply below_alloc | apply pw_below_drewN | apply below_drew1) | exact HB.out)⟩⟩
 case round =>
  clear H'
  try clear c1
  obtain ⟨x3_1, x4_1, rfl, HA, HK1, HO_3, HB⟩ := hrel
  cases gk with
  | zero => exact absurd HA.out (by simp [pannierlaw16_list.l0])
  | succ k1 =>
   have H := HA.out
   clear HA
   simp only [pannierlaw16_list.l0] at H
   by_cases c2 : x4_1 < a0
   · rw [if_pos c2] at H
     have c2b0 : decide (x4_1 < a0) = true := decide_eq_true c2
     clear c2
     replace H := Option.bind_eq_some_iff.mp H
     obtain ⟨⟨t144, t145, t146, t149, t150, t151, t152, t153⟩, A30, H⟩ := H
     replace H : (if x3_1.length < 1172812402961 then (pannierlaw16_list.l0 k1 a0 (x3_1 ++ [(⟨(⟨t144, t145⟩ : S72), t146, t149, t150, t151, t152, t153⟩ : S74)]) (wrap64 (x4_1 + 1))) else (none)) = some r := H
     have A3 := Aside0.mk A30
     clear A30
     by_cases c4 : x3_1.length < 1172812402961
     · rw [if_pos c4] at H
       have LMc4 := Aside0.mk c4
       clear c4
       obtain ⟨y156, hy156⟩ : ∃ y_ : List (S74), y_ = (x3_1 ++ [(⟨(⟨t144, t145⟩ : S72), t146, t149, t150, t151, t152, t153⟩ : S74)]) := ⟨_, rfl⟩
       replace H : (pannierlaw16_list.l0 k1 a0 y156 (wrap64 (x4_1 + 1))) = some r := by first | (rw [hy156]; with_reducible exact H) | (have H2_ := (Option.bind_some _ _).symm.trans H; rw [hy156]; with_reducible exact H2_) | (have H2_ := (Option.bind_some _ _).symm.trans H; with_reducible exact H2_) | with_reducible exact H | (rw [hy156]; exact H) | exact H
       have Ny156 := Aside0.mk hy156
       clear hy156
       have H' := Aside0.mk H
       clear H
       go_wp2_with (first | ((with_reducible refine gate_callee (f := 48) rfl ?_); refine goesL_ (some 13) rfl rfl Try.func48 (by kernel_rfl) rfl #[.int .i64 (wrap64 (x4_1 + 1))] rfl (by (try simp only [List.map_toArray, List.map_cons, List.map_nil]); first | done | rfl | (simp only [List.length_drop, List.length_take]; rfl)) ?_; (with_reducible refine (pannierlaw16_made.calls (wrap64 (x4_1 + 1)) t144 t145 t146 t149 t150 t151 t152 t153 _ A3.out).mono ?_); rintro e w5 ⟨v147, v154, rfl, ho0, ho1, hb⟩; refine ⟨_, rfl, ?_⟩; have n0_ := Aside0.mk (Kd.S_mono (Kd.S_told (Kd.S_told (Kd.S_old (by (with_reducible repeat (first | apply Kd.S_alloc | apply Kd.S_drewN | apply Kd.S_drew)); exact HO_3.out) hb) (Kd.R_base ho0)) (Kd.R_base ho1)) (fun _ h_ => h_.1)); have n1_ := Aside0.mk (Kd.R_lower ho0 (below_size (by repeat (first | (with_reducible first | exact HB.out | apply below_alloc | apply pw_below_drewN | apply below_drew1) | exact HB.out)))); have n2_ := Aside0.mk (Kd.R_lower ho1 (below_size (by repeat (first | (with_reducible first | exact HB.out | apply below_alloc | apply pw_below_drewN | apply below_drew1) | exact HB.out)))); have n3_ := Aside0.mk (below_step (by repeat (first | (with_reducible first | exact HB.out | apply below_alloc | apply pw_below_drewN | apply below_drew1) | exact HB.out)) hb); clear HO_3; clear HB; have HO_3 := n0_; have HO148 := n1_; have HO155 := n2_; have HB := n3_; clear n0_ n1_ n2_ n3_; (try clear hb); (try clear hb2); (try clear hk); (try clear hi); (try clear ho0); (try clear ho1); obtain ⟨Ao7, co7, eo7⟩ := Kd.R_slice HO148.out; subst eo7; obtain ⟨Ao8, co8, eo8⟩ := Kd.R_slice HO155.out; subst eo8) | ((with_reducible refine gate_builtin (b := .append) (xs := #[.tmp 10, .tmp 14]) rfl ?_); at_builtin; refine Kd.S_append k74 (w0 := w) w.heap.size rfl (.tmp 10) (.tmp 14) 22 74 (.agg #[(.string ⟨#[]⟩), (.int .i64 0), (.slice none 0 0), (.string ⟨#[]⟩), (.int .i64 0), (.string ⟨#[]⟩), (.int .i64 0), (.slice none 0 0)]) 120 rfl Try.underlying22 info74 rfl (by decide) (by omega) u3 x3_1 (⟨(⟨t144, t145⟩ : S72), t146, t149, t150, t151, t152, t153⟩ : S74) [.string t144, .int .i64 t145, .slice Ao7 t146.length co7, .string t149, .int .i64 t150, .string t151, .int .i64 t152, .slice Ao8 t153.length co8] (fun _ => True) (fun k_ => some k_ = (.slice Ao7 t146.length co7 : Value).ownBlock ∨ some k_ = (.slice Ao8 t153.length co8 : Value).ownBlock) rfl rfl ?aP (fun k_ hk_ => hk_.elim (fun h_ => ((Kd.R_mono (ok' := fun k_ => ((fun _ => True)) k_ ∧ some k_ ≠ (u3 : Value).ownBlock) (Kd.R_apart' (HO148.out) (Kd.S_typed HO_3.out) (by decide)) (fun k_ hk => ⟨trivial, hk.2⟩))).1 k_ h_.symm) (fun h_ => ((Kd.R_mono (ok' := fun k_ => ((fun _ => True)) k_ ∧ some k_ ≠ (u3 : Value).ownBlock) (Kd.R_apart' (HO155.out) (Kd.S_typed HO_3.out) (by decide)) (fun k_ hk => ⟨trivial, hk.2⟩))).1 k_ h_.symm)) ?aF ?aO ?aB ?aS ?aL ?_; (case aP => exact k74_mkM _ _ _ (⟨(⟨t144, t145⟩ : S72), t146, t149, t150, t151, t152, t153⟩ : S74) (Kd.R_mono (Kd.R_tight rfl (Kd.R_mono (ok' := fun k_ => ((fun _ => True)) k_ ∧ some k_ ≠ (u3 : Value).ownBlock) (Kd.R_apart' (HO148.out) (Kd.S_typed HO_3.out) (by decide)) (fun k_ hk => ⟨trivial, hk.2⟩))) (fun _ h_ => Or.inl h_)) (Kd.R_mono (Kd.R_tight rfl (Kd.R_mono (ok' := fun k_ => ((fun _ => True)) k_ ∧ some k_ ≠ (u3 : Value).ownBlock) (Kd.R_apart' (HO155.out) (Kd.S_typed HO_3.out) (by decide)) (fun k_ hk => ⟨trivial, hk.2⟩))) (fun _ h_ => Or.inr (h_)))); (case aB => exact (by repeat (first | (with_reducible first | exact HB.out | apply below_alloc | apply pw_below_drewN | apply below_drew1) | exact HB.out))); (case aF => exact (fun _ _ => trivial)); (case aO => exact (by (with_reducible repeat (first | apply Kd.S_alloc | apply Kd.S_drewN | apply Kd.S_drew)); exact Kd.S_mono HO_3.out (fun k_ hk => ⟨trivial, fun e_ => e_.elim (fun h_ => hk.1.2 h_) (fun h_ => hk.2 h_)⟩))); (case aS => exact (below_size (by repeat (first | (with_reducible first | exact HB.out | apply below_alloc | apply pw_below_drewN | apply below_drew1) | exact HB.out)))); (case aL => have := LMc4.out; omega); intro v157 w6 ho hb hg hat; rw [← Ny156.out] at ho; have n0_ := Aside0.mk (hb); have n1_ := Aside0.mk (ho); clear HB; clear HO_3; clear HO148; clear HO155; have HB := n0_; have HO158 := n1_; clear n0_ n1_; clear ho hb hg hat))
       go_roundg k1
       case measure => have := HK1.out; omega
       case rel => exact ⟨(y156), (wrap64 (x4_1 + 1)), (by first | rfl | (simp; done) | (simp [*]; done)), H', ⟨by have := HK1.out; omega⟩, ⟨by (with_reducible repeat (first | apply Kd.S_alloc | apply Kd.S_drewN | apply Kd.S_drew)); exact HO158.out⟩, ⟨by repeat (first | (with_reducible first | exact HB.out | apply below_alloc | apply pw_below_drewN | apply below_drew1) | exact HB.out)⟩⟩
     · rw [if_neg c4] at H
       exact absurd H (by simp)
   · rw [if_neg c2] at H
     have c2b0 : decide (x4_1 < a0) = false := decide_eq_false c2
     clear c2
     obtain rfl := Option.some.inj H
     go_wp2
     go_ret
     exact ⟨_, by first | rfl | (simp [errW_none, errW_some] <;> rfl) | (simp [*, errW_none, errW_some] <;> rfl), by (with_reducible repeat (first | apply Kd.S_alloc | apply Kd.S_drewN | apply Kd.S_drew)); exact HO_3.out, by repeat (first | (with_reducible first | exact HB.out | apply below_alloc | apply pw_below_drewN | apply below_drew1) | exact HB.out)⟩
end Go.Proofs.Ytjejhgjdmbodiaa.PO
end
section
namespace Go.Proofs.Ytjejhgjdmbodiaa.PO
open Go.RowKit Go.Proofs.YtjejhgjdmbodiaaW.PrintWords Go.Proofs.YtjejhgjdmbodiaaW.PrintLast Go.Proofs.YtjejhgjdmbodiaaW.PrintMore Go.Proofs.Ytjejhgjdmbodiaa.XW
open Go.Proofs.Ytjejhgjdmbodiaa.XRange
set_option linter.unusedVariables false
set_option linter.unusedSimpArgs false
theorem rd74_eq (l : List S74) (i : Nat) (h : i < l.length) : rd_T74 l (i : Int) = l[i] := by
 simp [rd_T74, List.getD, h]
theorem owns_l0 (l : List S74) (hl : l.length ≤ 1000000000) (hz : ∀ x, x ∈ l → x.f1.length ≤ 1000000 ∧ x.f6.length ≤ 1000000) : ∀ (k i : Nat), i ≤ l.length → l.length - i < k → sess_owns.l0 k (l.take i) l (l.length : Int) (i : Int) = some l := by
 intro k
 induction k with
 | zero => intro i _ h; omega
 | succ k ih =>
   intro i hi hk
   unfold sess_owns.l0
   by_cases hlt : i < l.length
   · have hx := rd74_eq l i hlt
     obtain ⟨z1, z6⟩ := hz _ (List.getElem_mem hlt)
     rw [if_pos (by omega), if_pos (by omega), if_pos (by omega), hx]
     have ho : sess_own.f l[i].f0.f0 l[i].f0.f1 l[i].f1 l[i].f2 l[i].f3 l[i].f4 l[i].f5 l[i].f6 = some (l[i].f0.f0, l[i].f0.f1, l[i].f1, l[i].f2, l[i].f3, l[i].f4, l[i].f5, l[i].f6) := by
      unfold sess_own.f api_Dot.f
      rw [if_pos (by omega), if_pos (by omega)]
      rfl
     rw [ho, Option.bind_some, if_pos (by rw [List.length_take]; omega)]
     have e : l.take i ++ [(⟨⟨l[i].f0.f0, l[i].f0.f1⟩, l[i].f1, l[i].f2, l[i].f3, l[i].f4, l[i].f5, l[i].f6⟩ : S74)] = l.take (i + 1) := by
      rw [List.take_succ_eq_append_getElem hlt]
     have e2 : wrap64 ((i : Int) + 1) = ((i + 1 : Nat) : Int) := by rw [w_id (by omega)]; rfl
     show sess_owns.l0 k (l.take i ++ [(⟨⟨l[i].f0.f0, l[i].f0.f1⟩, l[i].f1, l[i].f2, l[i].f3, l[i].f4, l[i].f5, l[i].f6⟩ : S74)]) l _ (wrap64 ((i : Int) + 1)) = some l
     rw [e, e2]
     exact ih (i + 1) (by omega) (by omega)
   · rw [if_neg (by omega), List.take_of_length_le (by omega)]
theorem owns_f (l : List S74) (hl : l.length ≤ 1000000000) (hz : ∀ x, x ∈ l → x.f1.length ≤ 1000000 ∧ x.f6.length ≤ 1000000) : sess_owns.f (l.length + 1) l = some l :=
 owns_l0 l hl hz (l.length + 1) 0 (by omega) (by omega)
theorem owns_calls (l : List S74) (A : Option Addr) (c : Nat) (w : World) (hC : Kd.C k74 w A l.length l) (hc : l.length ≤ c) (hl : l.length ≤ 1000000000) (hz : ∀ x, x ∈ l → x.f1.length ≤ 1000000 ∧ x.f6.length ≤ 1000000) :
 Calls Try.prog 40 #[.slice A l.length c] w fun e w' => ∃ v0_ : Value, e = .returned v0_ ∧ Kd.S k74 74 w' w.heap.size (fun _ => True) v0_ l ∧ Below w.heap.size w w' :=
 sess_owns.calls (l.length + 1) A c l l w hC hc (owns_f l hl hz)
def bA : ByteArray := ⟨#[97]⟩
def bC : ByteArray := ⟨#[99]⟩
def bI : ByteArray := ⟨#[105]⟩
def madeO (n : Int) : S74 := ⟨⟨bA, n⟩, if n > 1 then [⟨bA, n - 1⟩] else [], bC, 1, bI, 1, []⟩
def listO (n : Nat) : List S74 := (List.range n).map (fun i : Nat => madeO ((i : Int) + 1))
theorem listO_len (n : Nat) : (listO n).length = n := by simp [listO]
theorem list_l0 (n : Nat) (hn : n ≤ 1000000) : ∀ (k i : Nat), i ≤ n → n - i < k → pannierlaw16_list.l0 k (n : Int) (listO i) (i : Int) = some (listO n) := by
 intro k
 induction k with
 | zero => intro i _ h; omega
 | succ k ih =>
   intro i hi hk
   unfold pannierlaw16_list.l0
   by_cases hlt : i < n
   · rw [if_pos (by omega)]
     have e2 : wrap64 ((i : Int) + 1) = ((i + 1 : Nat) : Int) := by rw [w_id (by omega)]; rfl
     have ho : ∃ t, pannierlaw16_made.f (wrap64 ((i : Int) + 1)) = some t ∧ (⟨⟨t.1, t.2.1⟩, t.2.2.1, t.2.2.2.1, t.2.2.2.2.1, t.2.2.2.2.2.1, t.2.2.2.2.2.2.1, t.2.2.2.2.2.2.2⟩ : S74) = madeO ((i : Int) + 1) := by
      rw [e2]
      unfold pannierlaw16_made.f madeO
      by_cases h1 : ((i + 1 : Nat) : Int) > 1
      · rw [if_pos h1]
        refine ⟨_, rfl, ?_⟩
        have h2 : ((i : Int) + 1) > 1 := by omega
        rw [if_pos h2]
        have h3 : wrap64 (((i + 1 : Nat) : Int) - 1) = (i : Int) + 1 - 1 := by rw [w_id (by omega)]; omega
        show (⟨⟨bA, ((i + 1 : Nat) : Int)⟩, [⟨bA, wrap64 (((i + 1 : Nat) : Int) - 1)⟩], bC, 1, bI, 1, []⟩ : S74) = _
        rw [h3]
        rfl
      · rw [if_neg h1]
        refine ⟨_, rfl, ?_⟩
        have h2 : ¬ ((i : Int) + 1) > 1 := by omega
        rw [if_neg h2]
        rfl
     obtain ⟨t, ht, hm⟩ := ho
     rw [ht, Option.bind_some, if_pos (by rw [listO_len]; omega)]
     show pannierlaw16_list.l0 k (n : Int) (listO i ++ [(⟨⟨t.1, t.2.1⟩, t.2.2.1, t.2.2.2.1, t.2.2.2.2.1, t.2.2.2.2.2.1, t.2.2.2.2.2.2.1, t.2.2.2.2.2.2.2⟩ : S74)]) (wrap64 ((i : Int) + 1)) = some (listO n)
     rw [hm, e2]
     have e : listO i ++ [madeO ((i : Int) + 1)] = listO (i + 1) := by simp [listO, List.range_succ]
     rw [e]
     exact ih (i + 1) (by omega) (by omega)
   · rw [if_neg (by omega)]
     have : i = n := by omega
     rw [this]
theorem list_calls (n : Nat) (hn : n ≤ 1000000) (w : World) :
 Calls Try.prog 19 #[.int .i64 (n : Int)] w fun e w' => ∃ v0_ : Value, e = .returned v0_ ∧ Kd.S k74 74 w' w.heap.size (fun _ => True) v0_ (listO n) ∧ Below w.heap.size w w' :=
 pannierlaw16_list.calls (n + 1) (n : Int) (listO n) w (list_l0 n hn (n + 1) 0 (by omega) (by omega))
set_option maxHeartbeats 8000000 in
set_option maxRecDepth 100000 in
theorem badN_calls (G : Nat) (cart : ByteArray) (x : S74) (A2 : Option Addr) (c2 : Nat) (A7 : Option Addr) (c7 : Nat) (w : World) (l2 : x.f1.length ≤ c2) (g2 : Kd.C k72 w A2 x.f1.length x.f1) (l7 : x.f6.length ≤ c7) (g7 : Kd.C k72 w A7 x.f6.length x.f6) (hG : w.cell? ⟨G, 0, none⟩ = some (.string cart)) :
 Calls Try.prog 37 #[.agg #[.string x.f0.f0, .int .i64 x.f0.f1, .slice A2 x.f1.length c2, .string x.f2, .int .i64 x.f3, .string x.f4, .int .i64 x.f5, .slice A7 x.f6.length c7], .pointer (some ⟨G, 0, none⟩)] w fun e w' => e = .returned (.bool (badO cart x)) ∧ Below w.heap.size w w' := by
 have HG2 := Aside0.mk g2
 have HG7 := Aside0.mk g7
 have HL2 := Aside0.mk l2
 have HL7 := Aside0.mk l7
 have hGl := World.block_lt_of_cell? w _ hG
 obtain ⟨N, hN⟩ : ∃ N, w.heap.size = N := ⟨_, rfl⟩
 clear l2 g2 l7 g7
 go_enter Try.func37, Try.ntmps37
 obtain ⟨w0, hw0⟩ : ∃ w0, w.alloc (.cells #[.string x.f0.f0, .int .i64 x.f0.f1, .slice A2 x.f1.length c2, .string x.f2, .int .i64 x.f3, .string x.f4, .int .i64 x.f5, .slice A7 x.f6.length c7] 74) = w0 := ⟨_, rfl⟩
 have HB := Aside0.mk (show Below w.heap.size w w0 from by rw [← hw0]; exact (Below.refl _ w).alloc (Nat.le_refl _) _)
 have KX := Aside0.mk (show w0.heap[N]? = some (.cells #[.string x.f0.f0, .int .i64 x.f0.f1, .slice A2 x.f1.length c2, .string x.f2, .int .i64 x.f3, .string x.f4, .int .i64 x.f5, .slice A7 x.f6.length c7] 74 (0, 0)) from by rw [← hw0, ← hN]; exact World.alloc_heap_new w _)
 obtain ⟨n0, n1, n2, n3, n4, n5, n6, n7⟩ := cells8 KX.out
 have hG0 : w0.cell? ⟨G, 0, none⟩ = some (.string cart) := (HB.out.cell hGl).trans hG
 clear hG
 by_cases he : x.f2.toList = cart.toList
 · have q1 : (x.f2.toList == cart.toList) = true := by simp [he]
   have HE := Aside0.mk (bytes_inj he)
   go_wp2_with fail
   refine (orderRight_calls x A2 c2 A7 c7 _ HL2.out (Kd.C_below HG2.out HB.out) HL7.out (Kd.C_below HG7.out HB.out)).mono ?_
   rintro e w1 ⟨rfl, hb1⟩
   have HB1 := Aside0.mk (HB.out.trans (hb1.mono HB.out.size))
   clear n0 n1 n2 n3 n4 n5 n6 n7 hb1
   go_wp2
   go_ret
   refine ⟨?_, by first | exact HB1.out | (rw [← hN]; exact HB1.out)⟩
   unfold badO
   rw [HE.out]
   simp
 · have q1 : (x.f2.toList == cart.toList) = false := by simp [he]
   go_wp2
   go_ret
   refine ⟨?_, by first | exact HB.out | (rw [← hN]; exact HB.out)⟩
   unfold badO
   have : x.f2 ≠ cart := fun h => he (by rw [h])
   simp [this]
set_option maxHeartbeats 8000000 in
set_option maxRecDepth 100000 in
theorem idxBadN_calls (G : Nat) (cart : ByteArray) (l : List S74) (A : Option Addr) (c : Nat) (w : World) (hc : l.length ≤ c) (hC : Kd.C k74 w A l.length l) (hG : w.cell? ⟨G, 0, none⟩ = some (.string cart)) :
 Calls Try.prog 64 #[.slice A l.length c, .func (.func 37) #[] #[.pointer (some ⟨G, 0, none⟩)]] w fun e w' => ∃ r : Int, e = .returned (.int .i64 r) ∧ decide (0 ≤ r) = l.any (badO cart) ∧ Below w.heap.size w w' := by
 have HC := Aside0.mk hC
 have hm : l.length ≤ 9223372036854775807 := hC.2.1
 have hGl := World.block_lt_of_cell? w _ hG
 have HG := Aside0.mk hG
 clear hC hG
 go_enter Try.func64, Try.ntmps64
 go_wp2
 go_loopw [5, 8] (fun _ v8 wr => ∃ j : Nat, j ≤ l.length ∧ v8 = .int .i64 j ∧ Aside0 ((l.drop j).any (badO cart) = l.any (badO cart)) ∧ Aside0 (Below w.heap.size w wr)) (fun _ v8 _ => l.length - (intOf v8).toNat)
 case atStart => exact ⟨0, Nat.zero_le _, rfl, ⟨by simp⟩, ⟨Below.refl _ _⟩⟩
 case round =>
  obtain ⟨j, hj, rfl, HJ, HB⟩ := hrel
  by_cases hlt : j < l.length
  · obtain ⟨ad, A2, c2, A7, c7, rfl, f0, f1, f2, f3, f4, f5, f6, f7, l2, g2, l7, g7⟩ := at_T74 (Kd.C_below HC.out HB.out) (j : Int) (by omega) (by omega)
    simp only [Int.toNat_natCast] at f0 f1 f2 f3 f4 f5 f6 f7
    obtain ⟨x, hx⟩ : ∃ x, rd_T74 l (j : Int) = x := ⟨_, rfl⟩
    rw [hx] at f0 f1 f2 f3 f4 f5 f6 f7 l2 g2 l7 g7
    have HD := Aside0.mk (show l.drop j = x :: l.drop (j + 1) from by rw [← hx]; exact rd_drop36' l j hlt)
    have HL2 := Aside0.mk l2
    have HG2 := Aside0.mk g2
    have HL7 := Aside0.mk l7
    have HG7 := Aside0.mk g7
    have hb3 : 0 ≤ (j : Int) ∧ (j : Int) < (l.length : Int) := by omega
    have q1 : decide ((j : Int) < (l.length : Int)) = true := by simp; omega
    clear l2 g2 l7 g7 hx
    go_wp2_with fail
    refine (badN_calls G cart x A2 c2 A7 c7 _ HL2.out HG2.out HL7.out HG7.out ((HB.out.cell hGl).trans HG.out)).mono ?_
    rintro e w1 ⟨rfl, hb1⟩
    have HB1 := Aside0.mk (HB.out.trans (hb1.mono HB.out.size))
    obtain ⟨b, hb⟩ : ∃ b, badO cart x = b := ⟨_, rfl⟩
    have HBX := Aside0.mk hb
    rw [hb]
    clear hb hb1 f0 f1 f2 f3 f4 f5 f6 f7
    cases b with
    | true =>
      go_wp2
      go_ret
      exact ⟨_, rfl, by rw [← HJ.out, HD.out, List.any_cons, HBX.out]; simp, HB1.out⟩
    | false =>
      go_wp2
      go_round
      case rel => exact ⟨j + 1, by omega, by go_num, ⟨by rw [← HJ.out, HD.out, List.any_cons, HBX.out]; simp⟩, HB1⟩
      case measure => simp [intOf]; omega
  · have q1 : decide ((j : Int) < (l.length : Int)) = false := by simp; omega
    go_wp2
    go_ret
    exact ⟨_, rfl, by rw [← HJ.out, List.drop_eq_nil_of_le (by omega)]; simp, HB.out⟩
set_option maxHeartbeats 8000000 in
set_option maxRecDepth 100000 in
theorem hasBadN_calls (G : Nat) (cart : ByteArray) (l : List S74) (A : Option Addr) (c : Nat) (w : World) (hc : l.length ≤ c) (hC : Kd.C k74 w A l.length l) (hG : w.cell? ⟨G, 0, none⟩ = some (.string cart)) :
 Calls Try.prog 36 #[.slice A l.length c, .func (.func 37) #[] #[.pointer (some ⟨G, 0, none⟩)]] w fun e w' => e = .returned (.bool (l.any (badO cart))) ∧ Below w.heap.size w w' := by
 have h := idxBadN_calls G cart l A c w hc hC hG
 go_enter Try.func36, Try.ntmps36
 go_wp2_with fail
 refine h.mono ?_
 rintro e w1 ⟨r, rfl, hr, hb1⟩
 go_wp2
 go_ret
 exact ⟨by rw [← hr]; rfl, hb1⟩
end Go.Proofs.Ytjejhgjdmbodiaa.PO
end
section
namespace Go.Proofs.Ytjejhgjdmbodiaa.PO
open Go.RowKit Go.Proofs.YtjejhgjdmbodiaaW.PrintWords Go.Proofs.YtjejhgjdmbodiaaW.PrintLast Go.Proofs.YtjejhgjdmbodiaaW.PrintMore Go.Proofs.Ytjejhgjdmbodiaa.XW
open Go.Proofs.Ytjejhgjdmbodiaa.XRange
set_option linter.unusedVariables false
set_option linter.unusedSimpArgs false
def offV (b n i : Nat) : Value := .slice (some ⟨b, 64 * i, none⟩) (min 8 (n - 8 * i)) (min 8 (n - 8 * i))
def npc (n : Nat) : Nat := (n + 7) / 8
def cellLen (w : World) (B : Nat) : Nat := match w.cell? ⟨B, 0, none⟩ with | some (.slice _ n _) => n | _ => 0
theorem cellLen_of {w : World} {B n c : Nat} {A : Option Addr} (h : w.cell? ⟨B, 0, none⟩ = some (.slice A n c)) : cellLen w B = n := by
 unfold cellLen; rw [h]
set_option maxHeartbeats 8000000 in
set_option maxRecDepth 100000 in
theorem cut1_seq (n b B len c : Nat) (A : Option Addr) (w : World) (hB : w.heap[B]? = some (.cells #[.slice A len c] 22 (0, 0))) (hA : 0 < len → A = some ⟨b, 0, none⟩) (hc : len ≤ c) (hl : len ≤ 1000000000) :
 SeqC n Try.prog 70 #[.pointer (some ⟨B, 0, none⟩)] (fun i : Nat => #[offV b len i]) (fun k => k = B) (fun k => k = B) (fun xs => xs = List.range (npc len)) (fun _ => True) (npc len) w := by
 intro q J Jx W hW hJ hJx hY h0
 have HJ := Aside0.mk hJ
 have HJx := Aside0.mk hJx
 have HY := Aside0.mk hY
 have H0 := Aside0.mk h0
 have HB := Aside0.mk ((hW.block B (blk_lt hB) (fun f => f)).trans hB)
 have HA := Aside0.mk hA
 clear hJ hJx hY h0 hB hW hA
 refine callsIn_of_wp Try.func70 rfl trivial ?_ rfl
 simp only [Try.ntmps70, List.size_toArray, List.length_cons, List.length_nil, Nat.reduceAdd, Nat.reduceSub, Array.replicate_succ, Array.replicate_zero, List.push_toArray, List.append_toArray, List.nil_append, List.cons_append, Array.size_append]
 gi_wp2
 gi_loopw [3] (fun _ wr => ∃ (i m ci : Nat) (Ai : Option Addr), Aside0 (wr.heap[B]? = some (.cells #[.slice Ai m ci] 22 (0, 0))) ∧ m + 8 * i = max len (8 * i) ∧ i ≤ npc len ∧ m ≤ ci ∧ Aside0 (0 < m → Ai = some ⟨b, 64 * i, none⟩) ∧ Aside0 (J (List.range i) wr)) (fun _ wr => cellLen wr B)
 case atStart => exact ⟨0, len, c, A, ⟨HB.out⟩, by omega, Nat.zero_le _, hc, ⟨HA.out⟩, ⟨H0.out⟩⟩
 case round =>
  obtain ⟨i, m, ci, Ai, HBr, hm, hi, hmc, HAi, HJR⟩ := hrel
  have e0 : wr.cell? ⟨B, 0, none⟩ = some (.slice Ai m ci) := (blk_cell HBr.out 0).trans rfl
  have ef := blk_frozen HBr.out 0
  have hlen := cellLen_of e0
  by_cases hlt : 0 < m
  · have hAi := HAi.out hlt
    subst hAi
    have q1 : decide ((0 : Int) < (m : Int)) = true := by simp; omega
    obtain ⟨k, hk⟩ : ∃ k, min 8 (len - 8 * i) = k := ⟨_, rfl⟩
    have hkm : k ≤ m ∧ 0 < k ∧ k ≤ 8 ∧ (k < 8 → k = m) := by omega
    have hi2 : i < npc len := by unfold npc; omega
    have ek : min 8 (m : Int) = (k : Int) := by omega
    have HK := Aside0.mk hk
    have hJ2 := HJR.out
    obtain ⟨fn, tmps, asg, bdy, hyy, hR⟩ := HY.out _ i wr hJ2 (by simpa using hi2)
    simp only [offV, hk] at hyy
    clear hk hJ2
    have b1 : (0 : Int) ≤ (k : Int) := by omega
    have b2 : (k : Int) ≤ (ci : Int) := by omega
    have b3 : (k : Int) ≤ (m : Int) := by omega
    gi_wp2
    refine ⟨(fun h => by cases h), hR.mono ?_⟩
    rintro e w3 (⟨rfl, hJ3, hk3⟩ | ⟨rfl, hJx3⟩)
    · have HJ3 := Aside0.mk hJ3
      have HB3 := Aside0.mk ((hk3.2 B rfl).trans HBr.out)
      clear hJ3 hk3 e0 ef hyy hR
      have e0 : w3.cell? ⟨B, 0, none⟩ = some (.slice (some ⟨b, 64 * i, none⟩) m ci) := (blk_cell HB3.out 0).trans rfl
      have ef := blk_frozen HB3.out 0
      gi_wp2
      have hS := blk_set HB3.out 0 (.slice (if ci = k then some ⟨b, 64 * i, none⟩ else some ⟨b, 64 * i + k * 8, none⟩) (m - k) (ci - k))
      go_round
      case rel =>
       refine ⟨i + 1, m - k, ci - k, _, ⟨hS⟩, by omega, by omega, by omega, ⟨fun h => ?_⟩, ⟨?_⟩⟩
       · have h8 : k = 8 := by omega
         subst h8
         rw [if_neg (by omega)]
         rfl
       · refine HJ.out _ w3 _ ?_ (Keeps.setCell (M := fun k => k = B) (Keeps.refl _ _) (p := ⟨B, 0, none⟩) (.inl rfl) _)
         rw [List.range_succ]
         exact HJ3.out
      case measure =>
       rw [cellLen_of ((blk_cell hS 0).trans rfl), hlen]
       omega
    · have HJX := Aside0.mk hJx3
      clear hJx3
      gi_wp2
      refine bodyPost_ret (results_none rfl _ _ _) rfl ?_
      exact ⟨⟨_, rfl⟩, .inr ⟨_, trivial, HJX.out⟩⟩
  · have q1 : decide ((0 : Int) < (m : Int)) = false := by simp; omega
    gi_wp2
    go_end0
    refine ⟨⟨_, rfl⟩, .inl ⟨_, rfl, ?_⟩⟩
    have : npc len = i := by unfold npc at hi ⊢; omega
    rw [this]
    exact HJR.out
end Go.Proofs.Ytjejhgjdmbodiaa.PO
end
section
namespace Go.Proofs.Ytjejhgjdmbodiaa.PO
open Go.RowKit Go.Proofs.YtjejhgjdmbodiaaW.PrintWords Go.Proofs.YtjejhgjdmbodiaaW.PrintLast Go.Proofs.YtjejhgjdmbodiaaW.PrintMore Go.Proofs.Ytjejhgjdmbodiaa.XW
open Go.Proofs.Ytjejhgjdmbodiaa.XRange
set_option linter.unusedVariables false
set_option linter.unusedSimpArgs false
structure OutD where
 fr : ByteArray
 tw : ByteArray
 ct : ByteArray
 se : Int
 l : List S74
def headO (d : OutD) : Bool := isNameB d.fr && isNameB d.tw && decide (d.fr ≠ d.tw) && decide (1 ≤ d.ct.size) && decide (d.ct.size ≤ 32) && decide (1 ≤ d.se) && decide (d.se ≤ 1152921504606846976) && decide (d.l.length ≤ 512)
def okOut (d : OutD) : Bool := headO d && !d.l.any (badO d.ct)
theorem headO_parts {d : OutD} (h : headO d = true) : isNameB d.fr = true ∧ isNameB d.tw = true ∧ ¬ d.fr.toList = d.tw.toList ∧ ¬ d.ct.toList = [] ∧ (d.ct.size : Int) ≤ 32 ∧ 1 ≤ d.se ∧ d.se ≤ 1152921504606846976 ∧ d.l.length ≤ 512 := by
 unfold headO at h
 simp only [Bool.and_eq_true, decide_eq_true_eq] at h
 obtain ⟨⟨⟨⟨⟨⟨⟨h1, h2⟩, h3⟩, h4⟩, h5⟩, h6⟩, h7⟩, h8⟩ := h
 exact ⟨h1, h2, fun h => h3 (bytes_inj h), fun h => by have := nil_size.1 h; omega, by omega, h6, h7, h8⟩
abbrev outCells (d : OutD) (P : Option Addr) (m c : Nat) (ack : Int) : Array Value := #[.int .i64 2, .string d.fr, .string d.tw, .string d.ct, .int .i64 d.se, .int .i64 0, .int .i64 0, .slice none 0 0, .slice none 0 0, .slice P m c, .int .i64 ack]
def pcs (b n : Nat) (xs : List Nat) : List (List Value) := xs.map (fun i => [offV b n i])
structure OutAt (G : Nat → Prop) (w : World) (o : Nat) (d : OutD) (ack : Int) : Prop where
 ng : ¬ G o
 ex : ∃ P c b, w.heap[o]? = some (.cells (outCells d P (npc d.l.length) c ack) 78 (0, 0)) ∧ npc d.l.length ≤ c ∧ Kd.F (Kd.raw 1) w G P (npc d.l.length) (pcs b d.l.length (List.range (npc d.l.length))) ∧ (0 < d.l.length → Kd.F k74 w G (some ⟨b, 0, none⟩) d.l.length d.l)
theorem OutAt.step {G : Nat → Prop} {w w1 : World} {o : Nat} {d : OutD} {ack : Int} (h : OutAt G w o d ack) (ho : w1.heap[o]? = w.heap[o]?) (hm : ∀ k, G k → k < w.heap.size → w1.heap[k]? = w.heap[k]?) : OutAt G w1 o d ack := by
 obtain ⟨ng, P, c, b, h1, h2, h3, h4⟩ := h
 exact ⟨ng, P, c, b, ho.trans h1, h2, Kd.F_step h3 hm, fun h => Kd.F_step (h4 h) hm⟩
theorem OutAt.lt {G : Nat → Prop} {w : World} {o : Nat} {d : OutD} {ack : Int} (h : OutAt G w o d ack) : o < w.heap.size := by
 obtain ⟨ng, P, c, b, h1, _⟩ := h
 exact blk_lt h1
theorem OutAt.below {G : Nat → Prop} {w w1 : World} {o : Nat} {d : OutD} {ack : Int} (h : OutAt G w o d ack) (hb : Below w.heap.size w w1) : OutAt G w1 o d ack :=
 h.step (hb.block o h.lt) (fun k _ hk => hb.block k hk)
theorem OutAt.acked {G : Nat → Prop} {w : World} {o : Nat} {d : OutD} {ack : Int} (h : OutAt G w o d ack) (a : Int) : OutAt G (w.setCell ⟨o, 10, none⟩ (.int .i64 a)) o d a := by
 obtain ⟨ng, P, c, b, h1, h2, h3, h4⟩ := h
 have hs : ∀ k, G k → k < w.heap.size → (w.setCell ⟨o, 10, none⟩ (.int .i64 a)).heap[k]? = w.heap[k]? := fun k hk _ => Below.heap_setCell w ⟨o, 10, none⟩ _ k (fun e => ng (by rw [← show k = o from e]; exact hk))
 exact ⟨ng, P, c, b, blk_set h1 10 _, h2, Kd.F_step h3 hs, fun h => Kd.F_step (h4 h) hs⟩
theorem badO_right {ct : ByteArray} {x : S74} (h : badO ct x = false) : x.f2 = ct ∧ rightO x = true := by
 unfold badO at h
 simp at h
 exact h
end Go.Proofs.Ytjejhgjdmbodiaa.PO
end
section
namespace Go.Proofs.Ytjejhgjdmbodiaa.PO
open Go.RowKit Go.Proofs.YtjejhgjdmbodiaaW.PrintWords Go.Proofs.YtjejhgjdmbodiaaW.PrintLast Go.Proofs.YtjejhgjdmbodiaaW.PrintMore Go.Proofs.Ytjejhgjdmbodiaa.XW
open Go.Proofs.Ytjejhgjdmbodiaa.XRange
set_option linter.unusedVariables false
set_option linter.unusedSimpArgs false
attribute [local go_sem] max2_int min2_int max_two min_two
def takeE (d : OutD) (f : Fr) : Int :=
 if rightF f && decide (f.k = 3) && decide (f.fa = d.tw) && decide (f.fb = d.fr) && decide (f.ct = d.ct) then (if f.se = d.se then (if f.ix > (npc d.l.length : Int) then 2 else 0) else 120) else 2
def takeK (d : OutD) (ack : Int) (f : Fr) : Int := if takeE d f = 0 then max ack f.ix else ack
set_option maxHeartbeats 8000000 in
set_option maxRecDepth 100000 in
theorem outTake_calls (G : Nat → Prop) (o : Nat) (d : OutD) (ack : Int) (f : Fr) (A7 : Option Addr) (c7 : Nat) (A8 : Option Addr) (c8 : Nat) (w : World) (h : OutAt G w o d ack) (l7 : f.kn.length ≤ c7) (g7 : Kd.C k72 w A7 f.kn.length f.kn) (l8 : f.op.length ≤ c8) (g8 : Kd.C k74 w A8 f.op.length f.op) :
 Calls Try.prog 17 #[.pointer (some ⟨o, 0, none⟩), .agg #[.int .i64 f.k, .string f.fa, .string f.fb, .string f.ct, .int .i64 f.se, .int .i64 f.ix, .int .i64 f.mn, .slice A7 f.kn.length c7, .slice A8 f.op.length c8]] w fun e w' => e = .returned (.int .i64 (takeE d f)) ∧ OutAt G w' o d (takeK d ack f) ∧ Keeps (fun k => k = o) w w' := by
 have HH := Aside0.mk h
 obtain ⟨ng, P, c, b, hO, _⟩ := h
 have HOw := Aside0.mk hO
 have HL7 := Aside0.mk l7
 have HG7 := Aside0.mk g7
 have HL8 := Aside0.mk l8
 have HG8 := Aside0.mk g8
 have hoN := blk_lt hO
 obtain ⟨N, hN⟩ : ∃ N, w.heap.size = N := ⟨_, rfl⟩
 clear l7 g7 l8 g8 hO
 obtain ⟨w0, hw0⟩ : ∃ w0, w.alloc (.cells #[.int .i64 f.k, .string f.fa, .string f.fb, .string f.ct, .int .i64 f.se, .int .i64 f.ix, .int .i64 f.mn, .slice A7 f.kn.length c7, .slice A8 f.op.length c8] 34) = w0 := ⟨_, rfl⟩
 have HB0 := Aside0.mk (show Below w.heap.size w w0 from by rw [← hw0]; exact (Below.refl _ w).alloc (Nat.le_refl _) _)
 have KX := Aside0.mk (show w0.heap[N]? = some (.cells #[.int .i64 f.k, .string f.fa, .string f.fb, .string f.ct, .int .i64 f.se, .int .i64 f.ix, .int .i64 f.mn, .slice A7 f.kn.length c7, .slice A8 f.op.length c8] 34 (0, 0)) from by rw [← hw0, ← hN]; exact World.alloc_heap_new w _)
 have HO0 := Aside0.mk (blk_below HOw.out HB0.out)
 go_enter Try.func17, Try.ntmps17
 go_wp2
 first | rw [hw0] | skip
 try rw [hN]
 clear hw0
 have FIN := Aside0.mk (show ∀ w', Below w.heap.size w w' → takeE d f ≠ 0 → OutAt G w' o d (takeK d ack f) ∧ Keeps (fun k => k = o) w w' from fun w' hb he => by
  unfold takeK
  rw [if_neg he]
  exact ⟨HH.out.below hb, Keeps.of_below hb⟩)
 have hS : ∀ w' : World, w'.heap[N]? = w0.heap[N]? → w'.heap[o]? = w0.heap[o]? → Cells9 w' N (.int .i64 f.k) (.string f.fa) (.string f.fb) (.string f.ct) (.int .i64 f.se) (.int .i64 f.ix) (.int .i64 f.mn) (.slice A7 f.kn.length c7) (.slice A8 f.op.length c8) ∧ w'.cell? ⟨o, 1, none⟩ = some (.string d.fr) ∧ w'.cell? ⟨o, 2, none⟩ = some (.string d.tw) ∧ w'.cell? ⟨o, 3, none⟩ = some (.string d.ct) := fun w' h1 h2 =>
  ⟨cells9 (h1.trans KX.out), (blk_cell (h2.trans HO0.out) 1).trans rfl, (blk_cell (h2.trans HO0.out) 2).trans rfl, (blk_cell (h2.trans HO0.out) 3).trans rfl⟩
 have HSS := Aside0.mk hS
 obtain ⟨br, hbr⟩ : ∃ b, rightF f = b := ⟨_, rfl⟩
 have HBR := Aside0.mk hbr
 have hNlt : N < w0.heap.size ∧ o < w0.heap.size := ⟨blk_lt KX.out, blk_lt HO0.out⟩
 clear hS hbr
 refine start_ (n := 39) (ds := []) (S := fun w' => Cells9 w' N (.int .i64 f.k) (.string f.fa) (.string f.fb) (.string f.ct) (.int .i64 f.se) (.int .i64 f.ix) (.int .i64 f.mn) (.slice A7 f.kn.length c7) (.slice A8 f.op.length c8) ∧ w'.cell? ⟨o, 1, none⟩ = some (.string d.fr) ∧ w'.cell? ⟨o, 2, none⟩ = some (.string d.tw) ∧ w'.cell? ⟨o, 3, none⟩ = some (.string d.ct)) _ (by kernel_rfl) rfl rfl (HSS.out _ rfl rfl) (fun hH => ?_)
 refine XReg.tk 0 9 (hy := by (intro w' hS_; obtain ⟨⟨s0, s1, s2, s3, s4, s5, s6, s7, s8⟩, _⟩ := hS_; go_simp; with_reducible rfl)) (h := ?_)
 refine XReg.one (i := 1) (some 10) rfl rfl (by kernel_rfl) (by decide) (fun Kc hKc => ?_)
 refine goes_ Try.func46 (by kernel_rfl) rfl #[.agg #[.int .i64 f.k, .string f.fa, .string f.fb, .string f.ct, .int .i64 f.se, .int .i64 f.ix, .int .i64 f.mn, .slice A7 f.kn.length c7, .slice A8 f.op.length c8]] (by rfl) rfl rfl (by (try simp only [List.map_toArray, List.map_cons, List.map_nil]); first | done | rfl) ?_
 refine (frRight_calls f A7 c7 A8 c8 _ HL7.out (Kd.C_drew (Kd.C_below HG7.out HB0.out)) HL8.out (Kd.C_drew (Kd.C_below HG8.out HB0.out))).mono ?_
 rw [HBR.out]
 rintro e w1 ⟨rfl, hb⟩
 refine ⟨_, rfl, ?_⟩
 have hb1 : Below w0.heap.size w0 w1 := ⟨hb.os, hb.tape, hb.output, hb.size, hb.block⟩
 have HB1 := Aside0.mk (HB0.out.trans (hb1.mono HB0.out.size))
 have KX1 := Aside0.mk (blk_below KX.out hb1)
 have HO1 := Aside0.mk (blk_below HO0.out hb1)
 refine hKc.out _ _ (HSS.out _ (hb1.block _ hNlt.1) (hb1.block _ hNlt.2)) (fun hH2 => ?_)
 clear hKc Kc hH hb hb1 HSS KX HO0 HB0
 cases br with
 | false =>
   refine XReg.pu 2 11 (h := ?_)
   refine XReg.pu 3 12 (h := ?_)
   refine XReg.pn 4 13 (h := ?_)
   refine XReg.pn 5 14 (h := ?_)
   refine XReg.pn 6 15 (h := ?_)
   refine XReg.pu 7 16 (h := ?_)
   refine XReg.pu 8 17 (h := ?_)
   refine XReg.pn 9 18 (h := ?_)
   refine XReg.pn 10 19 (h := ?_)
   refine XReg.pn 11 20 (h := ?_)
   refine XReg.pn 12 21 (h := ?_)
   refine XReg.pn 13 22 (h := ?_)
   refine XReg.pn 14 23 (h := ?_)
   refine XReg.pn 15 24 (h := ?_)
   refine XReg.pn 16 25 (h := ?_)
   refine XReg.pu 17 26 (h := ?_)
   refine XReg.pu 18 27 (h := ?_)
   refine XReg.pn 19 28 (h := ?_)
   refine XReg.pn 20 29 (h := ?_)
   refine XReg.pn 21 30 (h := ?_)
   refine XReg.pn 22 31 (h := ?_)
   refine XReg.pn 23 32 (h := ?_)
   refine XReg.pn 24 33 (h := ?_)
   refine XReg.pn 25 34 (h := ?_)
   refine XReg.pn 26 35 (h := ?_)
   refine XReg.pu 27 36 (h := ?_)
   refine XReg.pu 28 37 (h := ?_)
   refine XReg.pn 29 38 (h := ?_)
   refine XReg.pn 30 39 (h := ?_)
   refine XReg.pn 31 40 (h := ?_)
   refine XReg.pn 32 41 (h := ?_)
   refine XReg.pn 33 42 (h := ?_)
   refine XReg.pn 34 43 (h := ?_)
   refine XReg.pn 35 44 (h := ?_)
   refine XReg.pn 36 45 (h := ?_)
   refine XReg.pu 37 46 (h := ?_)
   refine XReg.pu 38 8 (h := ?_)
   refine done_ (by kernel_rfl) ?_
   have HE := Aside0.mk (show takeE d f = 2 from by unfold takeE; rw [HBR.out]; rfl)
   go_wp2
   go_ret
   rw [HE.out]
   exact ⟨rfl, FIN.out _ HB1.out (by rw [HE.out]; decide)⟩
 | true =>
   refine XReg.pu 2 11 (h := ?_)
   refine XReg.pu 3 12 (h := ?_)
   refine XReg.pu 4 13 (h := ?_)
   refine XReg.tk 5 14 (hy := by (intro w' hS_; obtain ⟨⟨s0, s1, s2, s3, s4, s5, s6, s7, s8⟩, t1, t2, t3⟩ := hS_; go_simp; with_reducible rfl)) (h := ?_)
   refine XReg.pu 6 15 (h := ?_)
   by_cases k1 : f.k = 3
   case neg =>
    have q : (f.k != 3) = true := by simpa using k1
    rw [q]
    refine XReg.pu 7 16 (h := ?_)
    refine XReg.pu 8 17 (h := ?_)
    refine XReg.pn 9 18 (h := ?_)
    refine XReg.pn 10 19 (h := ?_)
    refine XReg.pn 11 20 (h := ?_)
    refine XReg.pn 12 21 (h := ?_)
    refine XReg.pn 13 22 (h := ?_)
    refine XReg.pn 14 23 (h := ?_)
    refine XReg.pn 15 24 (h := ?_)
    refine XReg.pn 16 25 (h := ?_)
    refine XReg.pu 17 26 (h := ?_)
    refine XReg.pu 18 27 (h := ?_)
    refine XReg.pn 19 28 (h := ?_)
    refine XReg.pn 20 29 (h := ?_)
    refine XReg.pn 21 30 (h := ?_)
    refine XReg.pn 22 31 (h := ?_)
    refine XReg.pn 23 32 (h := ?_)
    refine XReg.pn 24 33 (h := ?_)
    refine XReg.pn 25 34 (h := ?_)
    refine XReg.pn 26 35 (h := ?_)
    refine XReg.pu 27 36 (h := ?_)
    refine XReg.pu 28 37 (h := ?_)
    refine XReg.pn 29 38 (h := ?_)
    refine XReg.pn 30 39 (h := ?_)
    refine XReg.pn 31 40 (h := ?_)
    refine XReg.pn 32 41 (h := ?_)
    refine XReg.pn 33 42 (h := ?_)
    refine XReg.pn 34 43 (h := ?_)
    refine XReg.pn 35 44 (h := ?_)
    refine XReg.pn 36 45 (h := ?_)
    refine XReg.pu 37 46 (h := ?_)
    refine XReg.pu 38 8 (h := ?_)
    refine done_ (by kernel_rfl) ?_
    have HE := Aside0.mk (show takeE d f = 2 from by unfold takeE; rw [HBR.out]; simp [k1])
    go_wp2
    go_ret
    rw [HE.out]
    exact ⟨rfl, FIN.out _ HB1.out (by rw [HE.out]; decide)⟩
   have qk1 : (f.k != 3) = false := by simp [k1]
   rw [qk1]
   refine XReg.pu 7 16 (h := ?_)
   refine XReg.pu 8 17 (h := ?_)
   refine XReg.pu 9 18 (h := ?_)
   refine XReg.tk 10 19 (hy := by (intro w' hS_; obtain ⟨⟨s0, s1, s2, s3, s4, s5, s6, s7, s8⟩, t1, t2, t3⟩ := hS_; go_simp; with_reducible rfl)) (h := ?_)
   refine XReg.pu 11 20 (h := ?_)
   refine XReg.pu 12 21 (h := ?_)
   refine XReg.pu 13 22 (h := ?_)
   refine XReg.pu 14 23 (h := ?_)
   refine XReg.tk 15 24 (hy := by (intro w' hS_; obtain ⟨⟨s0, s1, s2, s3, s4, s5, s6, s7, s8⟩, t1, t2, t3⟩ := hS_; go_simp; with_reducible rfl)) (h := ?_)
   refine XReg.pu 16 25 (h := ?_)
   by_cases k2 : f.fa = d.tw
   case neg =>
    have q : (!(f.fa.toList == d.tw.toList)) = true := by simpa using (fun h => k2 (bytes_inj h))
    rw [q]
    refine XReg.pu 17 26 (h := ?_)
    refine XReg.pu 18 27 (h := ?_)
    refine XReg.pn 19 28 (h := ?_)
    refine XReg.pn 20 29 (h := ?_)
    refine XReg.pn 21 30 (h := ?_)
    refine XReg.pn 22 31 (h := ?_)
    refine XReg.pn 23 32 (h := ?_)
    refine XReg.pn 24 33 (h := ?_)
    refine XReg.pn 25 34 (h := ?_)
    refine XReg.pn 26 35 (h := ?_)
    refine XReg.pu 27 36 (h := ?_)
    refine XReg.pu 28 37 (h := ?_)
    refine XReg.pn 29 38 (h := ?_)
    refine XReg.pn 30 39 (h := ?_)
    refine XReg.pn 31 40 (h := ?_)
    refine XReg.pn 32 41 (h := ?_)
    refine XReg.pn 33 42 (h := ?_)
    refine XReg.pn 34 43 (h := ?_)
    refine XReg.pn 35 44 (h := ?_)
    refine XReg.pn 36 45 (h := ?_)
    refine XReg.pu 37 46 (h := ?_)
    refine XReg.pu 38 8 (h := ?_)
    refine done_ (by kernel_rfl) ?_
    have HE := Aside0.mk (show takeE d f = 2 from by unfold takeE; rw [HBR.out]; simp [k1, k2])
    go_wp2
    go_ret
    rw [HE.out]
    exact ⟨rfl, FIN.out _ HB1.out (by rw [HE.out]; decide)⟩
   have qk2 : (!(f.fa.toList == d.tw.toList)) = false := by simp [k2]
   rw [qk2]
   refine XReg.pu 17 26 (h := ?_)
   refine XReg.pu 18 27 (h := ?_)
   refine XReg.pu 19 28 (h := ?_)
   refine XReg.tk 20 29 (hy := by (intro w' hS_; obtain ⟨⟨s0, s1, s2, s3, s4, s5, s6, s7, s8⟩, t1, t2, t3⟩ := hS_; go_simp; with_reducible rfl)) (h := ?_)
   refine XReg.pu 21 30 (h := ?_)
   refine XReg.pu 22 31 (h := ?_)
   refine XReg.pu 23 32 (h := ?_)
   refine XReg.pu 24 33 (h := ?_)
   refine XReg.tk 25 34 (hy := by (intro w' hS_; obtain ⟨⟨s0, s1, s2, s3, s4, s5, s6, s7, s8⟩, t1, t2, t3⟩ := hS_; go_simp; with_reducible rfl)) (h := ?_)
   refine XReg.pu 26 35 (h := ?_)
   by_cases k3 : f.fb = d.fr
   case neg =>
    have q : (!(f.fb.toList == d.fr.toList)) = true := by simpa using (fun h => k3 (bytes_inj h))
    rw [q]
    refine XReg.pu 27 36 (h := ?_)
    refine XReg.pu 28 37 (h := ?_)
    refine XReg.pn 29 38 (h := ?_)
    refine XReg.pn 30 39 (h := ?_)
    refine XReg.pn 31 40 (h := ?_)
    refine XReg.pn 32 41 (h := ?_)
    refine XReg.pn 33 42 (h := ?_)
    refine XReg.pn 34 43 (h := ?_)
    refine XReg.pn 35 44 (h := ?_)
    refine XReg.pn 36 45 (h := ?_)
    refine XReg.pu 37 46 (h := ?_)
    refine XReg.pu 38 8 (h := ?_)
    refine done_ (by kernel_rfl) ?_
    have HE := Aside0.mk (show takeE d f = 2 from by unfold takeE; rw [HBR.out]; simp [k1, k2, k3])
    go_wp2
    go_ret
    rw [HE.out]
    exact ⟨rfl, FIN.out _ HB1.out (by rw [HE.out]; decide)⟩
   have qk3 : (!(f.fb.toList == d.fr.toList)) = false := by simp [k3]
   rw [qk3]
   refine XReg.pu 27 36 (h := ?_)
   refine XReg.pu 28 37 (h := ?_)
   refine XReg.pu 29 38 (h := ?_)
   refine XReg.tk 30 39 (hy := by (intro w' hS_; obtain ⟨⟨s0, s1, s2, s3, s4, s5, s6, s7, s8⟩, t1, t2, t3⟩ := hS_; go_simp; with_reducible rfl)) (h := ?_)
   refine XReg.pu 31 40 (h := ?_)
   refine XReg.pu 32 41 (h := ?_)
   refine XReg.pu 33 42 (h := ?_)
   refine XReg.pu 34 43 (h := ?_)
   refine XReg.tk 35 44 (hy := by (intro w' hS_; obtain ⟨⟨s0, s1, s2, s3, s4, s5, s6, s7, s8⟩, t1, t2, t3⟩ := hS_; go_simp; with_reducible rfl)) (h := ?_)
   refine XReg.pu 36 45 (h := ?_)
   by_cases k4 : f.ct = d.ct
   case neg =>
    have q : (!(f.ct.toList == d.ct.toList)) = true := by simpa using (fun h => k4 (bytes_inj h))
    rw [q]
    refine XReg.pu 37 46 (h := ?_)
    refine XReg.pu 38 8 (h := ?_)
    refine done_ (by kernel_rfl) ?_
    have HE := Aside0.mk (show takeE d f = 2 from by unfold takeE; rw [HBR.out]; simp [k1, k2, k3, k4])
    go_wp2
    go_ret
    rw [HE.out]
    exact ⟨rfl, FIN.out _ HB1.out (by rw [HE.out]; decide)⟩
   have qk4 : (!(f.ct.toList == d.ct.toList)) = false := by simp [k4]
   rw [qk4]
   refine XReg.pu 37 46 (h := ?_)
   refine XReg.pu 38 8 (h := ?_)
   refine done_ (by kernel_rfl) ?_
   have HT := Aside0.mk (show takeE d f = (if f.se = d.se then (if f.ix > (npc d.l.length : Int) then 2 else 0) else 120) from by unfold takeE; rw [HBR.out]; simp [k1, k2, k3, k4])
   obtain ⟨n0, n1, n2, n3, n4, n5, n6, n7, n8⟩ := cells9 KX1.out
   clear n0 n1 n2 n3 n6 n7 n8
   have m4 : w1.cell? ⟨o, 4, none⟩ = some (.int .i64 d.se) := (blk_cell HO1.out 4).trans rfl
   have m9 : w1.cell? ⟨o, 9, none⟩ = some (.slice P (npc d.l.length) c) := (blk_cell HO1.out 9).trans rfl
   have m10 : w1.cell? ⟨o, 10, none⟩ = some (.int .i64 ack) := (blk_cell HO1.out 10).trans rfl
   have mf : w1.frozen? ⟨o, 10, none⟩ = false := blk_frozen HO1.out 10
   have HB2 := Aside0.mk (show Below w.heap.size w w1.drew from below_drew1 HB1.out)
   have HB3 := Aside0.mk (show Below w.heap.size w w1.drew.drew from below_drew1 HB2.out)
   have HB4 := Aside0.mk (show Below w.heap.size w w1.drew.drew.drew from below_drew1 HB3.out)
   clear k1 k2 k3 k4 qk1 qk2 qk3 qk4
   go_wp2
   refine start_ (n := 9) (ds := []) (S := fun w' => w'.cell? ⟨N, 4, none⟩ = some (.int .i64 f.se) ∧ w'.cell? ⟨o, 4, none⟩ = some (.int .i64 d.se)) _ (by kernel_rfl) rfl rfl ⟨n4, m4⟩ (fun hH => ?_)
   refine XReg.pu 0 48 (h := ?_)
   refine XReg.tk 1 49 (h := ?_)
   refine XReg.pu 2 50 (h := ?_)
   refine XReg.pu 3 51 (h := ?_)
   refine XReg.pu 4 52 (h := ?_)
   refine XReg.pu 5 53 (h := ?_)
   refine XReg.tk 6 54 (h := ?_)
   refine XReg.pu 7 55 (h := ?_)
   refine XReg.pu 8 47 (h := ?_)
   refine done_ (by kernel_rfl) ?_
   clear hH
   by_cases z1 : f.se = d.se
   case neg =>
    have q : (f.se != d.se) = true := by simpa using z1
    rw [q]
    go_wp2
    go_ret
    have hE : takeE d f = 120 := by rw [HT.out, if_neg z1]
    rw [hE]
    exact ⟨rfl, FIN.out _ HB2.out (by rw [hE]; decide)⟩
   have qz : (f.se != d.se) = false := by simpa using z1
   rw [qz]
   go_wp2
   refine start_ (n := 9) (ds := []) (S := fun w' => w'.cell? ⟨N, 5, none⟩ = some (.int .i64 f.ix) ∧ w'.cell? ⟨o, 9, none⟩ = some (.slice P (npc d.l.length) c)) _ (by kernel_rfl) rfl rfl ⟨n5, m9⟩ (fun hH => ?_)
   refine XReg.pu 0 57 (h := ?_)
   refine XReg.tk 1 58 (h := ?_)
   refine XReg.pu 2 59 (h := ?_)
   refine XReg.pu 3 60 (h := ?_)
   refine XReg.pu 4 61 (h := ?_)
   refine XReg.tk 5 62 (h := ?_)
   refine XReg.pu 6 63 (h := ?_)
   refine XReg.pu 7 64 (h := ?_)
   refine XReg.pu 8 56 (h := ?_)
   refine done_ (by kernel_rfl) ?_
   clear hH
   by_cases z2 : f.ix > (npc d.l.length : Int)
   case pos =>
    have q : decide ((npc d.l.length : Int) < f.ix) = true := by simpa using z2
    simp only [q]
    go_wp2
    go_ret
    have hE : takeE d f = 2 := by rw [HT.out, if_pos z1, if_pos z2]
    rw [hE]
    exact ⟨rfl, FIN.out _ HB3.out (by rw [hE]; decide)⟩
   have q : decide ((npc d.l.length : Int) < f.ix) = false := by simpa using z2
   simp only [q]
   go_wp2
   refine start_ (n := 11) (ds := [10]) (S := fun w' => w'.cell? ⟨N, 5, none⟩ = some (.int .i64 f.ix) ∧ w'.cell? ⟨o, 10, none⟩ = some (.int .i64 ack)) _ (by kernel_rfl) rfl rfl ⟨n5, m10⟩ (fun hH => ?_)
   refine XReg.pu 0 65 (h := ?_)
   refine XReg.pu 1 66 (h := ?_)
   refine XReg.pu 2 67 (h := ?_)
   refine XReg.pu 3 68 (h := ?_)
   refine XReg.tk 4 69 (h := ?_)
   refine XReg.pu 5 70 (h := ?_)
   refine XReg.tk 6 71 (h := ?_)
   refine XReg.pu 7 72 (h := ?_)
   refine XReg.pu 8 73 (h := ?_)
   refine XReg.pu 9 74 (h := ?_)
   refine XReg.last (i := 10) none rfl rfl (by kernel_rfl) (by decide) (fun Kc hKc => ?_)
   refine store_last rfl rfl (by first | (go_simp; done) | (go_simp; rfl)) ?_
   refine hKc.out _ _ ?_
   clear hKc Kc
   refine done_ (by kernel_rfl) ?_
   have hE : takeE d f = 0 := by rw [HT.out, if_pos z1, if_neg (by omega)]
   have hK : takeK d ack f = max ack f.ix := by unfold takeK; rw [if_pos hE]
   go_wp2
   all_goals
    go_ret
    try rw [hE]
    try rw [hK]
    have hm : max ack f.ix = if ack < f.ix then f.ix else ack := by split <;> omega
    try rw [hm]
    first | split | skip
    all_goals first
     | omega
     | exact ⟨rfl, ((HH.out.below HB1.out).acked _).step rfl (fun _ _ _ => rfl), ((((Keeps.of_below HB1.out).setCell (M := fun k => k = o) (p := ⟨o, 10, none⟩) (.inl rfl) _).drew).drew).drew⟩
end Go.Proofs.Ytjejhgjdmbodiaa.PO
end
