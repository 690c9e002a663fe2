-- Printed by a program of this work round the kit's print; Lean checks it.
import Derived.Test.YtnnlpelogabokaaPVx0
import Derived.Test.YtnnlpelogabokaaPVx3
import Derived.Test.YtnnlpelogabokaaPVx4
namespace Go.Proofs.Ytnnlpelogabokaa.PV
open Go.RowKit Go.Proofs.YtnnlpelogabokaaW.PrintWords Go.Proofs.YtnnlpelogabokaaW.PrintLast Go.Proofs.YtnnlpelogabokaaW.PrintMore
attribute [local go_sem] max2_int min2_int max_two min_two max_three min_three max_four min_four   -- for this text's walks alone
set_option linter.unusedVariables false
set_option linter.unusedSimpArgs false

/-! ### vector_Leq: function 25 -/
section
open Go.Proofs.Ytnnlpelogabokaa.XRange Go.Proofs.Ytnnlpelogabokaa.XHeld
attribute [local go_sem] Oper.semAt_some
def leqM (l : List (ByteArray × Int × Int)) : Bool := l.all fun x => decide (x.2.1 ≤ x.2.2)
def vector_Leq.f (k : Nat) (l0 l1 : List S35) : Option Bool :=
  (vector_Right.f k l0).bind fun r0 => if r0 = true then (vector_Right.f k l1).bind fun r1 => if r1 = true then (if (mrg l0 l1).length ≤ 1000000 then some (leqM (mrg l0 l1)) else none) else some false else some false

theorem leqM_snoc (l : List (ByteArray × Int × Int)) (x : ByteArray × Int × Int) : leqM (l ++ [x]) = (leqM l && decide (x.2.1 ≤ x.2.2)) := by simp [leqM]
theorem leqM_pre {p l : List (ByteArray × Int × Int)} (h : p <+: l) (hp : leqM p = false) : leqM l = false := by
  obtain ⟨r, rfl⟩ := h
  unfold leqM at hp ⊢
  rw [List.all_append, hp, Bool.false_and]

set_option maxHeartbeats 4000000 in
set_option maxRecDepth 100000 in
theorem vector_Leq.calls (k : Nat) (A0 : Option Addr) (c0 : Nat) (l0 : List S35) (A1 : Option Addr) (c1 : Nat) (l1 : List S35) (r : Bool) (w : World) (hr0 : Kd.C k35 w A0 l0.length l0) (hc0 : l0.length ≤ c0) (hr1 : Kd.C k35 w A1 l1.length l1) (hc1 : l1.length ≤ c1) (h : vector_Leq.f k l0 l1 = some r) :
    Calls Try.prog 25 #[.slice A0 l0.length c0, .slice A1 l1.length c1] w fun e w' => e = .returned (.bool r) ∧ Below w.heap.size w w' := by
  unfold vector_Leq.f at h
  obtain ⟨r0, h0, h⟩ := Option.bind_eq_some_iff.mp h
  cases r0 with
  | false =>
    simp only [Bool.false_eq_true, if_false] at h
    obtain rfl := Option.some.inj h
    have H0 := Aside0.mk h0
    have HR0 := Aside0.mk (Kd.C_below hr0 ((Below.refl w.heap.size w).alloc (Nat.le_refl _) (.cells #[.bool false] 4)))
    have HC0 := Aside0.mk hc0
    clear h0 h hr0 hr1 hc0 hc1
    go_enter Try.func25, Try.ntmps25
    go_wp2_with fail
    refine (vector_Right.calls k A0 c0 l0 false _ HR0.out HC0.out H0.out).mono ?_
    rintro e w1 ⟨rfl, hb1⟩
    have hE1 := (hb1.block w.heap.size (by simp)).trans (blk_new w (.cells #[.bool false] 4))
    have e0 : w1.cell? ⟨w.heap.size, 0, none⟩ = some (.bool false) := (blk_cell hE1 0).trans rfl
    have e1 := blk_frozen hE1 0
    have HB1 := Aside0.mk (show Below w.heap.size w w1 from ((Below.refl w.heap.size w).alloc (Nat.le_refl _) (.cells #[.bool false] 4)).trans (hb1.mono (by simp)))
    have HE1 := Aside0.mk hE1
    clear hb1 hE1
    go_wp2
    have hc5 : (w1.setCell ⟨w.heap.size, 0, none⟩ (.bool false)).cell? ⟨w.heap.size, 0, none⟩ = some (.bool false) := (blk_cell (blk_set HE1.out 0 (.bool false)) 0).trans rfl
    exact bodyPost_ret (v := .bool false) (by simp [results, Try.f25, go_sem, hc5]) rfl ⟨rfl, HB1.out.setCell (p := ⟨w.heap.size, 0, none⟩) (Nat.le_refl _) _⟩
  | true =>
    simp only [if_true] at h
    obtain ⟨r1, h1, h⟩ := Option.bind_eq_some_iff.mp h
    have H0 := Aside0.mk h0
    have H1 := Aside0.mk h1
    have hB0 : Below w.heap.size w (w.alloc (.cells #[.bool false] 4)) := (Below.refl w.heap.size w).alloc (Nat.le_refl _) _
    have HR0 := Aside0.mk (Kd.C_below hr0 hB0)
    have HR1 := Aside0.mk (Kd.C_below hr1 hB0)
    have HC0 := Aside0.mk hc0
    have HC1 := Aside0.mk hc1
    have HX0 := Aside0.mk hr0
    have HX1 := Aside0.mk hr1
    clear h0 h1 hc0 hc1 hr0 hr1
    cases r1 with
    | false =>
      simp only [Bool.false_eq_true, if_false] at h
      obtain rfl := Option.some.inj h
      clear h
      go_enter Try.func25, Try.ntmps25
      go_wp2_with fail
      refine (vector_Right.calls k A0 c0 l0 true _ HR0.out HC0.out H0.out).mono ?_
      rintro e w1 ⟨rfl, hb1⟩
      have HQ1 := Aside0.mk (show Below w.heap.size w w1 from hB0.trans (hb1.mono (by simp)))
      have HE1 := Aside0.mk ((hb1.block w.heap.size (by simp)).trans (blk_new w (.cells #[.bool false] 4)))
      clear hb1 hB0
      go_wp2_with fail
      refine (vector_Right.calls k A1 c1 l1 false _ (Kd.C_below HX1.out HQ1.out) HC1.out H1.out).mono ?_
      rintro e w2 ⟨rfl, hb2⟩
      have HQ2 := Aside0.mk (show Below w.heap.size w w2 from HQ1.out.trans (hb2.mono HQ1.out.size))
      have hE2 := (hb2.block w.heap.size (blk_lt HE1.out)).trans HE1.out
      have e0 : w2.cell? ⟨w.heap.size, 0, none⟩ = some (.bool false) := (blk_cell hE2 0).trans rfl
      have e1 := blk_frozen hE2 0
      have HE2 := Aside0.mk hE2
      clear hb2 hE2
      go_wp2
      have hc5 : (w2.setCell ⟨w.heap.size, 0, none⟩ (.bool false)).cell? ⟨w.heap.size, 0, none⟩ = some (.bool false) := (blk_cell (blk_set HE2.out 0 (.bool false)) 0).trans rfl
      exact bodyPost_ret (v := .bool false) (by simp [results, Try.f25, go_sem, hc5]) rfl ⟨rfl, HQ2.out.setCell (p := ⟨w.heap.size, 0, none⟩) (Nat.le_refl _) _⟩
    | true =>
      simp only [if_true] at h
      by_cases hlen : (mrg l0 l1).length ≤ 1000000
      case neg => rw [if_neg hlen] at h; cases h
      rw [if_pos hlen] at h
      have HLEN := Aside0.mk hlen
      obtain rfl := Option.some.inj h
      clear h hlen
      refine (callsIn_wide (n := 3)).1 ?_
      refine callsIn_of_wp_marks Try.func25 rfl trivial ?_ rfl
      simp only [Try.ntmps25, List.size_toArray, List.length_cons, List.length_nil, Nat.reduceAdd, Nat.reduceSub, Array.replicate_succ, Array.replicate_zero, List.push_toArray, List.append_toArray, List.nil_append, List.cons_append]
      gi_wp2_with fail
      refine ⟨trivial, (callsIn_wide.2 (vector_Right.calls k A0 c0 l0 true _ HR0.out HC0.out H0.out)).mono ?_⟩
      rintro e w1 ⟨rfl, hb1⟩
      have HQ1 := Aside0.mk (show Below w.heap.size w w1 from hB0.trans (hb1.mono (by simp)))
      have HE1 := Aside0.mk ((hb1.block w.heap.size (by simp)).trans (blk_new w (.cells #[.bool false] 4)))
      clear hb1 hB0
      gi_wp2_with fail
      refine ⟨trivial, (callsIn_wide.2 (vector_Right.calls k A1 c1 l1 true _ (Kd.C_below HX1.out HQ1.out) HC1.out H1.out)).mono ?_⟩
      rintro e w2 ⟨rfl, hb2⟩
      have HQ2 := Aside0.mk (show Below w.heap.size w w2 from HQ1.out.trans (hb2.mono HQ1.out.size))
      have HE2 := Aside0.mk ((hb2.block w.heap.size (blk_lt HE1.out)).trans HE1.out)
      clear hb2
      gi_wp2_with fail
      refine ⟨trivial, (callsIn_wide.2 (vector_together.calls A0 A1 l0.length c0 l1.length c1 w2)).mono ?_⟩
      rintro e w3 ⟨rfl, hw3⟩
      have hbx := holds_boxes rfl HQ2.out HX0.out HX1.out HC0.out HC1.out
      rw [← hw3] at hbx
      have HBX := Aside0.mk hbx
      have hs3 : w3.heap.size = w2.heap.size + 2 := by rw [hw3]; simp
      have HS3 := Aside0.mk hs3
      have HQ3 := Aside0.mk (show Below w.heap.size w w3 from by rw [hw3]; exact (HQ2.out.alloc HQ2.out.size _).alloc (by have := HQ2.out.size; simp; omega) _)
      have HE3 := Aside0.mk (show w3.heap[w.heap.size]? = some (.cells #[.bool false] 4 (0, 0)) from by rw [hw3]; exact blk_alloc (blk_alloc HE2.out _) _)
      have hlt0 := blk_lt HE2.out
      clear hbx hw3 hs3
      gi_wp2_with fail
      refine range_law (gf := 56) rfl (enters_of Try.func56 (by kernel_rfl) rfl)
        (together1_seq 2 (fun k => k < w.heap.size ∨ k = w2.heap.size ∨ k = w2.heap.size + 1) w2.heap.size (w2.heap.size + 1) l0 l1 w3 (by omega) (.inr (.inl rfl)) (.inr (.inr rfl)) (fun k hk => by have := HS3.out; omega) HLEN.out HBX.out.1 HBX.out.2)
        (fun _ => rfl) (fun k hk => by have := HS3.out; omega) (fun k hk => by have := HS3.out; omega)
        (TestInv (fun pre => leqM pre = true) w.heap.size w) (fun c => TestInv (fun pre => c = .ret ∧ leqM pre = false) w.heap.size w)
        (testInv_abide (fun m hm => by omega)) (fun c => testInv_abide (fun m hm => by omega)) (testInv_abide (fun m hm => by have := HS3.out; omega)) (fun c => testInv_abide (fun m hm => by have := HS3.out; omega))
        ⟨rfl, HQ3.out, HE3.out⟩ ?round ?done ?stop
      case round =>
        rintro pre x W ⟨hp, hB, hE⟩ _ hsz
        have HI := Aside0.mk (show TestInv (fun pre => leqM pre = true) w.heap.size w pre W from ⟨hp, hB, hE⟩)
        clear hp hB hE
        obtain ⟨xw, xa, xb⟩ := x
        simp only [encs3]
        gi_wp2_with fail
        refine ⟨(Keeps.refl _ _).alloc _, fun Wb hkb hib => ?_⟩
        have hsb : W.heap.size < Wb.heap.size := by have := hkb.size; simp at this; omega
        have hpb : Wb.heap[W.heap.size]? = some (.cells #[.int .i64 xa, .int .i64 xb] 59 (0, 0)) := keeps_heap (blk_new W _) (by omega) hkb
        have b0 : Wb.cell? ⟨W.heap.size, 0, none⟩ = some (.int .i64 xa) := (blk_cell hpb 0).trans rfl
        have b1 : Wb.cell? ⟨W.heap.size, 1, none⟩ = some (.int .i64 xb) := (blk_cell hpb 1).trans rfl
        have e0 : Wb.cell? ⟨w.heap.size, 0, none⟩ = some (.bool false) := (blk_cell hib.2.2 0).trans rfl
        have e1 := blk_frozen hib.2.2 0
        have HIB := Aside0.mk hib
        clear hkb hpb hib
        by_cases hx : xb < xa
        · have hx' : decide (xb < xa) = true := decide_eq_true hx
          gi_wp2_with fail
          exact ⟨⟨by simp [World.setCell], fun i hi => Below.heap_setCell _ _ _ _ (by have := HS3.out; simp; omega)⟩, ⟨rfl, by show leqM _ = false; rw [leqM_snoc, decide_eq_false (by simpa using hx), Bool.and_false]⟩, HIB.out.2.1.setCell (p := ⟨w.heap.size, 0, none⟩) (Nat.le_refl _) _, blk_set HIB.out.2.2 0 _⟩
        · have hx' : decide (xb < xa) = false := decide_eq_false hx
          gi_wp2_with fail
          exact ⟨KeepOn.refl _ _, KeepOn.refl _ _, by show leqM _ = true; rw [leqM_snoc, HIB.out.1, decide_eq_true (by simpa using hx), Bool.and_true], HIB.out.2⟩
      case done =>
        rintro xs W rfl ⟨hp, hB, hE⟩ hsz hD
        have e0 : W.cell? ⟨w.heap.size, 0, none⟩ = some (.bool false) := (blk_cell hE 0).trans rfl
        have e1 := blk_frozen hE 0
        have HD := Aside0.mk (hD)
        have HB := Aside0.mk hB
        have HE := Aside0.mk hE
        have HP := Aside0.mk hp
        clear hD hB hE hp
        gi_wp2_with fail
        have hD' : (W.setCell ⟨w.heap.size, 0, none⟩ (.bool true)).heap[w3.heap.size]? = some (.deferred (some [])) := (Below.heap_setCell _ _ _ _ (by have := HS3.out; simp; omega)).trans HD.out
        refine leave_mark hD' ⟨.bool true, ?_, by rw [HP.out], below_put (HB.out.setCell (p := ⟨w.heap.size, 0, none⟩) (Nat.le_refl _) _) (by have := HS3.out; omega) (by have := blk_lt HE.out; simp [World.setCell]; omega)⟩
        have hc5 : ((W.setCell ⟨w.heap.size, 0, none⟩ (.bool true)).putObj w3.heap.size (.deferred none)).cell? ⟨w.heap.size, 0, none⟩ = some (.bool true) :=
          (blk_cell (keeps_heap (blk_set HE.out 0 (.bool true)) (M := fun k => k = w3.heap.size) (by have := HS3.out; omega) (keeps_putObj _ _ _ _ rfl)) 0).trans rfl
        simp [results, Try.f25, go_sem, hc5]
      case stop =>
        rintro c pre W hpre ⟨⟨rfl, hp⟩, hB, hE⟩ hsz hD
        have HD := Aside0.mk (hD)
        have HB := Aside0.mk hB
        have HE := Aside0.mk hE
        have HP := Aside0.mk (leqM_pre hpre hp)
        clear hD hB hE hp hpre
        gi_wp2_with fail
        refine leave_mark HD.out ⟨.bool false, ?_, by rw [HP.out], below_put HB.out (by have := HS3.out; omega) (by have := blk_lt HE.out; omega)⟩
        have hc5 : (W.putObj w3.heap.size (.deferred none)).cell? ⟨w.heap.size, 0, none⟩ = some (.bool false) :=
          (blk_cell (keeps_heap HE.out (M := fun k => k = w3.heap.size) (by have := HS3.out; omega) (keeps_putObj _ _ _ _ rfl)) 0).trans rfl
        simp [results, Try.f25, go_sem, hc5]

theorem vector_Leq.mono : ∀ a0 a1 k, LeO (vector_Leq.f k a0 a1) (vector_Leq.f (k + 1) a0 a1) := by
  intro a0 a1 k
  unfold vector_Leq.f
  refine LeO.bind (vector_Right.mono _ _) (fun _ => ?_)
  refine LeO.ite ?_ (LeO.refl _)
  exact LeO.bind (vector_Right.mono _ _) (fun _ => LeO.refl _)
end

/-! ### pannierref07_put: function 44 -/
mutual
def pannierref07_put.l0 : Nat → List (S35) → ByteArray → Int → List (S35) → Bool → Int → Option ((List (S35)))
  | 0, _, _, _, _, _, _ => none
  | k + 1, x0, x1, x2, x7, x8, x9 => if x9 < (x0.length : Int) then (if x8 = true then (pannierref07_put.j1 k x0 x1 x2 x7 x8 x9 false) else (if 0 ≤ x9 then (pannierref07_put.j1 k x0 x1 x2 x7 x8 x9 (!(Op.bytesLess (((rd_T35 x0 x9).f0).toList) x1.toList))) else (none))) else (if x8 = true then (some x7) else (if x7.length < 5864062014805 then (some (x7 ++ [(⟨x1, x2⟩ : S35)])) else (none)))
def pannierref07_put.j1 : Nat → List (S35) → ByteArray → Int → List (S35) → Bool → Int → Bool → Option ((List (S35)))
  | 0, _, _, _, _, _, _, _ => none
  | k + 1, x0, x1, x2, x7, x8, x9, x28 => if x28 = true then (if x7.length < 5864062014805 then ((some (x7 ++ [(⟨x1, x2⟩ : S35)] : List (S35))).bind fun y192 => (if 0 ≤ x9 then (if x9 < (x0.length : Int) then (if ((rd_T35 x0 x9).f0).toList = x1.toList then (pannierref07_put.l0 k x0 x1 x2 y192 true (wrap64 (x9 + 1))) else (if y192.length < 5864062014805 then (pannierref07_put.l0 k x0 x1 x2 (y192 ++ [(⟨(rd_T35 x0 x9).f0, (rd_T35 x0 x9).f1⟩ : S35)]) true (wrap64 (x9 + 1))) else (none))) else (none)) else (none))) else (none)) else (if 0 ≤ x9 then (if x9 < (x0.length : Int) then (if ((rd_T35 x0 x9).f0).toList = x1.toList then (pannierref07_put.l0 k x0 x1 x2 x7 x8 (wrap64 (x9 + 1))) else (if x7.length < 5864062014805 then (pannierref07_put.l0 k x0 x1 x2 (x7 ++ [(⟨(rd_T35 x0 x9).f0, (rd_T35 x0 x9).f1⟩ : S35)]) x8 (wrap64 (x9 + 1))) else (none))) else (none)) else (none))
end
def pannierref07_put.f (k : Nat) (l0 : List (S35)) (a1 : ByteArray) (a2 : Int) : Option ((List (S35))) := pannierref07_put.l0 k l0 a1 a2 ([] : List (S35)) (a2 == 0) 0
theorem pannierref07_put.mono_l : ∀ k, (∀ y0 y1 y2 y3 y4 y5, LeO (pannierref07_put.l0 k y0 y1 y2 y3 y4 y5) (pannierref07_put.l0 (k + 1) y0 y1 y2 y3 y4 y5)) ∧ (∀ y0 y1 y2 y3 y4 y5 y6, LeO (pannierref07_put.j1 k y0 y1 y2 y3 y4 y5 y6) (pannierref07_put.j1 (k + 1) y0 y1 y2 y3 y4 y5 y6))
  | 0 => ⟨fun _ _ _ _ _ _ r h => by simp [pannierref07_put.l0] at h, fun _ _ _ _ _ _ _ r h => by simp [pannierref07_put.j1] at h⟩
  | k + 1 => by
    obtain ⟨ih0, ih1⟩ := pannierref07_put.mono_l k
    refine ⟨?_, ?_⟩
    · intro y0 y1 y2 y3 y4 y5
      unfold pannierref07_put.l0
      repeat' first
      | (with_reducible exact ih0 _ _ _ _ _ _)
      | (with_reducible exact ih1 _ _ _ _ _ _ _)
      | (with_reducible exact LeO.refl _)
      | (with_reducible exact LeO.none _)
      | (with_reducible refine LeO.ite ?_ ?_)
      | (with_reducible refine LeO.bind ?_ (fun _ => ?_))
      | exact ih0 _ _ _ _ _ _
      | exact ih1 _ _ _ _ _ _ _
      | exact LeO.none _
      | refine LeO.ite ?_ ?_
      | refine LeO.bind ?_ (fun _ => ?_)
    · intro y0 y1 y2 y3 y4 y5 y6
      unfold pannierref07_put.j1
      repeat' first
      | (with_reducible exact ih0 _ _ _ _ _ _)
      | (with_reducible exact ih1 _ _ _ _ _ _ _)
      | (with_reducible exact LeO.refl _)
      | (with_reducible exact LeO.none _)
      | (with_reducible refine LeO.ite ?_ ?_)
      | (with_reducible refine LeO.bind ?_ (fun _ => ?_))
      | exact ih0 _ _ _ _ _ _
      | exact ih1 _ _ _ _ _ _ _
      | exact LeO.none _
      | refine LeO.ite ?_ ?_
      | refine LeO.bind ?_ (fun _ => ?_)
theorem pannierref07_put.mono : ∀ a0 a1 a2 k, LeO (pannierref07_put.f k a0 a1 a2) (pannierref07_put.f (k + 1) a0 a1 a2) := by
  intro a0 a1 a2 k
  obtain ⟨ih0, ih1⟩ := pannierref07_put.mono_l k
  unfold pannierref07_put.f
  repeat' first
      | (with_reducible exact ih0 _ _ _ _ _ _)
      | (with_reducible exact ih1 _ _ _ _ _ _ _)
      | (with_reducible exact LeO.refl _)
      | (with_reducible exact LeO.none _)
      | (with_reducible refine LeO.ite ?_ ?_)
      | (with_reducible refine LeO.bind ?_ (fun _ => ?_))
      | exact ih0 _ _ _ _ _ _
      | exact ih1 _ _ _ _ _ _ _
      | exact LeO.none _
      | refine LeO.ite ?_ ?_
      | refine LeO.bind ?_ (fun _ => ?_)
set_option maxHeartbeats 8000000 in
set_option maxRecDepth 100000 in
theorem pannierref07_put.calls (k : Nat) (A0 : Option Addr) (c0 : Nat) (l0 : List (S35)) (a1 : ByteArray) (a2 : Int) (r : List (S35)) (w : World) (hr0 : Kd.C k35 w A0 l0.length l0) (hc0 : l0.length ≤ c0) (h : pannierref07_put.f k l0 a1 a2 = some r) :
    Calls Try.prog 44 #[.slice A0 l0.length c0, .string a1, .int .i64 a2] w fun e w' => ∃ v0_ : Value, e = .returned (v0_) ∧ Kd.R k35 35 w' w.heap.size (fun _ => True) v0_ r ∧ Below w.heap.size w w' := by
  have hu35 := Try.underlying35
  have HR0 := Aside0.mk hr0
  have HC0 := Aside0.mk hc0
  clear hr0 hc0
  have HB := Aside0.mk (Below.refl w.heap.size w)
  have H : (pannierref07_put.l0 k l0 a1 a2 ([] : List (S35)) (a2 == 0) 0) = some r := h
  clear h
  have H' := Aside0.mk H
  clear H
  go_enter Try.func44, Try.ntmps44
  go_wp2
  go_loopg [7, 8, 9] k (fun kq v7 v8 v9 w' => ∃ (x7_1 : List (S35)) (x8_1 : Bool) (x9_1 : Int), v8 = .bool x8_1 ∧ v9 = .int .i64 x9_1 ∧ Aside0 (pannierref07_put.l0 kq l0 a1 a2 x7_1 x8_1 x9_1 = some r) ∧ Aside0 (kq ≤ k) ∧ Aside0 (Kd.R k35 35 w' w.heap.size (fun _ => True) v7 x7_1) ∧ Aside0 (Below w.heap.size w w'))
  case atStart => exact ⟨(([] : List (S35))), ((a2 == 0)), (0), (by first | rfl | (simp; done) | (simp [*]; done)), (by first | rfl | (simp; done) | (simp [*]; done)), H', ⟨Nat.le_refl _⟩, ⟨by first | exact Kd.R_nil _ _ _ _ _ | exact Kd.N_nil _ _ _ _ _ | exact Kd.V_nil _ _ _ _ _ | exact Kd.Q_nil _ _ _ _ _ | exact Kd.S_nil _ _ _ _ _⟩, ⟨by repeat (first | (with_reducible first | exact HB.out | apply below_alloc | apply pw_below_drewN | apply below_drew1) | exact HB.out)⟩⟩
  case round =>
    clear H'
    try clear p2
    obtain ⟨x7_1, x8_1, x9_1, rfl, rfl, HA, HK1, HO_7, HB⟩ := hrel
    cases gk with
    | zero => exact absurd HA.out (by simp [pannierref07_put.l0])
    | succ k1 =>
      have H := HA.out
      clear HA
      simp only [pannierref07_put.l0] at H
      by_cases c4 : x9_1 < (l0.length : Int)
      · rw [if_pos c4] at H
        have c4b0 : decide (x9_1 < (l0.length : Int)) = true := decide_eq_true c4
        clear c4
        have HC5 := Aside0.mk H
        clear H
        go_upto_region 6 with (fail)
        go_cut [28] (fun v28 wc => ∃ (kq : Nat) (x28_4 : Bool), v28 = .bool x28_4 ∧ Aside0 (pannierref07_put.j1 kq l0 a1 a2 x7_1 x8_1 x9_1 x28_4 = some r) ∧ Aside0 (kq ≤ k1) ∧ Aside0 (Kd.R k35 35 wc w.heap.size (fun _ => True) u7 x7_1) ∧ Aside0 (Below w.heap.size w wc))
        case first =>
          have H := HC5.out
          clear HC5
          by_cases c6 : x8_1 = true
          · subst c6
            have H1 : (pannierref07_put.j1 k1 l0 a1 a2 x7_1 true x9_1 false) = some r := by rw [if_pos rfl] at H; exact H
            clear H
            have H := H1
            clear H1
            have H' := Aside0.mk H
            clear H
            go_wp2
            go_meet
            case rel => exact ⟨_, (false), (by first | rfl | (simp; done) | (simp [*]; done)), H', ⟨by have := HK1.out; first | omega | exact Nat.le_refl _⟩, ⟨by (with_reducible repeat (first | apply Kd.R_alloc | apply Kd.R_drewN | apply Kd.R_drew)); exact HO_7.out⟩, ⟨by repeat (first | (with_reducible first | exact HB.out | apply below_alloc | apply pw_below_drewN | apply below_drew1) | exact HB.out)⟩⟩
          · replace c6 := Bool.eq_false_iff.mpr c6
            subst c6
            have H1 : (if 0 ≤ x9_1 then (pannierref07_put.j1 k1 l0 a1 a2 x7_1 false x9_1 (!(Op.bytesLess (((rd_T35 l0 x9_1).f0).toList) a1.toList))) else (none)) = some r := by rw [if_neg (show ¬ (false = true) by decide)] at H; exact H
            clear H
            have H := H1
            clear H1
            by_cases c7 : 0 ≤ x9_1
            · rw [if_pos c7] at H
              have c7b0 : decide (0 ≤ x9_1) = true := decide_eq_true c7
              clear c7
              (first | rw [c7b0] | (simp only [i64_w, i32_w]; rw [c7b0]) | skip)
              have H' := Aside0.mk H
              clear H
              have p191 : 0 ≤ (x9_1 : Int) := of_decide_eq_true (by first | (with_reducible assumption) | assumption)
              have q191 : x9_1 < (l0.length : Int) := of_decide_eq_true (by first | (with_reducible assumption) | assumption)
              obtain ⟨ad191, e191, hx191_0, hx191_1⟩ := at_T35 HR0.out x9_1 p191 q191
              cases e191
              replace hx191_0 := (HB.out.cell (World.block_lt_of_cell? w _ hx191_0)).trans hx191_0
              replace hx191_1 := (HB.out.cell (World.block_lt_of_cell? w _ hx191_1)).trans hx191_1
              replace p191 := eq_true p191
              replace q191 := eq_true q191
              go_wp2
              go_meet
              case rel => exact ⟨_, (!(Op.bytesLess (((rd_T35 l0 x9_1).f0).toList) a1.toList)), (by first | rfl | (simp; done) | (simp [*]; done)), H', ⟨by have := HK1.out; first | omega | exact Nat.le_refl _⟩, ⟨by (with_reducible repeat (first | apply Kd.R_alloc | apply Kd.R_drewN | apply Kd.R_drew)); exact HO_7.out⟩, ⟨by repeat (first | (with_reducible first | exact HB.out | apply below_alloc | apply pw_below_drewN | apply below_drew1) | exact HB.out)⟩⟩
            · rw [if_neg c7] at H
              exact absurd H (by simp)
        case rest =>
          clear HC5
          try clear p1
          try clear q1
          try clear hx1
          try clear p2
          try clear c4
          try clear c4b0
          try clear c6
          try clear c7
          try clear c7b0
          try clear hx191_0
          try clear hx191_1
          try clear p191
          try clear p2
          try clear q191
          obtain ⟨kq, x28_4, rfl, HA, HJ4, HO_7, HB⟩ := hcut
          cases kq with
          | zero => exact absurd HA.out (by simp [pannierref07_put.j1])
          | succ kj4 =>
            have H := HA.out
            clear HA
            simp only [pannierref07_put.j1] at H
            by_cases c8 : x28_4 = true
            · subst c8
              have H1 : (if x7_1.length < 5864062014805 then ((some (x7_1 ++ [(⟨a1, a2⟩ : S35)] : List (S35))).bind fun y192 => (if 0 ≤ x9_1 then (if x9_1 < (l0.length : Int) then (if ((rd_T35 l0 x9_1).f0).toList = a1.toList then (pannierref07_put.l0 kj4 l0 a1 a2 y192 true (wrap64 (x9_1 + 1))) else (if y192.length < 5864062014805 then (pannierref07_put.l0 kj4 l0 a1 a2 (y192 ++ [(⟨(rd_T35 l0 x9_1).f0, (rd_T35 l0 x9_1).f1⟩ : S35)]) true (wrap64 (x9_1 + 1))) else (none))) else (none)) else (none))) else (none)) = some r := by rw [if_pos rfl] at H; exact H
              clear H
              have H := H1
              clear H1
              by_cases c9 : x7_1.length < 5864062014805
              · rw [if_pos c9] at H
                have LMc9 := Aside0.mk c9
                clear c9
                obtain ⟨y192, hy192⟩ : ∃ y_ : List (S35), y_ = (x7_1 ++ [(⟨a1, a2⟩ : S35)]) := ⟨_, rfl⟩
                replace H : (if 0 ≤ x9_1 then (if x9_1 < (l0.length : Int) then (if ((rd_T35 l0 x9_1).f0).toList = a1.toList then (pannierref07_put.l0 kj4 l0 a1 a2 y192 true (wrap64 (x9_1 + 1))) else (if y192.length < 5864062014805 then (pannierref07_put.l0 kj4 l0 a1 a2 (y192 ++ [(⟨(rd_T35 l0 x9_1).f0, (rd_T35 l0 x9_1).f1⟩ : S35)]) true (wrap64 (x9_1 + 1))) else (none))) else (none)) else (none)) = some r := by first | (rw [hy192]; with_reducible exact H) | (have H2_ := (Option.bind_some _ _).symm.trans H; rw [hy192]; with_reducible exact H2_) | (have H2_ := (Option.bind_some _ _).symm.trans H; with_reducible exact H2_) | with_reducible exact H | (rw [hy192]; exact H) | exact H
                have Ny192 := Aside0.mk hy192
                clear hy192
                by_cases c10 : 0 ≤ x9_1
                · rw [if_pos c10] at H
                  have c10b0 : decide (0 ≤ x9_1) = true := decide_eq_true c10
                  clear c10
                  by_cases c11 : x9_1 < (l0.length : Int)
                  · rw [if_pos c11] at H
                    have c11b0 : decide (x9_1 < (l0.length : Int)) = true := decide_eq_true c11
                    clear c11
                    by_cases c12 : ((rd_T35 l0 x9_1).f0).toList = a1.toList
                    · rw [if_pos c12] at H
                      have c12b0 : (((rd_T35 l0 x9_1).f0).toList == a1.toList) = true := beq_iff_eq.mpr c12
                      have c12b1 : (((rd_T35 l0 x9_1).f0).toList != a1.toList) = false := bne_eq_false_iff_eq.mpr c12
                      clear c12
                      have H' := Aside0.mk H
                      clear H
                      go_wp2_with (first | ((with_reducible refine gate_builtin (b := .append) (xs := #[.tmp 29, .tmp 33]) rfl ?_); at_builtin; refine Kd.R_append k35 (w0 := w) w.heap.size rfl (.tmp 29) (.tmp 33) 24 35 (.agg #[(.string ⟨#[]⟩), (.int .i64 0)]) 24 rfl Try.underlying24 info35 rfl (by decide) (by omega) u7 x7_1 (⟨a1, a2⟩ : S35) [.string a1, .int .i64 a2] (fun _ => True) (fun _ => False) rfl rfl ?aP (fun _ hk => hk.elim) ?aF ?aO ?aB ?aS ?aL ?_; (case aP => exact k35_mkM _ _ _ (⟨a1, a2⟩ : S35)); (case aB => exact (by repeat (first | (with_reducible first | exact HB.out | apply below_alloc | apply pw_below_drewN | apply below_drew1) | exact HB.out))); (case aF => exact (fun _ _ => trivial)); (case aO => exact (by (with_reducible repeat (first | apply Kd.R_alloc | apply Kd.R_drewN | apply Kd.R_drew)); exact HO_7.out)); (case aS => exact (below_size (by repeat (first | (with_reducible first | exact HB.out | apply below_alloc | apply pw_below_drewN | apply below_drew1) | exact HB.out)))); (case aL => have := LMc9.out; omega); intro v193 w13 ho hb hg hat; rw [← Ny192.out] at ho; have n0_ := Aside0.mk (hb); have n1_ := Aside0.mk (ho); clear HB; clear HO_7; have HB := n0_; have HO194 := n1_; clear n0_ n1_; clear ho hb hg hat; have p195 : 0 ≤ (x9_1 : Int) := of_decide_eq_true (by first | (with_reducible assumption) | assumption); have q195 : x9_1 < (l0.length : Int) := of_decide_eq_true (by first | (with_reducible assumption) | assumption); obtain ⟨ad195, e195, hx195_0, hx195_1⟩ := at_T35 HR0.out x9_1 p195 q195; cases e195; replace hx195_0 := (HB.out.cell (World.block_lt_of_cell? w _ hx195_0)).trans hx195_0; replace hx195_1 := (HB.out.cell (World.block_lt_of_cell? w _ hx195_1)).trans hx195_1; replace p195 := eq_true p195; replace q195 := eq_true q195))
                      go_roundg kj4
                      case measure => have := HK1.out; have := HJ4.out; omega
                      case rel => exact ⟨(y192), (true), (wrap64 (x9_1 + 1)), (by first | rfl | (simp; done) | (simp [*]; done)), (by first | rfl | (simp; done) | (simp [*]; done)), H', ⟨by have := HK1.out; have := HJ4.out; omega⟩, ⟨by (with_reducible repeat (first | apply Kd.R_alloc | apply Kd.R_drewN | apply Kd.R_drew)); exact HO194.out⟩, ⟨by repeat (first | (with_reducible first | exact HB.out | apply below_alloc | apply pw_below_drewN | apply below_drew1) | exact HB.out)⟩⟩
                    · rw [if_neg c12] at H
                      have c12b0 : (((rd_T35 l0 x9_1).f0).toList == a1.toList) = false := beq_eq_false_iff_ne.mpr c12
                      have c12b1 : (((rd_T35 l0 x9_1).f0).toList != a1.toList) = true := bne_iff_ne.mpr c12
                      by_cases c14 : y192.length < 5864062014805
                      · rw [if_pos c14] at H
                        have LMc14 := Aside0.mk c14
                        clear c14
                        obtain ⟨y197, hy197⟩ : ∃ y_ : List (S35), y_ = (y192 ++ [(⟨(rd_T35 l0 x9_1).f0, (rd_T35 l0 x9_1).f1⟩ : S35)]) := ⟨_, rfl⟩
                        replace H : (pannierref07_put.l0 kj4 l0 a1 a2 y197 true (wrap64 (x9_1 + 1))) = some r := by first | (rw [hy197]; with_reducible exact H) | (have H2_ := (Option.bind_some _ _).symm.trans H; rw [hy197]; with_reducible exact H2_) | (have H2_ := (Option.bind_some _ _).symm.trans H; with_reducible exact H2_) | with_reducible exact H | (rw [hy197]; exact H) | exact H
                        have Ny197 := Aside0.mk hy197
                        clear hy197
                        have H' := Aside0.mk H
                        clear H
                        go_wp2_with (first | ((with_reducible refine gate_builtin (b := .append) (xs := #[.tmp 29, .tmp 33]) rfl ?_); at_builtin; refine Kd.R_append k35 (w0 := w) w.heap.size rfl (.tmp 29) (.tmp 33) 24 35 (.agg #[(.string ⟨#[]⟩), (.int .i64 0)]) 24 rfl Try.underlying24 info35 rfl (by decide) (by omega) u7 x7_1 (⟨a1, a2⟩ : S35) [.string a1, .int .i64 a2] (fun _ => True) (fun _ => False) rfl rfl ?aP (fun _ hk => hk.elim) ?aF ?aO ?aB ?aS ?aL ?_; (case aP => exact k35_mkM _ _ _ (⟨a1, a2⟩ : S35)); (case aB => exact (by repeat (first | (with_reducible first | exact HB.out | apply below_alloc | apply pw_below_drewN | apply below_drew1) | exact HB.out))); (case aF => exact (fun _ _ => trivial)); (case aO => exact (by (with_reducible repeat (first | apply Kd.R_alloc | apply Kd.R_drewN | apply Kd.R_drew)); exact HO_7.out)); (case aS => exact (below_size (by repeat (first | (with_reducible first | exact HB.out | apply below_alloc | apply pw_below_drewN | apply below_drew1) | exact HB.out)))); (case aL => have := LMc9.out; omega); intro v193 w15 ho hb hg hat; rw [← Ny192.out] at ho; have n0_ := Aside0.mk (hb); have n1_ := Aside0.mk (ho); clear HB; clear HO_7; have HB := n0_; have HO194 := n1_; clear n0_ n1_; clear ho hb hg hat; have p195 : 0 ≤ (x9_1 : Int) := of_decide_eq_true (by first | (with_reducible assumption) | assumption); have q195 : x9_1 < (l0.length : Int) := of_decide_eq_true (by first | (with_reducible assumption) | assumption); obtain ⟨ad195, e195, hx195_0, hx195_1⟩ := at_T35 HR0.out x9_1 p195 q195; cases e195; replace hx195_0 := (HB.out.cell (World.block_lt_of_cell? w _ hx195_0)).trans hx195_0; replace hx195_1 := (HB.out.cell (World.block_lt_of_cell? w _ hx195_1)).trans hx195_1; replace p195 := eq_true p195; replace q195 := eq_true q195; have p196 : 0 ≤ (x9_1 : Int) := of_decide_eq_true (by first | (with_reducible assumption) | assumption); have q196 : x9_1 < (l0.length : Int) := of_decide_eq_true (by first | (with_reducible assumption) | assumption); obtain ⟨ad196, e196, hx196_0, hx196_1⟩ := at_T35 HR0.out x9_1 p196 q196; obtain rfl : ad195 = ad196 := (by injection e196); replace hx196_0 := (HB.out.cell (World.block_lt_of_cell? w _ hx196_0)).trans hx196_0; replace hx196_1 := (HB.out.cell (World.block_lt_of_cell? w _ hx196_1)).trans hx196_1; replace p196 := eq_true p196; replace q196 := eq_true q196) | ((with_reducible refine gate_builtin (b := .append) (xs := #[.tmp 42, .tmp 47]) rfl ?_); at_builtin; refine Kd.R_append k35 (w0 := w) w.heap.size rfl (.tmp 42) (.tmp 47) 24 35 (.agg #[(.string ⟨#[]⟩), (.int .i64 0)]) 24 rfl Try.underlying24 info35 rfl (by decide) (by omega) v193 y192 (⟨(rd_T35 l0 x9_1).f0, (rd_T35 l0 x9_1).f1⟩ : S35) [.string ((rd_T35 l0 x9_1).f0), .int .i64 ((rd_T35 l0 x9_1).f1)] (fun _ => True) (fun _ => False) rfl rfl ?aP (fun _ hk => hk.elim) ?aF ?aO ?aB ?aS ?aL ?_; (case aP => exact k35_mkM _ _ _ (⟨(rd_T35 l0 x9_1).f0, (rd_T35 l0 x9_1).f1⟩ : S35)); (case aB => exact (by repeat (first | (with_reducible first | exact HB.out | apply below_alloc | apply pw_below_drewN | apply below_drew1) | exact HB.out))); (case aF => exact (fun _ _ => trivial)); (case aO => exact (by (with_reducible repeat (first | apply Kd.R_alloc | apply Kd.R_drewN | apply Kd.R_drew)); exact HO194.out)); (case aS => exact (below_size (by repeat (first | (with_reducible first | exact HB.out | apply below_alloc | apply pw_below_drewN | apply below_drew1) | exact HB.out)))); (case aL => have := LMc14.out; omega); intro v198 w16 ho hb hg hat; rw [← Ny197.out] at ho; have n0_ := Aside0.mk (hb); have n1_ := Aside0.mk (ho); clear HB; clear HO194; have HB := n0_; have HO199 := n1_; clear n0_ n1_; clear ho hb hg hat))
                        go_roundg kj4
                        case measure => have := HK1.out; have := HJ4.out; omega
                        case rel => exact ⟨(y197), (true), (wrap64 (x9_1 + 1)), (by first | rfl | (simp; done) | (simp [*]; done)), (by first | rfl | (simp; done) | (simp [*]; done)), H', ⟨by have := HK1.out; have := HJ4.out; omega⟩, ⟨by (with_reducible repeat (first | apply Kd.R_alloc | apply Kd.R_drewN | apply Kd.R_drew)); exact HO199.out⟩, ⟨by repeat (first | (with_reducible first | exact HB.out | apply below_alloc | apply pw_below_drewN | apply below_drew1) | exact HB.out)⟩⟩
                      · rw [if_neg c14] at H
                        exact absurd H (by simp)
                  · rw [if_neg c11] at H
                    exact absurd H (by simp)
                · rw [if_neg c10] at H
                  exact absurd H (by simp)
              · rw [if_neg c9] at H
                exact absurd H (by simp)
            · replace c8 := Bool.eq_false_iff.mpr c8
              subst c8
              have H1 : (if 0 ≤ x9_1 then (if x9_1 < (l0.length : Int) then (if ((rd_T35 l0 x9_1).f0).toList = a1.toList then (pannierref07_put.l0 kj4 l0 a1 a2 x7_1 x8_1 (wrap64 (x9_1 + 1))) else (if x7_1.length < 5864062014805 then (pannierref07_put.l0 kj4 l0 a1 a2 (x7_1 ++ [(⟨(rd_T35 l0 x9_1).f0, (rd_T35 l0 x9_1).f1⟩ : S35)]) x8_1 (wrap64 (x9_1 + 1))) else (none))) else (none)) else (none)) = some r := by rw [if_neg (show ¬ (false = true) by decide)] at H; exact H
              clear H
              have H := H1
              clear H1
              by_cases c17 : 0 ≤ x9_1
              · rw [if_pos c17] at H
                have c17b0 : decide (0 ≤ x9_1) = true := decide_eq_true c17
                clear c17
                by_cases c18 : x9_1 < (l0.length : Int)
                · rw [if_pos c18] at H
                  have c18b0 : decide (x9_1 < (l0.length : Int)) = true := decide_eq_true c18
                  clear c18
                  by_cases c19 : ((rd_T35 l0 x9_1).f0).toList = a1.toList
                  · rw [if_pos c19] at H
                    have c19b0 : (((rd_T35 l0 x9_1).f0).toList == a1.toList) = true := beq_iff_eq.mpr c19
                    have c19b1 : (((rd_T35 l0 x9_1).f0).toList != a1.toList) = false := bne_eq_false_iff_eq.mpr c19
                    clear c19
                    have H' := Aside0.mk H
                    clear H
                    have p200 : 0 ≤ (x9_1 : Int) := of_decide_eq_true (by first | (with_reducible assumption) | assumption)
                    have q200 : x9_1 < (l0.length : Int) := of_decide_eq_true (by first | (with_reducible assumption) | assumption)
                    obtain ⟨ad200, e200, hx200_0, hx200_1⟩ := at_T35 HR0.out x9_1 p200 q200
                    cases e200
                    replace hx200_0 := (HB.out.cell (World.block_lt_of_cell? w _ hx200_0)).trans hx200_0
                    replace hx200_1 := (HB.out.cell (World.block_lt_of_cell? w _ hx200_1)).trans hx200_1
                    replace p200 := eq_true p200
                    replace q200 := eq_true q200
                    go_wp2
                    go_roundg kj4
                    case measure => have := HK1.out; have := HJ4.out; omega
                    case rel => exact ⟨(x7_1), (x8_1), (wrap64 (x9_1 + 1)), (by first | rfl | (simp; done) | (simp [*]; done)), (by first | rfl | (simp; done) | (simp [*]; done)), H', ⟨by have := HK1.out; have := HJ4.out; omega⟩, ⟨by (with_reducible repeat (first | apply Kd.R_alloc | apply Kd.R_drewN | apply Kd.R_drew)); exact HO_7.out⟩, ⟨by repeat (first | (with_reducible first | exact HB.out | apply below_alloc | apply pw_below_drewN | apply below_drew1) | exact HB.out)⟩⟩
                  · rw [if_neg c19] at H
                    have c19b0 : (((rd_T35 l0 x9_1).f0).toList == a1.toList) = false := beq_eq_false_iff_ne.mpr c19
                    have c19b1 : (((rd_T35 l0 x9_1).f0).toList != a1.toList) = true := bne_iff_ne.mpr c19
                    by_cases c20 : x7_1.length < 5864062014805
                    · rw [if_pos c20] at H
                      have LMc20 := Aside0.mk c20
                      clear c20
                      obtain ⟨y202, hy202⟩ : ∃ y_ : List (S35), y_ = (x7_1 ++ [(⟨(rd_T35 l0 x9_1).f0, (rd_T35 l0 x9_1).f1⟩ : S35)]) := ⟨_, rfl⟩
                      replace H : (pannierref07_put.l0 kj4 l0 a1 a2 y202 x8_1 (wrap64 (x9_1 + 1))) = some r := by first | (rw [hy202]; with_reducible exact H) | (have H2_ := (Option.bind_some _ _).symm.trans H; rw [hy202]; with_reducible exact H2_) | (have H2_ := (Option.bind_some _ _).symm.trans H; with_reducible exact H2_) | with_reducible exact H | (rw [hy202]; exact H) | exact H
                      have Ny202 := Aside0.mk hy202
                      clear hy202
                      have H' := Aside0.mk H
                      clear H
                      have p200 : 0 ≤ (x9_1 : Int) := of_decide_eq_true (by first | (with_reducible assumption) | assumption)
                      have q200 : x9_1 < (l0.length : Int) := of_decide_eq_true (by first | (with_reducible assumption) | assumption)
                      obtain ⟨ad200, e200, hx200_0, hx200_1⟩ := at_T35 HR0.out x9_1 p200 q200
                      cases e200
                      replace hx200_0 := (HB.out.cell (World.block_lt_of_cell? w _ hx200_0)).trans hx200_0
                      replace hx200_1 := (HB.out.cell (World.block_lt_of_cell? w _ hx200_1)).trans hx200_1
                      replace p200 := eq_true p200
                      replace q200 := eq_true q200
                      have p201 : 0 ≤ (x9_1 : Int) := of_decide_eq_true (by first | (with_reducible assumption) | assumption)
                      have q201 : x9_1 < (l0.length : Int) := of_decide_eq_true (by first | (with_reducible assumption) | assumption)
                      obtain ⟨ad201, e201, hx201_0, hx201_1⟩ := at_T35 HR0.out x9_1 p201 q201
                      obtain rfl : ad200 = ad201 := (by injection e201)
                      replace hx201_0 := (HB.out.cell (World.block_lt_of_cell? w _ hx201_0)).trans hx201_0
                      replace hx201_1 := (HB.out.cell (World.block_lt_of_cell? w _ hx201_1)).trans hx201_1
                      replace p201 := eq_true p201
                      replace q201 := eq_true q201
                      go_wp2_with (first | ((with_reducible refine gate_builtin (b := .append) (xs := #[.tmp 42, .tmp 47]) rfl ?_); at_builtin; refine Kd.R_append k35 (w0 := w) w.heap.size rfl (.tmp 42) (.tmp 47) 24 35 (.agg #[(.string ⟨#[]⟩), (.int .i64 0)]) 24 rfl Try.underlying24 info35 rfl (by decide) (by omega) u7 x7_1 (⟨(rd_T35 l0 x9_1).f0, (rd_T35 l0 x9_1).f1⟩ : S35) [.string ((rd_T35 l0 x9_1).f0), .int .i64 ((rd_T35 l0 x9_1).f1)] (fun _ => True) (fun _ => False) rfl rfl ?aP (fun _ hk => hk.elim) ?aF ?aO ?aB ?aS ?aL ?_; (case aP => exact k35_mkM _ _ _ (⟨(rd_T35 l0 x9_1).f0, (rd_T35 l0 x9_1).f1⟩ : S35)); (case aB => exact (by repeat (first | (with_reducible first | exact HB.out | apply below_alloc | apply pw_below_drewN | apply below_drew1) | exact HB.out))); (case aF => exact (fun _ _ => trivial)); (case aO => exact (by (with_reducible repeat (first | apply Kd.R_alloc | apply Kd.R_drewN | apply Kd.R_drew)); exact HO_7.out)); (case aS => exact (below_size (by repeat (first | (with_reducible first | exact HB.out | apply below_alloc | apply pw_below_drewN | apply below_drew1) | exact HB.out)))); (case aL => have := LMc20.out; omega); intro v203 w21 ho hb hg hat; rw [← Ny202.out] at ho; have n0_ := Aside0.mk (hb); have n1_ := Aside0.mk (ho); clear HB; clear HO_7; have HB := n0_; have HO204 := n1_; clear n0_ n1_; clear ho hb hg hat))
                      go_roundg kj4
                      case measure => have := HK1.out; have := HJ4.out; omega
                      case rel => exact ⟨(y202), (x8_1), (wrap64 (x9_1 + 1)), (by first | rfl | (simp; done) | (simp [*]; done)), (by first | rfl | (simp; done) | (simp [*]; done)), H', ⟨by have := HK1.out; have := HJ4.out; omega⟩, ⟨by (with_reducible repeat (first | apply Kd.R_alloc | apply Kd.R_drewN | apply Kd.R_drew)); exact HO204.out⟩, ⟨by repeat (first | (with_reducible first | exact HB.out | apply below_alloc | apply pw_below_drewN | apply below_drew1) | exact HB.out)⟩⟩
                    · rw [if_neg c20] at H
                      exact absurd H (by simp)
                · rw [if_neg c18] at H
                  exact absurd H (by simp)
              · rw [if_neg c17] at H
                exact absurd H (by simp)
      · rw [if_neg c4] at H
        have c4b0 : decide (x9_1 < (l0.length : Int)) = false := decide_eq_false c4
        clear c4
        by_cases c22 : x8_1 = true
        · subst c22
          have H1 : (some x7_1) = some r := by rw [if_pos rfl] at H; exact H
          clear H
          have H := H1
          clear H1
          obtain rfl := Option.some.inj H
          go_wp2
          go_ret
          exact ⟨_, by first | rfl | (simp [errW_none, errW_some] <;> rfl) | (simp [*, errW_none, errW_some] <;> rfl), by (with_reducible repeat (first | apply Kd.R_alloc | apply Kd.R_drewN | apply Kd.R_drew)); exact HO_7.out, by repeat (first | (with_reducible first | exact HB.out | apply below_alloc | apply pw_below_drewN | apply below_drew1) | exact HB.out)⟩
        · replace c22 := Bool.eq_false_iff.mpr c22
          subst c22
          have H1 : (if x7_1.length < 5864062014805 then (some (x7_1 ++ [(⟨a1, a2⟩ : S35)])) else (none)) = some r := by rw [if_neg (show ¬ (false = true) by decide)] at H; exact H
          clear H
          have H := H1
          clear H1
          by_cases c23 : x7_1.length < 5864062014805
          · rw [if_pos c23] at H
            have LMc23 := Aside0.mk c23
            clear c23
            obtain ⟨y188, hy188⟩ : ∃ y_ : List (S35), y_ = (x7_1 ++ [(⟨a1, a2⟩ : S35)]) := ⟨_, rfl⟩
            replace H : (some y188) = some r := by first | (rw [hy188]; with_reducible exact H) | (have H2_ := (Option.bind_some _ _).symm.trans H; rw [hy188]; with_reducible exact H2_) | (have H2_ := (Option.bind_some _ _).symm.trans H; with_reducible exact H2_) | with_reducible exact H | (rw [hy188]; exact H) | exact H
            have Ny188 := Aside0.mk hy188
            clear hy188
            obtain rfl := Option.some.inj H
            go_wp2_with (first | ((with_reducible refine gate_builtin (b := .append) (xs := #[.tmp 51, .tmp 55]) rfl ?_); at_builtin; refine Kd.R_append k35 (w0 := w) w.heap.size rfl (.tmp 51) (.tmp 55) 24 35 (.agg #[(.string ⟨#[]⟩), (.int .i64 0)]) 24 rfl Try.underlying24 info35 rfl (by decide) (by omega) u7 x7_1 (⟨a1, a2⟩ : S35) [.string a1, .int .i64 a2] (fun _ => True) (fun _ => False) rfl rfl ?aP (fun _ hk => hk.elim) ?aF ?aO ?aB ?aS ?aL ?_; (case aP => exact k35_mkM _ _ _ (⟨a1, a2⟩ : S35)); (case aB => exact (by repeat (first | (with_reducible first | exact HB.out | apply below_alloc | apply pw_below_drewN | apply below_drew1) | exact HB.out))); (case aF => exact (fun _ _ => trivial)); (case aO => exact (by (with_reducible repeat (first | apply Kd.R_alloc | apply Kd.R_drewN | apply Kd.R_drew)); exact HO_7.out)); (case aS => exact (below_size (by repeat (first | (with_reducible first | exact HB.out | apply below_alloc | apply pw_below_drewN | apply below_drew1) | exact HB.out)))); (case aL => have := LMc23.out; omega); intro v189 w24 ho hb hg hat; rw [← Ny188.out] at ho; have n0_ := Aside0.mk (hb); have n1_ := Aside0.mk (ho); clear HB; clear HO_7; have HB := n0_; have HO190 := n1_; clear n0_ n1_; clear ho hb hg hat))
            go_ret
            exact ⟨_, by first | rfl | (simp [errW_none, errW_some] <;> rfl) | (simp [*, errW_none, errW_some] <;> rfl), by (with_reducible repeat (first | apply Kd.R_alloc | apply Kd.R_drewN | apply Kd.R_drew)); exact HO190.out, by repeat (first | (with_reducible first | exact HB.out | apply below_alloc | apply pw_below_drewN | apply below_drew1) | exact HB.out)⟩
          · rw [if_neg c23] at H
            exact absurd H (by simp)

end Go.Proofs.Ytnnlpelogabokaa.PV
