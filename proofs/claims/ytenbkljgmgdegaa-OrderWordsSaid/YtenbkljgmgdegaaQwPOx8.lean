/- What the rows of this claim use, out of the texts of this work (POx8). No condition beyond those that each statement names. -/
import Derived.Test.YtenbkljgmgdegaaQwX
import Derived.Test.YtenbkljgmgdegaaQwPOx0
import Derived.Test.YtenbkljgmgdegaaQwPOx2
import Derived.Test.YtenbkljgmgdegaaQwPOx7
namespace Go.Proofs.Ytenbkljgmgdegaa.PO
open Go.Proofs.Ytenbkljgmgdegaa
open Go.RowKit Go.Proofs.YtenbkljgmgdegaaW.PrintWords Go.Proofs.YtenbkljgmgdegaaW.PrintLast Go.Proofs.YtenbkljgmgdegaaW.PrintMore
attribute [local go_sem] max2_int min2_int max_two min_two max_three min_three max_four min_four   -- for this text's walks alone
set_option linter.unusedVariables false
set_option linter.unusedSimpArgs false
section
open Go.Proofs.Ytenbkljgmgdegaa.XRange Go.Proofs.Ytenbkljgmgdegaa.XHeld
attribute [local go_sem] Oper.semAt_some
def leqM (l : List (ByteArray × Int × Int)) : Bool := l.all fun x => decide (x.2.1 ≤ x.2.2)
def vector_Leq.f (k : Nat) (l0 l1 : List S34) : Option Bool :=
 (vector_Right.f k l0).bind fun r0 => if r0 = true then (vector_Right.f k l1).bind fun r1 => if r1 = true then (if (mrg l0 l1).length ≤ 1000000 then some (leqM (mrg l0 l1)) else none) else some false else some false
theorem leqM_snoc (l : List (ByteArray × Int × Int)) (x : ByteArray × Int × Int) : leqM (l ++ [x]) = (leqM l && decide (x.2.1 ≤ x.2.2)) := by simp [leqM]
theorem leqM_pre {p l : List (ByteArray × Int × Int)} (h : p <+: l) (hp : leqM p = false) : leqM l = false := by
 obtain ⟨r, rfl⟩ := h
 unfold leqM at hp ⊢
 rw [List.all_append, hp, Bool.false_and]
set_option maxHeartbeats 4000000 in
set_option maxRecDepth 100000 in
theorem vector_Leq.calls (k : Nat) (A0 : Option Addr) (c0 : Nat) (l0 : List S34) (A1 : Option Addr) (c1 : Nat) (l1 : List S34) (r : Bool) (w : World) (hr0 : Kd.C k34 w A0 l0.length l0) (hc0 : l0.length ≤ c0) (hr1 : Kd.C k34 w A1 l1.length l1) (hc1 : l1.length ≤ c1) (h : vector_Leq.f k l0 l1 = some r) :
 Calls Try.prog 52 #[.slice A0 l0.length c0, .slice A1 l1.length c1] w fun e w' => e = .returned (.bool r) ∧ Below w.heap.size w w' := by
 unfold vector_Leq.f at h
 obtain ⟨r0, h0, h⟩ := Option.bind_eq_some_iff.mp h
 cases r0 with
 | false =>
  simp only [Bool.false_eq_true, if_false] at h
  obtain rfl := Option.some.inj h
  have H0 := Aside0.mk h0
  have HR0 := Aside0.mk (Kd.C_below hr0 ((Below.refl w.heap.size w).alloc (Nat.le_refl _) (.cells #[.bool false] 4)))
  have HC0 := Aside0.mk hc0
  clear h0 h hr0 hr1 hc0 hc1
  go_enter Try.func52, Try.ntmps52
  go_wp2_with fail
  refine (vector_Right.calls k A0 c0 l0 false _ HR0.out HC0.out H0.out).mono ?_
  rintro e w1 ⟨rfl, hb1⟩
  have hE1 := (hb1.block w.heap.size (by simp)).trans (blk_new w (.cells #[.bool false] 4))
  have e0 : w1.cell? ⟨w.heap.size, 0, none⟩ = some (.bool false) := (blk_cell hE1 0).trans rfl
  have e1 := blk_frozen hE1 0
  have HB1 := Aside0.mk (show Below w.heap.size w w1 from ((Below.refl w.heap.size w).alloc (Nat.le_refl _) (.cells #[.bool false] 4)).trans (hb1.mono (by simp)))
  have HE1 := Aside0.mk hE1
  clear hb1 hE1
  go_wp2
  have hc5 : (w1.setCell ⟨w.heap.size, 0, none⟩ (.bool false)).cell? ⟨w.heap.size, 0, none⟩ = some (.bool false) := (blk_cell (blk_set HE1.out 0 (.bool false)) 0).trans rfl
  exact bodyPost_ret (v := .bool false) (by simp [results, Try.f52, go_sem, hc5]) rfl ⟨rfl, HB1.out.setCell (p := ⟨w.heap.size, 0, none⟩) (Nat.le_refl _) _⟩
 | true =>
  simp only [if_true] at h
  obtain ⟨r1, h1, h⟩ := Option.bind_eq_some_iff.mp h
  have H0 := Aside0.mk h0
  have H1 := Aside0.mk h1
  have hB0 : Below w.heap.size w (w.alloc (.cells #[.bool false] 4)) := (Below.refl w.heap.size w).alloc (Nat.le_refl _) _
  have HR0 := Aside0.mk (Kd.C_below hr0 hB0)
  have HR1 := Aside0.mk (Kd.C_below hr1 hB0)
  have HC0 := Aside0.mk hc0
  have HC1 := Aside0.mk hc1
  have HX0 := Aside0.mk hr0
  have HX1 := Aside0.mk hr1
  clear h0 h1 hc0 hc1 hr0 hr1
  cases r1 with
  | false =>
   simp only [Bool.false_eq_true, if_false] at h
   obtain rfl := Option.some.inj h
   clear h
   go_enter Try.func52, Try.ntmps52
   go_wp2_with fail
   refine (vector_Right.calls k A0 c0 l0 true _ HR0.out HC0.out H0.out).mono ?_
   rintro e w1 ⟨rfl, hb1⟩
   have HQ1 := Aside0.mk (show Below w.heap.size w w1 from hB0.trans (hb1.mono (by simp)))
   have HE1 := Aside0.mk ((hb1.block w.heap.size (by simp)).trans (blk_new w (.cells #[.bool false] 4)))
   clear hb1 hB0
   go_wp2_with fail
   refine (vector_Right.calls k A1 c1 l1 false _ (Kd.C_below HX1.out HQ1.out) HC1.out H1.out).mono ?_
   rintro e w2 ⟨rfl, hb2⟩
   have HQ2 := Aside0.mk (show Below w.heap.size w w2 from HQ1.out.trans (hb2.mono HQ1.out.size))
   have hE2 := (hb2.block w.heap.size (blk_lt HE1.out)).trans HE1.out
   have e0 : w2.cell? ⟨w.heap.size, 0, none⟩ = some (.bool false) := (blk_cell hE2 0).trans rfl
   have e1 := blk_frozen hE2 0
   have HE2 := Aside0.mk hE2
   clear hb2 hE2
   go_wp2
   have hc5 : (w2.setCell ⟨w.heap.size, 0, none⟩ (.bool false)).cell? ⟨w.heap.size, 0, none⟩ = some (.bool false) := (blk_cell (blk_set HE2.out 0 (.bool false)) 0).trans rfl
   exact bodyPost_ret (v := .bool false) (by simp [results, Try.f52, go_sem, hc5]) rfl ⟨rfl, HQ2.out.setCell (p := ⟨w.heap.size, 0, none⟩) (Nat.le_refl _) _⟩
  | true =>
   simp only [if_true] at h
   by_cases hlen : (mrg l0 l1).length ≤ 1000000
   case neg => rw [if_neg hlen] at h; cases h
   rw [if_pos hlen] at h
   have HLEN := Aside0.mk hlen
   obtain rfl := Option.some.inj h
   clear h hlen
   refine (callsIn_wide (n := 3)).1 ?_
   refine callsIn_of_wp_marks Try.func52 rfl trivial ?_ rfl
   simp only [Try.ntmps52, List.size_toArray, List.length_cons, List.length_nil, Nat.reduceAdd, Nat.reduceSub, Array.replicate_succ, Array.replicate_zero, List.push_toArray, List.append_toArray, List.nil_append, List.cons_append]
   gi_wp2_with fail
   refine ⟨trivial, (callsIn_wide.2 (vector_Right.calls k A0 c0 l0 true _ HR0.out HC0.out H0.out)).mono ?_⟩
   rintro e w1 ⟨rfl, hb1⟩
   have HQ1 := Aside0.mk (show Below w.heap.size w w1 from hB0.trans (hb1.mono (by simp)))
   have HE1 := Aside0.mk ((hb1.block w.heap.size (by simp)).trans (blk_new w (.cells #[.bool false] 4)))
   clear hb1 hB0
   gi_wp2_with fail
   refine ⟨trivial, (callsIn_wide.2 (vector_Right.calls k A1 c1 l1 true _ (Kd.C_below HX1.out HQ1.out) HC1.out H1.out)).mono ?_⟩
   rintro e w2 ⟨rfl, hb2⟩
   have HQ2 := Aside0.mk (show Below w.heap.size w w2 from HQ1.out.trans (hb2.mono HQ1.out.size))
   have HE2 := Aside0.mk ((hb2.block w.heap.size (blk_lt HE1.out)).trans HE1.out)
   clear hb2
   gi_wp2_with fail
   refine ⟨trivial, (callsIn_wide.2 (vector_together.calls A0 A1 l0.length c0 l1.length c1 w2)).mono ?_⟩
   rintro e w3 ⟨rfl, hw3⟩
   have hbx := holds_boxes rfl HQ2.out HX0.out HX1.out HC0.out HC1.out
   rw [← hw3] at hbx
   have HBX := Aside0.mk hbx
   have hs3 : w3.heap.size = w2.heap.size + 2 := by rw [hw3]; simp
   have HS3 := Aside0.mk hs3
   have HQ3 := Aside0.mk (show Below w.heap.size w w3 from by rw [hw3]; exact (HQ2.out.alloc HQ2.out.size _).alloc (by have := HQ2.out.size; simp; omega) _)
   have HE3 := Aside0.mk (show w3.heap[w.heap.size]? = some (.cells #[.bool false] 4 (0, 0)) from by rw [hw3]; exact blk_alloc (blk_alloc HE2.out _) _)
   have hlt0 := blk_lt HE2.out
   clear hbx hw3 hs3
   gi_wp2_with fail
   refine range_law (gf := 129) rfl (enters_of Try.func129 (by kernel_rfl) rfl)
    (together1_seq 2 (fun k => k < w.heap.size ∨ k = w2.heap.size ∨ k = w2.heap.size + 1) w2.heap.size (w2.heap.size + 1) l0 l1 w3 (by omega) (.inr (.inl rfl)) (.inr (.inr rfl)) (fun k hk => by have := HS3.out; omega) HLEN.out HBX.out.1 HBX.out.2)
    (fun _ => rfl) (fun k hk => by have := HS3.out; omega) (fun k hk => by have := HS3.out; omega)
    (TestInv (fun pre => leqM pre = true) w.heap.size w) (fun c => TestInv (fun pre => c = .ret ∧ leqM pre = false) w.heap.size w)
    (testInv_abide (fun m hm => by omega)) (fun c => testInv_abide (fun m hm => by omega)) (testInv_abide (fun m hm => by have := HS3.out; omega)) (fun c => testInv_abide (fun m hm => by have := HS3.out; omega))
    ⟨rfl, HQ3.out, HE3.out⟩ ?round ?done ?stop
   case round =>
    rintro pre x W ⟨hp, hB, hE⟩ _ hsz
    have HI := Aside0.mk (show TestInv (fun pre => leqM pre = true) w.heap.size w pre W from ⟨hp, hB, hE⟩)
    clear hp hB hE
    obtain ⟨xw, xa, xb⟩ := x
    simp only [encs3]
    gi_wp2_with fail
    refine ⟨(Keeps.refl _ _).alloc _, fun Wb hkb hib => ?_⟩
    have hsb : W.heap.size < Wb.heap.size := by have := hkb.size; simp at this; omega
    have hpb : Wb.heap[W.heap.size]? = some (.cells #[.int .i64 xa, .int .i64 xb] 130 (0, 0)) := keeps_heap (blk_new W _) (by omega) hkb
    have b0 : Wb.cell? ⟨W.heap.size, 0, none⟩ = some (.int .i64 xa) := (blk_cell hpb 0).trans rfl
    have b1 : Wb.cell? ⟨W.heap.size, 1, none⟩ = some (.int .i64 xb) := (blk_cell hpb 1).trans rfl
    have e0 : Wb.cell? ⟨w.heap.size, 0, none⟩ = some (.bool false) := (blk_cell hib.2.2 0).trans rfl
    have e1 := blk_frozen hib.2.2 0
    have HIB := Aside0.mk hib
    clear hkb hpb hib
    by_cases hx : xb < xa
    · have hx' : decide (xb < xa) = true := decide_eq_true hx
      gi_wp2_with fail
      exact ⟨⟨by simp [World.setCell], fun i hi => Below.heap_setCell _ _ _ _ (by have := HS3.out; simp; omega)⟩, ⟨rfl, by show leqM _ = false; rw [leqM_snoc, decide_eq_false (by simpa using hx), Bool.and_false]⟩, HIB.out.2.1.setCell (p := ⟨w.heap.size, 0, none⟩) (Nat.le_refl _) _, blk_set HIB.out.2.2 0 _⟩
    · have hx' : decide (xb < xa) = false := decide_eq_false hx
      gi_wp2_with fail
      exact ⟨KeepOn.refl _ _, KeepOn.refl _ _, by show leqM _ = true; rw [leqM_snoc, HIB.out.1, decide_eq_true (by simpa using hx), Bool.and_true], HIB.out.2⟩
   case done =>
    rintro xs W rfl ⟨hp, hB, hE⟩ hsz hD
    have e0 : W.cell? ⟨w.heap.size, 0, none⟩ = some (.bool false) := (blk_cell hE 0).trans rfl
    have e1 := blk_frozen hE 0
    have HD := Aside0.mk (hD)
    have HB := Aside0.mk hB
    have HE := Aside0.mk hE
    have HP := Aside0.mk hp
    clear hD hB hE hp
    gi_wp2_with fail
    have hD' : (W.setCell ⟨w.heap.size, 0, none⟩ (.bool true)).heap[w3.heap.size]? = some (.deferred (some [])) := (Below.heap_setCell _ _ _ _ (by have := HS3.out; simp; omega)).trans HD.out
    refine leave_mark hD' ⟨.bool true, ?_, by rw [HP.out], below_put (HB.out.setCell (p := ⟨w.heap.size, 0, none⟩) (Nat.le_refl _) _) (by have := HS3.out; omega) (by have := blk_lt HE.out; simp [World.setCell]; omega)⟩
    have hc5 : ((W.setCell ⟨w.heap.size, 0, none⟩ (.bool true)).putObj w3.heap.size (.deferred none)).cell? ⟨w.heap.size, 0, none⟩ = some (.bool true) :=
     (blk_cell (keeps_heap (blk_set HE.out 0 (.bool true)) (M := fun k => k = w3.heap.size) (by have := HS3.out; omega) (keeps_putObj _ _ _ _ rfl)) 0).trans rfl
    simp [results, Try.f52, go_sem, hc5]
   case stop =>
    rintro c pre W hpre ⟨⟨rfl, hp⟩, hB, hE⟩ hsz hD
    have HD := Aside0.mk (hD)
    have HB := Aside0.mk hB
    have HE := Aside0.mk hE
    have HP := Aside0.mk (leqM_pre hpre hp)
    clear hD hB hE hp hpre
    gi_wp2_with fail
    refine leave_mark HD.out ⟨.bool false, ?_, by rw [HP.out], below_put HB.out (by have := HS3.out; omega) (by have := blk_lt HE.out; omega)⟩
    have hc5 : (W.putObj w3.heap.size (.deferred none)).cell? ⟨w.heap.size, 0, none⟩ = some (.bool false) :=
     (blk_cell (keeps_heap HE.out (M := fun k => k = w3.heap.size) (by have := HS3.out; omega) (keeps_putObj _ _ _ _ rfl)) 0).trans rfl
    simp [results, Try.f52, go_sem, hc5]
end
def api_Dot_66.f (l0 : List S34) : Option (List S34) := if l0.length * 24 ≤ 140737488355328 then some l0 else none
set_option maxHeartbeats 800000 in
theorem api_Dot_66.calls (A0 : Option Addr) (c0 : Nat) (l0 : List S34) (r : List S34) (w : World) (hr0 : Kd.C k34 w A0 l0.length l0) (hc0 : l0.length ≤ c0) (h : api_Dot_66.f l0 = some r) :
 Calls Try.prog 66 #[.slice A0 l0.length c0] w fun e w' => ∃ v0_ : Value, e = .returned (v0_) ∧ Kd.R k34 34 w' w.heap.size (fun _ => True) v0_ r ∧ Below w.heap.size w w' := by
 have hn := fun (W : World) => Lib.run_eql_slice_nil (P := Try.prog) W 23 34 A0 l0.length c0 0 0 Try.underlying23
 unfold api_Dot_66.f at h
 by_cases hl : l0.length * 24 ≤ 140737488355328
 case neg => rw [if_neg hl] at h; cases h
 rw [if_pos hl] at h
 obtain rfl := Option.some.inj h
 have HL := Aside0.mk hl
 clear h hl
 cases A0 with
 | none =>
  simp only [Option.isNone_none] at hn
  have h0 : l0 = [] := by
   rcases Nat.eq_zero_or_pos l0.length with h | h
   · exact List.eq_nil_of_length_eq_zero h
   · obtain ⟨ad, he, _⟩ := hr0.2.2 h
     cases he
  have H0 := Aside0.mk h0
  clear h0
  go_enter Try.func66, Try.ntmps66
  go_wp2
  go_ret
  exact ⟨_, rfl, by rw [H0.out]; exact Kd.R_nil _ _ _ _ _, Below.refl _ _⟩
 | some ad =>
  simp only [Option.isNone_some] at hn
  have HR := Aside0.mk hr0
  clear hr0
  have ho0 : Kd.R k34 34 (w.alloc (.cells #[] 34)) w.heap.size (fun _ => True) (.slice (some ⟨w.heap.size, 0, none⟩) 0 0) ([] : List S34) :=
   ⟨fun _ _ => trivial, [], World.ownsRow_made w #[] 0 (Nat.le_refl _) (by unfold maxLen; omega) (by rfl), Reps.none _ _⟩
  have HO := Aside0.mk ho0
  clear ho0
  go_enter Try.func66, Try.ntmps66
  go_wp2_with ((with_reducible refine gate_builtin (b := .append) (xs := #[.tmp 5, .tmp 6]) rfl ?_); at_builtin; refine Kd.R_append_rows k34 (w0 := w) w.heap.size rfl (.tmp 5) (.tmp 6) 23 34 (.agg #[(.string ⟨#[]⟩), (.int .i64 0)]) 24 rfl Try.underlying23 info34 rfl (by decide) (by omega) _ [] l0 _ _ _ (fun _ => True) (fun _ => False) rfl rfl HO.out (Kd.C_below HR.out ((Below.refl _ _).alloc (Nat.le_refl _) _)) (fun _ _ h => h) (fun _ h => h.elim) (fun _ _ => trivial) ((Below.refl _ _).alloc (Nat.le_refl _) _) (by simp) (by have := HL.out; simpa using this) ?_; intro v1 w1 ho1 hb1 hg1 hat)
  go_ret
  exact ⟨_, rfl, by simpa using ho1, hb1⟩
def order_own.f (a0_0 : ByteArray) (a0_1 : Int) (l0_2 : List (S34)) (a0_3 : ByteArray) (a0_4 : Int) (a0_5 : ByteArray) (a0_6 : Int) (l0_7 : List (S34)) : Option (ByteArray × Int × (List (S34)) × ByteArray × Int × ByteArray × Int × (List (S34))) := (api_Dot_66.f l0_2).bind fun t148 => ((api_Dot_66.f l0_7).bind fun t151 => (some (a0_0, a0_1, t148, a0_3, a0_4, a0_5, a0_6, t151)))
def order_own.T1 : Bool × List (List Nat × List Nat) := (true, [([], []), ([0], [0]), ([1], [1]), ([], []), ([3], [3]), ([4, 2], [4]), ([0, 1, 2, 3, 4], []), ([6, 2, 5, 0, 1, 2, 3, 4], [2, 6]), ([0, 1, 2, 3, 4, 5, 6, 7], []), ([8, 5, 7, 0, 1, 2, 3, 4, 5, 6, 7], [5, 8])])
def order_own.B1 : List Nat := [0, 1, 3, 0, 8, 31, 31, 127, 255, 511]
theorem order_own.tab1 : rtab .any (opsOf Try.f53 1) = order_own.T1 := by kernel_rfl
theorem order_own.bits1 : waitsOk order_own.T1.2 order_own.B1 = true := by kernel_rfl
set_option maxHeartbeats 8000000 in
set_option maxRecDepth 100000 in
theorem order_own.calls (a0_0 : ByteArray) (a0_1 : Int) (A0_2 : Option Addr) (c0_2 : Nat) (l0_2 : List (S34)) (a0_3 : ByteArray) (a0_4 : Int) (a0_5 : ByteArray) (a0_6 : Int) (A0_7 : Option Addr) (c0_7 : Nat) (l0_7 : List (S34)) (r1 : ByteArray) (r2 : Int) (r3 : List (S34)) (r4 : ByteArray) (r5 : Int) (r6 : ByteArray) (r7 : Int) (r8 : List (S34)) (w : World) (hr0_2 : Kd.C k34 w A0_2 l0_2.length l0_2) (hc0_2 : l0_2.length ≤ c0_2) (hr0_7 : Kd.C k34 w A0_7 l0_7.length l0_7) (hc0_7 : l0_7.length ≤ c0_7) (h : order_own.f a0_0 a0_1 l0_2 a0_3 a0_4 a0_5 a0_6 l0_7 = some (r1, r2, r3, r4, r5, r6, r7, r8)) :
 Calls Try.prog 53 #[.agg #[.string a0_0, .int .i64 a0_1, .slice A0_2 l0_2.length c0_2, .string a0_3, .int .i64 a0_4, .string a0_5, .int .i64 a0_6, .slice A0_7 l0_7.length c0_7]] w fun e w' => ∃ v2_ v7_ : Value, e = .returned (.agg #[.string r1, .int .i64 r2, v2_, .string r4, .int .i64 r5, .string r6, .int .i64 r7, v7_]) ∧ Kd.R k34 34 w' w.heap.size (fun k_ => some k_ ≠ (v7_ : Value).ownBlock) v2_ r3 ∧ Kd.R k34 34 w' w.heap.size (fun k_ => some k_ ≠ (v2_ : Value).ownBlock) v7_ r8 ∧ Below w.heap.size w w' := by
 have hu36 := Try.underlying36
 have HR0_2 := Aside0.mk hr0_2
 have HC0_2 := Aside0.mk hc0_2
 clear hr0_2 hc0_2
 have HR0_7 := Aside0.mk hr0_7
 have HC0_7 := Aside0.mk hc0_7
 clear hr0_7 hc0_7
 have HB := Aside0.mk (Below.refl w.heap.size w)
 have H : ((api_Dot_66.f l0_2).bind fun t148 => ((api_Dot_66.f l0_7).bind fun t151 => (some (a0_0, a0_1, t148, a0_3, a0_4, a0_5, a0_6, t151)))) = some (r1, r2, r3, r4, r5, r6, r7, r8) := h
 clear h
 replace H := Option.bind_eq_some_iff.mp H
 obtain ⟨t148, A20, H⟩ := H
 replace H : ((api_Dot_66.f l0_7).bind fun t151 => (some (a0_0, a0_1, t148, a0_3, a0_4, a0_5, a0_6, t151))) = some (r1, r2, r3, r4, r5, r6, r7, r8) := H
 have A2 := Aside0.mk A20
 clear A20
 replace H := Option.bind_eq_some_iff.mp H
 obtain ⟨t151, A30, H⟩ := H
 replace H : (some (a0_0, a0_1, t148, a0_3, a0_4, a0_5, a0_6, t151)) = some (r1, r2, r3, r4, r5, r6, r7, r8) := H
 have A3 := Aside0.mk A30
 clear A30
 simp only [Option.some.injEq, Prod.mk.injEq] at H
 obtain ⟨rfl, rfl, rfl, rfl, rfl, rfl, rfl, rfl⟩ := H
 go_enter Try.func53, Try.ntmps53
 try go_wp2_with (first | ((with_reducible refine gate_dst (N := 1) rfl ?_); refine box_event ?hg (N := 1) ?hd (cs := #[.string a0_0, .int .i64 a0_1, .slice A0_2 l0_2.length c0_2, .string a0_3, .int .i64 a0_4, .string a0_5, .int .i64 a0_6, .slice A0_7 l0_7.length c0_7]) (t := 36) ?hr ?_; (case hd => rfl); (case hg => rfl); (case hr => first | (go_simp; done) | (go_simp; rfl)); intro gb146 hg w4 hbox hb; have n0_ := Aside0.mk (below_step (by repeat (first | (with_reducible first | exact HB.out | apply below_alloc | apply pw_below_drewN | apply below_drew1) | exact HB.out)) hb); have n1_ := Aside0.mk (hbox); have n2_ := Aside0.mk ((by rw [hg]; exact (below_size (by repeat (first | (with_reducible first | exact HB.out | apply below_alloc | apply pw_below_drewN | apply below_drew1) | exact HB.out))) : w.heap.size ≤ gb146)); have n3_ := Aside0.mk ((by rw [hg]; exact (below_size (by repeat (first | (with_reducible first | exact HB.out | apply below_alloc | apply pw_below_drewN | apply below_drew1) | exact HB.out))) : w.heap.size ≤ gb146)); clear HB; have HB := n0_; have BK146 := n1_; have GW146 := n2_; have GE146 := n3_; clear n0_ n1_ n2_ n3_; clear hb hbox hg) | ((with_reducible refine gate_dst (N := 2) rfl ?_); refine box_event ?hg (N := 2) ?hd (cs := #[.string (⟨#[]⟩ : ByteArray), .int .i64 0, .slice none 0 0, .string (⟨#[]⟩ : ByteArray), .int .i64 0, .string (⟨#[]⟩ : ByteArray), .int .i64 0, .slice none 0 0]) (t := 36) ?hr ?_; (case hd => rfl); (case hg => rfl); (case hr => first | (go_simp; done) | (go_simp; rfl)); intro gb147 hg w5 hbox hb; have n0_ := Aside0.mk (blk_below (g := gb146) (o := .cells #[.string a0_0, .int .i64 a0_1, .slice A0_2 l0_2.length c0_2, .string a0_3, .int .i64 a0_4, .string a0_5, .int .i64 a0_6, .slice A0_7 l0_7.length c0_7] 36 (0, 0)) (by (with_reducible repeat (first | refine blk_drewN ?_ _ | refine blk_drew ?_ | refine blk_alloc ?_ _)); exact BK146.out) hb); have n1_ := Aside0.mk (below_step (by repeat (first | (with_reducible first | exact HB.out | apply below_alloc | apply pw_below_drewN | apply below_drew1 | refine below_set ?_ GE146.out) | exact HB.out)) hb); have n2_ := Aside0.mk (hbox); have n3_ := Aside0.mk ((by rw [hg]; exact (below_size (by repeat (first | (with_reducible first | exact HB.out | apply below_alloc | apply pw_below_drewN | apply below_drew1 | refine below_set ?_ GE146.out) | exact HB.out))) : w.heap.size ≤ gb147)); have n4_ := Aside0.mk ((by rw [hg]; exact (below_size (by repeat (first | (with_reducible first | exact HB.out | apply below_alloc | apply pw_below_drewN | apply below_drew1 | refine below_set ?_ GE146.out) | exact HB.out))) : w.heap.size ≤ gb147)); have n5_ := Aside0.mk ((by rw [hg]; exact Nat.ne_of_lt (blk_lt (g := gb146) (o := .cells #[.string a0_0, .int .i64 a0_1, .slice A0_2 l0_2.length c0_2, .string a0_3, .int .i64 a0_4, .string a0_5, .int .i64 a0_6, .slice A0_7 l0_7.length c0_7] 36 (0, 0)) (by (with_reducible repeat (first | refine blk_drewN ?_ _ | refine blk_drew ?_ | refine blk_alloc ?_ _)); exact BK146.out)) : gb146 ≠ gb147)); have n6_ := Aside0.mk ((by rw [hg]; exact Nat.ne_of_gt (blk_lt (g := gb146) (o := .cells #[.string a0_0, .int .i64 a0_1, .slice A0_2 l0_2.length c0_2, .string a0_3, .int .i64 a0_4, .string a0_5, .int .i64 a0_6, .slice A0_7 l0_7.length c0_7] 36 (0, 0)) (by (with_reducible repeat (first | refine blk_drewN ?_ _ | refine blk_drew ?_ | refine blk_alloc ?_ _)); exact BK146.out)) : gb147 ≠ gb146)); clear BK146; clear HB; have BK146 := n0_; have HB := n1_; have BK147 := n2_; have GW147 := n3_; have GE147 := n4_; have NB146_147 := n5_; have NB147_146 := n6_; clear n0_ n1_ n2_ n3_ n4_ n5_ n6_; clear hb hbox hg))
 have n0_ := Aside0.mk (blk_drew BK146.out)
 have n1_ := Aside0.mk (blk_drew BK147.out)
 have n2_ := Aside0.mk (below_drew1 HB.out)
 clear BK146
 clear BK147
 clear HB
 have BK146 := n0_
 have BK147 := n1_
 have HB := n2_
 clear n0_ n1_ n2_
 refine start_ (n := 10) (S := fun w' => w'.cell? ⟨gb146, 0, none⟩ = some (.string a0_0) ∧ w'.cell? ⟨gb146, 1, none⟩ = some (.int .i64 a0_1) ∧ w'.cell? ⟨gb146, 2, none⟩ = some (.slice A0_2 l0_2.length c0_2) ∧ w'.cell? ⟨gb146, 3, none⟩ = some (.string a0_3) ∧ w'.cell? ⟨gb146, 4, none⟩ = some (.int .i64 a0_4) ∧ w'.cell? ⟨gb146, 5, none⟩ = some (.string a0_5) ∧ w'.cell? ⟨gb146, 6, none⟩ = some (.int .i64 a0_6) ∧ w'.cell? ⟨gb146, 7, none⟩ = some (.slice A0_7 l0_7.length c0_7)) (ds := [7, 9]) #[false, false, false, false, false, false, false, false, false, false] (by kernel_rfl) rfl rfl ⟨(blk_cell BK146.out 0).trans rfl, (blk_cell BK146.out 1).trans rfl, (blk_cell BK146.out 2).trans rfl, (blk_cell BK146.out 3).trans rfl, (blk_cell BK146.out 4).trans rfl, (blk_cell BK146.out 5).trans rfl, (blk_cell BK146.out 6).trans rfl, (blk_cell BK146.out 7).trans rfl⟩ (fun hHeld => ?_); refine with_tabW order_own.tab1 order_own.bits1 (fun HT_ HW_ => ?_)
 generalize w5.drew = w6 at BK146 BK147 HB hHeld ⊢
 refine XReg.pu 0 3 (h := ?_)
 refine XReg.pu 3 6 (h := ?_)
 refine XReg.tk 1 4 (hS := hHeld) (h := ?_)
 refine XReg.tk 4 7 (hS := hHeld) (h := ?_)
 refine one_ (i := 2) (N := some 5) #[true, true, true, true, true, false, false, false, false, false] rfl rfl (_root_.Go.Proofs.YtenbkljgmgdegaaW.PrintLast.one_of HT_.out (by kernel_rfl)) (by decide) (fun K hK => ?_)
 refine goes_ Try.func66 (by kernel_rfl) rfl #[.slice A0_2 l0_2.length c0_2] (by rfl) rfl rfl (by (try simp only [List.map_toArray, List.map_cons, List.map_nil]); first | done | rfl | (simp only [List.length_drop, List.length_take]; rfl)) ?_
 with_reducible refine (api_Dot_66.calls _ _ l0_2 t148 _ ?side1 ?side2 A2.out).mono ?_
 (case side1 => repeat (first | exact (Kd.C_below HR0_2.out HB.out) | (with_reducible refine Kd.C_alloc ?_ _) | (with_reducible refine Kd.C_drewN ?_ _) | (with_reducible refine Kd.C_drew ?_)))
 (case side2 => exact HC0_2.out)
 rintro e w7 ⟨v149, rfl, ho0, hb⟩
 refine ⟨_, rfl, ?_⟩
 have n0_ := Aside0.mk (Kd.R_lower ho0 (below_size (by repeat (first | (with_reducible first | exact HB.out | apply below_alloc | apply pw_below_drewN | apply below_drew1 | refine below_set ?_ GE146.out | refine below_set ?_ GE147.out) | exact HB.out))))
 have n1_ := Aside0.mk (blk_below (g := gb146) (o := .cells #[.string a0_0, .int .i64 a0_1, .slice A0_2 l0_2.length c0_2, .string a0_3, .int .i64 a0_4, .string a0_5, .int .i64 a0_6, .slice A0_7 l0_7.length c0_7] 36 (0, 0)) (by (with_reducible repeat (first | refine blk_drewN ?_ _ | refine blk_drew ?_ | refine blk_alloc ?_ _)); exact BK146.out) hb)
 have n2_ := Aside0.mk (blk_below (g := gb147) (o := .cells #[.string (⟨#[]⟩ : ByteArray), .int .i64 0, .slice none 0 0, .string (⟨#[]⟩ : ByteArray), .int .i64 0, .string (⟨#[]⟩ : ByteArray), .int .i64 0, .slice none 0 0] 36 (0, 0)) (by (with_reducible repeat (first | refine blk_drewN ?_ _ | refine blk_drew ?_ | refine blk_alloc ?_ _)); exact BK147.out) hb)
 have n3_ := Aside0.mk (below_step (by repeat (first | (with_reducible first | exact HB.out | apply below_alloc | apply pw_below_drewN | apply below_drew1 | refine below_set ?_ GE146.out | refine below_set ?_ GE147.out) | exact HB.out)) hb)
 clear BK146
 clear BK147
 clear HB
 have HO150 := n0_
 have BK146 := n1_
 have BK147 := n2_
 have HB := n3_
 clear n0_ n1_ n2_ n3_
 (try clear hb)
 (try clear hb2)
 (try clear hk)
 (try clear hi)
 (try clear ho0)
 refine hK.out _ _ ⟨(blk_cell BK146.out 0).trans rfl, (blk_cell BK146.out 1).trans rfl, (blk_cell BK146.out 2).trans rfl, (blk_cell BK146.out 3).trans rfl, (blk_cell BK146.out 4).trans rfl, (blk_cell BK146.out 5).trans rfl, (blk_cell BK146.out 6).trans rfl, (blk_cell BK146.out 7).trans rfl⟩ (fun hHeld => ?_)
 clear hK K
 refine norm_ (a' := ?_) ?_ ?_
 rotate_left
 · show Act.put _ (some 5) _ = _
   simp only [Act.put, List.setIfInBounds_toArray, List.set_cons_zero, List.set_cons_succ, i64_w, i32_w]
   rfl
 refine XReg.pu 6 9 (h := ?_)
 refine one_ (i := 5) (N := some 8) #[true, true, true, true, true, true, true, false, false, false] rfl rfl (_root_.Go.Proofs.YtenbkljgmgdegaaW.PrintLast.one_of HT_.out (by kernel_rfl)) (by decide) (fun K hK => ?_)
 refine goes_ Try.func66 (by kernel_rfl) rfl #[.slice A0_7 l0_7.length c0_7] (by rfl) rfl rfl (by (try simp only [List.map_toArray, List.map_cons, List.map_nil]); first | done | rfl | (simp only [List.length_drop, List.length_take]; rfl)) ?_
 with_reducible refine (api_Dot_66.calls _ _ l0_7 t151 _ ?side1 ?side2 A3.out).mono ?_
 (case side1 => repeat (first | exact (Kd.C_below HR0_7.out HB.out) | (with_reducible refine Kd.C_alloc ?_ _) | (with_reducible refine Kd.C_drewN ?_ _) | (with_reducible refine Kd.C_drew ?_)))
 (case side2 => exact HC0_7.out)
 rintro e w8 ⟨v152, rfl, ho0, hb⟩
 refine ⟨_, rfl, ?_⟩
 have n0_ := Aside0.mk (Kd.R_elder' (by (with_reducible repeat (first | apply Kd.R_alloc | apply Kd.R_drewN | apply Kd.R_drew)); exact HO150.out) (Kd.R_base ho0) hb)
 have n1_ := Aside0.mk (Kd.R_lower (Kd.R_new' ho0 (Kd.R_lt (by (with_reducible repeat (first | apply Kd.R_alloc | apply Kd.R_drewN | apply Kd.R_drew)); exact HO150.out))) (below_size (by repeat (first | (with_reducible first | exact HB.out | apply below_alloc | apply pw_below_drewN | apply below_drew1 | refine below_set ?_ GE146.out | refine below_set ?_ GE147.out) | exact HB.out))))
 have n2_ := Aside0.mk (blk_below (g := gb146) (o := .cells #[.string a0_0, .int .i64 a0_1, .slice A0_2 l0_2.length c0_2, .string a0_3, .int .i64 a0_4, .string a0_5, .int .i64 a0_6, .slice A0_7 l0_7.length c0_7] 36 (0, 0)) (by (with_reducible repeat (first | refine blk_drewN ?_ _ | refine blk_drew ?_ | refine blk_alloc ?_ _)); exact BK146.out) hb)
 have n3_ := Aside0.mk (blk_below (g := gb147) (o := .cells #[.string (⟨#[]⟩ : ByteArray), .int .i64 0, .slice none 0 0, .string (⟨#[]⟩ : ByteArray), .int .i64 0, .string (⟨#[]⟩ : ByteArray), .int .i64 0, .slice none 0 0] 36 (0, 0)) (by (with_reducible repeat (first | refine blk_drewN ?_ _ | refine blk_drew ?_ | refine blk_alloc ?_ _)); exact BK147.out) hb)
 have n4_ := Aside0.mk (below_step (by repeat (first | (with_reducible first | exact HB.out | apply below_alloc | apply pw_below_drewN | apply below_drew1 | refine below_set ?_ GE146.out | refine below_set ?_ GE147.out) | exact HB.out)) hb)
 clear HO150
 clear BK146
 clear BK147
 clear HB
 have HO150 := n0_
 have HO153 := n1_
 have BK146 := n2_
 have BK147 := n3_
 have HB := n4_
 clear n0_ n1_ n2_ n3_ n4_
 (try clear hb)
 (try clear hb2)
 (try clear hk)
 (try clear hi)
 (try clear ho0)
 obtain ⟨Ao9, co9, eo9⟩ := Kd.R_slice HO150.out
 (first | subst eo9 | (injection eo9 with f1_ f2_ f3_; have f4_ := f1_.symm; have f5_ := f3_.symm; clear f1_ f2_ f3_; subst f4_; subst f5_))
 obtain ⟨Ao11, co11, eo11⟩ := Kd.R_slice HO153.out
 (first | subst eo11 | (injection eo11 with f1_ f2_ f3_; have f4_ := f1_.symm; have f5_ := f3_.symm; clear f1_ f2_ f3_; subst f4_; subst f5_))
 refine hK.out _ _ ⟨(blk_cell BK146.out 0).trans rfl, (blk_cell BK146.out 1).trans rfl, (blk_cell BK146.out 2).trans rfl, (blk_cell BK146.out 3).trans rfl, (blk_cell BK146.out 4).trans rfl, (blk_cell BK146.out 5).trans rfl, (blk_cell BK146.out 6).trans rfl, (blk_cell BK146.out 7).trans rfl⟩ (fun hHeld => ?_)
 clear hK K
 refine norm_ (a' := ?_) ?_ ?_
 rotate_left
 · show Act.put _ (some 8) _ = _
   simp only [Act.put, List.setIfInBounds_toArray, List.set_cons_zero, List.set_cons_succ, i64_w, i32_w]
   rfl
 refine last_ (i := 7) (N := none) #[true, true, true, true, true, true, true, true, false, false] rfl rfl (_root_.Go.Proofs.YtenbkljgmgdegaaW.PrintLast.one_of HT_.out (by kernel_rfl)) (by decide) (fun K hK => ?_)
 have hs10 : w8.cell? ⟨gb146, 2, none⟩ = some (.slice A0_2 l0_2.length c0_2) := (blk_cell BK146.out 2).trans rfl
 have hfs10 := blk_frozen BK146.out 2
 have hns10_1 := NB147_146.out
 have hms10_1 := NB146_147.out
 refine skip_ (w1 := ?_) (by rfl) rfl ?_ ?_
 rotate_left
 · go_simp
   rfl
 refine hK.out _ _ ?_
 clear hK K
 refine XReg.pu 8 10 (h := ?_)
 refine last_ (i := 9) (N := none) #[true, true, true, true, true, true, true, true, true, true] rfl rfl (_root_.Go.Proofs.YtenbkljgmgdegaaW.PrintLast.one_of HT_.out (by kernel_rfl)) (by decide) (fun K hK => ?_)
 have hs12 : w8.cell? ⟨gb146, 7, none⟩ = some (.slice A0_7 l0_7.length c0_7) := (blk_cell BK146.out 7).trans rfl
 have hfs12 := blk_frozen BK146.out 7
 have hns12_1 := NB147_146.out
 have hms12_1 := NB146_147.out
 refine skip_ (w1 := ?_) (by rfl) rfl ?_ ?_
 rotate_left
 · go_simp
   rfl
 refine hK.out _ _ ?_
 clear hK K
 refine done_ (done_of HT_.out (by kernel_rfl)) ?_
 have hnb13 := NB146_147.out
 have hnc13 := NB147_146.out
 have hcz14_0 : w8.cell? ⟨gb146, 0, none⟩ = some (.string a0_0) := (blk_cell BK146.out 0).trans rfl
 have hcz14_1 : w8.cell? ⟨gb146, 1, none⟩ = some (.int .i64 a0_1) := (blk_cell BK146.out 1).trans rfl
 have hcz14_2 : w8.cell? ⟨gb146, 2, none⟩ = some (.slice A0_2 l0_2.length c0_2) := (blk_cell BK146.out 2).trans rfl
 have hcz14_3 : w8.cell? ⟨gb146, 3, none⟩ = some (.string a0_3) := (blk_cell BK146.out 3).trans rfl
 have hcz14_4 : w8.cell? ⟨gb146, 4, none⟩ = some (.int .i64 a0_4) := (blk_cell BK146.out 4).trans rfl
 have hcz14_5 : w8.cell? ⟨gb146, 5, none⟩ = some (.string a0_5) := (blk_cell BK146.out 5).trans rfl
 have hcz14_6 : w8.cell? ⟨gb146, 6, none⟩ = some (.int .i64 a0_6) := (blk_cell BK146.out 6).trans rfl
 have hcz14_7 : w8.cell? ⟨gb146, 7, none⟩ = some (.slice A0_7 l0_7.length c0_7) := (blk_cell BK146.out 7).trans rfl
 have hfz14_0 := blk_frozen BK146.out 0
 have hfz14_1 := blk_frozen BK146.out 1
 have hfz14_2 := blk_frozen BK146.out 2
 have hfz14_3 := blk_frozen BK146.out 3
 have hfz14_4 := blk_frozen BK146.out 4
 have hfz14_5 := blk_frozen BK146.out 5
 have hfz14_6 := blk_frozen BK146.out 6
 have hfz14_7 := blk_frozen BK146.out 7
 have hcz15_0 : w8.cell? ⟨gb147, 0, none⟩ = some (.string (⟨#[]⟩ : ByteArray)) := (blk_cell BK147.out 0).trans rfl
 have hcz15_1 : w8.cell? ⟨gb147, 1, none⟩ = some (.int .i64 0) := (blk_cell BK147.out 1).trans rfl
 have hcz15_2 : w8.cell? ⟨gb147, 2, none⟩ = some (.slice none 0 0) := (blk_cell BK147.out 2).trans rfl
 have hcz15_3 : w8.cell? ⟨gb147, 3, none⟩ = some (.string (⟨#[]⟩ : ByteArray)) := (blk_cell BK147.out 3).trans rfl
 have hcz15_4 : w8.cell? ⟨gb147, 4, none⟩ = some (.int .i64 0) := (blk_cell BK147.out 4).trans rfl
 have hcz15_5 : w8.cell? ⟨gb147, 5, none⟩ = some (.string (⟨#[]⟩ : ByteArray)) := (blk_cell BK147.out 5).trans rfl
 have hcz15_6 : w8.cell? ⟨gb147, 6, none⟩ = some (.int .i64 0) := (blk_cell BK147.out 6).trans rfl
 have hcz15_7 : w8.cell? ⟨gb147, 7, none⟩ = some (.slice none 0 0) := (blk_cell BK147.out 7).trans rfl
 have hfz15_0 := blk_frozen BK147.out 0
 have hfz15_1 := blk_frozen BK147.out 1
 have hfz15_2 := blk_frozen BK147.out 2
 have hfz15_3 := blk_frozen BK147.out 3
 have hfz15_4 := blk_frozen BK147.out 4
 have hfz15_5 := blk_frozen BK147.out 5
 have hfz15_6 := blk_frozen BK147.out 6
 have hfz15_7 := blk_frozen BK147.out 7
 try go_wp2
 refine bodyPost_ret (results_cell_row rfl _ _ gb147 36 #[.string a0_0, .int .i64 a0_1, .slice Ao9 t148.length co9, .string a0_3, .int .i64 a0_4, .string a0_5, .int .i64 a0_6, .slice Ao11 t151.length co11] (0, 0) _ rfl (by (with_reducible repeat (first | refine blk_drewN ?_ _ | refine blk_drew ?_ | refine blk_alloc ?_ _)); refine blk_put (cs := #[.string a0_0, .int .i64 a0_1, .slice Ao9 t148.length co9, .string a0_3, .int .i64 a0_4, .string a0_5, .int .i64 a0_6, .slice none 0 0]) ?_ 7 _ rfl; (with_reducible repeat (first | refine blk_drewN ?_ _ | refine blk_drew ?_ | refine blk_alloc ?_ _)); refine blk_put (cs := #[.string a0_0, .int .i64 a0_1, .slice Ao9 t148.length co9, .string a0_3, .int .i64 a0_4, .string a0_5, .int .i64 0, .slice none 0 0]) ?_ 6 _ rfl; (with_reducible repeat (first | refine blk_drewN ?_ _ | refine blk_drew ?_ | refine blk_alloc ?_ _)); refine blk_put (cs := #[.string a0_0, .int .i64 a0_1, .slice Ao9 t148.length co9, .string a0_3, .int .i64 a0_4, .string (⟨#[]⟩ : ByteArray), .int .i64 0, .slice none 0 0]) ?_ 5 _ rfl; (with_reducible repeat (first | refine blk_drewN ?_ _ | refine blk_drew ?_ | refine blk_alloc ?_ _)); refine blk_put (cs := #[.string a0_0, .int .i64 a0_1, .slice Ao9 t148.length co9, .string a0_3, .int .i64 0, .string (⟨#[]⟩ : ByteArray), .int .i64 0, .slice none 0 0]) ?_ 4 _ rfl; (with_reducible repeat (first | refine blk_drewN ?_ _ | refine blk_drew ?_ | refine blk_alloc ?_ _)); refine blk_put (cs := #[.string a0_0, .int .i64 a0_1, .slice Ao9 t148.length co9, .string (⟨#[]⟩ : ByteArray), .int .i64 0, .string (⟨#[]⟩ : ByteArray), .int .i64 0, .slice none 0 0]) ?_ 3 _ rfl; (with_reducible repeat (first | refine blk_drewN ?_ _ | refine blk_drew ?_ | refine blk_alloc ?_ _)); refine blk_put (cs := #[.string a0_0, .int .i64 a0_1, .slice none 0 0, .string (⟨#[]⟩ : ByteArray), .int .i64 0, .string (⟨#[]⟩ : ByteArray), .int .i64 0, .slice none 0 0]) ?_ 2 _ rfl; (with_reducible repeat (first | refine blk_drewN ?_ _ | refine blk_drew ?_ | refine blk_alloc ?_ _)); refine blk_put (cs := #[.string a0_0, .int .i64 0, .slice none 0 0, .string (⟨#[]⟩ : ByteArray), .int .i64 0, .string (⟨#[]⟩ : ByteArray), .int .i64 0, .slice none 0 0]) ?_ 1 _ rfl; (with_reducible repeat (first | refine blk_drewN ?_ _ | refine blk_drew ?_ | refine blk_alloc ?_ _)); refine blk_put (cs := #[.string (⟨#[]⟩ : ByteArray), .int .i64 0, .slice none 0 0, .string (⟨#[]⟩ : ByteArray), .int .i64 0, .string (⟨#[]⟩ : ByteArray), .int .i64 0, .slice none 0 0]) ?_ 0 _ rfl; (with_reducible repeat (first | refine blk_drewN ?_ _ | refine blk_drew ?_ | refine blk_alloc ?_ _)); refine blk_far ?_ NB147_146.out _; (with_reducible repeat (first | refine blk_drewN ?_ _ | refine blk_drew ?_ | refine blk_alloc ?_ _)); refine blk_far ?_ NB147_146.out _; (with_reducible repeat (first | refine blk_drewN ?_ _ | refine blk_drew ?_ | refine blk_alloc ?_ _)); exact BK147.out) Try.underlying36 rfl (by kernel_rfl)) rfl ?_
 exact ⟨_, _, by first | rfl | (simp [errW_none, errW_some] <;> rfl) | (simp [*, errW_none, errW_some] <;> rfl), by (with_reducible repeat (first | apply Kd.R_alloc | apply Kd.R_drewN | apply Kd.R_drew)); exact Kd.R_mono (Kd.R_far (p := ⟨gb147, 7, none⟩) (Kd.R_far (p := ⟨gb147, 6, none⟩) (Kd.R_far (p := ⟨gb147, 5, none⟩) (Kd.R_far (p := ⟨gb147, 4, none⟩) (Kd.R_far (p := ⟨gb147, 3, none⟩) (Kd.R_far (p := ⟨gb147, 2, none⟩) (Kd.R_far (p := ⟨gb147, 1, none⟩) (Kd.R_far (p := ⟨gb147, 0, none⟩) (Kd.R_far (p := ⟨gb146, 7, none⟩) (Kd.R_far (p := ⟨gb146, 2, none⟩) (Kd.R_types (Kd.R_types HO150.out BK146.out (by decide)) BK147.out (by decide)) (fun _ hk => hk.1.2) (.slice Ao9 t148.length co9)) (fun _ hk => hk.1.2) (.slice Ao11 t151.length co11)) (fun _ hk => hk.2) (.string a0_0)) (fun _ hk => hk.2) (.int .i64 a0_1)) (fun _ hk => hk.2) (.slice Ao9 t148.length co9)) (fun _ hk => hk.2) (.string a0_3)) (fun _ hk => hk.2) (.int .i64 a0_4)) (fun _ hk => hk.2) (.string a0_5)) (fun _ hk => hk.2) (.int .i64 a0_6)) (fun _ hk => hk.2) (.slice Ao11 t151.length co11)) (fun _ hk => hk.1.1.2), by (with_reducible repeat (first | apply Kd.R_alloc | apply Kd.R_drewN | apply Kd.R_drew)); exact Kd.R_mono (Kd.R_far (p := ⟨gb147, 7, none⟩) (Kd.R_far (p := ⟨gb147, 6, none⟩) (Kd.R_far (p := ⟨gb147, 5, none⟩) (Kd.R_far (p := ⟨gb147, 4, none⟩) (Kd.R_far (p := ⟨gb147, 3, none⟩) (Kd.R_far (p := ⟨gb147, 2, none⟩) (Kd.R_far (p := ⟨gb147, 1, none⟩) (Kd.R_far (p := ⟨gb147, 0, none⟩) (Kd.R_far (p := ⟨gb146, 7, none⟩) (Kd.R_far (p := ⟨gb146, 2, none⟩) (Kd.R_types (Kd.R_types HO153.out BK146.out (by decide)) BK147.out (by decide)) (fun _ hk => hk.1.2) (.slice Ao9 t148.length co9)) (fun _ hk => hk.1.2) (.slice Ao11 t151.length co11)) (fun _ hk => hk.2) (.string a0_0)) (fun _ hk => hk.2) (.int .i64 a0_1)) (fun _ hk => hk.2) (.slice Ao9 t148.length co9)) (fun _ hk => hk.2) (.string a0_3)) (fun _ hk => hk.2) (.int .i64 a0_4)) (fun _ hk => hk.2) (.string a0_5)) (fun _ hk => hk.2) (.int .i64 a0_6)) (fun _ hk => hk.2) (.slice Ao11 t151.length co11)) (fun _ hk => hk.1.1.2), by repeat (first | (with_reducible first | exact HB.out | apply below_alloc | apply pw_below_drewN | apply below_drew1 | refine below_set ?_ GE146.out | refine below_set ?_ GE147.out) | exact HB.out)⟩
end Go.Proofs.Ytenbkljgmgdegaa.PO
