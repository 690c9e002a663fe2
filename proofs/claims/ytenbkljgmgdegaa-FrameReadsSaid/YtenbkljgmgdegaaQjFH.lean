/- What the rows of this claim use, out of the texts of this work (FH, PE8, FQ, FR, FO). No condition beyond those that each statement names. -/
import Derived.Test.YtenbkljgmgdegaaQjFF
import Derived.Test.YtenbkljgmgdegaaQjOH
import Derived.Test.YtenbkljgmgdegaaQjPOx0
import Derived.Test.YtenbkljgmgdegaaQjRG
import Derived.Test.YtenbkljgmgdegaaQjPD10
import Derived.Test.YtenbkljgmgdegaaQjPD15
import Derived.Test.YtenbkljgmgdegaaQjPD17
import Derived.Test.YtenbkljgmgdegaaQjOV
import Derived.Test.YtenbkljgmgdegaaQjPE2
section
namespace Go.Proofs.Ytenbkljgmgdegaa.PO
open Go.RowKit Go.Proofs.YtenbkljgmgdegaaW.PrintWords Go.Proofs.YtenbkljgmgdegaaW.PrintLast Go.Proofs.YtenbkljgmgdegaaW.PrintMore Go.Proofs.Ytenbkljgmgdegaa.XW
open Go.Proofs.Ytenbkljgmgdegaa.XRange
set_option linter.unusedVariables false
set_option linter.unusedSimpArgs false
attribute [local go_sem] Oper.semAt_some
def Buf (w W : World) (g : Nat) (T : List Int) : Prop :=
 w.heap.size ≤ g ∧ Below w.heap.size w W ∧ ∃ A c, W.heap[g]? = some (.cells #[.slice A T.length c] 63 (0, 0)) ∧ T.length ≤ c ∧ Kd.C (Kd.int .u8) W A T.length T ∧ Kd.R (Kd.int .u8) 5 W w.heap.size (fun k => k ≠ g) (.slice A T.length c) T
theorem buf_step {w W w1 : World} {g : Nat} {T T1 : List Int} {v1 : Value} (h : Buf w W g T) (hb : Below W.heap.size W w1) (hr : Kd.R (Kd.int .u8) 5 w1 W.heap.size (fun _ => True) v1 T1) : Buf w (w1.setCell ⟨g, 0, none⟩ v1) g T1 := by
 obtain ⟨hg, hw, A, c, hx, _, _, _⟩ := h
 have hlt := blk_lt hx
 obtain ⟨A1, c1, rfl⟩ := Kd.R_slice hr
 have hr1 : Kd.R (Kd.int .u8) 5 (w1.setCell ⟨g, 0, none⟩ (.slice A1 T1.length c1)) w.heap.size (fun k => k ≠ g) (.slice A1 T1.length c1) T1 :=
  Kd.R_lower (Kd.R_mono (Kd.R_far (p := ⟨g, 0, none⟩) (Kd.R_bound hr) (fun k hk => by have := hk.2.1; show k ≠ g; omega) _) (fun k hk => by have := hk.2.1; omega)) hw.size
 refine ⟨hg, below_set (hw.trans (hb.mono hw.size)) hg, A1, c1, ?_, (Kd.R_reads' hr1).2.1, (Kd.R_reads' hr1).2.2, hr1⟩
 exact blk_set (blk_below hx hb) 0 _
theorem buf_stepV {w W w1 : World} {g : Nat} {T T1 : List Int} {A1 : Option Addr} {c1 : Nat} (h : Buf w W g T) (hb : Below W.heap.size W w1) (hr : Kd.R (Kd.int .u8) 5 w1 W.heap.size (fun _ => True) (.slice A1 T1.length c1) T1) :
 Below w.heap.size w (w1.setCell ⟨g, 0, none⟩ (.slice A1 T1.length c1)) ∧ (w1.setCell ⟨g, 0, none⟩ (.slice A1 T1.length c1)).heap[g]? = some (.cells #[.slice A1 T1.length c1] 63 (0, 0)) ∧ Kd.R (Kd.int .u8) 5 (w1.setCell ⟨g, 0, none⟩ (.slice A1 T1.length c1)) w.heap.size (fun k => k ≠ g) (.slice A1 T1.length c1) T1 := by
 obtain ⟨hg, hw, A, c, hx, _, _, _⟩ := h
 have hlt := blk_lt hx
 exact ⟨below_set (hw.trans (hb.mono hw.size)) hg, blk_set (blk_below hx hb) 0 _,
  Kd.R_lower (Kd.R_mono (Kd.R_far (p := ⟨g, 0, none⟩) (Kd.R_bound hr) (fun k hk => by have := hk.2.1; show k ≠ g; omega) _) (fun k hk => by have := hk.2.1; omega)) hw.size⟩
theorem buf_new {w W : World} (hw : Below w.heap.size w W) : Buf w (W.alloc (.cells #[.slice none 0 0] 63)) W.heap.size [] :=
 ⟨hw.size, hw.alloc hw.size _, none, 0, World.alloc_heap_new W _, Nat.le_refl _, Kd.C_nil _ _, Kd.R_nil _ _ _ _ _⟩
theorem buf_below {w W w1 : World} {g : Nat} {T : List Int} (h : Buf w W g T) (hb : Below W.heap.size W w1) : Buf w w1 g T := by
 obtain ⟨hg, hw, A, c, hx, hc, hC, hR⟩ := h
 exact ⟨hg, hw.trans (hb.mono hw.size), A, c, blk_below hx hb, hc, Kd.C_below hC hb, Kd.R_below hR hb⟩
theorem textBig_f (b : List Int) (s : ByteArray) (hs : s.size ≤ 1000000) (hb : b.length ≤ 140737487000000) (k : Nat) (hk : 20 ≤ k) : wire_Text.f k b s = some (textS b s) := by
 have := encN_len (s.size : Int)
 unfold wire_Text.f
 rw [u_id (by omega) (by omega), number_f _ (by omega) (by omega) b (by omega) k hk, Option.bind_some, if_pos (by rw [List.length_append]; omega)]
 rfl
def layOps (b : List Int) : List S36 → List Int
 | [] => b
 | x :: l => layOps (textS b (layF x).1) l
def headB (f : Fr) : List Int := textS (textS (textS [] f.fa) f.fb) f.ct ++ encN f.se ++ encN f.ix
def bodyB (f : Fr) : List Int := if f.k = 1 then headB f ++ (layS [] f.kn).1 else if f.k = 2 then layOps (headB f ++ encN f.mn ++ encN (f.op.length : Int)) f.op else headB f
def sealT (k : Int) (b : List Int) : List Int := k :: encN (b.length : Int) ++ b ++ sumB (k :: encN (b.length : Int) ++ b)
theorem seal2_calls (kind : Int) (body : ByteArray) (hb : body.size ≤ 140737488351232) (w : World) :
 Calls Try.prog 82 #[.int .u8 kind, .string body] w fun e w' => e = .returned (.string (strOfNums (sealT kind (bytesOf body)))) ∧ Below w.heap.size w w' := by
 obtain ⟨k, hk⟩ := seal_f [kind :: encN (body.size : Int), bytesOf body] (by simp) (fun x hx => by
  have := encN_len (body.size : Int)
  have := bytesOf_length body
  simp only [List.mem_cons, List.not_mem_nil, or_false] at hx
  rcases hx with rfl | rfl
  · simp; omega
  · omega)
 refine (seal_calls kind body k _ hb hk rfl w).mono ?_
 rintro e w' ⟨rfl, h⟩
 refine ⟨?_, h⟩
 unfold sealT
 rw [bytesOf_length]
 simp [catL]
def pre3 (f : Fr) : Nat → List Int
 | 0 => []
 | 1 => textS [] f.fa
 | 2 => textS (textS [] f.fa) f.fb
 | _ => textS (textS (textS [] f.fa) f.fb) f.ct
theorem rightF_sizes {f : Fr} (h : rightF f = true) : f.fa.size ≤ 24 ∧ f.fb.size ≤ 24 ∧ f.ct.size ≤ 32 ∧ 1 ≤ f.se ∧ f.se ≤ 1152921504606846976 ∧ 0 ≤ f.ix ∧ bodyF f = true := by
 unfold rightF at h
 rw [Bool.and_eq_true] at h
 obtain ⟨h1, h2, _, _, h5, h6, h7, h8⟩ := headF_parts h.1
 unfold isNameB at h1 h2
 simp only [Bool.and_eq_true, decide_eq_true_eq] at h1 h2
 exact ⟨h1.2, h2.2, by omega, h6, h7, h8, h.2⟩
theorem pre3_len {f : Fr} (h : rightF f = true) (i : Nat) : (pre3 f i).length ≤ 120 := by
 obtain ⟨h1, h2, h3, _⟩ := rightF_sizes h
 have t1 := textS_len [] f.fa
 have t2 := textS_len (textS [] f.fa) f.fb
 have t3 := textS_len (textS (textS [] f.fa) f.fb) f.ct
 simp only [List.length_nil] at t1
 unfold pre3
 split
 · simp
 all_goals omega
theorem textS_B {b : List Int} {s : ByteArray} (hb : isB b) (hs : s.size ≤ 1000000) : isB (textS b s) := app_B (app_B hb (enc_B (by omega) (by omega))) (bytes_B s)
theorem layOps_B : ∀ (l : List S36) (b : List Int), isB b → isB (layOps b l)
 | [], b, h => h
 | x :: l, b, h => layOps_B l _ (textS_B h (by have := layF_size x; omega))
theorem layOps_len : ∀ (l : List S36) (b : List Int), (layOps b l).length ≤ b.length + 20010 * l.length
 | [], b => by simp [layOps]
 | x :: l, b => by
   have h1 := layOps_len l (textS b (layF x).1)
   have h2 := textS_len b (layF x).1
   have h3 := layF_size x
   rw [layOps, List.length_cons]
   omega
theorem bodyB_B {f : Fr} (h : rightF f = true) : isB (bodyB f) := by
 obtain ⟨h1, h2, h3, h4, h5, h6, h7⟩ := rightF_sizes h
 unfold bodyF at h7
 have hix : f.ix ≤ 1152921504606846976 := by
  split at h7
  · simp only [Bool.and_eq_true, decide_eq_true_eq] at h7; omega
  · split at h7
    · simp only [Bool.and_eq_true, decide_eq_true_eq] at h7; omega
    · simp only [Bool.and_eq_true, decide_eq_true_eq] at h7; omega
 have hh : isB (headB f) := app_B (app_B (textS_B (textS_B (textS_B (fun x hx => by simp at hx) (by omega)) (by omega)) (by omega)) (enc_B (by omega) (by omega))) (enc_B (by omega) (by omega))
 unfold bodyB
 split
 · rename_i k1
   rw [if_pos k1] at h7
   simp only [Bool.and_eq_true] at h7
   exact app_B hh (layV_B h7.1.2)
 · rename_i k1
   split
   · rename_i k2
     rw [if_neg k1, if_pos k2] at h7
     simp only [Bool.and_eq_true, decide_eq_true_eq] at h7
     exact layOps_B _ _ (app_B (app_B hh (enc_B (by omega) (by omega))) (enc_B (by omega) (by omega)))
   · exact hh
theorem laid_calls (A : Option Addr) (n c : Nat) (w : World) : Calls Try.prog 81 #[.slice A n c] w fun e w' => e = .returned (.func (.func 119) #[] #[.pointer (some ⟨w.heap.size, 0, none⟩)]) ∧ w' = w.alloc (.cells #[.slice A n c] 22) := by
 go_enter Try.func81, Try.ntmps81
 go_wp2
 go_ret
 exact ⟨rfl, rfl⟩
def txts (b : List Int) (l : List TextS) : List Int := l.foldl (fun b s => textS b s.1) b
theorem txts_snoc (b : List Int) (l : List TextS) (s : TextS) : txts b (l ++ [s]) = textS (txts b l) s.1 := by simp [txts]
theorem txts_ops : ∀ (l : List S36) (b : List Int), txts b (l.map tx) = layOps b l
 | [], b => rfl
 | x :: l, b => txts_ops l _
theorem txts_len : ∀ (l : List TextS) (b : List Int), (txts b l).length ≤ b.length + 20010 * l.length
 | [], b => by simp [txts]
 | s :: l, b => by
   have h1 := txts_len l (textS b s.1)
   have h2 := textS_len b s.1
   have h3 := s.2
   show (txts (textS b s.1) l).length ≤ _
   rw [List.length_cons]
   omega
def LayInv (w : World) (g B0 N : Nat) (cs : Array Value) (b : List Int) (pre : List TextS) (W : World) : Prop :=
 Below w.heap.size w W ∧ (∃ A c, W.heap[g]? = some (.cells #[.slice A (txts b pre).length c] 63 (0, 0)) ∧ Kd.R (Kd.int .u8) 5 W w.heap.size (fun k => k ≠ g ∧ ¬ (B0 ≤ k ∧ k < B0 + 2)) (.slice A (txts b pre).length c) (txts b pre)) ∧ W.heap[N]? = some (.cells cs 54 (0, 0))
theorem layInv_keeps {w : World} {g B0 N : Nat} {cs : Array Value} {b : List Int} {M : Nat → Prop} (hM : ∀ m, M m → B0 ≤ m ∧ m < B0 + 2) (hg : g < B0) (hN : N < B0) (hw : w.heap.size ≤ B0) : ∀ s A A', LayInv w g B0 N cs b s A → Keeps M A A' → LayInv w g B0 N cs b s A' := fun s A A' h hk => by
 obtain ⟨h1, ⟨A0, c0, h2, h3⟩, h4⟩ := h
 exact ⟨below_keeps h1 (fun m hm => by have := hM m hm; omega) h1.size hk, ⟨A0, c0, keeps_heap h2 (fun hm => by have := hM _ hm; omega) hk, Kd.R_step h3 (fun i ho hi => hk.block i hi (fun hm => ho.2 (hM _ hm)))⟩, keeps_heap h4 (fun hm => by have := hM _ hm; omega) hk⟩
def layFr (f : Fr) : ByteArray × Int := if rightF f = true then (strOfNums (sealT f.k (bodyB f)), 0) else (⟨#[]⟩, 2)
set_option maxHeartbeats 8000000 in
set_option maxRecDepth 100000 in
theorem frLay_calls (f : Fr) (A7 : Option Addr) (c7 : Nat) (A8 : Option Addr) (c8 : Nat) (w : World) (l7 : f.kn.length ≤ c7) (g7 : Kd.C k34 w A7 f.kn.length f.kn) (l8 : f.op.length ≤ c8) (g8 : Kd.C k36 w A8 f.op.length f.op) :
 Calls Try.prog 35 #[.agg #[.int .i64 f.k, .string f.fa, .string f.fb, .string f.ct, .int .i64 f.se, .int .i64 f.ix, .int .i64 f.mn, .slice A7 f.kn.length c7, .slice A8 f.op.length c8]] w fun e w' => e = .returned (.tuple #[.string (layFr f).1, .int .i64 (layFr f).2]) ∧ Below w.heap.size w w' := by
 have HL7 := Aside0.mk l7
 have HG7 := Aside0.mk g7
 have HL8 := Aside0.mk l8
 have HG8 := Aside0.mk g8
 obtain ⟨N, hN⟩ : ∃ N, w.heap.size = N := ⟨_, rfl⟩
 obtain ⟨br, hbr⟩ : ∃ b, rightF f = b := ⟨_, rfl⟩
 have HBR := Aside0.mk hbr
 clear l7 g7 l8 g8 hbr
 obtain ⟨w0, hw0⟩ : ∃ w0, w.alloc (.cells #[.int .i64 f.k, .string f.fa, .string f.fb, .string f.ct, .int .i64 f.se, .int .i64 f.ix, .int .i64 f.mn, .slice A7 f.kn.length c7, .slice A8 f.op.length c8] 54) = w0 := ⟨_, rfl⟩
 have HB := Aside0.mk (show Below w.heap.size w w0 from by rw [← hw0]; exact (Below.refl _ w).alloc (Nat.le_refl _) _)
 have KX := Aside0.mk (show w0.heap[N]? = some (.cells #[.int .i64 f.k, .string f.fa, .string f.fb, .string f.ct, .int .i64 f.se, .int .i64 f.ix, .int .i64 f.mn, .slice A7 f.kn.length c7, .slice A8 f.op.length c8] 54 (0, 0)) from by rw [← hw0, ← hN]; exact World.alloc_heap_new w _)
 obtain ⟨n0, n1, n2, n3, n4, n5, n6, n7, n8⟩ := cells9 KX.out
 cases br with
 | false =>
   go_enter Try.func35, Try.ntmps35
   go_wp2_with fail
   refine (frRight_calls f A7 c7 A8 c8 _ HL7.out (Kd.C_below HG7.out HB.out) HL8.out (Kd.C_below HG8.out HB.out)).mono ?_
   rw [HBR.out]
   rintro e w1 ⟨rfl, hb1⟩
   have HB1 := Aside0.mk (HB.out.trans (hb1.mono HB.out.size))
   clear hb1
   go_wp2
   go_ret2
   unfold layFr
   rw [if_neg (by rw [HBR.out]; simp)]
   exact ⟨rfl, HB1.out⟩
 | true =>
   have HLF := Aside0.mk (show layFr f = (strOfNums (sealT f.k (bodyB f)), 0) from by unfold layFr; rw [if_pos HBR.out])
   rw [HLF.out]
   refine (callsIn_wide (n := 3)).1 ?_
   refine callsIn_of_wp_marks Try.func35 rfl trivial ?_ rfl
   simp only [Try.ntmps35, List.size_toArray, List.length_cons, List.length_nil, Nat.reduceAdd, Nat.reduceSub, Array.replicate_succ, Array.replicate_zero, List.push_toArray, List.append_toArray, List.nil_append, List.cons_append]
   gi_wp2_with fail
   try rw [hw0]
   try rw [hN]
   refine ⟨trivial, (callsIn_wide.2 (frRight_calls f A7 c7 A8 c8 _ HL7.out (Kd.C_below HG7.out HB.out) HL8.out (Kd.C_below HG8.out HB.out))).mono ?_⟩
   rw [HBR.out]
   rintro e w1 ⟨rfl, hb1⟩
   have HB1 := Aside0.mk (HB.out.trans (hb1.mono HB.out.size))
   have KX1 := Aside0.mk (blk_below KX.out hb1)
   have hx2 := blk_alloc (blk_below KX.out hb1) (.cells #[.slice none 0 0] 63)
   have KX2 := Aside0.mk hx2
   have HF2 := Aside0.mk (buf_new (w := w) (W := w1) HB1.out)
   clear hb1 hw0 n0 n1 n2 n3 n4 n5 n6 n7 n8 KX HB
   obtain ⟨n0, n1, n2, n3, n4, n5, n6, n7, n8⟩ := cells9 hx2
   clear hx2
   gi_wp2
   obtain ⟨g, hg⟩ : ∃ g, w1.heap.size = g := ⟨_, rfl⟩
   obtain ⟨W2, hW2⟩ : ∃ W2, w1.alloc (.cells #[.slice none 0 0] 63) = W2 := ⟨_, rfl⟩
   obtain ⟨M, hM0⟩ : ∃ M, w1.heap.size + 1 = M := ⟨_, rfl⟩
   have hM : W2.heap.size = M := by rw [← hW2, ← hM0]; simp
   rw [hW2] at KX2 HF2 ⊢
   rw [hM0]
   rw [hg] at HF2 ⊢
   obtain ⟨W3, hW3⟩ : ∃ W3, W2.alloc (.cells #[.string f.fa, .string f.fb, .string f.ct] 9) = W3 := ⟨_, rfl⟩
   rw [hW3]
   have hb3 : Below W2.heap.size W2 W3 := by rw [← hW3]; exact (Below.refl _ W2).alloc (Nat.le_refl _) _
   have HM3 := Aside0.mk (show W3.heap[M]? = some (.cells #[.string f.fa, .string f.fb, .string f.ct] 9 (0, 0)) from by rw [← hW3, ← hM]; exact World.alloc_heap_new W2 _)
   have KX3 := Aside0.mk (blk_below KX2.out hb3)
   have HF3 := Aside0.mk (buf_below HF2.out hb3)
   have HNE := Aside0.mk (show N ≠ g ∧ M ≠ g from by
    have h1 := blk_lt (blk_below KX2.out (Below.refl _ _))
    obtain ⟨A, c, hx, _⟩ := HF2.out.2.2
    have h2 := blk_lt hx
    have h3 := HB1.out.size
    refine ⟨?_, by omega⟩
    rw [← hg]
    have h4 := KX1.out
    have h5 := blk_lt h4
    omega)
   clear hb3 hW3 hM hM0 hW2 hg KX2 HF2 KX1 n0 n1 n2 n3 n4 n5 n6 n7 n8
   gi_loopw [6, 19] (fun v6 v19 wr => ∃ i : Nat, v19 = .int .i64 i ∧ i ≤ 3 ∧ Aside0 (Buf w wr g (pre3 f i)) ∧ Aside0 (wr.heap[N]? = some (.cells #[.int .i64 f.k, .string f.fa, .string f.fb, .string f.ct, .int .i64 f.se, .int .i64 f.ix, .int .i64 f.mn, .slice A7 f.kn.length c7, .slice A8 f.op.length c8] 54 (0, 0))) ∧ Aside0 (wr.heap[M]? = some (.cells #[.string f.fa, .string f.fb, .string f.ct] 9 (0, 0)))) (fun _ v19 _ => 3 - (intOf v19).toNat)
   case atStart => exact ⟨0, rfl, by omega, HF3, KX3, HM3⟩
   case round =>
    clear HF3 KX3 HM3
    obtain ⟨i, rfl, hi3, HF, KX, HM⟩ := hrel
    by_cases h3 : i < 3
    · obtain ⟨hgw, hbw, At, ct, hx, hc, hC, hR⟩ := HF.out
      obtain ⟨s, hs, hcell, hnext⟩ : ∃ s : ByteArray, s.size ≤ 32 ∧ wr.cell? ⟨M, i, none⟩ = some (.string s) ∧ pre3 f (i + 1) = textS (pre3 f i) s := by
       have m0 : wr.cell? ⟨M, 0, none⟩ = some (.string f.fa) := (blk_cell HM.out 0).trans rfl
       have m1 : wr.cell? ⟨M, 1, none⟩ = some (.string f.fb) := (blk_cell HM.out 1).trans rfl
       have m2 : wr.cell? ⟨M, 2, none⟩ = some (.string f.ct) := (blk_cell HM.out 2).trans rfl
       obtain ⟨z1, z2, z3, _⟩ := rightF_sizes HBR.out
       have hc : i = 0 ∨ i = 1 ∨ i = 2 := by omega
       rcases hc with rfl | rfl | rfl
       · exact ⟨f.fa, by omega, m0, rfl⟩
       · exact ⟨f.fb, by omega, m1, rfl⟩
       · exact ⟨f.ct, by omega, m2, rfl⟩
      obtain ⟨L, hL⟩ : ∃ L, pre3 f i = L := ⟨_, rfl⟩
      have hll : L.length ≤ 120 := by rw [← hL]; exact pre3_len HBR.out i
      rw [hL] at hx hc hC hR hnext HF
      have HT := Aside0.mk (wtext32_f L s hs (by omega) 200 (by omega))
      have HNX := Aside0.mk hnext
      have HCt := Aside0.mk hC
      have HLt := Aside0.mk hc
      have b0 : wr.cell? ⟨g, 0, none⟩ = some (.slice At L.length ct) := (blk_cell hx 0).trans rfl
      have b1 := blk_frozen hx 0
      have hbb : 0 ≤ (i : Int) ∧ (i : Int) < 3 := by omega
      have q1 : decide ((i : Int) < 3) = true := by simp; omega
      have HXb := Aside0.mk hx
      clear hgw hbw hx hc hC hR hs hnext
      gi_wp2_with fail
      refine ⟨trivial, (callsIn_wide.2 (wire_Text.calls 200 At ct L s _ _ HCt.out HLt.out HT.out)).mono ?_⟩
      rintro e ws ⟨vs, rfl, hrs, hbs⟩
      obtain ⟨As, cs, rfl⟩ := Kd.R_slice hrs
      have HF' := Aside0.mk (buf_step HF.out hbs hrs)
      have KX' := Aside0.mk (blk_far (p := ⟨g, 0, none⟩) (blk_below KX.out hbs) HNE.out.1 (.slice As (textS L s).length cs))
      have HM' := Aside0.mk (blk_far (p := ⟨g, 0, none⟩) (blk_below HM.out hbs) HNE.out.2 (.slice As (textS L s).length cs))
      have c0 : ws.cell? ⟨g, 0, none⟩ = some (.slice At L.length ct) := (blk_cell (blk_below HXb.out hbs) 0).trans rfl
      have c1 := blk_frozen (blk_below HXb.out hbs) 0
      clear hrs hbs b0 b1 hcell
      gi_wp2
      go_round
      case rel => exact ⟨i + 1, by go_num, by omega, ⟨by rw [HNX.out]; exact HF'.out⟩, KX', HM'⟩
      case measure => simp [intOf]; omega
    · have hi : i = 3 := by omega
      subst hi
      rw [show ((3 : Nat) : Int) = 3 from rfl]
      have q1 : decide ((3 : Int) < 3) = false := by decide
      obtain ⟨L, hL⟩ : ∃ L, pre3 f 3 = L := ⟨_, rfl⟩
      have hll : L.length ≤ 120 := by rw [← hL]; exact pre3_len HBR.out 3
      have HLH := Aside0.mk (show headB f = L ++ encN f.se ++ encN f.ix from by rw [← hL]; rfl)
      rw [hL] at HF
      obtain ⟨_, _, At, ct, hx, hc, hC, _⟩ := HF.out
      obtain ⟨_, _, _, z4, z5, z6, z7⟩ := rightF_sizes HBR.out
      have HT := Aside0.mk (show wire_Number.f 200 L (IntKind.u64.wrap f.se) = some (L ++ encN f.se) from by rw [u_id (by omega) (by omega)]; exact number_f _ (by omega) (by omega) _ (by omega) 200 (by omega))
      obtain ⟨L1, hL1⟩ : ∃ L1, L ++ encN f.se = L1 := ⟨_, rfl⟩
      have hl1 : L1.length ≤ 130 := by have := encN_len f.se; rw [← hL1, List.length_append]; omega
      rw [hL1] at HT HLH
      have HBF := Aside0.mk z7
      have HT2 := Aside0.mk (show wire_Number.f 200 L1 (IntKind.u64.wrap f.ix) = some (L1 ++ encN f.ix) from by
       have : f.ix ≤ 1152921504606846976 := by
        unfold bodyF at z7
        split at z7
        · simp only [Bool.and_eq_true, decide_eq_true_eq] at z7; omega
        · split at z7
          · simp only [Bool.and_eq_true, decide_eq_true_eq] at z7; omega
          · simp only [Bool.and_eq_true, decide_eq_true_eq] at z7; omega
       rw [u_id (by omega) (by omega)]
       exact number_f _ (by omega) (by omega) _ (by omega) 200 (by omega))
      obtain ⟨L2, hL2⟩ : ∃ L2, L1 ++ encN f.ix = L2 := ⟨_, rfl⟩
      have HL2 := Aside0.mk (show L2.length ≤ 140 from by have := encN_len f.ix; rw [← hL2, List.length_append]; omega)
      rw [hL2] at HT2 HLH
      have HXb := Aside0.mk hx
      have HCt := Aside0.mk hC
      have HLt := Aside0.mk hc
      clear hL hll hL1 hl1 hL2 z4 z5 z6 z7 hx hc hC
      gi_wp2
      refine wpIn_wide.2 ?_
      refine wp_region_noPanic ?_
      refine start_ (n := 10) (ds := [9]) (S := fun w' => w'.cell? ⟨g, 0, none⟩ = some (.slice At L.length ct) ∧ w'.cell? ⟨N, 4, none⟩ = some (.int .i64 f.se) ∧ w'.cell? ⟨N, 5, none⟩ = some (.int .i64 f.ix)) _ (by kernel_rfl) rfl rfl
       ⟨(blk_cell (blk_drew HXb.out) 0).trans rfl, (blk_cell (blk_drew KX.out) 4).trans rfl, (blk_cell (blk_drew KX.out) 5).trans rfl⟩ (fun hH => ?_)
      refine XReg.tk 0 27 (h := ?_)
      refine XReg.pu 1 28 (h := ?_)
      refine XReg.tk 2 29 (h := ?_)
      refine XReg.pu 3 30 (h := ?_)
      refine XReg.pu 5 32 (h := ?_)
      refine XReg.tk 6 33 (h := ?_)
      refine XReg.pu 7 34 (h := ?_)
      have HD0 := Aside0.mk (show Below wr.heap.size wr wr.drew from below_drew1 (Below.refl _ wr))
      refine XReg.one (i := 4) (some 31) rfl rfl (by kernel_rfl) (by decide) (fun Kc hKc => ?_)
      refine goes_ Try.func79 (by kernel_rfl) rfl #[.slice At L.length ct, .int .u64 (IntKind.u64.wrap f.se)] (by rfl) rfl rfl (by (try simp only [List.map_toArray, List.map_cons, List.map_nil]); first | done | rfl) ?_
      refine (wire_Number.calls 200 At ct L _ L1 _ (Kd.C_drew HCt.out) HLt.out HT.out).mono ?_
      rintro e wa ⟨va, rfl, hra, hba⟩
      refine ⟨_, rfl, ?_⟩
      have HDa := Aside0.mk (HD0.out.trans (hba.mono HD0.out.size))
      obtain ⟨Aa, ca, rfl, la, Ca⟩ := Kd.R_reads hra
      have HLa := Aside0.mk la
      have HCa := Aside0.mk Ca
      refine hKc.out _ _ ⟨(blk_cell (blk_below HXb.out HDa.out) 0).trans rfl, (blk_cell (blk_below KX.out HDa.out) 4).trans rfl, (blk_cell (blk_below KX.out HDa.out) 5).trans rfl⟩ (fun hH2 => ?_)
      clear hKc Kc hH hra hba HD0 la Ca HCt HLt HT
      refine XReg.one (i := 8) (some 35) rfl rfl (by kernel_rfl) (by decide) (fun Kc hKc => ?_)
      refine goes_ Try.func79 (by kernel_rfl) rfl #[.slice Aa L1.length ca, .int .u64 (IntKind.u64.wrap f.ix)] (by rfl) rfl rfl (by (try simp only [List.map_toArray, List.map_cons, List.map_nil]); first | done | rfl) ?_
      refine (wire_Number.calls 200 Aa ca L1 _ L2 _ HCa.out HLa.out HT2.out).mono ?_
      rintro e wb ⟨vb, rfl, hrb, hbb⟩
      refine ⟨_, rfl, ?_⟩
      have HDb := Aside0.mk (HDa.out.trans (hbb.mono HDa.out.size))
      obtain ⟨Ab, cb, rfl⟩ := Kd.R_slice hrb
      refine hKc.out _ _ ⟨(blk_cell (blk_below HXb.out HDb.out) 0).trans rfl, (blk_cell (blk_below KX.out HDb.out) 4).trans rfl, (blk_cell (blk_below KX.out HDb.out) 5).trans rfl⟩ (fun hH3 => ?_)
      have hg0 : wb.cell? ⟨g, 0, none⟩ = some (.slice At L.length ct) := hH3.1
      have hg1 := blk_frozen (blk_below HXb.out HDb.out) 0
      have HF4 := Aside0.mk (buf_step HF.out HDb.out (Kd.R_lower (base' := wr.heap.size) hrb HDa.out.size))
      have KX4 := Aside0.mk (blk_far (p := ⟨g, 0, none⟩) (blk_below KX.out HDb.out) HNE.out.1 (.slice Ab L2.length cb))
      clear hKc Kc hH2 hH3 hrb hbb HCa HLa HT2
      refine XReg.last (i := 9) none rfl rfl (by kernel_rfl) (by decide) (fun Kc hKc => ?_)
      refine store_last rfl rfl (by first | (go_simp; done) | (go_simp; rfl)) ?_
      refine hKc.out _ _ ?_
      refine done_ (by kernel_rfl) ?_
      refine NoPanic.normal ?_
      obtain ⟨w4, hw4⟩ : ∃ w4, wb.setCell ⟨g, 0, none⟩ (.slice Ab L2.length cb) = w4 := ⟨_, rfl⟩
      rw [hw4] at HF4 KX4 ⊢
      simp only [Act.put]
      clear hw4 hg0 hg1 HF KX HM HXb HDa HDb
      obtain ⟨_, _, A4, c4, hx, hc, hC, _⟩ := HF4.out
      have HX4 := Aside0.mk hx
      have HC4 := Aside0.mk hC
      have HL4 := Aside0.mk hc
      have b0 : w4.cell? ⟨g, 0, none⟩ = some (.slice A4 L2.length c4) := (blk_cell hx 0).trans rfl
      have b1 := blk_frozen hx 0
      obtain ⟨n0, n1, n2, n3, n4, n5, n6, n7, n8⟩ := cells9 KX4.out
      have hbf := HBF.out
      clear hx hc hC
      by_cases k1 : f.k = 1
      · have e1 : (f.k == 1) = true := by simp [k1]
        have hrk : rightS f.kn = true := by
         unfold bodyF at hbf
         rw [if_pos k1] at hbf
         simp only [Bool.and_eq_true] at hbf
         exact hbf.1.2
        have HT := Aside0.mk (show vector_Lay.f (f.kn.length + 201) L2 f.kn = some (L2 ++ (layS [] f.kn).1, 0) from by
         rw [lay_f L2 (by have := HL2.out; omega) f.kn HG7.out.2.1 _ (by omega)]
         unfold layS
         rw [if_pos hrk, if_pos hrk]
         show some (layL _ _, (0 : Int)) = some (_ ++ layL _ _, 0)
         rw [lay_app f.kn (L2 ++ encN (f.kn.length : Int)), lay_app f.kn ([] ++ encN (f.kn.length : Int))]
         simp)
        obtain ⟨L5, hL5⟩ : ∃ L5, L2 ++ (layS [] f.kn).1 = L5 := ⟨_, rfl⟩
        rw [hL5] at HT
        have HQ5 := Aside0.mk (show bodyB f = L5 from by unfold bodyB; rw [if_pos k1, HLH.out]; exact hL5)
        have HL5 := Aside0.mk (show L5.length ≤ 5000 from by have := layS_len f.kn hrk; have := HL2.out; rw [← hL5, List.length_append]; omega)
        have K1 := Aside0.mk k1
        have HBW := Aside0.mk HF4.out.2.1
        clear hbf k1 hrk hL5
        gi_wp2_with fail
        refine ⟨trivial, (callsIn_wide.2 (vector_Lay.calls (f.kn.length + 201) A4 c4 L2 A7 c7 f.kn _ _ _ HC4.out HL4.out (Kd.C_below HG7.out HBW.out) HL7.out HT.out)).mono ?_⟩
        rintro e w5 ⟨v5, rfl, hr5, hb5⟩
        obtain ⟨A5, c5, rfl⟩ := Kd.R_slice hr5
        obtain ⟨hB5, hx5, hR5⟩ := buf_stepV HF4.out hb5 hr5
        have KX5 := Aside0.mk (blk_far (p := ⟨g, 0, none⟩) (blk_below KX4.out hb5) HNE.out.1 (.slice A5 L5.length c5))
        have d0 : w5.cell? ⟨g, 0, none⟩ = some (.slice A4 L2.length c4) := (blk_cell (blk_below HX4.out hb5) 0).trans rfl
        have d1 := blk_frozen (blk_below HX4.out hb5) 0
        have m0 := (cells9 (blk_below KX4.out hb5)).e0
        have x0 := (cells9 KX5.out).e0
        have x1 : (w5.setCell ⟨g, 0, none⟩ (.slice A5 L5.length c5)).cell? ⟨g, 0, none⟩ = some (.slice A5 L5.length c5) := (blk_cell hx5 0).trans rfl
        have hcv := own_string (P := Try.prog) Try.underlying63 Try.underlying5 Try.underlying9 (Kd.own_of_R hR5)
        have HB5 := Aside0.mk hB5
        clear hr5 hb5 hB5 hx5 hR5 n0 n1 n2 n3 n4 n5 n6 n7 n8 b0 b1
        have hk := show f.k % 256 = f.k from by rw [K1.out]; decide
        gi_wp2_with fail
        try rw [hk]
        have hby : bytesOf (strOfNums L5) = L5 := bytes_nums (by rw [← HQ5.out]; exact bodyB_B HBR.out)
        have hsz : (strOfNums L5).size ≤ 140737488351232 := by have h1 := bytesOf_length (strOfNums L5); rw [hby] at h1; have := HL5.out; omega
        have HBY := Aside0.mk hby
        refine ⟨trivial, (callsIn_wide.2 (seal2_calls f.k (strOfNums L5) hsz _)).mono ?_⟩
        rw [hby]
        rintro e w6 ⟨rfl, hb6⟩
        have HB6 := Aside0.mk (HB5.out.trans (hb6.mono HB5.out.size))
        clear hb6 hby hsz hcv x0 x1 d0 d1 m0
        gi_wp2
        rw [← HQ5.out]
        exact ⟨.tuple #[.string (strOfNums (sealT f.k (bodyB f))), .int .i64 0], by simp [results, Try.f35, go_sem], rfl, HB6.out⟩
      · have e1 : (f.k == 1) = false := by simp [k1]
        have K1 := Aside0.mk k1
        have HB4 := Aside0.mk HF4.out.2.1
        by_cases k2 : f.k = 2
        case neg =>
         have e2 : (f.k == 2) = false := by simp [k2]
         have hk : f.k % 256 = f.k := by
          unfold bodyF at hbf
          rw [if_neg k1, if_neg k2] at hbf
          simp only [Bool.and_eq_true, decide_eq_true_eq] at hbf
          omega
         have HQ4 := Aside0.mk (show bodyB f = L2 from by unfold bodyB; rw [if_neg k1, if_neg k2]; exact HLH.out)
         obtain ⟨_, hB4, A4', c4', hx4', _, _, hR4⟩ := HF4.out
         rw [HX4.out] at hx4'
         obtain ⟨rfl, rfl⟩ : A4 = A4' ∧ c4 = c4' := by simpa using hx4'
         have hcv := own_string (P := Try.prog) Try.underlying63 Try.underlying5 Try.underlying9 (Kd.own_of_R hR4)
         clear hx4' hR4 hB4 hbf k1 k2
         gi_wp2_with fail
         try rw [hk]
         have hby : bytesOf (strOfNums L2) = L2 := bytes_nums (by rw [← HQ4.out]; exact bodyB_B HBR.out)
         have hsz : (strOfNums L2).size ≤ 140737488351232 := by have h1 := bytesOf_length (strOfNums L2); rw [hby] at h1; have := HL2.out; omega
         refine ⟨trivial, (callsIn_wide.2 (seal2_calls f.k (strOfNums L2) hsz _)).mono ?_⟩
         rw [hby]
         rintro e w6 ⟨rfl, hb6⟩
         have HB6 := Aside0.mk (HB4.out.trans (hb6.mono HB4.out.size))
         clear hb6 hby hsz hcv
         gi_wp2
         rw [← HQ4.out]
         exact ⟨.tuple #[.string (strOfNums (sealT f.k (bodyB f))), .int .i64 0], by simp [results, Try.f35, go_sem], rfl, HB6.out⟩
        case pos =>
         have e2 : (f.k == 2) = true := by simp [k2]
         unfold bodyF at hbf
         rw [if_neg k1, if_pos k2] at hbf
         simp only [Bool.and_eq_true, decide_eq_true_eq] at hbf
         obtain ⟨⟨⟨⟨⟨q1, q2⟩, q3⟩, q4⟩, q5⟩, q6⟩ := hbf
         have hix := (rightF_sizes HBR.out).2.2.2.2.2.1
         have HT := Aside0.mk (show wire_Number.f 200 L2 (IntKind.u64.wrap f.mn) = some (L2 ++ encN f.mn) from by rw [u_id (by omega) (by omega)]; exact number_f _ (by omega) (by omega) _ (by have := HL2.out; omega) 200 (by omega))
         obtain ⟨L3, hL3⟩ : ∃ L3, L2 ++ encN f.mn = L3 := ⟨_, rfl⟩
         have hl3 : L3.length ≤ 150 := by have := encN_len f.mn; have := HL2.out; rw [← hL3, List.length_append]; omega
         rw [hL3] at HT
         have HT2 := Aside0.mk (show wire_Number.f 200 L3 (IntKind.u64.wrap (f.op.length : Int)) = some (L3 ++ encN (f.op.length : Int)) from by rw [u_id (by omega) (by omega)]; exact number_f _ (by omega) (by omega) _ (by omega) 200 (by omega))
         obtain ⟨L4, hL4⟩ : ∃ L4, L3 ++ encN (f.op.length : Int) = L4 := ⟨_, rfl⟩
         have HL4b := Aside0.mk (show L4.length ≤ 160 from by have := encN_len (f.op.length : Int); rw [← hL4, List.length_append]; omega)
         rw [hL4] at HT2
         have HQ4 := Aside0.mk (show bodyB f = layOps L4 f.op from by unfold bodyB; rw [if_neg k1, if_pos k2, HLH.out, hL3, hL4])
         have HQ8 := Aside0.mk q5
         have hk : f.k % 256 = f.k := by rw [k2]; decide
         have HK2 := Aside0.mk hk
         clear q1 q2 q3 q4 q5 q6 hix hL3 hl3 hL4 k1 k2 hk
         gi_wp2
         refine wpIn_wide.2 ?_
         refine wp_region_noPanic ?_
         refine start_ (n := 11) (ds := [10]) (S := fun w' => w'.cell? ⟨g, 0, none⟩ = some (.slice A4 L2.length c4) ∧ w'.cell? ⟨N, 6, none⟩ = some (.int .i64 f.mn) ∧ w'.cell? ⟨N, 8, none⟩ = some (.slice A8 f.op.length c8)) _ (by kernel_rfl) rfl rfl
          ⟨(blk_cell (blk_drew HX4.out) 0).trans rfl, (blk_cell (blk_drew KX4.out) 6).trans rfl, (blk_cell (blk_drew KX4.out) 8).trans rfl⟩ (fun hH => ?_)
         refine XReg.tk 0 49 (h := ?_)
         refine XReg.pu 1 50 (h := ?_)
         refine XReg.tk 2 51 (h := ?_)
         refine XReg.pu 3 52 (h := ?_)
         refine XReg.pu 5 54 (h := ?_)
         refine XReg.tk 6 55 (h := ?_)
         refine XReg.pu 7 56 (h := ?_)
         refine XReg.pu 8 57 (h := ?_)
         have HD0 := Aside0.mk (show Below w4.heap.size w4 w4.drew from below_drew1 (Below.refl _ w4))
         refine XReg.one (i := 4) (some 53) rfl rfl (by kernel_rfl) (by decide) (fun Kc hKc => ?_)
         refine goes_ Try.func79 (by kernel_rfl) rfl #[.slice A4 L2.length c4, .int .u64 (IntKind.u64.wrap f.mn)] (by rfl) rfl rfl (by (try simp only [List.map_toArray, List.map_cons, List.map_nil]); first | done | rfl) ?_
         refine (wire_Number.calls 200 A4 c4 L2 _ L3 _ (Kd.C_drew HC4.out) HL4.out HT.out).mono ?_
         rintro e wa ⟨va, rfl, hra, hba⟩
         refine ⟨_, rfl, ?_⟩
         have HDa := Aside0.mk (HD0.out.trans (hba.mono HD0.out.size))
         obtain ⟨Aa, ca, rfl, la, Ca⟩ := Kd.R_reads hra
         have HLa := Aside0.mk la
         have HCa := Aside0.mk Ca
         refine hKc.out _ _ ⟨(blk_cell (blk_below HX4.out HDa.out) 0).trans rfl, (blk_cell (blk_below KX4.out HDa.out) 6).trans rfl, (blk_cell (blk_below KX4.out HDa.out) 8).trans rfl⟩ (fun hH2 => ?_)
         clear hKc Kc hH hra hba HD0 la Ca HC4 HL4 HT
         refine XReg.one (i := 9) (some 58) rfl rfl (by kernel_rfl) (by decide) (fun Kc hKc => ?_)
         refine goes_ Try.func79 (by kernel_rfl) rfl #[.slice Aa L3.length ca, .int .u64 (IntKind.u64.wrap (f.op.length : Int))] (by rfl) rfl rfl (by (try simp only [List.map_toArray, List.map_cons, List.map_nil]); first | done | rfl) ?_
         refine (wire_Number.calls 200 Aa ca L3 _ L4 _ HCa.out HLa.out HT2.out).mono ?_
         rintro e wb' ⟨vb, rfl, hrb, hbb⟩
         refine ⟨_, rfl, ?_⟩
         have HDb := Aside0.mk (HDa.out.trans (hbb.mono HDa.out.size))
         obtain ⟨Ac, cc, rfl⟩ := Kd.R_slice hrb
         refine hKc.out _ _ ⟨(blk_cell (blk_below HX4.out HDb.out) 0).trans rfl, (blk_cell (blk_below KX4.out HDb.out) 6).trans rfl, (blk_cell (blk_below KX4.out HDb.out) 8).trans rfl⟩ (fun hH3 => ?_)
         have hg0 : wb'.cell? ⟨g, 0, none⟩ = some (.slice A4 L2.length c4) := hH3.1
         have hg1 := blk_frozen (blk_below HX4.out HDb.out) 0
         obtain ⟨hB5, hx5, hR5⟩ := buf_stepV HF4.out HDb.out (Kd.R_lower (base' := w4.heap.size) hrb HDa.out.size)
         have KX5 := Aside0.mk (blk_far (p := ⟨g, 0, none⟩) (blk_below KX4.out HDb.out) HNE.out.1 (.slice Ac L4.length cc))
         have HB5 := Aside0.mk hB5
         have HX5 := Aside0.mk hx5
         have HR5 := Aside0.mk hR5
         clear hKc Kc hH2 hH3 hrb hbb HCa HLa HT2 hB5 hx5 hR5 n0 n1 n2 n3 n4 n5 n6 n7 n8 b0 b1
         refine XReg.last (i := 10) none rfl rfl (by kernel_rfl) (by decide) (fun Kc hKc => ?_)
         refine store_last rfl rfl (by first | (go_simp; done) | (go_simp; rfl)) ?_
         refine hKc.out _ _ ?_
         refine done_ (by kernel_rfl) ?_
         refine NoPanic.normal ?_
         obtain ⟨w5, hw5⟩ : ∃ w5, wb'.setCell ⟨g, 0, none⟩ (.slice Ac L4.length cc) = w5 := ⟨_, rfl⟩
         rw [hw5] at HB5 HX5 HR5 KX5 ⊢
         simp only [Act.put]
         clear hKc Kc hw5 hg0 hg1 HDa HDb HF4 KX4 HX4 HB4
         have n8 := (cells9 KX5.out).e8
         gi_wp2_with fail
         refine ⟨trivial, (callsIn_wide.2 (laid_calls A8 f.op.length c8 _)).mono ?_⟩
         rintro e w6 ⟨rfl, hw6⟩
         obtain ⟨Bx, hBx⟩ : ∃ B, w5.heap.size = B := ⟨_, rfl⟩
         rw [hBx]
         have hb56 : Below w5.heap.size w5 w6 := by rw [hw6]; exact (Below.refl _ w5).alloc (Nat.le_refl _) _
         have HBX6 := Aside0.mk (show w6.heap[Bx]? = some (.cells #[.slice A8 f.op.length c8] 22 (0, 0)) from by rw [hw6, ← hBx]; exact World.alloc_heap_new w5 _)
         have HS6 := Aside0.mk (show w6.heap.size = Bx + 1 from by rw [hw6, ← hBx]; simp)
         have HB6 := Aside0.mk (HB5.out.trans (hb56.mono HB5.out.size))
         have HGB := Aside0.mk (show g < Bx ∧ N < Bx ∧ w.heap.size ≤ Bx ∧ w.heap.size ≤ g ∧ w.heap.size = N from by
          rw [← hBx]
          exact ⟨blk_lt HX5.out, blk_lt KX5.out, HB5.out.size, by have h1 := HB1.out.size; exact (by first | exact HF3g | omega), hN⟩)
         have h0 : LayInv w g w6.heap.size N #[.int .i64 f.k, .string f.fa, .string f.fb, .string f.ct, .int .i64 f.se, .int .i64 f.ix, .int .i64 f.mn, .slice A7 f.kn.length c7, .slice A8 f.op.length c8] L4 [] w6 :=
          ⟨HB6.out, ⟨Ac, cc, blk_below HX5.out hb56, Kd.R_mono (Kd.R_below (Kd.R_bound HR5.out) hb56) (fun k hk => ⟨hk.1, by have h1 := hk.2.2.1; have h2 := HS6.out; omega⟩)⟩, blk_below KX5.out hb56⟩
         have H0 := Aside0.mk h0
         clear h0 hw6 hb56 n8 HB5 HX5 HR5 KX5 hBx
         gi_wp2_with fail
         refine range_law (gf := 119) rfl (enters_of Try.func119 (by kernel_rfl) rfl)
          (laid1_seq 2 (fun k => k < w.heap.size ∨ k = Bx) Bx f.op A8 c8 w w6 HBX6.out HG8.out HB6.out (.inr rfl) (fun k hk => .inl hk) (fun k hk => by have h1 := HS6.out; have h2 := HGB.out; omega))
          (fun _ => rfl) (fun k hk => by have h1 := HS6.out; have h2 := HGB.out; omega) (fun k hk => hk.elim)
          (LayInv w g w6.heap.size N #[.int .i64 f.k, .string f.fa, .string f.fb, .string f.ct, .int .i64 f.se, .int .i64 f.ix, .int .i64 f.mn, .slice A7 f.kn.length c7, .slice A8 f.op.length c8] L4) (fun _ _ _ => False)
          (layInv_keeps (fun m hm => hm.elim) (by have h1 := HS6.out; have h2 := HGB.out; omega) (by have h1 := HS6.out; have h2 := HGB.out; omega) (by have h1 := HS6.out; have h2 := HGB.out; omega)) (fun c s A A' h _ => h)
          (layInv_keeps (fun m hm => by omega) (by have h1 := HS6.out; have h2 := HGB.out; omega) (by have h1 := HS6.out; have h2 := HGB.out; omega) (by have h1 := HS6.out; have h2 := HGB.out; omega)) (fun c s A A' h _ => h)
          H0.out ?round ?done ?stop
         case stop => exact fun c pre W _ h => h.elim
         case round =>
          rintro pre x W hI hlen hsz
          have HPL := Aside0.mk hlen
          have HSZ := Aside0.mk hsz
          clear hI hlen hsz
          gi_wp2_with fail
          refine ⟨Keeps.refl _ _, fun Wb hkb hib => ?_⟩
          obtain ⟨hB, ⟨A, c, hO, hR⟩, hX⟩ := hib
          obtain ⟨T, hT⟩ : ∃ T, txts L4 pre = T := ⟨_, rfl⟩
          have hTl : T.length ≤ 200000 := by
           have h1 := txts_len pre L4
           have h2 := HPL.out
           have h3 := HL4b.out
           have h4 := HQ8.out
           rw [← hT]
           omega
          have HTN := Aside0.mk (show txts L4 (pre ++ [x]) = textS T x.1 from by rw [txts_snoc, hT])
          rw [hT] at hO hR
          have e0 : Wb.cell? ⟨g, 0, none⟩ = some (.slice A T.length c) := (blk_cell hO 0).trans rfl
          have HO := Aside0.mk hO
          have HR := Aside0.mk hR
          have HB := Aside0.mk hB
          have HX := Aside0.mk hX
          have HWb := Aside0.mk (show w6.heap.size + 2 ≤ Wb.heap.size from by have h1 := hkb.size; have h2 := HSZ.out; omega)
          have HTT := Aside0.mk (textBig_f T x.1 (by have := x.2; omega) (by omega) 200 (by omega))
          clear hkb hB hO hR hX hT hTl
          gi_wp2_with fail
          refine ⟨trivial, (CallsIn.inRound _ (callsIn_wide.2 (wire_Text.calls 200 A c T x.1 _ _ (Kd.R_reads' HR.out).2.2 (Kd.R_reads' HR.out).2.1 HTT.out))).mono ?_⟩
          rintro e Wc ⟨vc, rfl, hrc, hbc⟩
          obtain ⟨A', c', rfl⟩ := Kd.R_slice hrc
          have d0 : Wc.cell? ⟨g, 0, none⟩ = some (.slice A T.length c) := (blk_cell (blk_below HO.out hbc) 0).trans rfl
          have d1 := blk_frozen (blk_below HO.out hbc) 0
          have hgl := blk_lt HO.out
          have HRn := Aside0.mk (Kd.R_mono (Kd.R_far (p := ⟨g, 0, none⟩) (Kd.R_bound hrc) (fun k hk => by have := hk.2.1; show k ≠ g; omega) (.slice A' (textS T x.1).length c')) (ok' := fun k => k ≠ g ∧ ¬ (w6.heap.size ≤ k ∧ k < w6.heap.size + 2)) (fun k hk => ⟨by have := hk.2.1; omega, by have h1 := hk.2.1; have h2 := HWb.out; omega⟩))
          have HBC := Aside0.mk hbc
          clear e0 hrc hbc
          gi_wp2_with fail
          have hgb := HGB.out
          have hs6 := HS6.out
          have hwb := HWb.out
          have kp : ∀ k, k < Wb.heap.size → k ≠ g → (Wc.setCell ⟨g, 0, none⟩ (.slice A' (textS T x.1).length c')).heap[k]? = Wb.heap[k]? := fun k h1 h2 =>
           (Below.heap_setCell _ _ _ _ h2).trans (HBC.out.block k h1)
          have hsz2 : Wb.heap.size ≤ (Wc.setCell ⟨g, 0, none⟩ (.slice A' (textS T x.1).length c')).heap.size := by have := HBC.out.size; simp [World.setCell]; omega
          refine ⟨⟨hsz2, fun k hk => kp k (by omega) (by omega)⟩, ⟨hsz2, fun k hk => kp k (by have := HB.out.size; omega) (by omega)⟩, ?_⟩
          unfold LayInv
          rw [HTN.out]
          exact ⟨below_set (HB.out.trans (HBC.out.mono HB.out.size)) (by omega), ⟨A', c', blk_set (blk_below HO.out HBC.out) 0 _, Kd.R_lower HRn.out HB.out.size⟩, blk_far (p := ⟨g, 0, none⟩) (blk_below HX.out HBC.out) (by show N ≠ g; exact HNE.out.1) _⟩
         case done =>
          rintro xs W rfl ⟨hB, ⟨A, c, hO, hR⟩, hX⟩ hsz hD
          rw [txts_ops, ← HQ4.out] at hO hR
          obtain ⟨T, hT⟩ : ∃ T, bodyB f = T := ⟨_, rfl⟩
          rw [hT] at hO hR
          have e0 : W.cell? ⟨g, 0, none⟩ = some (.slice A T.length c) := (blk_cell hO 0).trans rfl
          have x0 := (cells9 hX).e0
          have hcv := own_string (P := Try.prog) Try.underlying63 Try.underlying5 Try.underlying9 (Kd.own_of_R hR)
          have hk := HK2.out
          have HD := Aside0.mk hD
          have HB := Aside0.mk hB
          have hby : bytesOf (strOfNums T) = T := bytes_nums (by rw [← hT]; exact bodyB_B HBR.out)
          have hsz2 : (strOfNums T).size ≤ 140737488351232 := by
           have h1 := bytesOf_length (strOfNums T)
           rw [hby, ← hT, HQ4.out] at h1
           have h2 := layOps_len f.op L4
           have h3 := HL4b.out
           have h4 := HQ8.out
           rw [← hT, HQ4.out]
           omega
          have HSZ := Aside0.mk hsz
          clear hD hB hO hR hX hsz
          gi_wp2_with fail
          try rw [hk]
          refine ⟨trivial, (callsIn_wide.2 (seal2_calls f.k (strOfNums T) hsz2 _)).mono ?_⟩
          rw [hby]
          rintro e W7 ⟨rfl, hb7⟩
          have HB7 := Aside0.mk (HB.out.trans (hb7.mono HB.out.size))
          have HD7 := Aside0.mk (blk_below HD.out hb7)
          clear hb7 e0 x0 hcv
          gi_wp2
          have hgb := HGB.out
          have hs6 := HS6.out
          have hs7 := HB7.out.size
          rw [← hT]
          exact leave_mark HD7.out ⟨.tuple #[.string (strOfNums (sealT f.k (bodyB f))), .int .i64 0], by simp [results, Try.f35, go_sem], rfl, below_put HB7.out (by omega) hs7⟩
end Go.Proofs.Ytenbkljgmgdegaa.PO
end
section
namespace Go.Proofs.Ytenbkljgmgdegaa.PO
open Go.RowKit Go.Proofs.YtenbkljgmgdegaaW.PrintWords Go.Proofs.YtenbkljgmgdegaaW.PrintLast Go.Proofs.YtenbkljgmgdegaaW.PrintMore
attribute [local go_sem] max2_int min2_int max_two min_two max_three min_three max_four min_four   -- for this text's walks alone
set_option linter.unusedVariables false
set_option linter.unusedSimpArgs false
def wire_Open.T7 : Bool × List (List Nat × List Nat) := (true, [([], []), ([], []), ([0, 1], [0, 1]), ([2], [2]), ([3], [3]), ([], []), ([], []), ([], []), ([7], [7]), ([5, 6, 8], [5, 6, 8]), ([4, 9, 4], [4, 9]), ([10], [10]), ([11, 10], [11])])
def wire_Open.B7 : List Nat := [0, 0, 3, 7, 15, 0, 0, 0, 128, 480, 1023, 2047, 4095]
theorem wire_Open.tab7 : rtab .any (opsOf Try.f67 7) = wire_Open.T7 := by kernel_rfl
theorem wire_Open.bits7 : waitsOk wire_Open.T7.2 wire_Open.B7 = true := by kernel_rfl
end Go.Proofs.Ytenbkljgmgdegaa.PO
end
section
namespace Go.Proofs.Ytenbkljgmgdegaa.PO
open Go.RowKit Go.Proofs.YtenbkljgmgdegaaW.PrintWords Go.Proofs.YtenbkljgmgdegaaW.PrintLast Go.Proofs.YtenbkljgmgdegaaW.PrintMore Go.Proofs.Ytenbkljgmgdegaa.XW
set_option linter.unusedVariables false
set_option linter.unusedSimpArgs false
def textM (m : Int) (b : List Int) (p : Int) : ByteArray × Int × Int :=
 if (takeS b p).2.2 = 0 then (if (takeS b p).1 > m then (⟨#[]⟩, 0, 20) else if (takeS b p).1 > (b.length : Int) - (takeS b p).2.1 then (⟨#[]⟩, 0, 20)
  else (strOfNums ((b.take ((takeS b p).2.1 + (takeS b p).1).toNat).drop (takeS b p).2.1.toNat), (takeS b p).2.1 + (takeS b p).1, 0)) else (⟨#[]⟩, 0, 20)
theorem takeTextM_f (m : Int) (hm : 0 ≤ m) (hm1 : m ≤ 1048576) (b : List Int) (hB : isB b) (hb : b.length ≤ 140737488355300) (p : Int) (k : Nat) (hk : 20 ≤ k) : wire_TakeText.f k b p m = some (textM m b p) := by
 unfold wire_TakeText.f textM
 rw [takeNumber_f b hB hb p k hk, Option.bind_some]
 by_cases h : (takeS b p).2.2 = 0
 case neg => rw [if_neg h, if_neg h]
 have ho := takeS_ok hB h
 rw [if_pos h, if_pos h, if_neg (by omega), u_id (u := m) (by omega) (by omega)]
 by_cases h1 : (takeS b p).1 > m
 · rw [if_pos h1, if_pos h1]
 rw [if_neg h1, if_neg h1, w_id (u := (b.length : Int) - (takeS b p).2.1) (by omega), u_id (by omega) (by omega)]
 by_cases h2 : (takeS b p).1 > (b.length : Int) - (takeS b p).2.1
 · rw [if_pos h2, if_pos h2]
 rw [if_neg h2, if_neg h2, if_pos (by omega), w_id (u := (takeS b p).1) (by omega), w_id (by omega), if_pos (by omega), if_pos (by omega)]
theorem text_isM (m : Int) (hm : 0 ≤ m) {b : List Int} (hB : isB b) {p : Int} (h : (textM m b p).2.2 = 0) : 0 ≤ p ∧ p.toNat ≤ b.length ∧ ((textM m b p).1.size : Int) ≤ m ∧ 0 ≤ (textM m b p).2.1 ∧ b.take (textM m b p).2.1.toNat = b.take p.toNat ++ textB (textM m b p).1 := by
 unfold textM at h ⊢
 by_cases h0 : (takeS b p).2.2 = 0
 case neg => rw [if_neg h0] at h; cases h
 rw [if_pos h0] at h ⊢
 by_cases h1 : (takeS b p).1 > m
 · rw [if_pos h1] at h; cases h
 by_cases h2 : (takeS b p).1 > (b.length : Int) - (takeS b p).2.1
 · rw [if_neg h1, if_pos h2] at h; cases h
 rw [if_neg h1, if_neg h2]
 have hk := takeS_ok hB h0
 obtain ⟨hp, hpl, ht⟩ := take_is hB h0
 obtain ⟨q, hq⟩ : ∃ q : Nat, (takeS b p).2.1 = (q : Int) := ⟨(takeS b p).2.1.toNat, by omega⟩
 obtain ⟨n, hn⟩ : ∃ n : Nat, (takeS b p).1 = (n : Int) := ⟨(takeS b p).1.toNat, by omega⟩
 simp only [hq, hn] at hk h1 h2 ht ⊢
 simp only [Int.toNat_natCast] at ht
 have e2 : ((q : Int) + (n : Int)).toNat = q + n := by omega
 have hz : (strOfNums ((b.take (q + n)).drop q)).size = n := by rw [strOfNums_size]; simp; omega
 have hbB : isB ((b.take (q + n)).drop q) := fun x hx => hB x (List.mem_of_mem_take (List.mem_of_mem_drop hx))
 refine ⟨hp, hpl, ?_, ?_, ?_⟩
 · show ((strOfNums _).size : Int) ≤ m
   rw [e2, Int.toNat_natCast, hz]; omega
 · show (0 : Int) ≤ (q : Int) + (n : Int)
   omega
 · show b.take ((q : Int) + (n : Int)).toNat = _
   unfold textB
   rw [e2, Int.toNat_natCast, hz, bytes_nums hbB, ← List.append_assoc, ← ht]
   have : (b.take (q + n)).take q = b.take q := by rw [List.take_take, Nat.min_eq_left (by omega)]
   rw [← this, List.take_append_drop]
theorem take_textM (m : Int) (hm1 : m ≤ 1048576) (a r : List Int) (ha : isB a) (hr : isB r) (s : ByteArray) (hs : (s.size : Int) ≤ m) : textM m (a ++ textB s ++ r) (a.length : Int) = (s, ((a ++ textB s).length : Int), 0) := by
 have e : a ++ textB s ++ r = a ++ encN (s.size : Int) ++ (bytesOf s ++ r) := by simp [textB]
 have h := take_enc a (bytesOf s ++ r) ha (app_B (bytes_B s) hr) (s.size : Int) (by omega) (by omega)
 have hl := bytesOf_length s
 have hbl : (a ++ encN (s.size : Int)).length = a.length + (encN (s.size : Int)).length := by simp
 unfold textM
 rw [e, h]
 simp only []
 rw [if_pos trivial, if_neg (by omega), if_neg (by simp [hl]; omega)]
 have e2 : ((a.length : Int) + ((encN (s.size : Int)).length : Int) + (s.size : Int)).toNat = (a ++ encN (s.size : Int) ++ bytesOf s).length := by simp [hl]; omega
 have e3 : ((a.length : Int) + ((encN (s.size : Int)).length : Int)).toNat = (a ++ encN (s.size : Int)).length := by simp; omega
 rw [e2, e3, ← List.append_assoc, List.take_left, List.drop_left, nums_bytes]
 congr 2
 simp [textB, hl]
 omega
theorem eqB_l0 (a b : List Int) (hl : a.length = b.length) (ha : a.length ≤ 1000) : ∀ (d i : Nat), i + d = a.length → slices_Equal_byte_byte.l0 (d + 1) a b (a.length : Int) (i : Int) = some (decide (a.drop i = b.drop i))
 | 0, i, h => by
   unfold slices_Equal_byte_byte.l0
   rw [if_neg (by omega), List.drop_eq_nil_of_le (by omega), List.drop_eq_nil_of_le (by omega)]
   simp
 | d + 1, i, h => by
   have hd : ∀ l : List Int, i < l.length → l.drop i = rd l (i : Int) :: l.drop (i + 1) := fun l hl => by
    rw [List.drop_eq_getElem_cons hl]
    congr 1
    simp [rd, List.getD, hl]
   have hw : wrap64 ((i : Int) + 1) = ((i + 1 : Nat) : Int) := by unfold wrap64; omega
   have ih := eqB_l0 a b hl ha d (i + 1) (by omega)
   unfold slices_Equal_byte_byte.l0
   rw [if_pos (by omega), if_pos (by omega), if_pos (by omega), if_pos (by omega), hw, ih, hd a (by omega), hd b (by omega)]
   by_cases h : rd a (i : Int) = rd b (i : Int)
   · rw [if_pos h, h]; simp
   · rw [if_neg h]; simp [h]
theorem eqB_f (a b : List Int) (ha : a.length ≤ 1000) : slices_Equal_byte_byte.f (a.length + 1) a b = some (decide (a = b)) := by
 unfold slices_Equal_byte_byte.f
 by_cases hl : a.length = b.length
 · have h := eqB_l0 a b hl ha a.length 0 (by omega)
   rw [show ((0 : Nat) : Int) = 0 from rfl] at h
   rw [if_pos (by omega), h]
   simp
 · rw [if_neg (by omega)]
   have : a ≠ b := fun h => hl (by rw [h])
   simp [this]
theorem up_of {α : Type} {g : Nat → Option α} (hm : ∀ k, LeO (g k) (g (k + 1))) {k : Nat} {r : α} (h : g k = some r) : ∀ m, k ≤ m → g m = some r := by
 have up : ∀ d, g (k + d) = some r := fun d => by
  induction d with
  | zero => exact h
  | succ d ih => exact hm _ _ ih
 intro m hkm
 have := up (m - k)
 rwa [show k + (m - k) = m from by omega] at this
theorem textM_le {m : Int} {b : List Int} (hB : isB b) {p q : Int} {t : ByteArray} (hm : 0 ≤ m) (h : textM m b p = (t, q, 0)) : q ≤ (b.length : Int) := by
 unfold textM at h
 by_cases h0 : (takeS b p).2.2 = 0
 case neg => rw [if_neg h0] at h; cases h
 rw [if_pos h0] at h
 by_cases h1 : (takeS b p).1 > m
 · rw [if_pos h1] at h; cases h
 by_cases h2 : (takeS b p).1 > (b.length : Int) - (takeS b p).2.1
 · rw [if_neg h1, if_pos h2] at h; cases h
 rw [if_neg h1, if_neg h2] at h
 simp only [Prod.mk.injEq] at h
 omega
def openS (l : List Int) : Int × ByteArray × Int × Int :=
 if l.length = 0 then (0, ⟨#[]⟩, 0, 20)
 else if (textM 1048576 l 1).2.2 = 0 then
  (if (l.length : Int) - (textM 1048576 l 1).2.1 < 4 then (0, ⟨#[]⟩, 0, 20)
   else if sumB (l.take (textM 1048576 l 1).2.1.toNat) = (l.take ((textM 1048576 l 1).2.1 + 4).toNat).drop (textM 1048576 l 1).2.1.toNat then (rd l 0, (textM 1048576 l 1).1, (textM 1048576 l 1).2.1 + 4, 0) else (0, ⟨#[]⟩, 0, 21))
 else (0, ⟨#[]⟩, 0, 20)
end Go.Proofs.Ytenbkljgmgdegaa.PO
end
section
namespace Go.Proofs.Ytenbkljgmgdegaa.PO
open Go.RowKit Go.Proofs.YtenbkljgmgdegaaW.PrintWords Go.Proofs.YtenbkljgmgdegaaW.PrintLast Go.Proofs.YtenbkljgmgdegaaW.PrintMore Go.Proofs.Ytenbkljgmgdegaa.XW
open Go.Proofs.Ytenbkljgmgdegaa.XRange
set_option linter.unusedVariables false
set_option linter.unusedSimpArgs false
def texQ (m : Int) (l : List Int) (p : Int) (bad : Bool) : ByteArray × Int × Bool := ((textM m l p).1, (textM m l p).2.1, bad || (textM m l p).2.2 != 0)
def numQ (l : List Int) (p : Int) (bad : Bool) : Int × Int × Bool := (if (takeS l p).1 ≤ 1152921504606846976 then (takeS l p).1 else 1152921504606846976, (takeS l p).2.1, bad || (takeS l p).2.2 != 0 || decide ((takeS l p).1 > 1152921504606846976))
structure RF (W : World) (g : Nat) (A : Option Addr) (c : Nat) (l : List Int) (p : Int) (bad : Bool) : Prop where
 b : W.heap[g]? = some (.cells #[.slice A l.length c] 63 (0, 0))
 a : W.heap[g + 1]? = some (.cells #[.int .i64 p] 3 (0, 0))
 d : W.heap[g + 2]? = some (.cells #[.bool bad] 4 (0, 0))
 le : l.length ≤ c
 foot : Kd.F (Kd.int .u8) W (fun k => k < g) A l.length l
theorem RF.below {W W1 : World} {g : Nat} {A : Option Addr} {c : Nat} {l : List Int} {p : Int} {bad : Bool} (h : RF W g A c l p bad) (hb : Below W.heap.size W W1) : RF W1 g A c l p bad :=
 ⟨blk_below h.b hb, blk_below h.a hb, blk_below h.d hb, h.le, Kd.F_below h.foot hb⟩
theorem RF.keep {W W1 : World} {g : Nat} {A : Option Addr} {c : Nat} {l : List Int} {p : Int} {bad : Bool} {M : Nat → Prop} (h : RF W g A c l p bad) (hk : Keeps M W W1) (hM : ∀ k, M k → g + 2 < k) : RF W1 g A c l p bad :=
 ⟨(hk.block _ (blk_lt h.b) (fun f => by have := hM _ f; omega)).trans h.b, (hk.block _ (blk_lt h.a) (fun f => by have := hM _ f; omega)).trans h.a, (hk.block _ (blk_lt h.d) (fun f => by have := hM _ f; omega)).trans h.d, h.le,
  Kd.F_step h.foot (fun k h1 hlt => hk.block k hlt (fun f => by have := hM _ f; have h2 : k < g := h1; omega))⟩
theorem RF.set {W : World} {g : Nat} {A : Option Addr} {c : Nat} {l : List Int} {p : Int} {bad : Bool} (h : RF W g A c l p bad) (p' : Int) (bad' : Bool) : RF ((W.setCell ⟨g + 2, 0, none⟩ (.bool bad')).setCell ⟨g + 1, 0, none⟩ (.int .i64 p')) g A c l p' bad' :=
 ⟨blk_far (p := ⟨g + 1, 0, none⟩) (blk_far (p := ⟨g + 2, 0, none⟩) h.b (by show g ≠ g + 2; omega) _) (by show g ≠ g + 1; omega) _, blk_set (blk_far (p := ⟨g + 2, 0, none⟩) h.a (by show g + 1 ≠ g + 2; omega) _) 0 _,
  blk_far (p := ⟨g + 1, 0, none⟩) (blk_set h.d 0 _) (by show g + 2 ≠ g + 1; omega) _, h.le, Kd.F_far (Kd.F_far h.foot (p := ⟨g + 2, 0, none⟩) (fun k hk => by have h2 : k < g := hk; show k ≠ g + 2; omega) _) (p := ⟨g + 1, 0, none⟩) (fun k hk => by have h2 : k < g := hk; show k ≠ g + 1; omega) _⟩
theorem RF.keeps (W : World) (g : Nat) (u v : Value) : Keeps (fun k => k = g + 1 ∨ k = g + 2) W ((W.setCell ⟨g + 2, 0, none⟩ u).setCell ⟨g + 1, 0, none⟩ v) :=
 Keeps.setCell (M := fun k => k = g + 1 ∨ k = g + 2) (Keeps.setCell (M := fun k => k = g + 1 ∨ k = g + 2) (Keeps.refl _ W) (p := ⟨g + 2, 0, none⟩) (.inl (.inr rfl)) _) (p := ⟨g + 1, 0, none⟩) (.inl (.inl rfl)) _
set_option maxHeartbeats 8000000 in
set_option maxRecDepth 100000 in
theorem texQ_calls (m : Int) (hm0 : 0 ≤ m) (hm1 : m ≤ 1048576) (g : Nat) (A : Option Addr) (c : Nat) (l : List Int) (hB : isB l) (hl : l.length ≤ 140737488355300) (p : Int) (bad : Bool) (w : World) (h : RF w g A c l p bad) :
 Calls Try.prog 68 #[.int .i64 m, .pointer (some ⟨g, 0, none⟩), .pointer (some ⟨g + 1, 0, none⟩), .pointer (some ⟨g + 2, 0, none⟩)] w fun e w' => e = .returned (.string (texQ m l p bad).1) ∧ RF w' g A c l (texQ m l p bad).2.1 (texQ m l p bad).2.2 ∧ Keeps (fun k => k = g + 1 ∨ k = g + 2) w w' := by
 obtain ⟨⟨t, q, er⟩, ht⟩ : ∃ r, textM m l p = r := ⟨_, rfl⟩
 have e1 : texQ m l p bad = (t, q, bad || er != 0) := by unfold texQ; rw [ht]
 rw [e1]
 have HT := Aside0.mk (show wire_TakeText.f 20 l p m = some (t, q, er) from by rw [takeTextM_f m hm0 hm1 l hB hl p 20 (by omega), ht])
 have H := Aside0.mk h
 have b0 : w.cell? ⟨g, 0, none⟩ = some (.slice A l.length c) := (blk_cell h.b 0).trans rfl
 have a0 : w.cell? ⟨g + 1, 0, none⟩ = some (.int .i64 p) := (blk_cell h.a 0).trans rfl
 clear h e1 ht hB hl
 go_enter Try.func68, Try.ntmps68
 go_wp2_with fail
 refine (wire_TakeText.calls 20 A c l p m t q er _ (Kd.F_now H.out.foot) H.out.le HT.out).mono ?_
 rintro e w1 ⟨rfl, hb1⟩
 have H1 := Aside0.mk (H.out.below hb1)
 have HK := Aside0.mk (show Keeps (fun k => k = g + 1 ∨ k = g + 2) w w1 from Keeps.of_below hb1)
 have d0 : w1.cell? ⟨g + 2, 0, none⟩ = some (.bool bad) := (blk_cell H1.out.d 0).trans rfl
 have d1 := blk_frozen H1.out.d 0
 have a0 : w1.cell? ⟨g + 1, 0, none⟩ = some (.int .i64 p) := (blk_cell H1.out.a 0).trans rfl
 have a1 := blk_frozen H1.out.a 0
 have hr := Aside0.mk (H1.out.set q (bad || er != 0))
 have hk := Aside0.mk (RF.keeps w1 g (.bool (bad || er != 0)) (.int .i64 q))
 clear hb1 b0
 cases bad with
 | true =>
   go_wp2
   go_ret
   exact ⟨rfl, by first | exact hr.out | (have := hr.out; simpa using this), HK.out.trans (by first | exact hk.out | (have := hk.out; simpa using this))⟩
 | false =>
   go_wp2
   all_goals
    go_ret
    exact ⟨rfl, by first | exact hr.out | (have := hr.out; simpa using this), HK.out.trans (by first | exact hk.out | (have := hk.out; simpa using this))⟩
theorem takeS_nonneg {l : List Int} (hB : isB l) (p : Int) : 0 ≤ (takeS l p).1 := by
 by_cases h : (takeS l p).2.2 = 0
 · exact (takeS_ok hB h).2.2.1
 · unfold takeS at h ⊢
   split
   · exact Int.le_refl _
   · split
     · exact Int.le_refl _
     · split
       · exact Int.le_refl _
       · split
         · rename_i h1 h2 h3 h4
           rw [if_neg h1, if_neg h2, if_neg h3, if_pos h4] at h
           exact absurd rfl h
         · exact Int.le_refl _
section
attribute [local go_sem] max2_int min2_int max_two min_two
set_option maxHeartbeats 8000000 in
set_option maxRecDepth 100000 in
theorem numQ_calls (g : Nat) (A : Option Addr) (c : Nat) (l : List Int) (hB : isB l) (hl : l.length ≤ 140737488355300) (p : Int) (bad : Bool) (w : World) (h : RF w g A c l p bad) :
 Calls Try.prog 70 #[.pointer (some ⟨g, 0, none⟩), .pointer (some ⟨g + 1, 0, none⟩), .pointer (some ⟨g + 2, 0, none⟩)] w fun e w' => e = .returned (.int .i64 (numQ l p bad).1) ∧ RF w' g A c l (numQ l p bad).2.1 (numQ l p bad).2.2 ∧ Keeps (fun k => k = g + 1 ∨ k = g + 2) w w' := by
 obtain ⟨⟨t, q, er⟩, ht⟩ : ∃ r, takeS l p = r := ⟨_, rfl⟩
 have hn : 0 ≤ t := by have := takeS_nonneg hB p; rw [ht] at this; exact this
 obtain ⟨v, hv⟩ : ∃ v, (if t ≤ 1152921504606846976 then t else 1152921504606846976) = v := ⟨_, rfl⟩
 obtain ⟨bg, hbg⟩ : ∃ b, decide (t > (1152921504606846976 : Int)) = b := ⟨_, rfl⟩
 obtain ⟨be, hbe⟩ : ∃ b, (er != 0) = b := ⟨_, rfl⟩
 have q1 : decide ((1152921504606846976 : Int) < t) = bg := hbg
 have q2 : (er != 0) = be := hbe
 have HQ := Aside0.mk (show (bg = false → t ≤ 1152921504606846976 ∧ v = t) ∧ (bg = true → 1152921504606846976 < t ∧ v = 1152921504606846976) from by
  rw [← hbg]
  refine ⟨fun h => ?_, fun h => ?_⟩
  · have h2 : ¬ (t > 1152921504606846976) := by simpa using h
    rw [if_pos (by omega)] at hv
    exact ⟨by omega, hv.symm⟩
  · have h2 : t > 1152921504606846976 := by simpa using h
    rw [if_neg (by omega)] at hv
    exact ⟨h2, hv.symm⟩)
 have e1 : numQ l p bad = (v, q, bad || be || bg) := by unfold numQ; rw [ht, ← hbe, ← hbg]; exact congrArg (fun z => (z, q, _)) hv
 rw [e1]
 have HT := Aside0.mk (show wire_TakeNumber.f 20 l p = some (t, q, er) from by rw [takeNumber_f l hB hl p 20 (by omega), ht])
 have H := Aside0.mk h
 have b0 : w.cell? ⟨g, 0, none⟩ = some (.slice A l.length c) := (blk_cell h.b 0).trans rfl
 have a0 : w.cell? ⟨g + 1, 0, none⟩ = some (.int .i64 p) := (blk_cell h.a 0).trans rfl
 clear h e1 ht hB hl hbe hbg hv
 go_enter Try.func70, Try.ntmps70
 go_wp2_with fail
 refine (wire_TakeNumber.calls 20 A c l p t q er _ (Kd.F_now H.out.foot) H.out.le HT.out).mono ?_
 rintro e w1 ⟨rfl, hb1⟩
 have H1 := Aside0.mk (H.out.below hb1)
 have HK := Aside0.mk (show Keeps (fun k => k = g + 1 ∨ k = g + 2) w w1 from Keeps.of_below hb1)
 have d0 : w1.cell? ⟨g + 2, 0, none⟩ = some (.bool bad) := (blk_cell H1.out.d 0).trans rfl
 have d1 := blk_frozen H1.out.d 0
 have a0 : w1.cell? ⟨g + 1, 0, none⟩ = some (.int .i64 p) := (blk_cell H1.out.a 0).trans rfl
 have a1 := blk_frozen H1.out.a 0
 have hr := Aside0.mk (H1.out.set q (bad || be || bg))
 have hk := Aside0.mk (RF.keeps w1 g (.bool (bad || be || bg)) (.int .i64 q))
 clear hb1 b0
 cases bg <;> cases be <;> cases bad
 all_goals
  go_wp2
  all_goals
   go_ret
   first
    | (exfalso; have h1 := HQ.out.1 (by first | trivial | rfl); omega)
    | (exfalso; have h1 := HQ.out.2 (by first | trivial | rfl); omega)
    | exact ⟨by rw [(HQ.out.1 (by first | trivial | rfl)).2]; rfl, hr.out, HK.out.trans hk.out⟩
    | exact ⟨by rw [(HQ.out.2 (by first | trivial | rfl)).2]; rfl, hr.out, HK.out.trans hk.out⟩
    | exact ⟨by rw [(HQ.out.1 (by first | trivial | rfl)).2]; rfl, hr.out, HK.out.trans hk.out⟩
end
end Go.Proofs.Ytenbkljgmgdegaa.PO
end
section
namespace Go.Proofs.Ytenbkljgmgdegaa.PO
open Go.RowKit Go.Proofs.YtenbkljgmgdegaaW.PrintWords Go.Proofs.YtenbkljgmgdegaaW.PrintLast Go.Proofs.YtenbkljgmgdegaaW.PrintMore Go.Proofs.Ytenbkljgmgdegaa.XW
open Go.Proofs.Ytenbkljgmgdegaa.XRange
set_option linter.unusedVariables false
set_option linter.unusedSimpArgs false
theorem wrap4 (Q : Nat) (h : Q ≤ 1000000) : wrap64 ((Q : Int) + 4) = ((Q + 4 : Nat) : Int) := by unfold wrap64; omega
set_option maxHeartbeats 8000000 in
set_option maxRecDepth 100000 in
theorem open2_calls (w : World) (s : ByteArray) (hs : s.size ≤ 1000000) :
 Calls Try.prog 67 #[.string s, .int .i64 0, .int .i64 1048576] w fun e w' => e = .returned (.tuple #[.int .u8 (openS (bytesOf s)).1, .string (openS (bytesOf s)).2.1, .int .i64 (openS (bytesOf s)).2.2.1, .int .i64 (openS (bytesOf s)).2.2.2]) ∧ Below w.heap.size w w' := by
 obtain ⟨l, hl⟩ : ∃ l, bytesOf s = l := ⟨_, rfl⟩
 have hlen : s.size = l.length := by rw [← hl]; exact (bytesOf_length s).symm
 have hB : isB l := by rw [← hl]; exact bytes_B s
 rw [hl]
 have HLEN := Aside0.mk hlen
 clear hlen
 go_enter Try.func67, Try.ntmps67
 by_cases h0 : s.size = 0
 · have HO := Aside0.mk (show openS l = (0, ⟨#[]⟩, 0, 20) from by unfold openS; rw [if_pos (by have := HLEN.out; omega)])
   go_wp2
   rw [HO.out]
   exact bodyPost_ret (v := .tuple #[.int .u8 0, .string ⟨#[]⟩, .int .i64 0, .int .i64 20]) (by simp [results, Try.f67, go_sem]) rfl ⟨rfl, Below.refl _ _⟩
 have hsp : 0 < s.size := by omega
 have hes : s.extract 0 s.size = s := by simp
 obtain ⟨⟨t, q, er⟩, ht⟩ : ∃ r, textM 1048576 l 1 = r := ⟨_, rfl⟩
 have hcv := Lib.run_convert_string_bytes (P := Try.prog) w 9 63 5 s Try.underlying9 Try.underlying63 Try.underlying5
 have hv := Kd.conv_V (W := w) (e := 5) (base := 0) (ok := fun _ => True) s (fun _ _ => trivial) (by omega) (grownCap_ge w _ _ _)
 have hb1 := Kd.conv_below (W := w) (w0 := w) (base := w.heap.size) 5 s (Below.refl _ _) (Nat.le_refl _)
 have hcp := grownCap_ge w s.size 0 5
 have hc0 := (bytes_reads w 5 s (by omega)).2.2 hsp
 go_upto_region 4 with fail
 have hlen := HLEN.out
 obtain ⟨w1, hw1⟩ : ∃ x, Lib.bytesWorld w 5 s = x := ⟨_, rfl⟩
 obtain ⟨K, hK⟩ : ∃ K, w.heap.size = K := ⟨_, rfl⟩
 obtain ⟨cp, hcpp⟩ : ∃ x, grownCap w s.size 0 5 = x := ⟨_, rfl⟩
 rw [hw1, hK, hcpp, hl, hlen] at hv
 rw [hw1] at hb1
 rw [hcpp, hlen] at hcp
 rw [hw1, hK, hl] at hc0
 try rw [hw1, hK, hcpp]
 try rw [hlen]
 have HC1 := Aside0.mk (Kd.F_now (Kd.V_F hv))
 have HB1 := Aside0.mk hb1
 have HK1 := Aside0.mk (show w1.cell? ⟨K, 0, none⟩ = some (.int .u8 (rd l 0)) from by
  obtain ⟨ad, e1, hc⟩ := hc0
  cases e1
  have := hc 0 hsp
  rw [add_plain] at this
  rw [this]
  rfl)
 have HKL := Aside0.mk (World.block_lt_of_cell? w1 _ HK1.out)
 clear hcv hv hb1 hw1 hcpp hc0 hes
 go_wp2_with fail
 refine (wire_TakeText.calls 20 (some ⟨K, 0, none⟩) cp l 1 1048576 t q er w1 HC1.out hcp (by rw [takeTextM_f 1048576 (by omega) (by omega) l hB (by omega) 1 20 (by omega), ht])).mono ?_
 rintro e w2 ⟨rfl, hb2⟩
 have hb2' : Below w1.heap.size w1 w2 := by first | exact hb2 | exact hb2.below
 have HB2 := Aside0.mk (HB1.out.trans (hb2'.mono HB1.out.size))
 have HC2 := Aside0.mk (Kd.C_below HC1.out hb2')
 have HK2 := Aside0.mk ((hb2'.cell (p := ⟨K, 0, none⟩) HKL.out).trans HK1.out)
 have HKL2 := Aside0.mk (Nat.lt_of_lt_of_le HKL.out hb2'.size)
 have HCP := Aside0.mk hcp
 clear hb2 hb2' HB1 HC1 HK1 HKL hcp hlen
 by_cases he : er = 0
 case neg =>
  have q1 : (er != 0) = true := by simpa using he
  have HO := Aside0.mk (show openS l = (0, ⟨#[]⟩, 0, 20) from by
   unfold openS
   rw [if_neg (by have := HLEN.out; omega), ht, if_neg he])
  clear he
  go_wp2
  rw [HO.out]
  exact bodyPost_ret (v := .tuple #[.int .u8 0, .string ⟨#[]⟩, .int .i64 0, .int .i64 20]) (by simp [results, Try.f67, go_sem]) rfl ⟨rfl, by first | exact HB2.out | (rw [hK]; exact HB2.out)⟩
 subst he
 obtain ⟨_, _, hsz, hq0, htk⟩ := text_isM 1048576 (by omega) hB (p := 1) (by rw [ht])
 have hle := textM_le hB (by omega) ht
 rw [ht] at hsz hq0 htk
 dsimp only at hsz hq0 htk
 by_cases h4 : (l.length : Int) - q < 4
 · have HO := Aside0.mk (show openS l = (0, ⟨#[]⟩, 0, 20) from by
    unfold openS
    rw [if_neg (by have := HLEN.out; omega), ht, if_pos rfl, if_pos h4])
   go_wp2
   rw [HO.out]
   exact bodyPost_ret (v := .tuple #[.int .u8 0, .string ⟨#[]⟩, .int .i64 0, .int .i64 20]) (by simp [results, Try.f67, go_sem]) rfl ⟨rfl, by first | exact HB2.out | (rw [hK]; exact HB2.out)⟩
 have hs1 : l.length ≤ 1000000 := by have := HLEN.out; omega
 obtain ⟨Q, rfl⟩ : ∃ Q : Nat, q = (Q : Int) := ⟨q.toNat, by omega⟩
 have hQ4 : Q + 4 ≤ l.length := by omega
 have hQ0 : 1 ≤ Q := by
  have h1 := congrArg List.length htk
  simp only [List.length_take, List.length_append] at h1
  simp at h1
  have := HLEN.out
  omega
 obtain ⟨P1, hP1⟩ : ∃ x, l.take Q = x := ⟨_, rfl⟩
 obtain ⟨P2, hP2⟩ : ∃ x, (l.take (Q + 4)).drop Q = x := ⟨_, rfl⟩
 have hl1 : P1.length = Q := by rw [← hP1, List.length_take]; omega
 have hl2 : P2.length = 4 := by rw [← hP2, List.length_drop, List.length_take]; omega
 have HCA := Aside0.mk (show Kd.C (Kd.int .u8) w2 (some ⟨K, 0, none⟩) P1.length P1 from by rw [← hP1]; exact Kd.C_take HC2.out (by omega))
 have hQc : Q ≤ cp := by have := HCP.out; omega
 have hcq : ¬ cp = Q := by have := HCP.out; omega
 have HCB := Aside0.mk (show Kd.C (Kd.int .u8) w2 (some ⟨K, Q, none⟩) P2.length P2 from by
  have h := Kd.C_mid (lo := Q) (hi := Q + 4) HC2.out (by omega) hQ4 HCP.out
  rw [hP2, if_neg hcq] at h
  have e : (some (⟨K, 0, none⟩ : Addr)).map (·.add (Q * (Kd.int .u8).sz)) = some ⟨K, Q, none⟩ := by
   show some ((⟨K, 0, none⟩ : Addr).add (Q * 1)) = _
   rw [Nat.mul_one, add_plain]
  rw [e] at h
  exact h)
 obtain ⟨E, hE⟩ : ∃ E, Q + 4 = E := ⟨_, rfl⟩
 have HW4 := Aside0.mk (show wrap64 ((Q : Int) + 4) = (E : Int) from by rw [← hE]; exact wrap4 Q (by omega))
 have hQE : Q ≤ E := by omega
 have hEc : E ≤ cp := by have := HCP.out; omega
 have HC2L := Aside0.mk (show P2.length ≤ cp - Q from by have := HCP.out; omega)
 have HC1L := Aside0.mk (show P1.length ≤ cp from by have := HCP.out; omega)
 obtain ⟨ks, hks⟩ := seal_f [P1] (by simp) (fun x hx => by rw [List.mem_singleton.1 hx]; omega)
 rw [show catL [P1] = P1 from by simp [catL]] at hks
 have HKS := Aside0.mk hks
 have HSB := Aside0.mk (show (sumB P1).length = 4 from rfl)
 obtain ⟨SB, hSB⟩ : ∃ x, sumB P1 = x := ⟨_, rfl⟩
 rw [hSB] at HKS HSB
 have HOK := Aside0.mk (show openS l = if SB = P2 then (rd l 0, t, (Q : Int) + 4, 0) else (0, ⟨#[]⟩, 0, 21) from by
  unfold openS
  rw [if_neg (by have := HLEN.out; omega), ht, if_pos rfl]
  dsimp only
  rw [if_neg h4, Int.toNat_natCast, show ((Q : Int) + 4).toNat = Q + 4 from by omega, hP1, hP2, hSB])
 have HEQ := Aside0.mk (show E - Q = 4 ∧ (Q : Int) + 4 = E from by omega)
 have HL12 := Aside0.mk (show P1.length = Q ∧ P2.length = 4 from ⟨hl1, hl2⟩)
 have q4 : ¬ (l.length : Int) - (Q : Int) < 4 := h4
 clear hks hSB hP1 hP2 hE hl1 hl2 htk hle hq0 hsz ht h4 hQ4
 go_upto_region 7 with fail
 refine start_ (n := 13) (ds := []) (S := fun _ => True) _ (by kernel_rfl) rfl rfl trivial (fun hH => ?_)
 refine XReg.pu 0 44 (h := ?_)
 refine XReg.pu 1 45 (h := ?_)
 refine XReg.pu 2 46 (h := ?_)
 refine XReg.pu 5 49 (h := ?_)
 refine XReg.pu 6 50 (h := ?_)
 refine XReg.pu 7 51 (h := ?_)
 refine XReg.pu 8 52 (h := ?_)
 rw [HW4.out]
 refine XReg.pu 9 53 (h := ?_)
 refine XReg.one (i := 3) (some 47) rfl rfl (by kernel_rfl) (by decide) (fun Kc hKc => ?_)
 go_simp
 obtain ⟨J, hJ⟩ : ∃ J, w2.heap.size = J := ⟨_, rfl⟩
 obtain ⟨w3, hw3⟩ : ∃ x, (w2.alloc (.cells #[.slice (some ⟨K, 0, none⟩) Q cp] 63)).drew = x := ⟨_, rfl⟩
 have hb3 : Below w2.heap.size w2 w3 := by rw [← hw3]; exact below_drew1 ((Below.refl _ w2).alloc (Nat.le_refl _) _)
 have hx3 : w3.heap[J]? = some (.cells #[.slice (some ⟨K, 0, none⟩) Q cp] 63 (0, 0)) := by rw [← hw3, ← hJ]; exact blk_drew (World.alloc_heap_new w2 _)
 have HC7 := Aside0.mk (C_lit7 (vs := [.slice (some ⟨K, 0, none⟩) Q cp]) (l := [P1]) hx3 (by simp) (fun j x hj => by
  match j, hj with
  | 0, hj => cases hj; exact ⟨some ⟨K, 0, none⟩, cp, by rw [HL12.out.1]; rfl, HC1L.out, Kd.C_below HCA.out hb3⟩
  | j + 1, hj => simp at hj))
 have HB3 := Aside0.mk (HB2.out.trans (hb3.mono HB2.out.size))
 have HCB3 := Aside0.mk (Kd.C_below HCB.out hb3)
 have HK3 := Aside0.mk ((hb3.cell (p := ⟨K, 0, none⟩) HKL2.out).trans HK2.out)
 have HKL3 := Aside0.mk (Nat.lt_of_lt_of_le HKL2.out hb3.size)
 try rw [hw3]
 try rw [hJ]
 refine hKc.out _ _ trivial (fun hH2 => ?_)
 clear hKc Kc hH hb3 hx3 hw3 hJ HB2 HC2 HK2 HKL2 HCA HCB
 refine XReg.one (i := 4) (some 48) rfl rfl (by kernel_rfl) (by decide) (fun Kc hKc => ?_)
 refine goes_ Try.func113 (by kernel_rfl) rfl #[.slice (some ⟨J, 0, none⟩) 1 1] (by rfl) rfl rfl (by (try simp only [List.map_toArray, List.map_cons, List.map_nil]); first | done | rfl) ?_
 refine (wire_seal.calls ks (some ⟨J, 0, none⟩) 1 [P1] SB _ HC7.out (Nat.le_refl _) HKS.out).mono ?_
 rintro e w4 ⟨v5, rfl, hr5, hb4⟩
 refine ⟨_, rfl, ?_⟩
 obtain ⟨A5, c5, rfl, l5, C5⟩ := Kd.R_reads hr5
 have HB4 := Aside0.mk (HB3.out.trans (hb4.mono HB3.out.size))
 have HCB4 := Aside0.mk (Kd.C_below HCB3.out hb4)
 have HK4 := Aside0.mk ((hb4.cell (p := ⟨K, 0, none⟩) HKL3.out).trans HK3.out)
 have HC5 := Aside0.mk C5
 have HL5 := Aside0.mk l5
 refine hKc.out _ _ trivial (fun hH3 => ?_)
 clear hKc Kc hH2 hr5 hb4 l5 C5 HB3 HCB3 HK3 HKL3 HC7
 refine XReg.one (i := 10) (some 54) rfl rfl (by kernel_rfl) (by decide) (fun Kc hKc => ?_)
 refine goes_ Try.func112 (by kernel_rfl) rfl #[.slice A5 SB.length c5, .slice (some ⟨K, Q, none⟩) P2.length (cp - Q)] (by rfl) rfl rfl (by rw [HL12.out.2, ← HEQ.out.1]; (try simp only [List.map_toArray, List.map_cons, List.map_nil]); first | done | rfl) ?_
 refine (slices_Equal_byte_byte.calls (SB.length + 1) A5 c5 SB (some ⟨K, Q, none⟩) (cp - Q) P2 (decide (SB = P2)) w4 HC5.out HL5.out HCB4.out HC2L.out (eqB_f SB P2 (by have := HSB.out; omega))).mono ?_
 obtain ⟨be, hbe⟩ : ∃ b, decide (SB = P2) = b := ⟨_, rfl⟩
 have HBE := Aside0.mk hbe
 rw [hbe]
 rintro e w5 ⟨rfl, hd⟩
 refine ⟨_, rfl, ?_⟩
 have HB5 := Aside0.mk (HB4.out.trans (hd.below.mono HB4.out.size))
 have x0 := (hd.below.cell (p := ⟨K, 0, none⟩) (World.block_lt_of_cell? w4 _ HK4.out)).trans HK4.out
 refine hKc.out _ _ trivial (fun hH4 => ?_)
 clear hKc Kc hH3 hH4 hd HC5 HL5 HCB4 HK4 hbe HB4
 refine XReg.pu 11 55 (h := ?_)
 refine XReg.pu 12 43 (h := ?_)
 refine done_ (by kernel_rfl) ?_
 have hlp : 0 < l.length := by have := HLEN.out; omega
 cases be with
 | false =>
   have HO := Aside0.mk (show openS l = (0, ⟨#[]⟩, 0, 21) from by rw [HOK.out, if_neg (of_decide_eq_false HBE.out)])
   go_wp2
   rw [HO.out]
   exact bodyPost_ret (v := .tuple #[.int .u8 0, .string ⟨#[]⟩, .int .i64 0, .int .i64 21]) (by simp [results, Try.f67, go_sem]) rfl ⟨rfl, by first | exact HB5.out | (rw [hK]; exact HB5.out)⟩
 | true =>
   have HO := Aside0.mk (show openS l = (rd l 0, t, (Q : Int) + 4, 0) from by rw [HOK.out, if_pos (of_decide_eq_true HBE.out)])
   go_wp2
   rw [HO.out]
   exact bodyPost_ret (v := .tuple #[.int .u8 (rd l 0), .string t, .int .i64 ((Q : Int) + 4), .int .i64 0]) (by simp [results, Try.f67, go_sem]) rfl ⟨rfl, by first | exact HB5.out | (rw [hK]; exact HB5.out)⟩
end Go.Proofs.Ytenbkljgmgdegaa.PO
end
