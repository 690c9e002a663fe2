/- What the rows of this claim use, out of the texts of this work (FF, RX, FG, FP). No condition beyond those that each statement names. -/
import Derived.Test.YtenbkljgmgdegaaQjPE2
import Derived.Test.YtenbkljgmgdegaaQjOR
import Derived.Test.YtenbkljgmgdegaaQjOV
import Derived.Test.YtenbkljgmgdegaaQjPOx0
import Derived.Test.YtenbkljgmgdegaaQjPOx10
section
namespace Go.Proofs.Ytenbkljgmgdegaa.PO
open Go.RowKit Go.Proofs.YtenbkljgmgdegaaW.PrintWords Go.Proofs.YtenbkljgmgdegaaW.PrintLast Go.Proofs.YtenbkljgmgdegaaW.PrintMore Go.Proofs.Ytenbkljgmgdegaa.XW
open Go.Proofs.Ytenbkljgmgdegaa.XRange
set_option linter.unusedVariables false
set_option linter.unusedSimpArgs false
theorem C_lit8 {w : World} {M : Nat} {n : Int} (h : w.heap[M]? = some (.cells #[.int .u8 n] 5 (0, 0))) : Kd.C (Kd.int .u8) w (some ⟨M, 0, none⟩) 1 [n] :=
 ⟨rfl, by decide, fun _ => ⟨_, rfl, fun j p hj => by
  cases j with
  | zero =>
    simp only [List.getElem?_cons_zero, Option.some.injEq] at hj
    subst hj
    refine ⟨[.int .u8 n], rfl, rfl, fun i u hu => ?_⟩
    have h0 := (blk_cell h i).trans (by simpa using hu)
    rw [show 0 * (Kd.int .u8).sz + i = i from by omega]
    have e : (⟨M, 0, none⟩ : Addr).add i = ⟨M, i, none⟩ := by cases i <;> simp [Addr.add]
    rw [e]
    exact h0
  | succ j => simp at hj⟩⟩
theorem C_lit7 {w : World} {M : Nat} {vs : List Value} {l : List (List Int)} {t : TypeId} (h : w.heap[M]? = some (.cells vs.toArray t (0, 0))) (hm : l.length ≤ 9223372036854775807)
 (hv : ∀ (j : Nat) (x : List Int), l[j]? = some x → ∃ A c, vs[j]? = some (Value.slice A x.length c) ∧ x.length ≤ c ∧ Kd.C (Kd.int .u8) w A x.length x) : Kd.C (Kd.slice 5 (Kd.int .u8)) w (some ⟨M, 0, none⟩) l.length l :=
 ⟨rfl, hm, fun _ => ⟨_, rfl, fun j x hj => by
  obtain ⟨A, c, h1, h2, h3⟩ := hv j x hj
  refine ⟨[Value.slice A x.length c], rfl, ⟨A, c, rfl, h2, h3⟩, fun i u hu => ?_⟩
  cases i with
  | zero =>
    simp only [List.getElem?_cons_zero, Option.some.injEq] at hu
    subst hu
    have h0 := (blk_cell h j).trans (by simpa using h1)
    have e : (⟨M, 0, none⟩ : Addr).add (j * (Kd.slice 5 (Kd.int .u8)).sz + 0) = ⟨M, j, none⟩ := by
     rw [show j * (Kd.slice 5 (Kd.int .u8)).sz + 0 = j from by show j * 1 + 0 = j; omega]
     cases j <;> simp [Addr.add]
    rw [e]
    exact h0
  | succ i => simp at hu⟩⟩
set_option maxHeartbeats 8000000 in
set_option maxRecDepth 100000 in
theorem seal_calls (kind : Int) (body : ByteArray) (k : Nat) (sb : List Int) (hb : body.size ≤ 140737488351232) (hs : wire_seal.f k [kind :: encN (body.size : Int), bytesOf body] = some sb) (hsl : sb.length = 4) (w : World) :
 Calls Try.prog 82 #[.int .u8 kind, .string body] w fun e w' => e = .returned (.string (strOfNums (kind :: encN (body.size : Int) ++ bytesOf body ++ sb))) ∧ Below w.heap.size w w' := by
 obtain ⟨head, hh⟩ : ∃ h, kind :: encN (body.size : Int) = h := ⟨_, rfl⟩
 have hhl : head.length ≤ 20 := by have := encN_len (body.size : Int); rw [← hh]; simp; omega
 have hhp : 0 < head.length := by rw [← hh]; simp
 have HT := Aside0.mk (show wire_Number.f 200 [kind] (IntKind.u64.wrap (body.size : Int)) = some head from by rw [u_id (by omega) (by omega), number_f _ (by omega) (by omega) _ (by simp) 200 (by omega), ← hh]; rfl)
 rw [hh] at hs ⊢
 have HS := Aside0.mk hs
 have HL := Aside0.mk (show head.length ≤ 20 ∧ 0 < head.length ∧ sb.length = 4 ∧ body.size ≤ 140737488351232 from ⟨hhl, hhp, hsl, hb⟩)
 obtain ⟨M, hM⟩ : ∃ M, w.heap.size = M := ⟨_, rfl⟩
 clear hs hhl hhp hsl hb hh
 go_enter Try.func82, Try.ntmps82
 go_wp2_with fail
 obtain ⟨w0, hw0⟩ : ∃ w0, w.alloc (.cells #[.int .u8 kind] 5) = w0 := ⟨_, rfl⟩
 have HB := Aside0.mk (show Below w.heap.size w w0 from by rw [← hw0]; exact (Below.refl _ w).alloc (Nat.le_refl _) _)
 have HC := Aside0.mk (C_lit8 (w := w0) (M := M) (n := kind) (by rw [← hw0, ← hM]; exact World.alloc_heap_new w _))
 try rw [hw0]
 try rw [hM]
 clear hw0
 refine (wire_Number.calls 200 (some ⟨M, 0, none⟩) 1 [kind] _ head _ HC.out (by simp) HT.out).mono ?_
 rintro e w1 ⟨v1, rfl, hr1, hb1⟩
 have HB1 := Aside0.mk (HB.out.trans (hb1.mono HB.out.size))
 obtain ⟨Ah, ch, rfl, lh, Ch⟩ := Kd.R_reads hr1
 have HLh := Aside0.mk lh
 have HCh := Aside0.mk Ch
 have HBh := Aside0.mk (Below.refl w1.heap.size w1)
 clear hr1 hb1 lh Ch HB HC HT
 go_wp2_with (first | (skip; refine Kd.V_conv (w0 := w1) w1.heap.size rfl (.tmp 13) 9 63 5 rfl Try.underlying9 Try.underlying63 Try.underlying5 body (ok := fun _ => True) rfl (fun _ _ => trivial) HBh.out HBh.out.size (by have := HL.out; omega) ?_; intro v2 w2 ho hb hg hat; have HV2 := Aside0.mk ho; have HB2 := Aside0.mk hb; clear ho hb hg hat; obtain ⟨A2, c2, eo2⟩ := Kd.V_slice HV2.out; subst eo2) | (skip; refine Kd.V_conv (w0 := w2) w2.heap.size rfl (.tmp 16) 9 63 5 rfl Try.underlying9 Try.underlying63 Try.underlying5 body (ok := fun _ => True) rfl (fun _ _ => trivial) (Below.refl _ _) (Nat.le_refl _) (by have := HL.out; omega) ?_; intro v3 w3 ho hb hg hat; have HV3 := Aside0.mk ho; have HB3 := Aside0.mk hb; clear ho hb hg hat; obtain ⟨A3, c3, eo3⟩ := Kd.V_slice HV3.out; subst eo3))
 obtain ⟨l2, hl2⟩ : ∃ l, bytesOf body = l := ⟨_, rfl⟩
 have hlen : l2.length = body.size := by rw [← hl2]; exact bytesOf_length body
 rw [hl2] at HV2 HV3 HS ⊢
 have HLL := Aside0.mk hl2
 obtain ⟨w4, hw4⟩ : ∃ w4, w3.alloc (.cells #[.slice Ah head.length ch, .slice A3 l2.length c3] 63) = w4 := ⟨_, rfl⟩
 obtain ⟨P, hP⟩ : ∃ P, w3.heap.size = P := ⟨_, rfl⟩
 have hb4 : Below w3.heap.size w3 w4 := by rw [← hw4]; exact (Below.refl _ w3).alloc (Nat.le_refl _) _
 have hx4 : w4.heap[P]? = some (.cells #[.slice Ah head.length ch, .slice A3 l2.length c3] 63 (0, 0)) := by rw [← hw4, ← hP]; exact World.alloc_heap_new w3 _
 have HB14 := Aside0.mk ((HB2.out.trans (HB3.out.mono HB2.out.size)).trans (hb4.mono (HB2.out.trans (HB3.out.mono HB2.out.size)).size))
 have HB24 := Aside0.mk (HB3.out.trans (hb4.mono HB3.out.size))
 have HV34 := Aside0.mk (Kd.C_below (Kd.V_reads' HV3.out).2.2 hb4)
 have HLn := Aside0.mk hlen
 have HL3 := Aside0.mk (Kd.V_reads' HV3.out).2.1
 have HL2 := Aside0.mk (Kd.V_reads' HV2.out).2.1
 have HC7 := Aside0.mk (C_lit7 (vs := [.slice Ah head.length ch, .slice A3 l2.length c3]) (l := [head, l2]) hx4 (by simp) (fun j x hj => by
  match j, hj with
  | 0, hj => cases hj; exact ⟨Ah, ch, rfl, HLh.out, Kd.C_below HCh.out HB14.out⟩
  | 1, hj => cases hj; exact ⟨A3, c3, rfl, HL3.out, HV34.out⟩
  | j + 2, hj => simp at hj))
 try rw [hw4]
 try rw [hP]
 clear hw4 hb4 hx4 hlen hl2
 refine (wire_seal.calls k (some ⟨P, 0, none⟩) 2 [head, l2] sb _ HC7.out (by simp) HS.out).mono ?_
 rintro e w5 ⟨v5, rfl, hr5, hb5⟩
 obtain ⟨A5, c5, rfl, l5, C5⟩ := Kd.R_reads hr5
 have HB15 := Aside0.mk (HB14.out.trans (hb5.mono HB14.out.size))
 have HB25 := Aside0.mk (HB24.out.trans (hb5.mono HB24.out.size))
 have HC5 := Aside0.mk C5
 have HL5 := Aside0.mk l5
 clear hr5 hb5 l5 C5 HC7 HB14 HB24 HV34
 go_wp2_with fail
 obtain ⟨w6, hw6⟩ : ∃ w6, w5.alloc (.cells #[.slice Ah head.length ch, .slice A2 l2.length c2, .slice A5 sb.length c5] 63) = w6 := ⟨_, rfl⟩
 obtain ⟨R, hR⟩ : ∃ R, w5.heap.size = R := ⟨_, rfl⟩
 have hb6 : Below w5.heap.size w5 w6 := by rw [← hw6]; exact (Below.refl _ w5).alloc (Nat.le_refl _) _
 have hx6 : w6.heap[R]? = some (.cells #[.slice Ah head.length ch, .slice A2 l2.length c2, .slice A5 sb.length c5] 63 (0, 0)) := by rw [← hw6, ← hR]; exact World.alloc_heap_new w5 _
 have HB16 := Aside0.mk (HB15.out.trans (hb6.mono HB15.out.size))
 have HB26 := Aside0.mk (HB25.out.trans (hb6.mono HB25.out.size))
 have HC8 := Aside0.mk (C_lit7 (vs := [.slice Ah head.length ch, .slice A2 l2.length c2, .slice A5 sb.length c5]) (l := [head, l2, sb]) hx6 (by simp) (fun j x hj => by
  match j, hj with
  | 0, hj => cases hj; exact ⟨Ah, ch, rfl, HLh.out, Kd.C_below HCh.out HB16.out⟩
  | 1, hj => cases hj; exact ⟨A2, c2, rfl, HL2.out, Kd.C_below (Kd.V_reads' HV2.out).2.2 HB26.out⟩
  | 2, hj => cases hj; exact ⟨A5, c5, rfl, HL5.out, Kd.C_below HC5.out hb6⟩
  | j + 3, hj => simp at hj))
 have HB0 := Aside0.mk (HB1.out.trans (HB16.out.mono HB1.out.size))
 try rw [hw6]
 try rw [hR]
 clear hw6 hb6 hx6
 have hcat : catL [head, l2, sb] = head ++ l2 ++ sb := by simp [catL]
 have HCT := Aside0.mk hcat
 clear hcat
 refine (concat_calls [head, l2, sb] (some ⟨R, 0, none⟩) 3 _ HC8.out (by rw [HCT.out]; have := HL.out; simp only [List.length_append]; omega) (by rw [HCT.out]; have := HL.out; have := HLn.out; simp only [List.length_append]; omega)).mono ?_
 rintro e w7 ⟨v7, rfl, hr7, hb7⟩
 rw [HCT.out] at hr7
 have HB7 := Aside0.mk (HB0.out.trans (hb7.mono HB0.out.size))
 have hcv := own_string (P := Try.prog) Try.underlying63 Try.underlying5 Try.underlying9 (Kd.own_of_R hr7)
 clear hr7 hb7
 go_wp2
 go_ret
 refine ⟨congrArg (fun l => Ending.returned (Value.string (strOfNums l))) ?_, by first | exact HB7.out | (rw [← hM]; exact HB7.out)⟩
 rw [HLL.out]
 simp only [List.append_assoc]
end Go.Proofs.Ytenbkljgmgdegaa.PO
end
section
namespace Go.Proofs.Ytenbkljgmgdegaa.PO
open Go.RowKit Go.Proofs.YtenbkljgmgdegaaW.PrintWords Go.Proofs.YtenbkljgmgdegaaW.PrintLast Go.Proofs.YtenbkljgmgdegaaW.PrintMore Go.Proofs.Ytenbkljgmgdegaa.XW
open Go.Proofs.Ytenbkljgmgdegaa.XRange Go.Proofs.Ytenbkljgmgdegaa.XMap Go.Proofs.Ytenbkljgmgdegaa.XSeq
set_option linter.unusedVariables false
set_option linter.unusedSimpArgs false
def numsL (x : S36) : Nat → List Int
 | 0 => []
 | 1 => encN x.f3
 | 2 => encN x.f3 ++ encN x.f5
 | _ => encN x.f3 ++ encN x.f5 ++ encN (x.f6.length : Int)
theorem numsL_len (x : S36) (i : Nat) : (numsL x i).length ≤ 30 := by
 have h3 := encN_len x.f3
 have h5 := encN_len x.f5
 have h6 := encN_len (x.f6.length : Int)
 unfold numsL
 split
 · simp
 · omega
 all_goals simp only [List.length_append]; omega
set_option maxHeartbeats 8000000 in
set_option maxRecDepth 100000 in
theorem layO_calls (x : S36) (A2 : Option Addr) (c2 : Nat) (A7 : Option Addr) (c7 : Nat) (w : World) (l2 : x.f1.length ≤ c2) (g2 : Kd.C k34 w A2 x.f1.length x.f1) (l7 : x.f6.length ≤ c7) (g7 : Kd.C k34 w A7 x.f6.length x.f6) :
 Calls Try.prog 41 #[.agg #[.string x.f0.f0, .int .i64 x.f0.f1, .slice A2 x.f1.length c2, .string x.f2, .int .i64 x.f3, .string x.f4, .int .i64 x.f5, .slice A7 x.f6.length c7]] w
  fun e w' => e = .returned (.tuple #[.string (layF x).1, .int .i64 (layF x).2]) ∧ Below w.heap.size w w' := by
 have HG2 := Aside0.mk g2
 have HG7 := Aside0.mk g7
 have HL2 := Aside0.mk l2
 have HL7 := Aside0.mk l7
 clear l2 g2 l7 g7
 obtain ⟨N, hN⟩ : ∃ N, w.heap.size = N := ⟨_, rfl⟩
 go_enter Try.func41, Try.ntmps41
 obtain ⟨w0, hw0⟩ : ∃ w0, w.alloc (.cells #[.string x.f0.f0, .int .i64 x.f0.f1, .slice A2 x.f1.length c2, .string x.f2, .int .i64 x.f3, .string x.f4, .int .i64 x.f5, .slice A7 x.f6.length c7] 36) = w0 := ⟨_, rfl⟩
 have hb0 : Below w.heap.size w w0 := by rw [← hw0]; exact (Below.refl _ w).alloc (Nat.le_refl _) _
 have kx : w0.heap[N]? = some (.cells #[.string x.f0.f0, .int .i64 x.f0.f1, .slice A2 x.f1.length c2, .string x.f2, .int .i64 x.f3, .string x.f4, .int .i64 x.f5, .slice A7 x.f6.length c7] 36 (0, 0)) := by rw [← hw0, ← hN]; exact World.alloc_heap_new w _
 have KX := Aside0.mk kx
 have HB := Aside0.mk hb0
 clear kx hb0
 obtain ⟨n0, n1, n2, n3, n4, n5, n6, n7⟩ := cells8 KX.out
 obtain ⟨br, hbr⟩ : ∃ b, rightO x = b := ⟨_, rfl⟩
 have HBR := Aside0.mk hbr
 clear hbr
 go_wp2_with fail
 refine (order_Right.calls (x.f6.length + x.f1.length + 5) x.f0.f0 x.f0.f1 A2 c2 x.f1 x.f2 x.f3 x.f4 x.f5 A7 c7 x.f6 br _ (Kd.C_below HG2.out HB.out) HL2.out (Kd.C_below HG7.out HB.out) HL7.out (by
  rw [← HBR.out]
  exact orderRight_f x HG2.out.2.1 HG7.out.2.1 _ (by omega))).mono ?_
 rintro e w1 ⟨rfl, hb1⟩
 have KX1 := Aside0.mk (blk_below KX.out hb1)
 have HB1 := Aside0.mk (HB.out.trans (hb1.mono HB.out.size))
 clear n0 n1 n2 n3 n4 n5 n6 n7 hb1 KX HB hw0
 cases br with
 | false =>
   have hlf : layF x = (⟨#[]⟩, 2) := by unfold layF; rw [if_neg (by rw [HBR.out]; simp)]
   go_wp2
   go_ret2
   rw [hlf]
   exact ⟨rfl, by first | exact HB1.out | (rw [← hN]; exact HB1.out)⟩
 | true =>
   have hlf : layF x = (strOfNums (layO x), 0) := by unfold layF; rw [if_pos HBR.out]
   have HLF := Aside0.mk hlf
   clear hlf
   obtain ⟨r1, r2, r3, r4, r5, r6, r7, r8, r9⟩ := rightO_all HBR.out
   have hd := dotOk_32 r1
   have H1 := Aside0.mk (layDot_f [] x.f0 (by omega) (by omega) (by omega) (by simp) 200 (by omega))
   rw [List.nil_append] at H1
   go_wp2
   refine start_ (n := 11) (ds := []) (S := fun w' => w'.cell? ⟨N, 0, none⟩ = some (.string x.f0.f0) ∧ w'.cell? ⟨N, 1, none⟩ = some (.int .i64 x.f0.f1) ∧ w'.cell? ⟨N, 2, none⟩ = some (.slice A2 x.f1.length c2)) _ (by kernel_rfl) rfl rfl
    ⟨(blk_cell (blk_drew KX1.out) 0).trans rfl, (blk_cell (blk_drew KX1.out) 1).trans rfl, (blk_cell (blk_drew KX1.out) 2).trans rfl⟩ (fun hH => ?_)
   refine XReg.pu 0 14 (h := ?_)
   refine XReg.tk 1 15 (h := ?_)
   refine XReg.pu 3 17 (h := ?_)
   refine XReg.tk 4 18 (h := ?_)
   have HD0 := Aside0.mk (show Below w1.heap.size w1 w1.drew from below_drew1 (Below.refl _ w1))
   refine XReg.one (i := 2) (some 16) rfl rfl (by kernel_rfl) (by decide) (fun Kc hKc => ?_)
   refine goes_ Try.func94 (by kernel_rfl) rfl #[.slice none 0 0, .agg #[.string x.f0.f0, .int .i64 x.f0.f1]] (by rfl) rfl rfl (by (try simp only [List.map_toArray, List.map_cons, List.map_nil]); first | done | rfl) ?_
   refine (order_layDot.calls 200 none 0 [] x.f0.f0 x.f0.f1 (textB x.f0.f0 ++ encN x.f0.f1) _ (Kd.C_nil _ _) (by simp) H1.out).mono ?_
   rintro e wa ⟨va, rfl, hra, hba⟩
   refine ⟨_, rfl, ?_⟩
   have HDa := Aside0.mk (show Below w1.heap.size w1 wa from HD0.out.trans (hba.mono HD0.out.size))
   obtain ⟨Aa, ca, rfl, la, Ca⟩ := Kd.R_reads hra
   have HLa := Aside0.mk la
   have HCa := Aside0.mk Ca
   refine hKc.out _ _ ⟨(blk_cell (blk_below KX1.out HDa.out) 0).trans rfl, (blk_cell (blk_below KX1.out HDa.out) 1).trans rfl, (blk_cell (blk_below KX1.out HDa.out) 2).trans rfl⟩ (fun hH2 => ?_)
   clear hKc Kc hH hra hba HD0 H1 la Ca
   obtain ⟨b1, hb1⟩ : ∃ b, textB x.f0.f0 ++ encN x.f0.f1 = b := ⟨_, rfl⟩
   have hl1 : b1.length ≤ 100 := by
    have t0 := textB_len x.f0.f0
    have n0 := encN_len x.f0.f1
    rw [← hb1, List.length_append]
    omega
   rw [hb1] at HLa HCa ⊢
   have H2 := Aside0.mk (show vector_Lay.f (x.f1.length + 201) b1 x.f1 = some (b1 ++ (layS [] x.f1).1, 0) from by
    rw [lay_f b1 (by omega) x.f1 HG2.out.2.1 _ (by omega)]
    unfold layS
    rw [if_pos r2, if_pos r2]
    show some (layL _ _, (0 : Int)) = some (_ ++ layL _ _, 0)
    rw [lay_app x.f1 (b1 ++ encN (x.f1.length : Int)), lay_app x.f1 ([] ++ encN (x.f1.length : Int))]
    simp)
   refine XReg.one (i := 5) (some 19) rfl rfl (by kernel_rfl) (by decide) (fun Kc hKc => ?_)
   refine goes_ Try.func80 (by kernel_rfl) rfl #[.slice Aa b1.length ca, .slice A2 x.f1.length c2] (by rfl) rfl rfl (by (try simp only [List.map_toArray, List.map_cons, List.map_nil]); first | done | rfl) ?_
   refine (vector_Lay.calls (x.f1.length + 201) Aa ca b1 A2 c2 x.f1 (b1 ++ (layS [] x.f1).1) 0 _ HCa.out HLa.out (Kd.C_below HG2.out (HB1.out.trans (HDa.out.mono HB1.out.size))) HL2.out H2.out).mono ?_
   rintro e wb ⟨vb, rfl, hrb, hbb⟩
   refine ⟨_, rfl, ?_⟩
   have HDb := Aside0.mk (show Below w1.heap.size w1 wb from HDa.out.trans (hbb.mono HDa.out.size))
   refine hKc.out _ _ ⟨(blk_cell (blk_below KX1.out HDb.out) 0).trans rfl, (blk_cell (blk_below KX1.out HDb.out) 1).trans rfl, (blk_cell (blk_below KX1.out HDb.out) 2).trans rfl⟩ (fun hH3 => ?_)
   refine XReg.pu 6 13 (h := ?_)
   refine XReg.pu 7 20 (h := ?_)
   refine XReg.pu 8 21 (h := ?_)
   refine XReg.pu 9 4 (h := ?_)
   refine XReg.pu 10 5 (h := ?_)
   refine done_ (by kernel_rfl) ?_
   clear hKc Kc hH2 hH3 HCa HLa H2 HDa
   obtain ⟨b2, hb2⟩ : ∃ b, b1 ++ (layS [] x.f1).1 = b := ⟨_, rfl⟩
   rw [hb2] at hrb
   have hl2 : b2.length ≤ 4000 := by
    have := layS_len x.f1 r2
    rw [← hb2, List.length_append]
    omega
   obtain ⟨Ab, cb, rfl, lb, Cb⟩ := Kd.R_reads hrb
   have KX2 := Aside0.mk (blk_below KX1.out HDb.out)
   have HB2 := Aside0.mk (HB1.out.trans (HDb.out.mono HB1.out.size))
   have HLb := Aside0.mk lb
   have HCb := Aside0.mk Cb
   have H3 := Aside0.mk (wtext32_f b2 x.f2 r3 (by omega) 200 (by omega))
   obtain ⟨b3, hb3⟩ : ∃ b, textS b2 x.f2 = b := ⟨_, rfl⟩
   have hl3 : b3.length ≤ 5000 := by have := textS_len b2 x.f2; rw [← hb3]; omega
   have H4 := Aside0.mk (wtext32_f b3 x.f4 r4 (by omega) 200 (by omega))
   rw [hb3] at H3
   clear hrb hbb lb Cb HDb KX1 HB1
   go_wp2
   refine start_ (n := 8) (ds := []) (S := fun w' => w'.cell? ⟨N, 3, none⟩ = some (.string x.f2) ∧ w'.cell? ⟨N, 5, none⟩ = some (.string x.f4)) _ (by kernel_rfl) rfl rfl
    ⟨(blk_cell (blk_drew KX2.out) 3).trans rfl, (blk_cell (blk_drew KX2.out) 5).trans rfl⟩ (fun hH => ?_)
   refine XReg.pu 0 22 (h := ?_)
   refine XReg.pu 1 23 (h := ?_)
   refine XReg.tk 2 24 (h := ?_)
   refine XReg.pu 4 26 (h := ?_)
   refine XReg.tk 5 27 (h := ?_)
   have HD0 := Aside0.mk (show Below wb.heap.size wb wb.drew from below_drew1 (Below.refl _ wb))
   refine XReg.one (i := 3) (some 25) rfl rfl (by kernel_rfl) (by decide) (fun Kc hKc => ?_)
   refine goes_ Try.func78 (by kernel_rfl) rfl #[.slice Ab b2.length cb, .string x.f2] (by rfl) rfl rfl (by (try simp only [List.map_toArray, List.map_cons, List.map_nil]); first | done | rfl) ?_
   refine (wire_Text.calls 200 Ab cb b2 x.f2 b3 _ (Kd.C_drew HCb.out) HLb.out H3.out).mono ?_
   rintro e wc ⟨vc, rfl, hrc, hbc⟩
   refine ⟨_, rfl, ?_⟩
   have HDc := Aside0.mk (show Below wb.heap.size wb wc from HD0.out.trans (hbc.mono HD0.out.size))
   obtain ⟨Ac, cc, rfl, lc, Cc⟩ := Kd.R_reads hrc
   have HLc := Aside0.mk lc
   have HCc := Aside0.mk Cc
   refine hKc.out _ _ ⟨(blk_cell (blk_below KX2.out HDc.out) 3).trans rfl, (blk_cell (blk_below KX2.out HDc.out) 5).trans rfl⟩ (fun hH2 => ?_)
   clear hKc Kc hH hrc hbc HD0 H3 lc Cc HCb HLb
   refine XReg.one (i := 6) (some 28) rfl rfl (by kernel_rfl) (by decide) (fun Kc hKc => ?_)
   refine goes_ Try.func78 (by kernel_rfl) rfl #[.slice Ac b3.length cc, .string x.f4] (by rfl) rfl rfl (by (try simp only [List.map_toArray, List.map_cons, List.map_nil]); first | done | rfl) ?_
   refine (wire_Text.calls 200 Ac cc b3 x.f4 (textS b3 x.f4) _ HCc.out HLc.out H4.out).mono ?_
   rintro e wd ⟨vd, rfl, hrd, hbd⟩
   refine ⟨_, rfl, ?_⟩
   have HDd := Aside0.mk (show Below wb.heap.size wb wd from HDc.out.trans (hbd.mono HDc.out.size))
   refine hKc.out _ _ ⟨(blk_cell (blk_below KX2.out HDd.out) 3).trans rfl, (blk_cell (blk_below KX2.out HDd.out) 5).trans rfl⟩ (fun hH3 => ?_)
   refine XReg.pu 7 4 (h := ?_)
   refine done_ (by kernel_rfl) ?_
   have HSC := Aside0.mk (show w.heap.size ≤ wc.heap.size from Nat.le_trans HB2.out.size HDc.out.size)
   clear hKc Kc hH2 hH3 HCc HLc H4 HDc
   have KX3 := Aside0.mk (blk_below KX2.out HDd.out)
   have HB3 := Aside0.mk (HB2.out.trans (HDd.out.mono HB2.out.size))
   obtain ⟨b4, hb4⟩ : ∃ b, textS b3 x.f4 = b := ⟨_, rfl⟩
   have HQ4 := Aside0.mk hb4
   have HQ3 := Aside0.mk hb3
   have HQ2 := Aside0.mk hb2
   have HQ1 := Aside0.mk hb1
   have hl4 : b4.length ≤ 6000 := by have := textS_len b3 x.f4; rw [← hb4]; omega
   rw [hb4] at hrd
   have HV4 := Aside0.mk (Kd.R_lower (base' := w.heap.size) hrd HSC.out)
   clear hrd hbd hb4
   obtain ⟨n0, n1, n2, n3, n4, n5, n6, n7⟩ := cells8 KX3.out
   go_wp2_with fail
   obtain ⟨we, hwe⟩ : ∃ we, wd.alloc (.cells #[.int .i64 x.f3, .int .i64 x.f5, .int .i64 (x.f6.length : Int)] 2) = we := ⟨_, rfl⟩
   obtain ⟨M, hM⟩ : ∃ M, wd.heap.size = M := ⟨_, rfl⟩
   rw [hwe]
   rw [hM]
   have KA := Aside0.mk (show we.heap[M]? = some (.cells #[.int .i64 x.f3, .int .i64 x.f5, .int .i64 (x.f6.length : Int)] 2 (0, 0)) from by rw [← hwe, ← hM]; exact World.alloc_heap_new wd _)
   have hbe : Below wd.heap.size wd we := by rw [← hwe]; exact (Below.refl _ wd).alloc (Nat.le_refl _) _
   have KX4 := Aside0.mk (blk_below KX3.out hbe)
   have HB4 := Aside0.mk (HB3.out.trans (hbe.mono HB3.out.size))
   have HV5 := Aside0.mk (Kd.R_below HV4.out hbe)
   have HWe := Aside0.mk (Below.refl we.heap.size we)
   have HL4 := Aside0.mk hl4
   have HR := Aside0.mk (show (1 ≤ x.f3 ∧ x.f3 ≤ 3) ∧ (0 ≤ x.f5 ∧ x.f5 ≤ 9999) ∧ x.f6.length ≤ 128 from ⟨r7, ⟨r8, r9⟩, r5⟩)
   clear hbe hwe hM HV4 KX3 HB3 n0 n1 n2 n3 n4 n5 n6 n7 hl4
   go_loopw [4, 38] (fun v4 v38 wr => ∃ (i : Nat) (L : List Int), v38 = .int .i64 i ∧ i ≤ 3 ∧ Aside0 (L = b4 ++ numsL x i) ∧ Aside0 (Kd.R (Kd.int .u8) 5 wr w.heap.size (fun _ => True) v4 L) ∧ Aside0 (Below we.heap.size we wr)) (fun _ v38 _ => 3 - (intOf v38).toNat)
   case atStart => exact ⟨0, b4, rfl, by omega, ⟨by simp [numsL]⟩, HV5, HWe⟩
   case round =>
    clear HV5 HWe
    obtain ⟨i, L, rfl, hi3, HQL, HVr, HBr⟩ := hrel
    by_cases h3 : i < 3
    · obtain ⟨At, ct, rfl, lt, Ct⟩ := Kd.R_reads HVr.out
      have HCt := Aside0.mk Ct
      have HLt := Aside0.mk lt
      have hr := HR.out
      obtain ⟨n, hn0, hn1, hcell, hnext⟩ : ∃ n : Int, 0 ≤ n ∧ n < 10000 ∧ wr.cell? ⟨M, i, none⟩ = some (.int .i64 n) ∧ numsL x (i + 1) = numsL x i ++ encN n := by
       have m0 : wr.cell? ⟨M, 0, none⟩ = some (.int .i64 x.f3) := (blk_cell (blk_below KA.out HBr.out) 0).trans rfl
       have m1 : wr.cell? ⟨M, 1, none⟩ = some (.int .i64 x.f5) := (blk_cell (blk_below KA.out HBr.out) 1).trans rfl
       have m2 : wr.cell? ⟨M, 2, none⟩ = some (.int .i64 (x.f6.length : Int)) := (blk_cell (blk_below KA.out HBr.out) 2).trans rfl
       have hc : i = 0 ∨ i = 1 ∨ i = 2 := by omega
       rcases hc with rfl | rfl | rfl
       · exact ⟨x.f3, by omega, by omega, m0, rfl⟩
       · exact ⟨x.f5, by omega, by omega, m1, rfl⟩
       · exact ⟨(x.f6.length : Int), by omega, by omega, m2, rfl⟩
      have HNX := Aside0.mk hnext
      have HT := Aside0.mk (show wire_Number.f 200 L (IntKind.u64.wrap n) = some (L ++ encN n) from by
       have h4 := HL4.out
       have h5 := numsL_len x i
       have h6 := HQL.out
       rw [u_id hn0 (by omega)]
       exact number_f n hn0 (by omega) _ (by rw [h6, List.length_append]; omega) 200 (by omega))
      have hb3 : 0 ≤ (i : Int) ∧ (i : Int) < 3 := by omega
      have q1 : decide ((i : Int) < 3) = true := by simp; omega
      clear Ct lt hr hn0 hn1 hnext
      go_wp2_with fail
      refine (wire_Number.calls 200 At ct L _ _ _ HCt.out HLt.out HT.out).mono ?_
      rintro e ws ⟨vs, rfl, hrs, hbs⟩
      have HVs := Aside0.mk (Kd.R_lower (base' := w.heap.size) hrs (Nat.le_trans HB4.out.size HBr.out.size))
      have HBs := Aside0.mk (HBr.out.trans (hbs.mono HBr.out.size))
      clear hrs hbs hcell
      go_wp2
      go_round
      case measure => simp [intOf]; omega
      case rel => exact ⟨i + 1, _, by go_num, by omega, ⟨by rw [HNX.out, HQL.out, List.append_assoc]⟩, HVs, HBs⟩
    · have hi : i = 3 := by omega
      subst hi
      rw [show ((3 : Nat) : Int) = 3 from rfl]
      clear hi3
      have HRr := Aside0.mk (HB4.out.trans (HBr.out.mono HB4.out.size))
      have KXr := Aside0.mk (blk_below KX4.out HBr.out)
      have e7 : wr.cell? ⟨N, 7, none⟩ = some (.slice A7 x.f6.length c7) := (blk_cell KXr.out 7).trans rfl
      have q1 : decide ((3 : Int) < 3) = false := by decide
      have HWr := Aside0.mk (Below.refl wr.heap.size wr)
      have hl5 : L.length ≤ 7000 := by
       have h4 := HL4.out
       have h5 := numsL_len x 3
       rw [HQL.out, List.length_append]
       omega
      have HL5 := Aside0.mk hl5
      have HF6 := Aside0.mk r6
      clear hl5
      go_wp2
      clear e7 q1
      go_loopw [4, 50] (fun v4 v50 wt => ∃ (i : Nat) (T : List Int), v50 = .int .i64 i ∧ i ≤ x.f6.length ∧ Aside0 (T ++ layL [] (x.f6.drop i) = L ++ layL [] x.f6) ∧ Aside0 (T.length ≤ 7000 + 60 * i) ∧ Aside0 (Kd.R (Kd.int .u8) 5 wt w.heap.size (fun _ => True) v4 T) ∧ Aside0 (Below wr.heap.size wr wt)) (fun _ v50 _ => x.f6.length - (intOf v50).toNat)
      case atStart => exact ⟨0, L, rfl, by omega, ⟨rfl⟩, ⟨by have := HL5.out; omega⟩, HVr, HWr⟩
      case round =>
       clear HVr HWr
       obtain ⟨i, T, rfl, hi6, HQT, HLT, HVt, HBt⟩ := hrel
       obtain ⟨At, ct, rfl, lt, Ct⟩ := Kd.R_reads HVt.out
       have HCt := Aside0.mk Ct
       have HLt := Aside0.mk lt
       clear Ct lt
       by_cases h6 : i < x.f6.length
       · obtain ⟨ad, had, f0, f1⟩ := at_T34 (Kd.C_below HG7.out (HRr.out.trans (HBt.out.mono HRr.out.size))) (i : Int) (by omega) (by omega)
         obtain ⟨d, hd⟩ : ∃ d, rd_T34 x.f6 (i : Int) = d := ⟨_, rfl⟩
         rw [hd] at f0 f1
         simp only [Int.toNat_natCast] at f0 f1
         subst had
         have hb3 : 0 ≤ (i : Int) ∧ (i : Int) < (x.f6.length : Int) := by omega
         have q1 : decide ((i : Int) < (x.f6.length : Int)) = true := by simp; omega
         have hdr := rd_drop x.f6 i h6
         rw [hd] at hdr
         have HDR := Aside0.mk hdr
         have hfd := HF6.out d (by rw [← hd]; unfold rd_T34; rw [Int.toNat_natCast, List.getD_eq_getElem?_getD, List.getElem?_eq_getElem h6]; exact List.getElem_mem h6)
         have HFD := Aside0.mk hfd
         clear hdr hfd hd
         go_wp2_with fail
         obtain ⟨wa, hwa⟩ : ∃ wa, wr.alloc (.cells #[.string d.f0, .int .i64 d.f1] 34) = wa := ⟨_, rfl⟩
         have HBa := Aside0.mk (show Below wr.heap.size wr wa from by rw [← hwa]; exact (Below.refl _ wr).alloc (Nat.le_refl _) _)
         rw [hwa]
         have HCa := Aside0.mk (Kd.C_below HCt.out HBa.out)
         have HBb := Aside0.mk (HBt.out.trans (HBa.out.mono HBt.out.size))
         clear hwa f0 f1
         refine (order_layDot.calls 200 At ct T d.f0 d.f1 _ _ HCa.out HLt.out (layDot_f T d HFD.out.1 HFD.out.2.1 HFD.out.2.2 (by have := HLT.out; have := HR.out; omega) 200 (by omega))).mono ?_
         rintro e ws ⟨vs, rfl, hrs, hbs⟩
         have HVs := Aside0.mk (Kd.R_lower (base' := w.heap.size) hrs (Nat.le_trans HRr.out.size (HBb.out.size)))
         have HBs := Aside0.mk (HBb.out.trans (hbs.mono HBb.out.size))
         clear hrs hbs
         go_wp2
         go_round
         case measure => simp [intOf]; omega
         case rel => exact ⟨i + 1, _, by go_num, by omega, ⟨by
          have h := HQT.out
          rw [HDR.out, layL, lay_app] at h
          rw [← h]
          simp [textS, textB]⟩, ⟨by
          have h1 := textB_len d.f0
          have h2 := encN_len d.f1
          have h3 := HLT.out
          have h4 := HFD.out.1
          rw [List.length_append, List.length_append]
          omega⟩, HVs, HBs⟩
       · have hi : i = x.f6.length := by omega
         subst hi
         have q1 : decide ((x.f6.length : Int) < (x.f6.length : Int)) = false := by simp
         have hcv := own_string (P := Try.prog) Try.underlying63 Try.underlying5 Try.underlying9 (Kd.own_of_R HVt.out)
         have hT : T = layO x := by
          have h := HQT.out
          rw [List.drop_length, HQL.out, ← HQ4.out] at h
          rw [← HQ3.out, ← HQ2.out, ← HQ1.out] at h
          unfold layO
          simpa [textS, textB, layL, numsL, List.append_assoc] using h
         have HT := Aside0.mk hT
         clear hT
         go_wp2
         go_ret2
         rw [HLF.out, HT.out]
         exact ⟨rfl, by first | exact HRr.out.trans (HBt.out.mono HRr.out.size) | (rw [← hN]; exact HRr.out.trans (HBt.out.mono HRr.out.size))⟩
end Go.Proofs.Ytenbkljgmgdegaa.PO
end
section
namespace Go.Proofs.Ytenbkljgmgdegaa.PO
open Go.RowKit Go.Proofs.YtenbkljgmgdegaaW.PrintWords Go.Proofs.YtenbkljgmgdegaaW.PrintLast Go.Proofs.YtenbkljgmgdegaaW.PrintMore Go.Proofs.Ytenbkljgmgdegaa.XW
open Go.Proofs.Ytenbkljgmgdegaa.XRange
set_option linter.unusedVariables false
set_option linter.unusedSimpArgs false
theorem layF_size (x : S36) : (layF x).1.size ≤ 20000 := by
 unfold layF
 by_cases h : rightO x = true
 · rw [if_pos h]
   have h1 := bytesOf_length (strOfNums (layO x))
   rw [bytes_nums (layO_B h)] at h1
   show (strOfNums (layO x)).size ≤ 20000
   rw [← h1]
   obtain ⟨r1, r2, r3, r4, r5, r6, _⟩ := rightO_all h
   have hd := dotOk_32 r1
   have t0 := textB_len x.f0.f0
   have t2 := textB_len x.f2
   have t4 := textB_len x.f4
   have n0 := encN_len x.f0.f1
   have n3 := encN_len x.f3
   have n5 := encN_len x.f5
   have n6 := encN_len (x.f6.length : Int)
   have v1 := layS_len x.f1 r2
   have s1 : ∀ (l : List S34), fine32 l → (layL [] l).length ≤ 60 * l.length := by
    intro l
    induction l with
    | nil => intro _; simp [layL]
    | cons y l ih =>
      intro hf
      have hy := hf y List.mem_cons_self
      have h1 := ih (fun z hz => hf z (List.mem_cons_of_mem _ hz))
      have h2 := textS_len [] y.f0
      have h3 := encN_len y.f1
      rw [layL, lay_app]
      simp only [List.length_append, List.length_cons, List.length_nil] at h2 ⊢
      omega
   have s2 := s1 x.f6 r6
   unfold layO
   simp only [List.length_append]
   omega
 · rw [if_neg h]
   show (⟨#[]⟩ : ByteArray).size ≤ 20000
   decide
abbrev TextS := {s : ByteArray // s.size ≤ 20000}
def tx (o : S36) : TextS := ⟨(layF o).1, layF_size o⟩
set_option maxHeartbeats 8000000 in
set_option maxRecDepth 100000 in
theorem laid1_seq (n : Nat) (Kp : Nat → Prop) (B : Nat) (l : List S36) (A : Option Addr) (c : Nat) (w0 w : World) (hB : w.heap[B]? = some (.cells #[.slice A l.length c] 22 (0, 0))) (hC : Kd.C k36 w0 A l.length l)
 (hw0 : Below w0.heap.size w0 w) (hKB : Kp B) (hK0 : ∀ k, k < w0.heap.size → Kp k) (hK : ∀ k, Kp k → k < w.heap.size) :
 SeqC n Try.prog 119 #[.pointer (some ⟨B, 0, none⟩)] (fun s : TextS => #[.string s.1]) Kp (fun _ => False) (fun xs => xs = l.map tx) (fun _ => True) l.length w := by
 intro q J Jx W hW hJ hJx hY h0
 have HJ := Aside0.mk hJ
 have HJx := Aside0.mk hJx
 have HY := Aside0.mk hY
 have H0 := Aside0.mk h0
 have HC := Aside0.mk hC
 have HK := Aside0.mk hK
 have HK0 := Aside0.mk hK0
 have HKB := Aside0.mk hKB
 have HB := Aside0.mk ((hW.block B (blk_lt hB) (fun f => f)).trans hB)
 have HW0 := Aside0.mk (show ∀ k, k < w0.heap.size → W.heap[k]? = w0.heap[k]? from fun k hk => (hW.block k (Nat.lt_of_lt_of_le hk hw0.size) (fun f => f)).trans (hw0.block k hk))
 have HWs := Aside0.mk (show w0.heap.size ≤ W.heap.size from Nat.le_trans hw0.size hW.size)
 have hm : l.length ≤ 9223372036854775807 := hC.2.1
 have hWK := Aside0.mk (show ∀ k, Kp k → k < W.heap.size from fun k hk => Nat.lt_of_lt_of_le (hK k hk) hW.size)
 clear hJ hJx hY h0 hC hK hK0 hKB hB hW hw0
 refine callsIn_of_wp Try.func119 rfl trivial ?_ rfl
 simp only [Try.ntmps119, List.size_toArray, List.length_cons, List.length_nil, Nat.reduceAdd, Nat.reduceSub, Array.replicate_succ, Array.replicate_zero, List.push_toArray, List.append_toArray, List.nil_append, List.cons_append, Array.size_append]
 have e0 : W.cell? ⟨B, 0, none⟩ = some (.slice A l.length c) := (blk_cell HB.out 0).trans rfl
 gi_wp2
 clear e0
 gi_loopw [9] (fun v9 wr => ∃ i : Nat, v9 = .int .i64 i ∧ i ≤ l.length ∧ Aside0 (J ((l.take i).map tx) wr) ∧ Aside0 (KeepOn Kp W wr)) (fun v9 _ => l.length - (intOf v9).toNat)
 case atStart => exact ⟨0, rfl, by omega, ⟨by simpa using H0.out⟩, ⟨KeepOn.refl _ _⟩⟩
 case round =>
  obtain ⟨i, rfl, hi, HJR, HKR⟩ := hrel
  have HBr := Aside0.mk (show ∀ k, k < w0.heap.size → wr.heap[k]? = w0.heap[k]? from fun k hk => (HKR.out.2 k (HK0.out k hk)).trans (HW0.out k hk))
  by_cases hlt : i < l.length
  · have q1 : decide ((i : Int) < (l.length : Int)) = true := by simp; omega
    have hb3 : 0 ≤ (i : Int) ∧ (i : Int) < (l.length : Int) := by omega
    obtain ⟨ad, A2, c2, A7, c7, rfl, f0, f1, f2, f3, f4, f5, f6, f7, l2, g2, l7, g7⟩ := at_T36 HC.out (i : Int) (by omega) (by omega)
    simp only [Int.toNat_natCast] at f0 f1 f2 f3 f4 f5 f6 f7
    obtain ⟨x, hx⟩ : ∃ x, rd_T36 l (i : Int) = x := ⟨_, rfl⟩
    rw [hx] at f0 f1 f2 f3 f4 f5 f6 f7 l2 g2 l7 g7
    have tr : ∀ a v, w0.cell? a = some v → wr.cell? a = some v := fun a v h => by
     have hb := HBr.out a.block (World.block_lt_of_cell? _ _ h)
     simpa [World.cell?, hb] using h
    replace f0 := tr _ _ f0
    replace f1 := tr _ _ f1
    replace f2 := tr _ _ f2
    replace f3 := tr _ _ f3
    replace f4 := tr _ _ f4
    replace f5 := tr _ _ f5
    replace f6 := tr _ _ f6
    replace f7 := tr _ _ f7
    have HL2 := Aside0.mk l2
    have HL7 := Aside0.mk l7
    have HG2 := Aside0.mk (show Kd.C k34 wr A2 x.f1.length x.f1 from C_block g2 (fun ad e hn => by subst e; exact HBr.out _ (Kd.C_lt g2 hn (by decide))))
    have HG7 := Aside0.mk (show Kd.C k34 wr A7 x.f6.length x.f6 from C_block g7 (fun ad e hn => by subst e; exact HBr.out _ (Kd.C_lt g7 hn (by decide))))
    have HX := Aside0.mk (show (l.take (i + 1)).map tx = (l.take i).map tx ++ [tx x] from by
     rw [List.take_succ_eq_append_getElem hlt, List.map_append, ← hx]
     simp [rd_T36, List.getD, hlt])
    clear tr l2 g2 l7 g7 hx
    gi_wp2_with fail
    obtain ⟨w1, hw1⟩ : ∃ w1, wr.alloc (.cells #[.string x.f0.f0, .int .i64 x.f0.f1, .slice A2 x.f1.length c2, .string x.f2, .int .i64 x.f3, .string x.f4, .int .i64 x.f5, .slice A7 x.f6.length c7] 36) = w1 := ⟨_, rfl⟩
    have HB1 := Aside0.mk (show Below wr.heap.size wr w1 from by rw [← hw1]; exact (Below.refl _ wr).alloc (Nat.le_refl _) _)
    rw [hw1]
    clear hw1 f0 f1 f2 f3 f4 f5 f6 f7
    refine ⟨trivial, (fun h => by cases h), (callsIn_wide.2 (layO_calls x A2 c2 A7 c7 _ HL2.out (Kd.C_below HG2.out HB1.out) HL7.out (Kd.C_below HG7.out HB1.out))).mono ?_⟩
    rintro e w2 ⟨rfl, hb2⟩
    have HB2 := Aside0.mk (HB1.out.trans (hb2.mono HB1.out.size))
    have HK2 := Aside0.mk (show KeepOn Kp wr w2 from ⟨HB2.out.size, fun k hk => HB2.out.block k (by have := hWK.out k hk; have := HKR.out.1; omega)⟩)
    have hJ2 := HJ.out _ _ _ HJR.out (Keeps.of_below HB2.out)
    obtain ⟨fn, tmps, asg, bdy, hyy, hR⟩ := HY.out _ (tx x) w2 hJ2 (by simp; omega)
    simp only [tx] at hyy
    clear hb2 hJ2
    gi_wp2
    refine ⟨(fun h => by cases h), hR.mono ?_⟩
    rintro e w3 (⟨rfl, hJ3, hk3⟩ | ⟨rfl, hJx3⟩)
    · have HJ3 := Aside0.mk hJ3
      have HK3 := Aside0.mk (KeepOn.trans HKR.out (KeepOn.trans HK2.out hk3))
      clear hJ3 hk3
      gi_wp2
      go_round
      case rel => exact ⟨i + 1, by go_num, by omega, ⟨by rw [HX.out]; exact HJ3.out⟩, HK3⟩
      case measure => simp [intOf]; omega
    · have HJX := Aside0.mk hJx3
      clear hJx3
      gi_wp2
      refine bodyPost_ret (results_none rfl _ _ _) rfl ?_
      exact ⟨⟨_, rfl⟩, .inr ⟨_, trivial, HJX.out⟩⟩
  · have q1 : decide ((i : Int) < (l.length : Int)) = false := by simp; omega
    gi_wp2
    go_end0
    exact ⟨⟨_, rfl⟩, .inl ⟨_, rfl, by have h := HJR.out; rwa [List.take_of_length_le (by omega)] at h⟩⟩
end Go.Proofs.Ytenbkljgmgdegaa.PO
end
section
namespace Go.Proofs.Ytenbkljgmgdegaa.PO
open Go.RowKit Go.Proofs.YtenbkljgmgdegaaW.PrintWords Go.Proofs.YtenbkljgmgdegaaW.PrintLast Go.Proofs.YtenbkljgmgdegaaW.PrintMore Go.Proofs.Ytenbkljgmgdegaa.XW
set_option linter.unusedVariables false
set_option linter.unusedSimpArgs false
def crc8 : Nat → Int → Int
 | 0, c => c
 | n + 1, c => crc8 n (if Go.bits .and .u32 c 1 = 0 then c / 2 else Go.bits .xor .u32 (c / 2) 3988292384)
def crcL (c : Int) : List Int → Int
 | [] => c
 | x :: l => crcL (crc8 8 (Go.bits .xor .u32 c (x % 4294967296))) l
def sumB (l : List Int) : List Int :=
 [(Go.bits .xor .u32 4294967295 (crcL 4294967295 l)) % 256, ((Go.bits .xor .u32 4294967295 (crcL 4294967295 l)) / 256) % 256, ((Go.bits .xor .u32 4294967295 (crcL 4294967295 l)) / 65536) % 256, ((Go.bits .xor .u32 4294967295 (crcL 4294967295 l)) / 16777216) % 256]
theorem crcL_app (c : Int) (a b : List Int) : crcL c (a ++ b) = crcL (crcL c a) b := by
 induction a generalizing c with
 | nil => rfl
 | cons x a ih => exact ih _
theorem add_l2 (p : List (List Int)) (n i : Int) (x : List Int) (m j : Int) (k : Nat) : ∀ (s : Nat) (c : Int), s ≤ 8 → wire_add.l2 (s + 1 + k) c (s : Int) p n i x m j = wire_add.l1 k (crc8 s c) p n i x m (wrap64 (j + 1))
 | 0, c, _ => by
   rw [show 0 + 1 + k = k + 1 from by omega]
   unfold wire_add.l2
   rw [if_neg (by simp)]
   rfl
 | s + 1, c, hs => by
   rw [show s + 1 + 1 + k = (s + 1 + k) + 1 from by omega]
   unfold wire_add.l2
   have hw : wrap64 (((s + 1 : Nat) : Int) - 1) = (s : Int) := by unfold wrap64; omega
   rw [if_pos (by omega), hw]
   have ih := fun c => add_l2 p n i x m j k s c (by omega)
   by_cases h : Go.bits .and .u32 c 1 = 0
   · rw [if_pos h, ih]
     unfold crc8
     rw [if_pos h]
     cases s <;> rfl
   · rw [if_neg h, ih]
     rw [show crc8 (s + 1) c = crc8 s (if Go.bits .and .u32 c 1 = 0 then c / 2 else Go.bits .xor .u32 (c / 2) 3988292384) from rfl, if_neg h]
theorem add_l1 (p : List (List Int)) (n i : Int) (x : List Int) (hx : x.length ≤ 9223372036854775000) (k : Nat) : ∀ (d j : Nat) (c : Int), j + d = x.length → wire_add.l1 (10 * d + 1 + k) c p n i x (x.length : Int) (j : Int) = wire_add.l0 k (crcL c (x.drop j)) p n (wrap64 (i + 1))
 | 0, j, c, h => by
   rw [show 10 * 0 + 1 + k = k + 1 from by omega]
   unfold wire_add.l1
   rw [if_neg (by omega), List.drop_eq_nil_of_le (by omega)]
   rfl
 | d + 1, j, c, h => by
   rw [show 10 * (d + 1) + 1 + k = (8 + 1 + (10 * d + 1 + k)) + 1 from by omega]
   unfold wire_add.l1
   rw [if_pos (by omega), if_pos (by omega), if_pos (by omega), show (8 : Int) = ((8 : Nat) : Int) from rfl, add_l2 p n i x _ _ _ 8 _ (by omega)]
   have hw : wrap64 ((j : Int) + 1) = ((j + 1 : Nat) : Int) := by unfold wrap64; omega
   rw [hw, add_l1 p n i x hx k d (j + 1) _ (by omega)]
   have hd : x.drop j = rd x (j : Int) :: x.drop (j + 1) := by
    rw [List.drop_eq_getElem_cons (by omega)]
    congr 1
    simp [rd, List.getD, show j < x.length by omega]
   rw [hd]
   rfl
theorem add_l0 (p : List (List Int)) (hp : p.length ≤ 9223372036854775000) (hx : ∀ x, x ∈ p → x.length ≤ 9223372036854775000) : ∀ (d i : Nat) (c : Int), i + d = p.length → ∃ k, wire_add.l0 k c p (p.length : Int) (i : Int) = some (crcL c (catL (p.drop i)))
 | 0, i, c, h => ⟨1, by
   unfold wire_add.l0
   rw [if_neg (by omega), List.drop_eq_nil_of_le (by omega)]
   rfl⟩
 | d + 1, i, c, h => by
   have hd := cat_drop p i (by omega)
   obtain ⟨x, hxe⟩ : ∃ x, rd_L7 p (i : Int) = x := ⟨_, rfl⟩
   rw [hxe] at hd
   have hm : x ∈ p := List.mem_of_mem_drop (i := i) (by rw [hd]; exact List.mem_cons_self)
   obtain ⟨k, hk⟩ := add_l0 p hp hx d (i + 1) (crcL c x) (by omega)
   refine ⟨(10 * x.length + 1 + k) + 1, ?_⟩
   unfold wire_add.l0
   have hw : wrap64 ((i : Int) + 1) = ((i + 1 : Nat) : Int) := by unfold wrap64; omega
   have h1 := add_l1 p (p.length : Int) (i : Int) x (hx x hm) k x.length 0 c (by omega)
   rw [if_pos (by omega), if_pos (by omega), if_pos (by omega), hxe]
   rw [show ((0 : Nat) : Int) = 0 from rfl] at h1
   rw [h1, hw, List.drop_zero, hk, hd]
   unfold catL
   rw [List.flatten_cons, crcL_app]
theorem seal_f (p : List (List Int)) (hp : p.length ≤ 9223372036854775000) (hx : ∀ x, x ∈ p → x.length ≤ 9223372036854775000) : ∃ k, wire_seal.f k p = some (sumB (catL p)) := by
 obtain ⟨k, hk⟩ := add_l0 p hp hx p.length 0 4294967295 (by omega)
 refine ⟨k, ?_⟩
 unfold wire_seal.f wire_add.f
 rw [show ((0 : Nat) : Int) = 0 from rfl] at hk
 rw [hk, List.drop_zero]
 rfl
end Go.Proofs.Ytenbkljgmgdegaa.PO
end
