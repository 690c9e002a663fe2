/- What the rows of this claim use, out of the texts of this work (RB). No condition beyond those that each statement names. -/
import Derived.Test.YtenbkljgmgdegaaQbRE
import Derived.Test.YtenbkljgmgdegaaQbOF
import Derived.Test.YtenbkljgmgdegaaQbOU
namespace Go.Proofs.Ytenbkljgmgdegaa.PO
open Go.RowKit Go.Proofs.YtenbkljgmgdegaaW.PrintWords Go.Proofs.YtenbkljgmgdegaaW.PrintLast Go.Proofs.YtenbkljgmgdegaaW.PrintMore Go.Proofs.Ytenbkljgmgdegaa.XW
open Go.Proofs.Ytenbkljgmgdegaa.XRange Go.Proofs.Ytenbkljgmgdegaa.XMap Go.Proofs.Ytenbkljgmgdegaa.XSeq
set_option linter.unusedVariables false
set_option linter.unusedSimpArgs false
theorem layO_len {x : S36} (h : rightO x = true) : (layO x).length ≤ 100000 := by
  obtain ⟨r1, r2, r3, r4, r5, r6, r7, r8, r9⟩ := rightO_all h
  have hd := dotOk_32 r1
  have t0 := textB_len x.f0.f0
  have t2 := textB_len x.f2
  have t4 := textB_len x.f4
  have n0 := encN_len x.f0.f1
  have v1 := layS_len x.f1 r2
  have n3 := encN_len x.f3
  have n5 := encN_len x.f5
  have n6 := encN_len (x.f6.length : Int)
  have seen : ∀ l : List S34, fine32 l → (layL [] l).length ≤ 60 * l.length := by
    intro l
    induction l with
    | nil => intro _; simp [layL]
    | cons y l ih =>
      intro hf
      have hy := hf y List.mem_cons_self
      have ih := ih (fun z hz => hf z (List.mem_cons_of_mem _ hz))
      have a := textB_len y.f0
      have b := encN_len y.f1
      rw [seen_cons]
      simp only [List.length_append, List.length_cons]
      omega
  have := seen x.f6 r6
  unfold layO
  simp only [List.length_append]
  omega
theorem readO_wf (b : List Int) : (readO b).2 = 0 ∨ readO b = (z36, 80) := by
  unfold readO
  split
  · exact .inr rfl
  · dsimp only
    split
    · exact .inr rfl
    · split
      · exact .inr rfl
      · exact .inl rfl
set_option maxHeartbeats 8000000 in
set_option maxRecDepth 100000 in
theorem orderBack_calls (w : World) (x : S36) (A2 : Option Addr) (c2 : Nat) (A7 : Option Addr) (c7 : Nat) (t : ByteArray) (l2 : x.f1.length ≤ c2) (g2 : Kd.C k34 w A2 x.f1.length x.f1) (l7 : x.f6.length ≤ c7) (g7 : Kd.C k34 w A7 x.f6.length x.f6) (_ : WfOp x) (ht : t.size ≤ 140737488351232) :
    Calls Try.prog 14 #[.agg #[.string x.f0.f0, .int .i64 x.f0.f1, .slice A2 x.f1.length c2, .string x.f2, .int .i64 x.f3, .string x.f4, .int .i64 x.f5, .slice A7 x.f6.length c7], .string t] w fun e w' => e = .returned (.bool true) ∧ Below w.heap.size w w' := by
  have HG2 := Aside0.mk g2
  have HG7 := Aside0.mk g7
  have HL2 := Aside0.mk l2
  have HL7 := Aside0.mk l7
  clear l2 g2 l7 g7
  obtain ⟨N, hN⟩ : ∃ N, w.heap.size = N := ⟨_, rfl⟩
  go_enter Try.func14, Try.ntmps14
  go_wp2_with fail
  refine (shown_calls _).mono ?_
  rintro e w1 ⟨rfl, hb1⟩
  have hb0 : Below w.heap.size w (w.alloc (.cells #[.string x.f0.f0, .int .i64 x.f0.f1, .slice A2 x.f1.length c2, .string x.f2, .int .i64 x.f3, .string x.f4, .int .i64 x.f5, .slice A7 x.f6.length c7] 36)) := (Below.refl _ w).alloc (Nat.le_refl _) _
  have hbk := World.alloc_heap_new w (.cells #[.string x.f0.f0, .int .i64 x.f0.f1, .slice A2 x.f1.length c2, .string x.f2, .int .i64 x.f3, .string x.f4, .int .i64 x.f5, .slice A7 x.f6.length c7] 36)
  rw [hN] at hbk
  have HK1 := Aside0.mk (blk_below hbk hb1)
  have HB1 := Aside0.mk (hb0.trans (hb1.mono hb0.size))
  try rw [hN]
  clear hb0 hb1 hbk
  go_wp2_with fail
  refine (read43 w1 t ht).mono ?_
  rintro e w2 ⟨v2, v7, rfl, hr2, hr7, hb2⟩
  obtain ⟨l, hl⟩ : ∃ l, bytesOf t = l := ⟨_, rfl⟩
  have hB : isB l := by rw [← hl]; exact bytes_B t
  have hst : strOfNums l = t := by rw [← hl]; exact nums_bytes t
  rw [hl] at hr2 hr7 ⊢
  have hwf := readO_wf l
  have his := @readO_is l hB
  obtain ⟨⟨y, e⟩, hy⟩ : ∃ y, readO l = y := ⟨_, rfl⟩
  rw [hy] at hr2 hr7 hwf his ⊢
  dsimp only at hr2 hr7 hwf his ⊢
  have HWF := Aside0.mk hwf
  have HIS := Aside0.mk his
  have HST := Aside0.mk hst
  obtain ⟨B2, d2, rfl⟩ := Kd.R_slice hr2
  obtain ⟨B7, d7, rfl⟩ := Kd.R_slice hr7
  have HR2 := Aside0.mk hr2
  have HR7 := Aside0.mk hr7
  have HK2 := Aside0.mk (blk_below HK1.out hb2)
  have HB2 := Aside0.mk (HB1.out.trans (hb2.mono HB1.out.size))
  clear hwf his hst hr2 hr7 hb2 HK1 HB1 hy hl hB
  obtain ⟨M, hM⟩ : ∃ M, w2.heap.size = M := ⟨_, rfl⟩
  obtain ⟨wx, hwx⟩ : ∃ wx, w2.alloc (.cells #[.string y.f0.f0, .int .i64 y.f0.f1, .slice B2 y.f1.length d2, .string y.f2, .int .i64 y.f3, .string y.f4, .int .i64 y.f5, .slice B7 y.f6.length d7] 36) = wx := ⟨_, rfl⟩
  have hbx : Below w2.heap.size w2 wx := by rw [← hwx]; exact (Below.refl _ w2).alloc (Nat.le_refl _) _
  have HKM := Aside0.mk (show wx.heap[M]? = some (.cells #[.string y.f0.f0, .int .i64 y.f0.f1, .slice B2 y.f1.length d2, .string y.f2, .int .i64 y.f3, .string y.f4, .int .i64 y.f5, .slice B7 y.f6.length d7] 36 (0, 0)) from by rw [← hwx, ← hM]; exact World.alloc_heap_new w2 _)
  have HKx0 := Aside0.mk (blk_below HK2.out hbx)
  have HBx0 := Aside0.mk (HB2.out.trans (hbx.mono HB2.out.size))
  have HC2 := Aside0.mk (Kd.C_below (Kd.R_reads' HR2.out).2.2 hbx)
  have HC7 := Aside0.mk (Kd.C_below (Kd.R_reads' HR7.out).2.2 hbx)
  have HD2 := Aside0.mk (Kd.R_reads' HR2.out).2.1
  have HD7 := Aside0.mk (Kd.R_reads' HR7.out).2.1
  clear hbx HK2 HB2 HR2 HR7
  by_cases he : e = 0
  · subst he
    have HRY := Aside0.mk (HIS.out rfl)
    obtain ⟨k0, k1, k2, k3, k4, k5, k6, k7⟩ := cells8 HKM.out
    go_wp2_with fail
    try rw [hwx]
    clear k0 k1 k2 k3 k4 k5 k6 k7
    refine (order_Lay.calls (y.f6.length + y.f1.length + 2001) y.f0.f0 y.f0.f1 B2 d2 y.f1 y.f2 y.f3 y.f4 y.f5 B7 d7 y.f6 t 0 _ HC2.out HD2.out HC7.out HD7.out (by
      rw [orderLay_f y HC2.out.2.1 HC7.out.2.1 _ (by omega)]
      unfold layF
      rw [if_pos HRY.out.1, HRY.out.2, HST.out])).mono ?_
    rintro e wq ⟨rfl, hbq⟩
    have HKx := Aside0.mk (blk_below HKx0.out hbq)
    have HBx := Aside0.mk (HBx0.out.trans (hbq.mono HBx0.out.size))
    clear hbq HKx0 HBx0 HC2 HC7 HD2 HD7 HKM HWF HIS HST HRY hwx hM
    obtain ⟨n0, n1, n2, n3, n4, n5, n6, n7⟩ := cells8 HKx.out
    have HLF := Aside0.mk (orderLay_f x HG2.out.2.1 HG7.out.2.1 (x.f6.length + x.f1.length + 2001) (by omega))
    obtain ⟨br, hbr⟩ : ∃ br, rightO x = br := ⟨_, rfl⟩
    have HBR := Aside0.mk hbr
    clear hbr
    cases br with
    | false =>
      have hlf : layF x = (⟨#[]⟩, 2) := by unfold layF; rw [if_neg (by rw [HBR.out]; simp)]
      have hf := HLF.out
      rw [hlf] at hf
      have HF := Aside0.mk hf
      clear hf hlf HLF
      go_wp2_with fail
      refine (order_Lay.calls (x.f6.length + x.f1.length + 2001) x.f0.f0 x.f0.f1 A2 c2 x.f1 x.f2 x.f3 x.f4 x.f5 A7 c7 x.f6 ⟨#[]⟩ 2 _ (Kd.C_below HG2.out HBx.out) HL2.out (Kd.C_below HG7.out HBx.out) HL7.out HF.out).mono ?_
      rintro e wy ⟨rfl, hby⟩
      have HBy := Aside0.mk (HBx.out.trans (hby.mono HBx.out.size))
      have HKy := Aside0.mk (blk_below HKx.out hby)
      clear n0 n1 n2 n3 n4 n5 n6 n7 hby HF HKx HBx
      obtain ⟨n0, n1, n2, n3, n4, n5, n6, n7⟩ := cells8 HKy.out
      go_wp2_with fail
      refine (order_Right.calls (x.f6.length + x.f1.length + 5) x.f0.f0 x.f0.f1 A2 c2 x.f1 x.f2 x.f3 x.f4 x.f5 A7 c7 x.f6 false _ (Kd.C_below HG2.out HBy.out) HL2.out (Kd.C_below HG7.out HBy.out) HL7.out (by
        rw [← HBR.out]
        exact orderRight_f x HG2.out.2.1 HG7.out.2.1 _ (by omega))).mono ?_
      rintro e wz ⟨rfl, hbz⟩
      have HBz := Aside0.mk (HBy.out.trans (hbz.mono HBy.out.size))
      clear n0 n1 n2 n3 n4 n5 n6 n7 hbz HKy HBy
      go_wp2
      go_ret
      exact ⟨rfl, by first | exact HBz.out | (rw [← hN]; exact HBz.out)⟩
    | true =>
      have hlf : layF x = (strOfNums (layO x), 0) := by unfold layF; rw [if_pos HBR.out]
      obtain ⟨u, hu⟩ : ∃ u, strOfNums (layO x) = u := ⟨_, rfl⟩
      rw [hu] at hlf
      have hf := HLF.out
      rw [hlf] at hf
      have HF := Aside0.mk hf
      have hbu : bytesOf u = layO x := by rw [← hu]; exact bytes_nums (layO_B HBR.out)
      have hul : u.size ≤ 140737488351232 := by
        have h1 := layO_len HBR.out
        have h2 := bytesOf_length u
        rw [hbu] at h2
        omega
      have hrd : readO (bytesOf u) = (x, 0) := by rw [hbu]; exact readO_enc HBR.out
      have HRD := Aside0.mk hrd
      have HUL := Aside0.mk hul
      clear hf hlf HLF hbu hu hul hrd
      go_wp2_with fail
      refine (order_Lay.calls (x.f6.length + x.f1.length + 2001) x.f0.f0 x.f0.f1 A2 c2 x.f1 x.f2 x.f3 x.f4 x.f5 A7 c7 x.f6 u 0 _ (Kd.C_below HG2.out HBx.out) HL2.out (Kd.C_below HG7.out HBx.out) HL7.out HF.out).mono ?_
      rintro e wy ⟨rfl, hby⟩
      have HBy := Aside0.mk (HBx.out.trans (hby.mono HBx.out.size))
      have HKy := Aside0.mk (blk_below HKx.out hby)
      clear n0 n1 n2 n3 n4 n5 n6 n7 hby HF HKx HBx
      go_wp2_with fail
      refine (read43 wy u HUL.out).mono ?_
      rintro e wz ⟨v2, v7, rfl, hr2, hr7, hbz⟩
      rw [HRD.out] at hr2 hr7 ⊢
      dsimp only at hr2 hr7 ⊢
      obtain ⟨B2, d2, rfl⟩ := Kd.R_slice hr2
      obtain ⟨B7, d7, rfl⟩ := Kd.R_slice hr7
      have HR2 := Aside0.mk hr2
      have HR7 := Aside0.mk hr7
      have HKz := Aside0.mk (blk_below HKy.out hbz)
      have HBz := Aside0.mk (HBy.out.trans (hbz.mono HBy.out.size))
      have hba : Below wz.heap.size wz (wz.alloc (.cells #[.string x.f0.f0, .int .i64 x.f0.f1, .slice B2 x.f1.length d2, .string x.f2, .int .i64 x.f3, .string x.f4, .int .i64 x.f5, .slice B7 x.f6.length d7] 36)) := (Below.refl _ wz).alloc (Nat.le_refl _) _
      obtain ⟨n0, n1, n2, n3, n4, n5, n6, n7⟩ := cells8 (blk_below HKz.out hba)
      obtain ⟨m0, m1, m2, m3, m4, m5, m6, m7⟩ := cells8 (World.alloc_heap_new wz (.cells #[.string x.f0.f0, .int .i64 x.f0.f1, .slice B2 x.f1.length d2, .string x.f2, .int .i64 x.f3, .string x.f4, .int .i64 x.f5, .slice B7 x.f6.length d7] 36))
      have HBa := Aside0.mk (HBz.out.trans (hba.mono HBz.out.size))
      have HA := Aside0.mk hba
      clear hr2 hr7 hbz hba HKy HBy HRD
      go_wp2_with fail
      refine (sameO_calls x x B2 d2 B7 d7 A2 c2 A7 c7 _ (Kd.R_reads' HR2.out).2.1 (Kd.C_below (Kd.R_reads' HR2.out).2.2 HA.out) (Kd.R_reads' HR7.out).2.1 (Kd.C_below (Kd.R_reads' HR7.out).2.2 HA.out) HL2.out (Kd.C_below HG2.out HBa.out) HL7.out (Kd.C_below HG7.out HBa.out)).mono ?_
      rw [show sameO x x = true by unfold sameO; rw [HBR.out]; simp]
      rintro e wb ⟨rfl, hbb⟩
      have HBb := Aside0.mk (HBa.out.trans (hbb.mono HBa.out.size))
      clear n0 n1 n2 n3 n4 n5 n6 n7 m0 m1 m2 m3 m4 m5 m6 m7 hbb
      go_wp2
      go_ret
      exact ⟨rfl, by first | exact HBb.out | (rw [← hN]; exact HBb.out)⟩
  · have hy : y = z36 ∧ e = 80 := by
      rcases HWF.out with h | h
      · exact absurd h he
      · exact Prod.mk.inj h
    obtain ⟨-, rfl⟩ := hy
    have HKx := HKx0
    have HBx := HBx0
    clear he HKx0 HBx0 HC2 HC7 HD2 HD7 HKM HWF HIS HST
    obtain ⟨n0, n1, n2, n3, n4, n5, n6, n7⟩ := cells8 HKx.out
    have HLF := Aside0.mk (orderLay_f x HG2.out.2.1 HG7.out.2.1 (x.f6.length + x.f1.length + 2001) (by omega))
    obtain ⟨br, hbr⟩ : ∃ br, rightO x = br := ⟨_, rfl⟩
    have HBR := Aside0.mk hbr
    clear hbr
    cases br with
    | false =>
      have hlf : layF x = (⟨#[]⟩, 2) := by unfold layF; rw [if_neg (by rw [HBR.out]; simp)]
      have hf := HLF.out
      rw [hlf] at hf
      have HF := Aside0.mk hf
      clear hf hlf HLF
      go_wp2_with fail
      refine (order_Lay.calls (x.f6.length + x.f1.length + 2001) x.f0.f0 x.f0.f1 A2 c2 x.f1 x.f2 x.f3 x.f4 x.f5 A7 c7 x.f6 ⟨#[]⟩ 2 _ (Kd.C_below HG2.out HBx.out) HL2.out (Kd.C_below HG7.out HBx.out) HL7.out HF.out).mono ?_
      rintro e wy ⟨rfl, hby⟩
      have HBy := Aside0.mk (HBx.out.trans (hby.mono HBx.out.size))
      have HKy := Aside0.mk (blk_below HKx.out hby)
      clear n0 n1 n2 n3 n4 n5 n6 n7 hby HF HKx HBx
      obtain ⟨n0, n1, n2, n3, n4, n5, n6, n7⟩ := cells8 HKy.out
      go_wp2_with fail
      refine (order_Right.calls (x.f6.length + x.f1.length + 5) x.f0.f0 x.f0.f1 A2 c2 x.f1 x.f2 x.f3 x.f4 x.f5 A7 c7 x.f6 false _ (Kd.C_below HG2.out HBy.out) HL2.out (Kd.C_below HG7.out HBy.out) HL7.out (by
        rw [← HBR.out]
        exact orderRight_f x HG2.out.2.1 HG7.out.2.1 _ (by omega))).mono ?_
      rintro e wz ⟨rfl, hbz⟩
      have HBz := Aside0.mk (HBy.out.trans (hbz.mono HBy.out.size))
      clear n0 n1 n2 n3 n4 n5 n6 n7 hbz HKy HBy
      go_wp2
      go_ret
      exact ⟨rfl, by first | exact HBz.out | (rw [← hN]; exact HBz.out)⟩
    | true =>
      have hlf : layF x = (strOfNums (layO x), 0) := by unfold layF; rw [if_pos HBR.out]
      obtain ⟨u, hu⟩ : ∃ u, strOfNums (layO x) = u := ⟨_, rfl⟩
      rw [hu] at hlf
      have hf := HLF.out
      rw [hlf] at hf
      have HF := Aside0.mk hf
      have hbu : bytesOf u = layO x := by rw [← hu]; exact bytes_nums (layO_B HBR.out)
      have hul : u.size ≤ 140737488351232 := by
        have h1 := layO_len HBR.out
        have h2 := bytesOf_length u
        rw [hbu] at h2
        omega
      have hrd : readO (bytesOf u) = (x, 0) := by rw [hbu]; exact readO_enc HBR.out
      have HRD := Aside0.mk hrd
      have HUL := Aside0.mk hul
      clear hf hlf HLF hbu hu hul hrd
      go_wp2_with fail
      refine (order_Lay.calls (x.f6.length + x.f1.length + 2001) x.f0.f0 x.f0.f1 A2 c2 x.f1 x.f2 x.f3 x.f4 x.f5 A7 c7 x.f6 u 0 _ (Kd.C_below HG2.out HBx.out) HL2.out (Kd.C_below HG7.out HBx.out) HL7.out HF.out).mono ?_
      rintro e wy ⟨rfl, hby⟩
      have HBy := Aside0.mk (HBx.out.trans (hby.mono HBx.out.size))
      have HKy := Aside0.mk (blk_below HKx.out hby)
      clear n0 n1 n2 n3 n4 n5 n6 n7 hby HF HKx HBx
      go_wp2_with fail
      refine (read43 wy u HUL.out).mono ?_
      rintro e wz ⟨v2, v7, rfl, hr2, hr7, hbz⟩
      rw [HRD.out] at hr2 hr7 ⊢
      dsimp only at hr2 hr7 ⊢
      obtain ⟨B2, d2, rfl⟩ := Kd.R_slice hr2
      obtain ⟨B7, d7, rfl⟩ := Kd.R_slice hr7
      have HR2 := Aside0.mk hr2
      have HR7 := Aside0.mk hr7
      have HKz := Aside0.mk (blk_below HKy.out hbz)
      have HBz := Aside0.mk (HBy.out.trans (hbz.mono HBy.out.size))
      have hba : Below wz.heap.size wz (wz.alloc (.cells #[.string x.f0.f0, .int .i64 x.f0.f1, .slice B2 x.f1.length d2, .string x.f2, .int .i64 x.f3, .string x.f4, .int .i64 x.f5, .slice B7 x.f6.length d7] 36)) := (Below.refl _ wz).alloc (Nat.le_refl _) _
      obtain ⟨n0, n1, n2, n3, n4, n5, n6, n7⟩ := cells8 (blk_below HKz.out hba)
      obtain ⟨m0, m1, m2, m3, m4, m5, m6, m7⟩ := cells8 (World.alloc_heap_new wz (.cells #[.string x.f0.f0, .int .i64 x.f0.f1, .slice B2 x.f1.length d2, .string x.f2, .int .i64 x.f3, .string x.f4, .int .i64 x.f5, .slice B7 x.f6.length d7] 36))
      have HBa := Aside0.mk (HBz.out.trans (hba.mono HBz.out.size))
      have HA := Aside0.mk hba
      clear hr2 hr7 hbz hba HKy HBy HRD
      go_wp2_with fail
      refine (sameO_calls x x B2 d2 B7 d7 A2 c2 A7 c7 _ (Kd.R_reads' HR2.out).2.1 (Kd.C_below (Kd.R_reads' HR2.out).2.2 HA.out) (Kd.R_reads' HR7.out).2.1 (Kd.C_below (Kd.R_reads' HR7.out).2.2 HA.out) HL2.out (Kd.C_below HG2.out HBa.out) HL7.out (Kd.C_below HG7.out HBa.out)).mono ?_
      rw [show sameO x x = true by unfold sameO; rw [HBR.out]; simp]
      rintro e wb ⟨rfl, hbb⟩
      have HBb := Aside0.mk (HBa.out.trans (hbb.mono HBa.out.size))
      clear n0 n1 n2 n3 n4 n5 n6 n7 m0 m1 m2 m3 m4 m5 m6 m7 hbb
      go_wp2
      go_ret
      exact ⟨rfl, by first | exact HBb.out | (rw [← hN]; exact HBb.out)⟩
end Go.Proofs.Ytenbkljgmgdegaa.PO
