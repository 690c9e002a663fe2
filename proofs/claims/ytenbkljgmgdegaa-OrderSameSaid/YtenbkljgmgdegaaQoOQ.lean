/- What the rows of this claim use, out of the texts of this work (OQ). No condition beyond those that each statement names. -/
import Derived.Test.YtenbkljgmgdegaaQoOS
import Derived.Test.YtenbkljgmgdegaaQoOM
import Derived.Test.YtenbkljgmgdegaaQoOX
import Derived.Test.YtenbkljgmgdegaaQoOU
namespace Go.Proofs.Ytenbkljgmgdegaa.PO
open Go.RowKit Go.Proofs.YtenbkljgmgdegaaW.PrintWords Go.Proofs.YtenbkljgmgdegaaW.PrintLast Go.Proofs.YtenbkljgmgdegaaW.PrintMore Go.Proofs.Ytenbkljgmgdegaa.XW
open Go.Proofs.Ytenbkljgmgdegaa.XRange Go.Proofs.Ytenbkljgmgdegaa.XMap Go.Proofs.Ytenbkljgmgdegaa.XSeq
set_option linter.unusedVariables false
set_option linter.unusedSimpArgs false
def dbl (l : List S36) : List S36 := l.flatMap (fun x => [x, x])
theorem dbl_snoc (l : List S36) (x : S36) : dbl (l ++ [x]) = dbl l ++ [x, x] := by simp [dbl]
theorem dbl_len : ∀ (l : List S36), (dbl l).length = 2 * l.length
  | [] => rfl
  | x :: l => by
    have := dbl_len l
    simp only [dbl, List.flatMap_cons, List.length_append, List.length_cons, List.length_nil] at this ⊢
    omega
theorem dbl_mem {l : List S36} {x : S36} : x ∈ dbl l ↔ x ∈ l := by
  unfold dbl
  rw [List.mem_flatMap]
  constructor
  · rintro ⟨y, hy, hx⟩
    simp only [List.mem_cons, List.not_mem_nil, or_false, or_self] at hx
    rw [hx]; exact hy
  · intro h; exact ⟨x, h, by simp⟩
theorem back_step (T : List S36) (j : Nat) (h : j < T.length) : dbl (T.drop j).reverse = dbl (T.drop (j + 1)).reverse ++ [rd_T36 T (j : Int), rd_T36 T (j : Int)] := by
  rw [rd_drop36 T j h, List.reverse_cons, dbl_snoc]
set_option maxHeartbeats 8000000 in
set_option maxRecDepth 100000 in
theorem orderSame_calls (w : World) (A : Option Addr) (c : Nat) (l : List S36) (hC : Kd.C k36 w A l.length l) (hc : l.length ≤ c) (_ : ∀ a, a ∈ l → WfOp a) :
    Calls Try.prog 8 #[.slice A l.length c] w fun e w' => e = .returned (.bool true) ∧ Below w.heap.size w w' := by
  have hlm := hC.2.1
  have HC := Aside0.mk hC
  have HCL := Aside0.mk hc
  clear hC
  go_enter Try.func8, Try.ntmps8
  go_wp2_with fail
  refine (shown_calls _).mono ?_
  rintro e w1 ⟨rfl, hb1⟩
  have HB1 := Aside0.mk hb1
  clear hb1
  go_wp2_with fail
  obtain ⟨T, hT⟩ : ∃ T, l.take (min l.length 100) = T := ⟨_, rfl⟩
  have hlen : (min (l.length : Int) 100).toNat = T.length := by rw [← hT, List.length_take]; omega
  have hT100 : T.length ≤ 100 := by rw [← hT, List.length_take]; omega
  have hTc : T.length ≤ c := by rw [← hT, List.length_take]; omega
  have HCT := Aside0.mk (show Kd.C k36 w A T.length T from by rw [← hT]; exact Kd.C_take HC.out (by omega))
  rw [hlen]
  clear hlen hT HC HCL hc hlm
  have HTC := Aside0.mk hTc
  have HT100 := Aside0.mk hT100
  clear hTc
  refine (pannierlaw08_makers.calls 2000000 A c T _ _ (Kd.C_below HCT.out HB1.out) HTC.out (makers_f T (by omega))).mono ?_
  rintro e w2 ⟨rfl, hd2⟩
  have HB2 := Aside0.mk (show Below w.heap.size w w2 from HB1.out.trans (hd2.below.mono HB1.out.size))
  clear hd2 HB1
  have HN := Aside0.mk (namesA_all T [])
  obtain ⟨ns, hns⟩ : ∃ ns, namesA T [] = ns := ⟨_, rfl⟩
  have hn := HN.out
  rw [hns] at hn ⊢
  have HNS := Aside0.mk hn.2
  clear hn HN hns
  by_cases h64 : 64 < ns.length
  · have hd : decide ((64 : Int) < (ns.length : Int)) = true := by simp; omega
    clear h64
    go_wp2
    go_ret
    exact ⟨rfl, HB2.out⟩
  · have hd : decide ((64 : Int) < (ns.length : Int)) = false := by simp; omega
    have H64 := Aside0.mk (show ns.length ≤ 64 from by omega)
    clear h64
    go_wp2
    have hw2 : Below w2.heap.size w2 w2 := Below.refl _ _
    have HW2 := Aside0.mk hw2
    clear hw2
    go_loopw [4, 5] (fun v4 v5 wr => ∃ (z : Int) (i : Nat), v5 = .int .i64 z ∧ Aside0 (z + 1 = i) ∧ i ≤ T.length ∧ -1 ≤ z ∧ z < 100 ∧ Aside0 (Kd.R (kAt w) 36 wr w2.heap.size (fun _ => True) v4 (dbl (T.drop i).reverse)) ∧ Aside0 (Below w2.heap.size w2 wr)) (fun _ v5 _ => (intOf v5 + 1).toNat)
    case atStart => exact ⟨(T.length : Int) - 1, T.length, rfl, ⟨by omega⟩, by omega, by omega, by omega, ⟨by rw [List.drop_length]; exact Kd.R_nil _ _ _ _ _⟩, HW2⟩
    case round =>
      clear HW2
      obtain ⟨z, i, rfl, HZ, hile, hz1, hz100, HRi, HBi⟩ := hrel
      by_cases hz : 0 ≤ z
      · obtain ⟨j, rfl⟩ := Int.eq_ofNat_of_zero_le hz
        have hij : i = j + 1 := by have := HZ.out; omega
        subst hij
        have HWi := Aside0.mk (show Below w.heap.size w wr from HB2.out.trans (HBi.out.mono HB2.out.size))
        obtain ⟨ad, A2, c2, A7, c7, rfl, hop⟩ := opAt HCT.out j (by omega)
        have hopR := hop.below HWi.out
        obtain ⟨x, hx⟩ : ∃ x, rd_T36 T (j : Int) = x := ⟨_, rfl⟩
        have hbs := back_step T j (by omega)
        rw [hx] at hop hopR hbs
        obtain ⟨e0, e1, e2, e3, e4, e5, e6, e7, l2, g2, l7, g7⟩ := hopR
        have HK := Aside0.mk (kAt_of hop.l2 hop.g2 hop.l7 hop.g7)
        have HBS := Aside0.mk hbs
        have hb3 : 0 ≤ (j : Int) ∧ (j : Int) < (T.length : Int) := by omega
        obtain ⟨A4, c4, rfl⟩ := Kd.R_slice HRi.out
        have HIB := Aside0.mk hb3
        have HOP := Aside0.mk hop
        clear hop hbs hx g2 g7
        go_wp2
        refine start_ (n := 12) (ds := []) (S := fun w' => w'.cell? (ad.add (j * 8)) = some (.string x.f0.f0) ∧ w'.cell? ⟨(ad.add (j * 8)).block, (ad.add (j * 8)).off + 1, none⟩ = some (.int .i64 x.f0.f1) ∧ w'.cell? ⟨(ad.add (j * 8)).block, (ad.add (j * 8)).off + 2, none⟩ = some (.slice A2 x.f1.length c2) ∧ w'.cell? ⟨(ad.add (j * 8)).block, (ad.add (j * 8)).off + 3, none⟩ = some (.string x.f2) ∧
            w'.cell? ⟨(ad.add (j * 8)).block, (ad.add (j * 8)).off + 4, none⟩ = some (.int .i64 x.f3) ∧ w'.cell? ⟨(ad.add (j * 8)).block, (ad.add (j * 8)).off + 5, none⟩ = some (.string x.f4) ∧ w'.cell? ⟨(ad.add (j * 8)).block, (ad.add (j * 8)).off + 6, none⟩ = some (.int .i64 x.f5) ∧ w'.cell? ⟨(ad.add (j * 8)).block, (ad.add (j * 8)).off + 7, none⟩ = some (.slice A7 x.f6.length c7)) _ (by kernel_rfl) rfl rfl ⟨e0, e1, e2, e3, e4, e5, e6, e7⟩ (fun hH => ?_)
        refine XReg.pu 0 32 (h := ?_)
        refine XReg.pu 1 33 (h := ?_)
        refine XReg.pu 2 34 (h := ?_)
        refine XReg.pu 3 35 (h := ?_)
        refine XReg.tk 4 36 (h := ?_)
        refine XReg.pu 5 37 (h := ?_)
        refine XReg.pu 6 38 (h := ?_)
        refine XReg.pu 7 39 (h := ?_)
        refine XReg.tk 8 40 (h := ?_)
        refine oneL (i := 9) (some 41) rfl rfl (by kernel_rfl) (by decide) (fun Kc hKc => ?_)
        go_simp
        obtain ⟨cs, hcs⟩ : ∃ cs : List Value, cs = [.string x.f0.f0, .int .i64 x.f0.f1, .slice A2 x.f1.length c2, .string x.f2, .int .i64 x.f3, .string x.f4, .int .i64 x.f5, .slice A7 x.f6.length c7] := ⟨_, rfl⟩
        have hcw : (Obj.cells #[.string x.f0.f0, .int .i64 x.f0.f1, .slice A2 x.f1.length c2, .string x.f2, .int .i64 x.f3, .string x.f4, .int .i64 x.f5, .slice A7 x.f6.length c7, .string x.f0.f0, .int .i64 x.f0.f1, .slice A2 x.f1.length c2, .string x.f2, .int .i64 x.f3, .string x.f4, .int .i64 x.f5, .slice A7 x.f6.length c7] 36 (0, 0)) = .cells (cs ++ cs).toArray 36 (0, 0) := by rw [hcs]; rfl
        have h8 : cs.length = 8 := by rw [hcs]; rfl
        rw [hcw]
        obtain ⟨wa, hwa⟩ : ∃ wa, (wr.alloc (.cells (cs ++ cs).toArray 36 (0, 0))).drew = wa := ⟨_, rfl⟩
        have hba : Below wr.heap.size wr wa := by rw [← hwa]; exact below_drew1 ((Below.refl _ wr).alloc (Nat.le_refl _) _)
        have hlit := Kd.R_alloc HRi.out (.cells (cs ++ cs).toArray 36 (0, 0))
        have HRa := Aside0.mk (Kd.R_below HRi.out hba)
        have HLa := Aside0.mk (show ReadsRow (fun y c => (y = x ∧ c = cs) ∨ (y = x ∧ c = cs)) 8 wa (some ⟨wr.heap.size, 0, none⟩) 2 [x, x] from by rw [← hwa]; exact lit_row2 h8 h8)
        have HKx := Aside0.mk (show k36.K w x cs from by rw [hcs]; exact HK.out)
        have HBa := Aside0.mk (show Below w2.heap.size w2 wa from HBi.out.trans (hba.mono HBi.out.size))
        have st : ∀ {q : Addr} {u : Value}, wr.cell? q = some u → wa.cell? q = some u := fun hq => (hba.cell (World.block_lt_of_cell? wr _ hq)).trans hq
        have HDL := Aside0.mk (show ((dbl (List.drop (j + 1) T).reverse).length + 2) * 120 ≤ 140737488355328 from by rw [dbl_len, List.length_reverse, List.length_drop]; have := HT100.out; omega)
        rw [hwa]
        refine hKc.out _ _ ⟨st e0, st e1, st e2, st e3, st e4, st e5, st e6, st e7⟩ (fun hH2 => ?_)
        clear hKc Kc hH hcw hlit hwa
        refine oneL (i := 10) (some 42) rfl rfl (by kernel_rfl) (by decide) (fun Kc hKc => ?_)
        refine Kd.R_append_rows_step (kAt w) (Rr := fun y c => (y = x ∧ c = cs) ∨ (y = x ∧ c = cs)) (w0 := w2) w2.heap.size (by rfl) (.tmp 32) (.tmp 41) 22 36 _ 120 rfl Try.underlying22 info36 rfl (by show 0 < 8; omega) (by omega) _ (dbl (List.drop (j + 1) T).reverse) [x, x] (some ⟨wr.heap.size, 0, none⟩) 2 2
          (fun _ => True) (fun _ => False) rfl rfl HRa.out HLa.out (fun y c hyc => by rcases hyc with ⟨rfl, rfl⟩ | ⟨rfl, rfl⟩ <;> exact HKx.out) (fun _ h => h.elim) (fun _ _ => trivial) HBa.out HBa.out.size HDL.out (fun v1 w7 hr7 hb7 hg7 hat7 => ?_)
        have HR7 := Aside0.mk hr7
        have HB7 := Aside0.mk hb7
        have hop7 := HOP.out.below (show Below w.heap.size w w7 from HB2.out.trans (hb7.mono HB2.out.size))
        refine hKc.out _ _ ⟨hop7.e0, hop7.e1, hop7.e2, hop7.e3, hop7.e4, hop7.e5, hop7.e6, hop7.e7⟩ (fun hH3 => ?_)
        clear hKc Kc hH2 hop7 hr7 hb7 hg7 hat7 HRa HLa HKx HBa st HRi HBi HK HWi e0 e1 e2 e3 e4 e5 e6 e7 hba
        obtain ⟨A9, c9, rfl⟩ := Kd.R_slice HR7.out
        refine XReg.pu 11 4 (h := ?_)
        refine done_ (by kernel_rfl) ?_
        have hj := HIB.out
        go_wp2
        go_round
        case rel =>
          refine ⟨(j : Int) - 1, j, by go_num, ⟨by omega⟩, by omega, by omega, by omega, ⟨?_⟩, HB7⟩
          have h7 := HR7.out
          have e : (dbl (List.drop (j + 1) T).reverse ++ [x, x]).length = (dbl (List.drop (j + 1) T).reverse).length + 2 := by simp
          rw [e] at h7
          rw [HBS.out]
          exact h7
        case measure => first | (simp [intOf]; done) | (simp [intOf]; omega)
      · have hi0 : i = 0 := by have := HZ.out; omega
        subst hi0
        have hr := HRi.out
        rw [List.drop_zero] at hr
        have HR := Aside0.mk hr
        have HWi := Aside0.mk (show Below w.heap.size w wr from HB2.out.trans (HBi.out.mono HB2.out.size))
        have HHI := Aside0.mk (show w2.heap.size ≤ wr.heap.size from HBi.out.size)
        clear hr HRi HBi
        obtain ⟨B, hBk⟩ : ∃ B, dbl T.reverse = B := ⟨_, rfl⟩
        have hBl : B.length ≤ 200 := by rw [← hBk, dbl_len, List.length_reverse]; have := HT100.out; omega
        have HMEM := Aside0.mk (show ∀ x, x ∈ T ↔ x ∈ B from fun x => by rw [← hBk, dbl_mem, List.mem_reverse])
        have hr2 := HR.out
        rw [hBk] at hr2
        obtain ⟨AB, cB, rfl⟩ := Kd.R_slice hr2
        have HRB := Aside0.mk hr2
        have HBL := Aside0.mk hBl
        clear hr2 HR hBk hBl
        go_wp2_with fail
        refine (put22_calls wr A c T (fun W hW => Kd.C_below HCT.out (HWi.out.trans (hW.mono HWi.out.size))) (by omega)).mono ?_
        rintro e w3 ⟨gp, Sp, rfl, hp3, hS3, hb3⟩
        have HB3 := Aside0.mk (show Below w.heap.size w w3 from HWi.out.trans (hb3.mono HWi.out.size))
        have HRB3 := Aside0.mk (Kd.R_below HRB.out hb3)
        have HP3 := Aside0.mk hp3
        clear hp3 hS3 hb3 HRB HWi
        obtain ⟨o1, ho1⟩ : ∃ o, (putsA T ⟨[], [], []⟩).2 = o := ⟨_, rfl⟩
        rw [ho1]
        have HO1 := Aside0.mk ho1
        clear ho1
        go_wp2_with fail
        obtain ⟨_, lB, CB⟩ := Kd.R_reads' HRB3.out
        have HCB := Aside0.mk CB
        clear CB lB
        refine (put22_calls w3 AB cB B (fun W hW => kAt_C (Kd.C_below HCB.out hW) (HB3.out.trans (hW.mono HB3.out.size))) (by have := HBL.out; omega)).mono ?_
        rintro e w4 ⟨gq, Sq, rfl, hq4, hS4, hb4⟩
        have HB4 := Aside0.mk (show Below w.heap.size w w4 from HB3.out.trans (hb4.mono HB3.out.size))
        have HP4 := Aside0.mk (HP3.out.below hb4)
        have HQ4 := Aside0.mk hq4
        clear hq4 hS4 hb4 HP3 HB3 HRB3 HCB
        obtain ⟨o2, ho2⟩ : ∃ o, (putsA B ⟨[], [], []⟩).2 = o := ⟨_, rfl⟩
        rw [ho2]
        have HO2 := Aside0.mk ho2
        clear ho2
        by_cases hoo : o1 = true ∧ o2 = true
        · obtain ⟨rfl, rfl⟩ := hoo
          obtain ⟨q1, q2, q3, q4⟩ := same_runs HMEM.out H64.out HNS.out HO1.out HO2.out
          obtain ⟨a, ha⟩ : ∃ a, (putsA T ⟨[], [], []⟩).1 = a := ⟨_, rfl⟩
          obtain ⟨b, hb⟩ : ∃ b, (putsA B ⟨[], [], []⟩).1 = b := ⟨_, rfl⟩
          have hla := (putsA_inv T _ invA_new).2
          have hlb := (putsA_inv B _ invA_new).2
          have hp := HP4.out
          have hq := HQ4.out
          have hbl := HBL.out
          rw [ha] at q1 q2 q3 q4 hp hla
          rw [hb] at q1 q2 q3 q4 hq hlb
          have HLA := Aside0.mk (show a.L.length ≤ 1000000 from by simp at hla; omega)
          have HLB := Aside0.mk (show b.L.length ≤ 1000000 from by simp at hlb; omega)
          have HQ1 := Aside0.mk q1
          have HQ2 := Aside0.mk q2
          have HQ3 := Aside0.mk q3
          have HQ4' := Aside0.mk q4
          have HPa := Aside0.mk hp
          have HQb := Aside0.mk hq
          clear q1 q2 q3 q4 hp hq hla hlb hbl ha hb HP4 HQ4 HO1 HO2 HBL HMEM HNS HCT
          go_wp2_with fail
          refine (poolOps Sp gp a _ HPa.out (by have := HLA.out; omega)).mono ?_
          rintro e w5 ⟨v10, rfl, hr5, hb5⟩
          obtain ⟨A10, c10, rfl, l10, C10⟩ := Kd.R_reads hr5
          have HCA := Aside0.mk C10
          have HB5 := Aside0.mk (show Below w.heap.size w w5 from HB4.out.trans (hb5.mono HB4.out.size))
          have HPa5 := Aside0.mk (HPa.out.below hb5)
          have HQb5 := Aside0.mk (HQb.out.below hb5)
          clear hr5 l10 C10 hb5 HPa HQb HB4
          go_wp2_with fail
          refine (poolOps Sq gq b _ HQb5.out (by have := HLB.out; omega)).mono ?_
          rintro e w6 ⟨v11, rfl, hr6, hb6⟩
          obtain ⟨A11, c11, rfl, l11, C11⟩ := Kd.R_reads hr6
          have HCB6 := Aside0.mk C11
          have HCA6 := Aside0.mk (Kd.C_below HCA.out hb6)
          have HB6 := Aside0.mk (show Below w.heap.size w w6 from HB5.out.trans (hb6.mono HB5.out.size))
          have HPa6 := Aside0.mk (HPa5.out.below hb6)
          have HQb6 := Aside0.mk (HQb5.out.below hb6)
          clear hr6 l11 C11 hb6 HPa5 HQb5 HB5 HCA
          rw [HQ1.out]
          go_wp2_with fail
          refine (poolWaits Sp gp a _ HPa6.out).mono ?_
          rintro e w7 ⟨rfl, rfl⟩
          go_wp2_with fail
          refine (poolWaits Sq gq b _ HQb6.out).mono ?_
          rintro e w7 ⟨rfl, rfl⟩
          rw [HQ2.out]
          go_wp2_with fail
          refine (poolKnown Sp gp a _ HPa6.out).mono ?_
          rintro e w7 ⟨v78, rfl, hr7, hb7⟩
          obtain ⟨A78, c78, rfl, l78, C78⟩ := Kd.R_reads hr7
          have HC78 := Aside0.mk C78
          have HL78 := Aside0.mk l78
          have HB7 := Aside0.mk (show Below w.heap.size w w7 from HB6.out.trans (hb7.mono HB6.out.size))
          have HQb7 := Aside0.mk (HQb6.out.below hb7)
          have HCA7 := Aside0.mk (Kd.C_below HCA6.out hb7)
          have HCB7 := Aside0.mk (Kd.C_below HCB6.out hb7)
          have HIA := Aside0.mk HPa6.out.inv
          have HIBb := Aside0.mk HQb6.out.inv
          clear hr7 C78 l78 hb7 HPa6 HQb6 HB6 HCA6 HCB6
          go_wp2_with fail
          refine (poolKnown Sq gq b _ HQb7.out).mono ?_
          rintro e w8 ⟨v80, rfl, hr8, hb8⟩
          obtain ⟨A80, c80, rfl, l80, C80⟩ := Kd.R_reads hr8
          have HC80 := Aside0.mk C80
          have HL80 := Aside0.mk l80
          have HC788 := Aside0.mk (Kd.C_below HC78.out hb8)
          have HB8 := Aside0.mk (show Below w.heap.size w w8 from HB7.out.trans (hb8.mono HB7.out.size))
          have HCA8 := Aside0.mk (Kd.C_below HCA7.out hb8)
          have HCB8 := Aside0.mk (Kd.C_below HCB7.out hb8)
          clear hr8 C80 l80 hb8 HQb7 HB7 HCA7 HCB7 HC78
          go_wp2_with fail
          refine (pannierref07_Same.calls 1000 A78 c78 a.K A80 c80 b.K true _ HC788.out HL78.out HC80.out HL80.out (by rw [refSame_f _ _ (by have := (rightS_le HIA.out.known).1; omega) _ (by have := (rightS_le HIA.out.known).1; omega), HQ3.out]; simp)).mono ?_
          rintro e w9 ⟨rfl, hd9⟩
          have HB9 := Aside0.mk (show Below w.heap.size w w9 from HB8.out.trans (hd9.below.mono HB8.out.size))
          have HCA9 := Aside0.mk (Kd.C_below HCA8.out hd9.below)
          have HCB9 := Aside0.mk (Kd.C_below HCB8.out hd9.below)
          have HW9 := Aside0.mk (Below.refl w9.heap.size w9)
          clear hd9 HB8 HCA8 HCB8 HC788 HC80 HL78 HL80
          rw [HQ1.out] at HCA9
          go_wp2
          go_loopw [12] (fun v12 wr3 => ∃ i : Nat, v12 = .int .i64 i ∧ i ≤ b.L.length ∧ Aside0 (Below w9.heap.size w9 wr3)) (fun v12 _ => b.L.length - (intOf v12).toNat)
          case atStart => exact ⟨0, rfl, by omega, HW9⟩
          case round =>
            clear HW9
            obtain ⟨i, rfl, hile, HBi⟩ := hrel
            by_cases hlt : i < b.L.length
            · obtain ⟨x, hx⟩ : ∃ x, rd_T36 a.L (i : Int) = x := ⟨_, rfl⟩
              have hxa : x ∈ a.L := by rw [← hx]; exact rd_mem36 a.L i (by rw [HQ1.out]; exact hlt)
              have HXA := Aside0.mk hxa
              have HX := Aside0.mk hx
              have hib : i < 1000000 := by have := HLB.out; omega
              clear hxa hx
              go_wp2
              go_loopw [13, 14] (fun v13 v14 wr4 => ∃ (mt : Bool) (q : Nat), v13 = .bool mt ∧ v14 = .int .i64 q ∧ q ≤ b.L.length ∧ Aside0 (mt = false → ∀ p, p < q → rd_T36 b.L (p : Int) ≠ x) ∧ Aside0 (Below w9.heap.size w9 wr4)) (fun _ v14 _ => b.L.length - (intOf v14).toNat)
              case atStart => exact ⟨false, 0, rfl, rfl, by omega, ⟨fun _ p hp => by omega⟩, HBi⟩
              case round =>
                clear HBi
                obtain ⟨mt, q, rfl, rfl, hqle, HM, HBq⟩ := hrel
                cases mt with
                | true =>
                  go_wp2
                  all_goals
                    go_round
                    case rel => exact ⟨i + 1, by go_num, by omega, HBq⟩
                    case measure => simp [intOf]; omega
                | false =>
                  by_cases hqlt : q < b.L.length
                  · obtain ⟨ad, A2, c2, A7, c7, hA, hop⟩ := opAt (Kd.C_below HCA9.out HBq.out) i hlt
                    obtain ⟨bd, B2, d2, B7, d7, hB, hoq⟩ := opAt (Kd.C_below HCB9.out HBq.out) q hqlt
                    cases hA
                    cases hB
                    obtain ⟨y, hy⟩ : ∃ y, rd_T36 b.L (q : Int) = y := ⟨_, rfl⟩
                    have hyb : y ∈ b.L := by rw [← hy]; exact rd_mem36 b.L q hqlt
                    rw [HX.out] at hop
                    rw [hy] at hoq
                    have HSM := Aside0.mk (sameO_of (HIA.out.right x (List.mem_append_left _ HXA.out)) (HIBb.out.right y (List.mem_append_left _ hyb)))
                    have HOP := Aside0.mk hop
                    have HOQ := Aside0.mk hoq
                    have HY := Aside0.mk hy
                    have hb3 : 0 ≤ (i : Int) ∧ (i : Int) < (b.L.length : Int) := by omega
                    have hb4 : 0 ≤ (q : Int) ∧ (q : Int) < (b.L.length : Int) := by omega
                    clear hyb hy hop hoq
                    go_wp2
                    rename World => wq
                    have hdr : Below wq.heap.size wq wq.drew := below_drew1 (Below.refl _ wq)
                    refine start_ (n := 10) (ds := []) (S := fun w' => OpAt w' (ad.add (i * 8)) x A2 c2 A7 c7 ∧ OpAt w' (bd.add (q * 8)) y B2 d2 B7 d7) _ (by kernel_rfl) rfl rfl ⟨HOP.out.below hdr, HOQ.out.below hdr⟩ (fun hH => ?_)
                    refine XReg.pu 0 100 (h := ?_)
                    refine XReg.pu 1 101 (h := ?_)
                    refine XReg.pu 2 102 (h := ?_)
                    refine XReg.tk 3 103 (hy := by (intro w' hS_; obtain ⟨⟨s0, s1, s2, s3, s4, s5, s6, s7, _, _, _, _⟩, _⟩ := hS_; go_simp; with_reducible rfl)) (h := ?_)
                    refine XReg.pu 4 104 (h := ?_)
                    refine XReg.pu 5 105 (h := ?_)
                    refine XReg.pu 6 106 (h := ?_)
                    refine XReg.tk 7 107 (hy := by (intro w' hS_; obtain ⟨_, ⟨s0, s1, s2, s3, s4, s5, s6, s7, _, _, _, _⟩⟩ := hS_; go_simp; with_reducible rfl)) (h := ?_)
                    refine oneL (i := 8) (some 108) rfl rfl (by kernel_rfl) (by decide) (fun Kc hKc => ?_)
                    refine goes_ Try.func30 (by kernel_rfl) rfl #[.agg #[.string x.f0.f0, .int .i64 x.f0.f1, .slice A2 x.f1.length c2, .string x.f2, .int .i64 x.f3, .string x.f4, .int .i64 x.f5, .slice A7 x.f6.length c7], .agg #[.string y.f0.f0, .int .i64 y.f0.f1, .slice B2 y.f1.length d2, .string y.f2, .int .i64 y.f3, .string y.f4, .int .i64 y.f5, .slice B7 y.f6.length d7]] (by rfl) rfl rfl (by (try simp only [List.map_toArray, List.map_cons, List.map_nil]); first | done | rfl) ?_
                    refine (sameO_calls x y A2 c2 A7 c7 B2 d2 B7 d7 _ HOP.out.l2 (Kd.C_drew HOP.out.g2) HOP.out.l7 (Kd.C_drew HOP.out.g7) HOQ.out.l2 (Kd.C_drew HOQ.out.g2) HOQ.out.l7 (Kd.C_drew HOQ.out.g7)).mono ?_
                    rw [HSM.out]
                    rintro e w10 ⟨rfl, hb10⟩
                    refine ⟨_, rfl, ?_⟩
                    have hb10' : Below wq.heap.size wq w10 := ⟨hb10.os, hb10.tape, hb10.output, hb10.size, hb10.block⟩
                    refine hKc.out _ _ ⟨HOP.out.below hb10', HOQ.out.below hb10'⟩ (fun hH2 => ?_)
                    have HB10 := Aside0.mk (show Below w9.heap.size w9 w10 from HBq.out.trans (hb10'.mono HBq.out.size))
                    clear hKc Kc hH hH2 hb10 hb10' hdr
                    refine XReg.pu 9 13 (h := ?_)
                    refine done_ (by kernel_rfl) ?_
                    have hqb : q < 1000000 := by have := HLB.out; omega
                    go_wp2
                    go_round
                    case rel =>
                      refine ⟨decide (x = y), q + 1, rfl, by go_num, by omega, ⟨fun hm p hp => ?_⟩, HB10⟩
                      by_cases hpq : p < q
                      · exact HM.out (by first | rfl | trivial) p hpq
                      · have : p = q := by omega
                        subst this
                        rw [HY.out]
                        intro he
                        simp [he] at hm
                    case measure => simp [intOf]; omega
                  · exfalso
                    have hxb := HQ4'.out x HXA.out
                    obtain ⟨p, hp, hpe⟩ := List.mem_iff_getElem.1 hxb
                    refine HM.out (by first | rfl | trivial) p (by omega) ?_
                    rw [← hpe]
                    unfold rd_T36
                    simp [List.getD, hp]
            · go_wp2
              go_ret
              exact ⟨rfl, HB9.out.trans (HBi.out.mono HB9.out.size)⟩
        · have h12 : (!o1) = true ∨ (!o2) = true := by cases o1 <;> cases o2 <;> simp at hoo ⊢
          have HBx := HB4
          cases o1 <;> cases o2 <;> first | (exfalso; exact hoo ⟨rfl, rfl⟩) | (clear hoo h12; go_wp2; go_ret; exact ⟨rfl, HB4.out⟩)
end Go.Proofs.Ytenbkljgmgdegaa.PO
