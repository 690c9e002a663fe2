/- What the rows of this claim use, out of the texts of this work (OI). No condition beyond those that each statement names. -/
import Derived.Test.YtenbkljgmgdegaaQiOP
namespace Go.Proofs.Ytenbkljgmgdegaa.PO
open Go.RowKit Go.Proofs.YtenbkljgmgdegaaW.PrintWords Go.Proofs.YtenbkljgmgdegaaW.PrintLast Go.Proofs.YtenbkljgmgdegaaW.PrintMore Go.Proofs.Ytenbkljgmgdegaa.XW
open Go.Proofs.Ytenbkljgmgdegaa.XRange Go.Proofs.Ytenbkljgmgdegaa.XMap Go.Proofs.Ytenbkljgmgdegaa.XSeq
set_option linter.unusedVariables false
set_option linter.unusedSimpArgs false
set_option maxHeartbeats 8000000 in
set_option maxRecDepth 100000 in
theorem refBehind (w0 : World) (R : Nat → Prop) (g : Nat) (a : AP) (A : Option Addr) (c : Nat) (V : List S34) (w : World) (hp : RefS w0 R g a w) (hW : Below w0.heap.size w0 w) (hL : a.L.length ≤ 1000000000000) (hC : Kd.C k34 w A V.length V) (hc : V.length ≤ c) (hz : sizes maxLen V) :
    Calls Try.prog 20 #[.pointer (some ⟨g, 0, none⟩), .slice A V.length c] w fun e w' => ∃ v, e = .returned (.tuple #[v, .int .i64 (if rightS V = true then 0 else 2)]) ∧ Kd.R (kAt w0) 36 w' w.heap.size (fun _ => True) v (if rightS V = true then behA V a.L else []) ∧ Below w.heap.size w w' := by
  obtain ⟨⟨vl, vk, vw, hat⟩, _, _, hi⟩ := hp
  have hright := hi.right
  obtain ⟨Al, cl, rfl, ll, Cl⟩ := Kd.R_reads hat.rl
  have hvl := hC.2.1
  obtain ⟨m, hm, hmz, hm0⟩ : ∃ m, m ≤ 9223372036854775807 ∧ sizes m V ∧ 1000 ≤ m := ⟨maxLen, by unfold maxLen; omega, hz, by unfold maxLen; omega⟩
  have hR := refRight_f V hvl m hm hmz (V.length + m + 3) (by omega)
  have HH := Aside0.mk (fun (n : ByteArray) (d : Int) (hn : n.size ≤ 64) => refHas_f V hvl n d m hm hmz (by omega) (V.length + m + 3) (by omega))
  obtain ⟨k, hk⟩ : ∃ k, V.length + m + 3 = k := ⟨_, rfl⟩
  rw [hk] at hR HH
  have HC := Aside0.mk hC
  have HCL := Aside0.mk hc
  have HR := Aside0.mk hR
  have HLL0 := Aside0.mk ll
  have HCl := Aside0.mk Cl
  have BK := Aside0.mk hat.blk
  have HRT := Aside0.mk (show ∀ x ∈ a.L, rightO x = true from fun x hx => hright x (List.mem_append_left _ hx))
  have HLL := Aside0.mk hL
  clear hC hc hR hright hL hvl hat hi hm hmz hm0 hk ll Cl hz hW
  cases hrv : rightS V with
  | false =>
    have HRV := Aside0.mk hrv
    clear hrv
    go_enter Try.func20, Try.ntmps20
    go_wp2_with fail
    refine (pannierref07_Right.calls k A c V false _ HC.out HCL.out (by rw [HR.out, HRV.out])).mono ?_
    rintro e w1 ⟨rfl, hb⟩
    have HB := Aside0.mk hb
    clear hb
    go_wp2
    go_ret2
    exact ⟨_, rfl, by simpa using Kd.R_nil _ _ _ _ _, HB.out⟩
  | true =>
    have HRV := Aside0.mk hrv
    clear hrv
    go_enter Try.func20, Try.ntmps20
    go_wp2_with fail
    refine (pannierref07_Right.calls k A c V true _ HC.out HCL.out (by rw [HR.out, HRV.out])).mono ?_
    rintro e w1 ⟨rfl, hb⟩
    have HB := Aside0.mk hb
    clear hb
    go_wp2
    go_loopw [7, 8] (fun v7 v8 wr => ∃ i : Nat, v8 = .int .i64 i ∧ i ≤ a.L.length ∧ Aside0 (Kd.R (kAt w0) 36 wr w.heap.size (fun _ => True) v7 (behA V (a.L.take i))) ∧ Aside0 (Below w.heap.size w wr)) (fun _ v8 _ => a.L.length - (intOf v8).toNat)
    case atStart => exact ⟨0, rfl, by omega, ⟨Kd.R_nil _ _ _ _ _⟩, ⟨HB.out⟩⟩
    case round =>
      obtain ⟨i, rfl, hile, HRi, HBi⟩ := hrel
      obtain ⟨Ao, co, hv6⟩ := Kd.R_slice HRi.out
      subst hv6
      have cg : wr.cell? ⟨g, 0, none⟩ = some (.slice Al a.L.length cl) := (blk_cell (blk_below BK.out HBi.out) 0).trans rfl
      by_cases hlt : i < a.L.length
      · obtain ⟨gl, A2, c2, A7, c7, rfl, hop⟩ := opAt0 HCl.out i hlt
        obtain ⟨x, hx⟩ : ∃ x, rd_T36 a.L (i : Int) = x := ⟨_, rfl⟩
        rw [hx] at hop
        have HXR := Aside0.mk (rightO_parts (HRT.out x (by rw [← hx]; exact rd_mem36 _ _ hlt)))
        have hgx : a.L.getD i z36 = x := by rw [← hx]; rfl
        have HSN := Aside0.mk (show behA V (a.L.take (i + 1)) = if atS x.f0.f0 V < x.f0.f1 then behA V (a.L.take i) ++ [x] else behA V (a.L.take i) from by rw [← hgx]; exact behA_snoc V a.L i hlt)
        have HOP := Aside0.mk hop
        obtain ⟨e0, e1, e2, e3, e4, e5, e6, e7, _, _, _, _⟩ := hop.below HBi.out
        clear hx hgx hop
        go_wp2_with fail
        refine (pannierref07_Has.calls k A c V x.f0.f0 x.f0.f1 (decide (x.f0.f1 ≤ atS x.f0.f0 V)) _ (Kd.C_below HC.out HBi.out) HCL.out (by
          rw [HH.out _ _ (dot_size (d := x.f0.f1) HXR.out.1)]
          unfold hasS
          rw [HRV.out, show dotOk ⟨x.f0.f0, x.f0.f1⟩ = true from HXR.out.1]
          simp)).mono ?_
        rintro e' w4 ⟨rfl, hb4⟩
        have HB4 := Aside0.mk (show Below w.heap.size w w4 from HBi.out.trans (hb4.mono HBi.out.size))
        have HRo4 := Aside0.mk (Kd.R_below HRi.out hb4)
        clear hb4 cg e0 e1 e2 e3 e4 e5 e6 e7 HRi HBi
        obtain ⟨e0, e1, e2, e3, e4, e5, e6, e7, _, _, _, _⟩ := HOP.out.below HB4.out
        have cg : w4.cell? ⟨g, 0, none⟩ = some (.slice (some gl) a.L.length cl) := (blk_cell (blk_below BK.out HB4.out) 0).trans rfl
        have hib : i < 1000000000000 := by have := HLL.out; omega
        obtain ⟨bq, hbq⟩ : ∃ b, decide (x.f0.f1 ≤ atS x.f0.f0 V) = b := ⟨_, rfl⟩
        rw [hbq]
        cases bq with
        | false =>
          have hat : atS x.f0.f0 V < x.f0.f1 := by have h := of_decide_eq_false hbq; omega
          clear hbq
          have hsn := HSN.out
          rw [if_pos hat] at hsn
          have HSN2 := Aside0.mk hsn
          have HM5 := Aside0.mk (show k36.K w0 x [.string x.f0.f0, .int .i64 x.f0.f1, .slice A2 x.f1.length c2, .string x.f2, .int .i64 x.f3, .string x.f4, .int .i64 x.f5, .slice A7 x.f6.length c7] from kAt_of HOP.out.l2 HOP.out.g2 HOP.out.l7 HOP.out.g7)
          have HLN := Aside0.mk (show ((behA V (List.take i a.L)).length + 1) * 120 ≤ 140737488355328 from by
            have h1 := behA_len V (a.L.take i)
            have h2 : (a.L.take i).length ≤ i := List.length_take_le _ _
            have h3 := HLL.out
            omega)
          clear hsn HSN hat
          go_wp2_with ((with_reducible refine gate_builtin (b := .append) (xs := #[.tmp 35, .tmp 43]) rfl ?_); at_builtin; refine Kd.R_append (kAt w0) (w0 := w) w.heap.size rfl (.tmp 35) (.tmp 43) 22 36 _ 120 rfl Try.underlying22 info36 rfl (by show 0 < 8; omega) (by omega) _ (behA V (List.take i a.L)) x _ (fun _ => True) (fun k => True ∧ some k ≠ (Value.slice Ao (behA V (List.take i a.L)).length co).ownBlock) rfl rfl HM5.out (fun k hk => hk) (fun _ _ => trivial) HRo4.out HB4.out HB4.out.size HLN.out ?_; intro v1 w6 ho6 hb6 hg6 hat6)
          have HR6 := Aside0.mk ho6
          have HB6 := Aside0.mk hb6
          clear ho6 hb6 hg6 hat6
          go_round
          case rel => exact ⟨i + 1, by go_num, by omega, ⟨by rw [HSN2.out]; exact HR6.out⟩, ⟨HB6.out⟩⟩
          case measure => simp [intOf]; omega
        | true =>
          have hat : ¬ atS x.f0.f0 V < x.f0.f1 := by have h := of_decide_eq_true hbq; omega
          clear hbq
          have hsn := HSN.out
          rw [if_neg hat] at hsn
          have HSN2 := Aside0.mk hsn
          clear hsn HSN hat
          go_wp2
          go_round
          case rel => exact ⟨i + 1, by go_num, by omega, ⟨by rw [HSN2.out]; exact HRo4.out⟩, ⟨HB4.out⟩⟩
          case measure => simp [intOf]; omega
      · have hlt' : a.L.take i = a.L := List.take_of_length_le (by omega)
        have HT := Aside0.mk hlt'
        clear hlt'
        go_wp2
        go_ret2
        refine ⟨_, rfl, ?_, HBi.out⟩
        show (kAt w0).R 36 wr w.heap.size (fun _ => True) (.slice Ao (behA V (List.take i a.L)).length co) _
        rw [HT.out]
        have := HRi.out
        rw [HT.out] at this
        exact this
set_option maxHeartbeats 8000000 in
set_option maxRecDepth 100000 in
theorem orderBehind_calls (w : World) (A : Option Addr) (c : Nat) (l : List S36) (A1 : Option Addr) (c1 : Nat) (V : List S34) (hC : Kd.C k36 w A l.length l) (hc : l.length ≤ c) (hwf : ∀ a, a ∈ l → WfOp a) (hV : Kd.C k34 w A1 V.length V) (hvc : V.length ≤ c1) (hvz : ∀ a, a ∈ V → a.f0.size ≤ maxLen) :
    Calls Try.prog 3 #[.slice A l.length c, .slice A1 V.length c1] w fun e w' => e = .returned (.bool true) ∧ Below w.heap.size w w' := by
  have hlm := hC.2.1
  have HC := Aside0.mk hC
  have HWF := Aside0.mk hwf
  have HV := Aside0.mk hV
  have HVC := Aside0.mk hvc
  have HVZ := Aside0.mk (show sizes maxLen V from hvz)
  clear hC hwf hc hV hvc hvz
  go_enter Try.func3, Try.ntmps3
  go_wp2_with fail
  refine (shown_calls _).mono ?_
  rintro e w1 ⟨rfl, hb1⟩
  have HB1 := Aside0.mk hb1
  clear hb1
  go_wp2_with fail
  refine (poolNew _).mono ?_
  rintro e w2 ⟨rfl, hp2, hb2⟩
  obtain ⟨g, hg⟩ : ∃ g, w1.heap.size + 1 = g := ⟨_, rfl⟩
  rw [hg] at hp2 ⊢
  have HB2 := Aside0.mk (show Below w.heap.size w w2 from HB1.out.trans (hb2.mono HB1.out.size))
  have hq := refS_new w w2
  obtain ⟨w3, hw3⟩ : ∃ w3, w2.alloc (.cells #[.slice none 0 0, .slice none 0 0, .slice none 0 0] 29) = w3 := ⟨_, rfl⟩
  have hb3 : Below w2.heap.size w2 w3 := by rw [← hw3]; exact (Below.refl _ w2).alloc (Nat.le_refl _) _
  rw [hw3] at hq
  obtain ⟨q, hqq⟩ : ∃ q, w2.heap.size = q := ⟨_, rfl⟩
  have HT3 := Aside0.mk (show ∃ S R, Two w g q (runA (l.take 0)) (runA (l.take 0)) w3 S R from ⟨_, _, hp2.below hb3, by rw [← hqq]; exact hq, fun k hk => by have := HB1.out.size; omega, fun k hk => by have := HB2.out.size; omega, fun k hk hk' => by have := hp2.lt k hk; omega⟩)
  have HB3 := Aside0.mk (show Below w.heap.size w w3 from HB2.out.trans (hb3.mono HB2.out.size))
  clear hp2 hb2 hg hq hb3
  go_wp2
  try rw [hw3]
  try rw [hqq]
  clear hw3 hqq
  go_loopw [8] (fun v8 wr => ∃ i : Nat, v8 = .int .i64 i ∧ i ≤ l.length ∧ i ≤ 200 ∧ Aside0 (∃ S R, Two w g q (runA (l.take i)) (runA (l.take i)) wr S R) ∧ Aside0 (Below w.heap.size w wr)) (fun v8 _ => 200 - (intOf v8).toNat)
  case atStart => exact ⟨0, rfl, by omega, by omega, HT3, HB3⟩
  case round =>
    clear HT3 HB3
    obtain ⟨i, rfl, hile, hi2, HTi, HBi⟩ := hrel
    by_cases hlt : i < l.length ∧ i < 200
    · obtain ⟨hlt, hlt2⟩ := hlt
      obtain ⟨S, R, ht⟩ := HTi.out
      obtain ⟨ad, A2, c2, A7, c7, rfl, ⟨e0, e1, e2, e3, e4, e5, e6, e7, l2, g2, l7, g7⟩, g20, g70⟩ := opAt_then HC.out HBi.out i hlt
      obtain ⟨x, hx⟩ : ∃ x, rd_T36 l (i : Int) = x := ⟨_, rfl⟩
      obtain ⟨a, ha⟩ : ∃ a, runA (l.take i) = a := ⟨_, rfl⟩
      have hsn := runA_snoc l i hlt
      have hinv := (runA_inv (l.take i)).1
      have hll := (runA_inv (l.take i)).2
      have htl : (l.take i).length ≤ 200 := by rw [List.length_take]; omega
      rw [ha] at ht hsn hinv hll
      rw [hx] at e0 e1 e2 e3 e4 e5 e6 e7 l2 g2 l7 g7 g20 g70 hsn
      have HX := Aside0.mk hx
      have HWX := Aside0.mk (show WfOp x from by rw [← hx]; exact HWF.out _ (rd_mem36 _ _ hlt))
      have HSN := Aside0.mk hsn
      have HLL := Aside0.mk (show a.L.length ≤ 900000000000 from by omega)
      have HT := Aside0.mk ht
      have HG2 := Aside0.mk g2
      have HG7 := Aside0.mk g7
      have HG20 := Aside0.mk g20
      have HG70 := Aside0.mk g70
      have HL2 := Aside0.mk l2
      have HL7 := Aside0.mk l7
      clear ht g2 g7 l2 l7 g20 g70 hx hsn hinv hll htl ha HTi
      go_wp2_with fail
      refine (poolPut S g a x A2 A7 c2 c7 _ HT.out.p HLL.out HG2.out HL2.out HG7.out HL7.out).mono ?_
      rintro e w4 ⟨S4, rfl, hp4, hs4, hk4⟩
      have HB4 := Aside0.mk (below_keeps HBi.out (fun k hk => HT.out.s0 k hk) HBi.out.size hk4)
      have HT4 := Aside0.mk (HT.out.poolStep HBi.out hp4 hs4 hk4)
      clear hp4 hs4 hk4 e0 e1 e2 e3 e4 e5 e6 e7 HT HG2 HG7 HBi
      obtain ⟨ad', A2', c2', A7', c7', hadd, ⟨e0, e1, e2, e3, e4, e5, e6, e7, l2, g2, l7, g7⟩, g20, g70⟩ := opAt_then HC.out HB4.out i hlt
      cases hadd
      rw [HX.out] at e0 e1 e2 e3 e4 e5 e6 e7 l2 g2 l7 g7 g20 g70
      have HG20' := Aside0.mk g20
      have HG70' := Aside0.mk g70
      have HL2' := Aside0.mk l2
      have HL7' := Aside0.mk l7
      clear l2 g2 l7 g7 g20 g70 HG20 HG70 HL2 HL7
      go_wp2_with fail
      refine (refPut w R q a x A2' c2' A7' c7' _ HT4.out.r HB4.out HL2'.out HG20'.out HL7'.out HG70'.out HWX.out HLL.out HT4.out.r0).mono ?_
      rintro e w5 ⟨R5, rfl, hp5, hs5, hk5⟩
      have HB5 := Aside0.mk (below_keeps HB4.out (fun k hk => HT4.out.r0 k hk) HB4.out.size hk5)
      have HT5 := Aside0.mk (HT4.out.refStep HB4.out hp5 hs5 hk5)
      clear hp5 hs5 hk5 e0 e1 e2 e3 e4 e5 e6 e7 HT4 HG20' HG70' HL2' HL7' HB4 HWX HX
      have HSN' := Aside0.mk (show ∃ S R, Two w g q (runA (l.take (i + 1))) (runA (l.take (i + 1))) w5 S R from ⟨S4, R5, by rw [HSN.out]; exact HT5.out⟩)
      clear HSN HT5
      go_wp2
      go_round
      case rel => exact ⟨i + 1, by go_num, by omega, by omega, HSN', ⟨HB5.out⟩⟩
      case measure => simp [intOf]; omega
    · obtain ⟨S, R, ht⟩ := HTi.out
      obtain ⟨a, ha⟩ : ∃ a, runA (l.take i) = a := ⟨_, rfl⟩
      have hinv := (runA_inv (l.take i)).1
      have hll := (runA_inv (l.take i)).2
      have htl : (l.take i).length ≤ 200 := by rw [List.length_take]; omega
      rw [ha] at ht hinv hll
      have HI := Aside0.mk hinv
      have HLL := Aside0.mk (show a.L.length ≤ 1000000 from by omega)
      have HT := Aside0.mk ht
      clear ht hinv hll htl ha HTi
      have hcases : (i < l.length ∧ ¬ i < 200) ∨ ¬ i < l.length := by omega
      clear hlt
      rcases hcases with ⟨h1, h2⟩ | h1
      all_goals
        go_wp2_with fail
        refine (poolBehind S g a A1 c1 V _ HT.out.p (by have := HLL.out; omega) (Kd.C_below HV.out HBi.out) HVC.out).mono ?_
        rintro e w6 ⟨v9, rfl, hr9, hb6⟩
        have HB6 := Aside0.mk (show Below w.heap.size w w6 from HBi.out.trans (hb6.mono HBi.out.size))
        have HT6 := Aside0.mk (HT.out.below hb6)
        have HR9 := Aside0.mk hr9
        obtain ⟨n, hn⟩ : ∃ n : Int, (if rightS V = true then 0 else 2) = n := ⟨_, rfl⟩
        rw [hn]
        have HN := Aside0.mk hn
        clear hb6 hr9 HT HBi hn
        go_wp2_with fail
        refine (refBehind w R q a A1 c1 V _ HT6.out.r HB6.out (by have := HLL.out; omega) (Kd.C_below HV.out HB6.out) HVC.out HVZ.out).mono ?_
        rintro e w7 ⟨v11, rfl, hr11, hb7⟩
        have HB7 := Aside0.mk (show Below w.heap.size w w7 from HB6.out.trans (hb7.mono HB6.out.size))
        obtain ⟨T, hT⟩ : ∃ T, (if rightS V = true then behA V a.L else []) = T := ⟨_, rfl⟩
        have hr9 := Kd.R_below HR9.out hb7
        rw [hT] at hr9 hr11
        have HTT := Aside0.mk (show T.length ≤ 1000000 ∧ ∀ x ∈ T, rightO x = true from by
          rw [← hT]
          split
          · exact ⟨Nat.le_trans (behA_len V a.L) HLL.out, fun x hx => HI.out.right x (List.mem_append_left _ (List.mem_filter.1 hx).1)⟩
          · exact ⟨by simp, fun x hx => by simp at hx⟩)
        rw [HN.out]
        obtain ⟨A9, c9, rfl, l9, C9⟩ := Kd.R_reads hr9
        obtain ⟨A11, c11, rfl, l11, C11⟩ := Kd.R_reads hr11
        have HC9 := Aside0.mk C9
        have HC11 := Aside0.mk (kAt_C C11 HB7.out)
        have HL9 := Aside0.mk l9
        have HL11 := Aside0.mk l11
        clear hr9 hr11 hb7 C9 C11 l9 l11 HR9 HT6 HB6 hT HN HI HLL
        go_wp2_with fail
        refine (pannierref08_SameOps.calls (T.length + 200) A9 c9 T A11 c11 T true _ HC9.out HL9.out HC11.out HL11.out (by rw [sameOps_f T T (by have := HTT.out.1; omega) 128 (by omega) (rightS_big _ HTT.out.2) _ (by omega)]; simp)).mono ?_
        rintro e w8 ⟨rfl, hb8⟩
        have HB8 := Aside0.mk (show Below w.heap.size w w8 from HB7.out.trans (hb8.mono HB7.out.size))
        clear hb8
        go_wp2
        go_ret
        exact ⟨by first | rfl | simp, HB8.out⟩
end Go.Proofs.Ytenbkljgmgdegaa.PO
