/- What the rows of this claim use, out of the texts of this work (OW). No condition beyond those that each statement names. -/
import Derived.Test.YtenbkljgmgdegaaQoOL
import Derived.Test.YtenbkljgmgdegaaQoOH
namespace Go.Proofs.Ytenbkljgmgdegaa.PO
open Go.RowKit Go.Proofs.YtenbkljgmgdegaaW.PrintWords Go.Proofs.YtenbkljgmgdegaaW.PrintLast Go.Proofs.YtenbkljgmgdegaaW.PrintMore Go.Proofs.Ytenbkljgmgdegaa.XW
open Go.Proofs.Ytenbkljgmgdegaa.XRange Go.Proofs.Ytenbkljgmgdegaa.XMap Go.Proofs.Ytenbkljgmgdegaa.XSeq
set_option linter.unusedVariables false
set_option linter.unusedSimpArgs false
theorem right_sizes {v : List S34} (h : rightS v = true) : sizes 64 v := fun x hx => by
  have := rises_dot v _ (rightS_le h).2 x hx
  unfold dotOk isNameB at this
  simp only [Bool.and_eq_true, decide_eq_true_eq] at this
  omega
theorem dot_size {n : ByteArray} {d : Int} (h : dotOk ⟨n, d⟩ = true) : n.size ≤ 64 := by
  unfold dotOk isNameB at h
  simp only [Bool.and_eq_true, decide_eq_true_eq] at h
  omega
def okD (K : List S34) (x : S36) : Bool := leqS x.f1 K && decide ((withK K x).2 = 0)
theorem okD_iff {K : List S34} {x : S36} : okD K x = true ↔ leqS x.f1 K = true ∧ (withK K x).2 = 0 := by unfold okD; rw [Bool.and_eq_true, decide_eq_true_eq]
def downB : List S34 → List S36 → Bool
  | _, [] => true
  | K, x :: l => okD K x && downB (withK K x).1 l
def foldK : List S34 → List S36 → List S34
  | K, [] => K
  | K, x :: l => foldK (withK K x).1 l
theorem downB_snoc : ∀ (l : List S36) (K : List S34) (x : S36), downB K (l ++ [x]) = (downB K l && okD (foldK K l) x)
  | [], K, x => by simp [downB, foldK]
  | y :: l, K, x => by simp only [List.cons_append, downB, foldK, downB_snoc l, Bool.and_assoc]
theorem foldK_snoc : ∀ (l : List S36) (K : List S34) (x : S36), foldK K (l ++ [x]) = (withK (foldK K l) x).1
  | [], K, x => rfl
  | y :: l, K, x => by simp only [List.cons_append, foldK, foldK_snoc l]
structure InvD (s : AP) : Prop where
  down : downB [] s.L = true
  fold : foldK [] s.L = s.K
theorem invD_hand {s : AP} (h : InvD s) {x : S36} (hl : leqS x.f1 s.K = true) (hw : (withK s.K x).2 = 0) : InvD (handA s x) := by
  refine ⟨?_, ?_⟩
  · show downB [] (s.L ++ [x]) = true
    rw [downB_snoc, h.fold, h.down, okD_iff.2 ⟨hl, hw⟩]; rfl
  · show foldK [] (s.L ++ [x]) = (withK s.K x).1
    rw [foldK_snoc, h.fold]
theorem invD_drain : ∀ (f : Nat) (s : AP) (n : Nat), InvD s → InvD (drainA f s n).1
  | 0, s, n, h => h
  | f + 1, s, n, h => by
    unfold drainA
    cases hi : s.Q.findIdx? (canS s.K) with
    | none => exact h
    | some i =>
      have hc := canS_of (first_some hi).2
      exact invD_drain f _ _ (invD_hand (s := takeA s i) ⟨h.down, h.fold⟩ hc.2 hc.1)
theorem invD_put {s : AP} (hi : InvA s) (h : InvD s) (x : S36) : InvD (putA s x).2 := by
  unfold putA
  by_cases hx : rightO x = true
  · rw [if_pos hx]
    cases hn : ofDot (s.L ++ s.Q) x.f0 with
    | some y => simp only; split <;> exact h
    | none =>
      simp only
      by_cases hroom : atS x.f0.f0 s.K = 0 ∧ s.K.length = 64
      · rw [if_pos hroom]; exact h
      · rw [if_neg hroom]
        by_cases hl : leqS x.f1 s.K = true
        · rw [if_pos hl]; exact invD_drain _ _ _ (invD_hand h hl (with_of_leq hi hx hl hroom hn))
        · rw [if_neg hl]; split <;> exact ⟨h.down, h.fold⟩
  · rw [if_neg hx]; exact h
theorem invD_puts : ∀ (l : List S36) (s : AP), InvA s → InvD s → InvD (putsA l s).1
  | [], s, _, h => h
  | x :: l, s, hi, h => by
    rw [putsA_cons]
    split
    · exact invD_puts l _ (putA_inv hi x).1 (invD_put hi h x)
    · exact invD_put hi h x
set_option maxHeartbeats 8000000 in
set_option maxRecDepth 100000 in
theorem orderDown_calls (w : World) (A : Option Addr) (c : Nat) (l : List S36) (hC : Kd.C k36 w A l.length l) (hc : l.length ≤ c) (_ : ∀ a, a ∈ l → WfOp a) :
    Calls Try.prog 4 #[.slice A l.length c] w fun e w' => e = .returned (.bool true) ∧ Below w.heap.size w w' := by
  have hlm := hC.2.1
  have HC := Aside0.mk hC
  have HCL := Aside0.mk hc
  clear hC
  go_enter Try.func4, Try.ntmps4
  go_wp2_with fail
  refine (shown_calls _).mono ?_
  rintro e w1 ⟨rfl, hb1⟩
  have HB1 := Aside0.mk hb1
  clear hb1
  go_wp2_with fail
  obtain ⟨T, hT⟩ : ∃ T, l.take (min l.length 200) = T := ⟨_, rfl⟩
  have hlen : (min (l.length : Int) 200).toNat = T.length := by rw [← hT, List.length_take]; omega
  have hT200 : T.length ≤ 200 := by rw [← hT, List.length_take]; omega
  have HCT := Aside0.mk (show Kd.C k36 w1 A T.length T from by rw [← hT]; exact Kd.C_take (Kd.C_below HC.out HB1.out) (by omega))
  rw [hlen]
  clear hlen hT HC HCL hc hlm
  refine (put22_calls w1 A c T (fun W hW => Kd.C_below HCT.out hW) (by omega)).mono ?_
  rintro e w2 ⟨g, S, rfl, hp2, hS2, hb2⟩
  obtain ⟨bo, hbo⟩ : ∃ bo, (putsA T ⟨[], [], []⟩).2 = bo := ⟨_, rfl⟩
  rw [hbo]
  have HD := Aside0.mk (invD_puts T ⟨[], [], []⟩ invA_new ⟨rfl, rfl⟩)
  have HLL := Aside0.mk (show (putsA T ⟨[], [], []⟩).1.L.length ≤ 1000000 from by have := (putsA_inv T _ invA_new).2; simp at this; omega)
  obtain ⟨a, ha⟩ : ∃ a, (putsA T ⟨[], [], []⟩).1 = a := ⟨_, rfl⟩
  have hD := HD.out
  have hll := HLL.out
  rw [ha] at hp2 hD hll
  have HD' := Aside0.mk hD
  have HLL' := Aside0.mk hll
  have HP2 := Aside0.mk hp2
  have HB2 := Aside0.mk (show Below w.heap.size w w2 from HB1.out.trans (hb2.mono HB1.out.size))
  clear hp2 hb2 hbo ha hD hll HD HLL HCT HB1 hT200 hS2
  go_wp2_with fail
  refine (poolOps S g a _ HP2.out (by have := HLL'.out; omega)).mono ?_
  rintro e w3 ⟨v6, rfl, hr3, hb3⟩
  obtain ⟨A6, c6, rfl, l6, C6⟩ := Kd.R_reads hr3
  have HC6 := Aside0.mk C6
  have HB3 := Aside0.mk (show Below w.heap.size w w3 from HB2.out.trans (hb3.mono HB2.out.size))
  have HP3 := Aside0.mk (HP2.out.below hb3)
  have HW3 := Aside0.mk (Below.refl w3.heap.size w3)
  clear hr3 C6 l6 hb3 HP2 HB2
  go_wp2
  go_loopw [7, 8] (fun v7 v8 wr => ∃ (i : Nat) (K : List S34), v8 = .int .i64 i ∧ i ≤ a.L.length ∧ Aside0 (downB K (a.L.drop i) = true ∧ foldK K (a.L.drop i) = a.K ∧ rightS K = true) ∧ Aside0 (Kd.R k34 34 wr w3.heap.size (fun _ => True) v7 K) ∧ Aside0 (Below w3.heap.size w3 wr)) (fun _ v8 _ => a.L.length - (intOf v8).toNat)
  case atStart => exact ⟨0, [], rfl, by omega, ⟨HD'.out.down, HD'.out.fold, rightS_nil⟩, ⟨Kd.R_nil _ _ _ _ _⟩, HW3⟩
  case round =>
    clear HW3
    obtain ⟨i, K, rfl, hile, HK, HRi, HBi⟩ := hrel
    obtain ⟨hdn, hfo, hrK⟩ := HK.out
    obtain ⟨A7, c7, rfl, l7', C7⟩ := Kd.R_reads HRi.out
    have HC7 := Aside0.mk C7
    have HL7' := Aside0.mk l7'
    have HRK := Aside0.mk hrK
    have hKl := (rightS_le hrK).1
    clear C7 l7' hrK HK
    by_cases hlt : i < a.L.length
    · obtain ⟨ad, A2, c2, A7', c7', rfl, e0, e1, e2, e3, e4, e5, e6, e7, l2, g2, l7, g7⟩ := opAt (Kd.C_below HC6.out HBi.out) i hlt
      obtain ⟨x, hx⟩ : ∃ x, rd_T36 a.L (i : Int) = x := ⟨_, rfl⟩
      rw [hx] at e0 e1 e2 e3 e4 e5 e6 e7 l2 g2 l7 g7
      rw [rd_drop36 a.L i hlt, hx] at hdn hfo
      simp only [downB, foldK, Bool.and_eq_true] at hdn hfo
      obtain ⟨hok, hdn⟩ := hdn
      obtain ⟨hle, hwi⟩ := okD_iff.1 hok
      clear hok
      have hxr := (leqS_right hle).1
      have hxl := (rightS_le hxr).1
      have hxd := (withS_ok hwi).2.1
      obtain ⟨K', hK'⟩ : ∃ K', (withK K x).1 = K' := ⟨_, rfl⟩
      have hW : withS K x.f0.f0 x.f0.f1 = (K', 0) := by rw [← hK', ← hwi]; rfl
      have hrK' : rightS K' = true := by rw [← hK']; exact withS_right hwi
      rw [hK'] at hdn hfo
      have HL := Aside0.mk (show pannierref07_Leq.f 1000 x.f1 K = some true from by rw [refLeq_f x.f1 K 64 (by omega) hxl hKl (right_sizes hxr) (right_sizes HRK.out) 1000 (by omega), hle])
      have HWi := Aside0.mk (show pannierref07_With.f 1000 K x.f0.f0 x.f0.f1 = some (K', 0) from by rw [refWith_f K (by omega) 64 (by omega) (right_sizes HRK.out) x.f0.f0 (dot_size hxd) x.f0.f1 1000 (by omega), hW])
      have HDN := Aside0.mk hdn
      have HFO := Aside0.mk hfo
      have HRK' := Aside0.mk hrK'
      have HG2 := Aside0.mk g2
      have HL2 := Aside0.mk l2
      have HIB := Aside0.mk (show i < 1000000 from by have := HLL'.out; omega)
      clear hdn hfo hle hwi hxr hxl hxd hK' hW hrK' g2 l2 g7 l7 hx e3 e4 e5 e6 e7 hKl
      go_wp2_with fail
      refine (pannierref07_Leq.calls 1000 A2 c2 x.f1 A7 c7 K true _ HG2.out HL2.out HC7.out HL7'.out HL.out).mono ?_
      rintro e w5 ⟨rfl, hb5⟩
      have f0 := (hb5.cell (World.block_lt_of_cell? _ _ e0)).trans e0
      have f1 := (hb5.cell (World.block_lt_of_cell? _ _ e1)).trans e1
      have HB5 := Aside0.mk (show Below w3.heap.size w3 w5 from HBi.out.trans (hb5.mono HBi.out.size))
      have HC75 := Aside0.mk (Kd.C_below HC7.out hb5)
      clear hb5 e0 e1 e2 HG2 HC7 HL HBi HRi
      go_wp2_with fail
      refine (pannierref07_With.calls 1000 A7 c7 K x.f0.f0 x.f0.f1 K' 0 _ HC75.out HL7'.out HWi.out).mono ?_
      rintro e w6 ⟨v9, rfl, hr6, hb6⟩
      have HB6 := Aside0.mk (show Below w3.heap.size w3 w6 from HB5.out.trans (hb6.mono HB5.out.size))
      have HR6 := Aside0.mk (Kd.R_lower hr6 HB5.out.size)
      clear hr6 hb6 f0 f1 HC75
      have hib := HIB.out
      go_wp2
      go_round
      case rel => exact ⟨i + 1, K', by go_num, by omega, ⟨HDN.out, HFO.out, HRK'.out⟩, ⟨HR6.out⟩, ⟨HB6.out⟩⟩
      case measure => simp [intOf]; omega
    · rw [List.drop_eq_nil_of_le (by omega)] at hfo
      simp only [foldK] at hfo
      have HFO := Aside0.mk hfo
      have HP := Aside0.mk (HP3.out.below HBi.out)
      clear hfo hdn HRi
      go_wp2_with fail
      refine (poolKnown S g a _ HP.out).mono ?_
      rintro e w5 ⟨v9, rfl, hr5, hb5⟩
      obtain ⟨A9, c9, rfl, l9, C9⟩ := Kd.R_reads hr5
      rw [← HFO.out] at C9 l9 ⊢
      have HC9 := Aside0.mk C9
      have HL9 := Aside0.mk l9
      have HC75 := Aside0.mk (Kd.C_below HC7.out hb5)
      have HB5 := Aside0.mk (show Below w.heap.size w w5 from (HB3.out.trans (HBi.out.mono HB3.out.size)).trans (hb5.mono (Nat.le_trans HB3.out.size HBi.out.size)))
      clear hr5 C9 l9 hb5 HC7
      go_wp2_with fail
      refine (pannierref07_Same.calls 1000 A7 c7 K A9 c9 K true _ HC75.out HL7'.out HC9.out HL9.out (by rw [refSame_f _ _ (by omega) _ (by omega)]; simp)).mono ?_
      rintro e w6 ⟨rfl, hd6⟩
      have HB6 := Aside0.mk (show Below w.heap.size w w6 from HB5.out.trans (hd6.below.mono HB5.out.size))
      clear hd6
      go_wp2
      go_ret
      exact ⟨rfl, HB6.out⟩
end Go.Proofs.Ytenbkljgmgdegaa.PO
