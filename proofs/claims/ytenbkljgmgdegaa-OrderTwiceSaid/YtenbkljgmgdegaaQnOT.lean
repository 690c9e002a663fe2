/- What the rows of this claim use, out of the texts of this work (YtenbkljgmgdegaaOT). No condition beyond those that each statement names. -/
import Derived.Test.YtenbkljgmgdegaaQnOG
import Derived.Test.YtenbkljgmgdegaaQnOF
namespace Go.Proofs.Ytenbkljgmgdegaa.PO
open Go.RowKit Go.Proofs.YtenbkljgmgdegaaW.PrintWords Go.Proofs.YtenbkljgmgdegaaW.PrintLast Go.Proofs.YtenbkljgmgdegaaW.PrintMore Go.Proofs.Ytenbkljgmgdegaa.XW
open Go.Proofs.Ytenbkljgmgdegaa.XRange Go.Proofs.Ytenbkljgmgdegaa.XMap Go.Proofs.Ytenbkljgmgdegaa.XSeq
set_option linter.unusedVariables false
set_option linter.unusedSimpArgs false
structure OpAt (w : World) (p : Addr) (x : S36) (A2 : Option Addr) (c2 : Nat) (A7 : Option Addr) (c7 : Nat) : Prop where
  e0 : w.cell? p = some (.string x.f0.f0)
  e1 : w.cell? ⟨p.block, p.off + 1, none⟩ = some (.int .i64 x.f0.f1)
  e2 : w.cell? ⟨p.block, p.off + 2, none⟩ = some (.slice A2 x.f1.length c2)
  e3 : w.cell? ⟨p.block, p.off + 3, none⟩ = some (.string x.f2)
  e4 : w.cell? ⟨p.block, p.off + 4, none⟩ = some (.int .i64 x.f3)
  e5 : w.cell? ⟨p.block, p.off + 5, none⟩ = some (.string x.f4)
  e6 : w.cell? ⟨p.block, p.off + 6, none⟩ = some (.int .i64 x.f5)
  e7 : w.cell? ⟨p.block, p.off + 7, none⟩ = some (.slice A7 x.f6.length c7)
  l2 : x.f1.length ≤ c2
  g2 : Kd.C k34 w A2 x.f1.length x.f1
  l7 : x.f6.length ≤ c7
  g7 : Kd.C k34 w A7 x.f6.length x.f6
theorem opAt {w : World} {A : Option Addr} {n : Nat} {xs : List S36} (h : Kd.C k36 w A n xs) (i : Nat) (h1 : i < n) : ∃ ad A2 c2 A7 c7, A = some ad ∧ OpAt w (ad.add (i * 8)) (rd_T36 xs i) A2 c2 A7 c7 := by
  obtain ⟨ad, A2, c2, A7, c7, e, x0, x1, x2, x3, x4, x5, x6, x7, l2, g2, l7, g7⟩ := at_T36 h (i : Int) (by omega) (by omega)
  exact ⟨ad, A2, c2, A7, c7, e, ⟨x0, x1, x2, x3, x4, x5, x6, x7, l2, g2, l7, g7⟩⟩
theorem R_apart {α : Type} {d : Kd α} {e base : Nat} {ok M : Nat → Prop} {w w1 : World} {v : Value} {xs : List α} (h : d.R e w base ok v xs) (hk : Keeps M w w1) (hm : ∀ k, M k → k < base) : d.R e w1 base ok v xs :=
  Kd.R_mono (Kd.R_step (Kd.R_bound h) (fun k hk' hlt => hk.block k hlt (fun hM => by have := hm k hM; have := hk'.2.1; omega))) (fun _ hk' => hk'.1)
theorem rightS_big (l : List S36) (h : ∀ x ∈ l, rightO x = true) : ∀ x ∈ l, x.f1.length ≤ 128 ∧ x.f6.length ≤ 128 := fun x hx => by
  have := rightO_parts (h x hx)
  omega
set_option maxHeartbeats 8000000 in
set_option maxRecDepth 100000 in
theorem orderTwice_calls (w : World) (A : Option Addr) (c : Nat) (l : List S36) (hC : Kd.C k36 w A l.length l) (hc : l.length ≤ c) (_ : ∀ a, a ∈ l → WfOp a) :
    Calls Try.prog 7 #[.slice A l.length c] w fun e w' => e = .returned (.bool true) ∧ Below w.heap.size w w' := by
  have hlm := hC.2.1
  have HC := Aside0.mk hC
  have HCL := Aside0.mk hc
  clear hC
  go_enter Try.func7, Try.ntmps7
  go_wp2_with fail
  refine (shown_calls _).mono ?_
  rintro e w1 ⟨rfl, hb1⟩
  have HB1 := Aside0.mk hb1
  clear hb1
  go_wp2_with fail
  obtain ⟨T, hT⟩ : ∃ T, l.take (min l.length 150) = T := ⟨_, rfl⟩
  have hlen : (min (l.length : Int) 150).toNat = T.length := by rw [← hT, List.length_take]; omega
  have hT150 : T.length ≤ 150 := by rw [← hT, List.length_take]; omega
  have HCT := Aside0.mk (show Kd.C k36 w A T.length T from by rw [← hT]; exact Kd.C_take HC.out (by omega))
  rw [hlen]
  clear hlen hT HC HCL hc hlm
  refine (poolNew _).mono ?_
  rintro e w2 ⟨rfl, hp2, hb2⟩
  obtain ⟨g, hg⟩ : ∃ g, w1.heap.size + 1 = g := ⟨_, rfl⟩
  rw [hg] at hp2 ⊢
  have HP2 := Aside0.mk (show ∃ S, PoolS S g (runA (T.take 0)) w2 ∧ ∀ k, S k → w.heap.size ≤ k from ⟨_, hp2, fun k hk => by have := HB1.out.size; omega⟩)
  have HB2 := Aside0.mk (show Below w.heap.size w w2 from HB1.out.trans (hb2.mono HB1.out.size))
  clear hp2 hb2 hg
  go_wp2
  go_loopw [5] (fun v5 wr => ∃ i : Nat, v5 = .int .i64 i ∧ i ≤ T.length ∧ Aside0 (∃ S, PoolS S g (runA (T.take i)) wr ∧ ∀ k, S k → w.heap.size ≤ k) ∧ Aside0 (Below w.heap.size w wr)) (fun v5 _ => T.length - (intOf v5).toNat)
  case atStart => exact ⟨0, rfl, by omega, HP2, HB2⟩
  case round =>
    clear HP2 HB2
    obtain ⟨i, rfl, hile, HPi, HBi⟩ := hrel
    by_cases hlt : i < T.length
    · obtain ⟨S, hp, hS⟩ := HPi.out
      obtain ⟨ad, A2, c2, A7, c7, rfl, e0, e1, e2, e3, e4, e5, e6, e7, l2, g2, l7, g7⟩ := opAt (Kd.C_below HCT.out HBi.out) i hlt
      obtain ⟨x, hx⟩ : ∃ x, rd_T36 T (i : Int) = x := ⟨_, rfl⟩
      obtain ⟨a, ha⟩ : ∃ a, runA (T.take i) = a := ⟨_, rfl⟩
      have hsn := runA_snoc T i hlt
      have hinv := (runA_inv (T.take i)).1
      have hll := (runA_inv (T.take i)).2
      have htl : (T.take i).length ≤ 150 := by rw [List.length_take]; omega
      rw [ha] at hp hsn hinv hll
      rw [hx] at e0 e1 e2 e3 e4 e5 e6 e7 l2 g2 l7 g7 hsn
      have hag := putA_again hinv x
      have HX := Aside0.mk hx
      have HSN := Aside0.mk hsn
      have HAG := Aside0.mk hag
      have HLL := Aside0.mk (show (putA a x).2.L.length ≤ 900000000000 from by have := (putA_inv hinv x).2; omega)
      have HLL0 := Aside0.mk (show a.L.length ≤ 900000000000 from by omega)
      have HP := Aside0.mk hp
      have HS := Aside0.mk hS
      have HG2 := Aside0.mk g2
      have HG7 := Aside0.mk g7
      have HL2 := Aside0.mk l2
      have HL7 := Aside0.mk l7
      clear hp hS g2 g7 l2 l7 hx hsn hag hinv hll htl ha HPi
      go_wp2_with fail
      refine (poolPut S g a x A2 A7 c2 c7 _ HP.out HLL0.out HG2.out HL2.out HG7.out HL7.out).mono ?_
      rintro e w3 ⟨S3, rfl, hp3, hs3, hk3⟩
      have HB3 := Aside0.mk (below_keeps HBi.out (fun k hk => HS.out k hk) HBi.out.size hk3)
      have HP3 := Aside0.mk hp3
      have HS3 := Aside0.mk (show ∀ k, S3 k → w.heap.size ≤ k from fun k hk => by rcases hs3 k hk with h | h; exact HS.out k h; exact Nat.le_trans HBi.out.size h)
      clear hp3 hs3 hk3 e0 e1 e2 e3 e4 e5 e6 e7 HP HS HG2 HG7 HL2 HL7 HBi
      obtain ⟨r, hr⟩ : ∃ r, (putA a x).1 = r := ⟨_, rfl⟩
      obtain ⟨b, hb⟩ : ∃ b, (putA a x).2 = b := ⟨_, rfl⟩
      have hag := HAG.out
      have hsn := HSN.out
      have hp3 := HP3.out
      have hll := HLL.out
      rw [hb] at hag hsn hp3 hll
      rw [hr] at hag
      rw [hr]
      have HAG' := Aside0.mk hag
      have HSN' := Aside0.mk hsn
      have HP3' := Aside0.mk hp3
      have HLL' := Aside0.mk hll
      obtain ⟨r0, r1⟩ := r
      clear hag hsn hp3 hll hb hr HAG HSN HP3 HLL HLL0
      go_wp2_with fail
      refine (poolKnown S3 g b _ HP3'.out).mono ?_
      rintro e w4 ⟨v8, rfl, hr8, hb4⟩
      have HR8 := Aside0.mk hr8
      have HLT3 := Aside0.mk HP3'.out.lt
      obtain ⟨A8, c8, rfl⟩ := Kd.R_slice hr8
      have HB4 := Aside0.mk (show Below w.heap.size w w4 from HB3.out.trans (hb4.mono HB3.out.size))
      have HP4 := Aside0.mk (HP3'.out.below hb4)
      clear hr8 hb4 HP3' HB3
      go_wp2_with fail
      refine (poolWaits S3 g b _ HP4.out).mono ?_
      rintro e w5 ⟨rfl, rfl⟩
      obtain ⟨ad', A2', c2', A7', c7', hadd, e0, e1, e2, e3, e4, e5, e6, e7, l2, g2, l7, g7⟩ := opAt (Kd.C_below HCT.out HB4.out) i hlt
      cases hadd
      rw [HX.out] at e0 e1 e2 e3 e4 e5 e6 e7 l2 g2 l7 g7
      have HG2 := Aside0.mk g2
      have HG7 := Aside0.mk g7
      have HL2 := Aside0.mk l2
      have HL7 := Aside0.mk l7
      clear l2 g2 l7 g7
      go_wp2_with fail
      refine (poolPut S3 g b x A2' A7' c2' c7' _ HP4.out HLL'.out HG2.out HL2.out HG7.out HL7.out).mono ?_
      rintro e w6 ⟨S6, rfl, hp6, hs6, hk6⟩
      have HB6 := Aside0.mk (below_keeps HB4.out (fun k hk => HS3.out k hk) HB4.out.size hk6)
      have HS6 := Aside0.mk (show ∀ k, S6 k → w.heap.size ≤ k from fun k hk => by rcases hs6 k hk with h | h; exact HS3.out k h; exact Nat.le_trans HB4.out.size h)
      have HR86 := Aside0.mk (R_apart HR8.out hk6 HLT3.out)
      rw [HAG'.out] at hp6
      have HP6 := Aside0.mk hp6
      clear hp6 hs6 hk6 e0 e1 e2 e3 e4 e5 e6 e7 HG2 HG7 HL2 HL7 HB4 HP4 HR8 HS3 HLT3
      rw [HAG'.out]
      go_wp2_with fail
      refine (poolKnown S6 g b _ HP6.out).mono ?_
      rintro e w7 ⟨v9, rfl, hr9, hb7⟩
      obtain ⟨_, l8, C8⟩ := Kd.R_reads' (Kd.R_below HR86.out hb7)
      obtain ⟨A9, c9, rfl, l9, C9⟩ := Kd.R_reads hr9
      have HL8 := Aside0.mk l8
      have HL9 := Aside0.mk l9
      have HC8 := Aside0.mk C8
      have HC9 := Aside0.mk C9
      have HB7 := Aside0.mk (show Below w.heap.size w w7 from HB6.out.trans (hb7.mono HB6.out.size))
      have HP7 := Aside0.mk (HP6.out.below hb7)
      have HKL := Aside0.mk (show b.K.length ≤ 64 from (rightS_le HP6.out.inv.known).1)
      clear hr9 C9 l9 C8 l8 hb7 HP6 HB6 HR86
      go_wp2_with fail
      refine (pannierref07_Same.calls (b.K.length + 1) A8 c8 b.K A9 c9 b.K true _ HC8.out HL8.out HC9.out HL9.out (by rw [refSame_f _ _ (by have := HKL.out; omega) _ (by omega)]; simp)).mono ?_
      rintro e w8 ⟨rfl, hd8⟩
      have hb8 := hd8.below
      have HB8 := Aside0.mk (show Below w.heap.size w w8 from HB7.out.trans (hb8.mono HB7.out.size))
      have HP8 := Aside0.mk (HP7.out.below hb8)
      clear hb8 hd8 HP7 HB7 HC8 HC9 HL8 HL9
      go_wp2_with fail
      refine (poolWaits S6 g b _ HP8.out).mono ?_
      rintro e w9 ⟨rfl, rfl⟩
      go_wp2
      go_round
      case rel => exact ⟨i + 1, by go_num, by omega, ⟨S6, by rw [HSN'.out]; exact HP8.out, HS6.out⟩, ⟨HB8.out⟩⟩
      case measure => simp [intOf]; omega
    · have hfull : T.take i = T := List.take_of_length_le (by omega)
      obtain ⟨S, hp, hS⟩ := HPi.out
      rw [hfull] at hp
      have HINV := Aside0.mk (runA_inv T)
      obtain ⟨a, ha⟩ : ∃ a, runA T = a := ⟨_, rfl⟩
      rw [ha] at hp
      have hinv := HINV.out
      rw [ha] at hinv
      have HI := Aside0.mk hinv.1
      have HLL := Aside0.mk (show a.L.length ≤ 1000000 from by have := hinv.2; omega)
      have HP := Aside0.mk hp
      have HS := Aside0.mk hS
      clear hp hS hfull HINV ha hinv HPi
      go_wp2_with fail
      refine (poolOps S g a _ HP.out (by have := HLL.out; omega)).mono ?_
      rintro e w3 ⟨v12, rfl, hr3, hb3⟩
      have HB3 := Aside0.mk (show Below w.heap.size w w3 from HBi.out.trans (hb3.mono HBi.out.size))
      have HP3 := Aside0.mk (HP.out.below hb3)
      have HLTS := Aside0.mk HP.out.lt
      have HR3 := Aside0.mk hr3
      obtain ⟨n3, hn3⟩ : ∃ n3, wr.heap.size = n3 := ⟨_, rfl⟩
      obtain ⟨A12, c12, rfl⟩ := Kd.R_slice hr3
      have HN3 := Aside0.mk hn3
      clear hr3 hb3 HP HBi hn3
      go_wp2
      go_loopw [13] (fun v13 wr2 => ∃ i : Nat, v13 = .int .i64 i ∧ i ≤ a.L.length ∧ Aside0 (∃ S, PoolS S g a wr2 ∧ (∀ k, S k → w.heap.size ≤ k) ∧ Kd.R k36 36 wr2 n3 (fun k => ¬ S k) (.slice A12 a.L.length c12) a.L) ∧ Aside0 (Below w.heap.size w wr2)) (fun v13 _ => a.L.length - (intOf v13).toNat)
      case atStart =>
        refine ⟨0, rfl, by omega, ⟨S, HP3.out, HS.out, ?_⟩, HB3⟩
        have := HR3.out
        rw [HN3.out] at this
        exact Kd.R_mono (Kd.R_bound this) (fun k hk hSk => by have := HLTS.out k hSk; have := HN3.out; have := hk.2.1; omega)
      case round =>
        clear HP3 HB3 HR3 HS HLTS
        obtain ⟨i, rfl, hile, HPi, HBi⟩ := hrel
        obtain ⟨S2, hp, hS, hr⟩ := HPi.out
        by_cases hlt : i < a.L.length
        · obtain ⟨_, hcl, hCl⟩ := Kd.R_reads' hr
          obtain ⟨ad, A2, c2, A7, c7, had, e0, e1, e2, e3, e4, e5, e6, e7, l2, g2, l7, g7⟩ := opAt hCl i hlt
          cases had
          obtain ⟨x, hx⟩ : ∃ x, rd_T36 a.L (i : Int) = x := ⟨_, rfl⟩
          rw [hx] at e0 e1 e2 e3 e4 e5 e6 e7 l2 g2 l7 g7
          have HAG := Aside0.mk (putA_handed HI.out (show x ∈ a.L ++ a.Q from List.mem_append_left _ (by rw [← hx]; exact rd_mem36 _ _ hlt)))
          have HP := Aside0.mk hp
          have HS := Aside0.mk hS
          have HR := Aside0.mk hr
          have HG2 := Aside0.mk g2
          have HG7 := Aside0.mk g7
          have HL2 := Aside0.mk l2
          have HL7 := Aside0.mk l7
          clear hp hS hr hCl g2 g7 l2 l7 hx HPi
          go_wp2_with fail
          refine (poolPut S2 g a x A2 A7 c2 c7 _ HP.out (by have := HLL.out; omega) HG2.out HL2.out HG7.out HL7.out).mono ?_
          rintro e w6 ⟨S6, rfl, hp6, hs6, hk6⟩
          have HB6 := Aside0.mk (below_keeps HBi.out (fun k hk => HS.out k hk) HBi.out.size hk6)
          have HS6 := Aside0.mk (show ∀ k, S6 k → w.heap.size ≤ k from fun k hk => by rcases hs6 k hk with h | h; exact HS.out k h; exact Nat.le_trans HBi.out.size h)
          have HR6 := Aside0.mk (show Kd.R k36 36 w6 n3 (fun k => ¬ S6 k) (.slice (some ad) a.L.length c12) a.L from
            Kd.R_mono (Kd.R_step (Kd.R_bound HR.out) (fun k hk hlt => hk6.block k hlt hk.1)) (fun k hk hk' => by rcases hs6 k hk' with h | h; exact hk.1 h; have := hk.2.2.1; omega))
          rw [HAG.out] at hp6 ⊢
          have HP6 := Aside0.mk hp6
          clear hp6 hs6 hk6 e0 e1 e2 e3 e4 e5 e6 e7 HG2 HG7 HL2 HL7 HP HS HR HBi
          have hib : i < 1000000 := by have := HLL.out; omega
          go_wp2
          go_round
          case rel => exact ⟨i + 1, by go_num, by omega, ⟨S6, HP6.out, HS6.out, HR6.out⟩, ⟨HB6.out⟩⟩
          case measure => simp [intOf]; omega
        · have HP := Aside0.mk hp
          have HR := Aside0.mk hr
          clear hp hS hr HPi
          go_wp2_with fail
          refine (poolOps S2 g a _ HP.out (by have := HLL.out; omega)).mono ?_
          rintro e w3 ⟨v14, rfl, hr4, hb4⟩
          obtain ⟨_, l12, C12⟩ := Kd.R_reads' (Kd.R_below HR.out hb4)
          obtain ⟨A14, c14, rfl, l14, C14⟩ := Kd.R_reads hr4
          have HC12 := Aside0.mk C12
          have HC14 := Aside0.mk C14
          have HL12 := Aside0.mk l12
          have HL14 := Aside0.mk l14
          have HB4 := Aside0.mk (show Below w.heap.size w w3 from HBi.out.trans (hb4.mono HBi.out.size))
          clear hr4 C12 C14 l12 l14 hb4 HP HR HBi
          go_wp2_with fail
          refine (pannierref08_SameOps.calls (a.L.length + 200) A12 c12 a.L A14 c14 a.L true _ HC12.out HL12.out HC14.out HL14.out (by rw [sameOps_f a.L a.L (by have := HLL.out; omega) 128 (by omega) (rightS_big _ (fun x hx => HI.out.right x (List.mem_append_left _ hx))) _ (by omega)]; simp)).mono ?_
          rintro e w5 ⟨rfl, hb5⟩
          have HB5 := Aside0.mk (show Below w.heap.size w w5 from HB4.out.trans (hb5.mono HB4.out.size))
          clear hb5
          go_wp2
          go_ret
          exact ⟨rfl, HB5.out⟩
end Go.Proofs.Ytenbkljgmgdegaa.PO
