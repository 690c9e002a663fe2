/- What the rows of this claim use, out of the texts of this work (OL). No condition beyond those that each statement names. -/
import Derived.Test.YtenbkljgmgdegaaQoOT
namespace Go.Proofs.Ytenbkljgmgdegaa.PO
open Go.RowKit Go.Proofs.YtenbkljgmgdegaaW.PrintWords Go.Proofs.YtenbkljgmgdegaaW.PrintLast Go.Proofs.YtenbkljgmgdegaaW.PrintMore Go.Proofs.Ytenbkljgmgdegaa.XW
open Go.Proofs.Ytenbkljgmgdegaa.XRange Go.Proofs.Ytenbkljgmgdegaa.XMap Go.Proofs.Ytenbkljgmgdegaa.XSeq
set_option linter.unusedVariables false
set_option linter.unusedSimpArgs false
def putsA : List S36 → AP → AP × Bool
  | [], s => (s, true)
  | x :: l, s => if (putA s x).1.2 = 0 then putsA l (putA s x).2 else ((putA s x).2, false)
theorem putsA_cons (x : S36) (l : List S36) (s : AP) : putsA (x :: l) s = if (putA s x).1.2 = 0 then putsA l (putA s x).2 else ((putA s x).2, false) := rfl
theorem putsA_inv : ∀ (l : List S36) (s : AP), InvA s → InvA (putsA l s).1 ∧ (putsA l s).1.L.length ≤ s.L.length + 257 * l.length
  | [], s, h => ⟨h, by simp [putsA]⟩
  | x :: l, s, h => by
    obtain ⟨h1, h2⟩ := putA_inv h x
    rw [putsA_cons]
    by_cases h0 : (putA s x).1.2 = 0
    · obtain ⟨h3, h4⟩ := putsA_inv l _ h1
      rw [if_pos h0]
      refine ⟨h3, Nat.le_trans h4 ?_⟩
      rw [List.length_cons]
      omega
    · rw [if_neg h0]
      refine ⟨h1, Nat.le_trans h2 ?_⟩
      rw [List.length_cons]
      omega
set_option maxHeartbeats 8000000 in
set_option maxRecDepth 100000 in
theorem put22_calls (w : World) (A : Option Addr) (c : Nat) (T : List S36) (hC : ∀ W, Below w.heap.size w W → Kd.C k36 W A T.length T) (hT : T.length ≤ 1000) :
    Calls Try.prog 22 #[.slice A T.length c] w fun e w' => ∃ g S, e = .returned (.tuple #[.pointer (some ⟨g, 0, none⟩), .bool (putsA T ⟨[], [], []⟩).2]) ∧ PoolS S g (putsA T ⟨[], [], []⟩).1 w' ∧ (∀ k, S k → w.heap.size ≤ k) ∧ Below w.heap.size w w' := by
  have HC := Aside0.mk hC
  clear hC
  go_enter Try.func22, Try.ntmps22
  go_wp2_with fail
  refine (poolNew _).mono ?_
  rintro e w2 ⟨rfl, hp2, hb2⟩
  obtain ⟨g, hg⟩ : ∃ g, w.heap.size + 1 = g := ⟨_, rfl⟩
  rw [hg] at hp2 ⊢
  have HP2 := Aside0.mk (show ∃ S s, PoolS S g s w2 ∧ (∀ k, S k → w.heap.size ≤ k) ∧ putsA (T.drop 0) s = putsA T ⟨[], [], []⟩ ∧ s.L.length ≤ 257 * 0 from ⟨_, _, hp2, fun k hk => by omega, by simp, by simp⟩)
  have HB2 := Aside0.mk hb2
  clear hp2 hb2 hg
  go_wp2
  go_loopw [5] (fun v5 wr => ∃ i : Nat, v5 = .int .i64 i ∧ i ≤ T.length ∧ Aside0 (∃ S s, PoolS S g s wr ∧ (∀ k, S k → w.heap.size ≤ k) ∧ putsA (T.drop i) s = putsA T ⟨[], [], []⟩ ∧ s.L.length ≤ 257 * i) ∧ Aside0 (Below w.heap.size w wr)) (fun v5 _ => T.length - (intOf v5).toNat)
  case atStart => exact ⟨0, rfl, by omega, HP2, HB2⟩
  case round =>
    clear HP2 HB2
    obtain ⟨i, rfl, hile, HPi, HBi⟩ := hrel
    obtain ⟨S, a, hp, hS, hrun, hll⟩ := HPi.out
    by_cases hlt : i < T.length
    · obtain ⟨ad, A2, c2, A7, c7, rfl, e0, e1, e2, e3, e4, e5, e6, e7, l2, g2, l7, g7⟩ := opAt (HC.out _ HBi.out) i hlt
      obtain ⟨x, hx⟩ : ∃ x, rd_T36 T (i : Int) = x := ⟨_, rfl⟩
      rw [hx] at e0 e1 e2 e3 e4 e5 e6 e7 l2 g2 l7 g7
      rw [rd_drop36 T i hlt, hx] at hrun
      rw [putsA_cons] at hrun
      have HLL := Aside0.mk (show (putA a x).2.L.length ≤ 257 * (i + 1) from by have := (putA_inv hp.inv x).2; omega)
      have HLL0 := Aside0.mk hll
      have HP := Aside0.mk hp
      have HS := Aside0.mk hS
      have HG2 := Aside0.mk g2
      have HG7 := Aside0.mk g7
      have HL2 := Aside0.mk l2
      have HL7 := Aside0.mk l7
      obtain ⟨r, hr⟩ : ∃ r, putA a x = r := ⟨_, rfl⟩
      rw [hr] at hrun
      have HRUN := Aside0.mk hrun
      have HR := Aside0.mk hr
      clear hp hS g2 g7 l2 l7 hx hll hrun hr HPi
      go_wp2_with fail
      refine (poolPut S g a x A2 A7 c2 c7 _ HP.out (by have := HLL0.out; omega) HG2.out HL2.out HG7.out HL7.out).mono ?_
      rintro e w3 ⟨S3, rfl, hp3, hs3, hk3⟩
      have HB3 := Aside0.mk (below_keeps HBi.out (fun k hk => HS.out k hk) HBi.out.size hk3)
      have HS3 := Aside0.mk (show ∀ k, S3 k → w.heap.size ≤ k from fun k hk => by rcases hs3 k hk with h | h; exact HS.out k h; exact Nat.le_trans HBi.out.size h)
      have hll := HLL.out
      rw [HR.out] at hp3 hll ⊢
      have HP3 := Aside0.mk hp3
      have HLL' := Aside0.mk hll
      obtain ⟨⟨r0, r1⟩, b⟩ := r
      clear hp3 hs3 hk3 e0 e1 e2 e3 e4 e5 e6 e7 HP HS HG2 HG7 HL2 HL7 HBi hll HLL HLL0 HR
      by_cases h0 : r1 = 0
      · subst h0
        have hrun := HRUN.out
        rw [if_pos rfl] at hrun
        have HRUN' := Aside0.mk hrun
        clear hrun HRUN
        go_wp2
        go_round
        case rel => exact ⟨i + 1, by go_num, by omega, ⟨S3, b, HP3.out, HS3.out, HRUN'.out, HLL'.out⟩, ⟨HB3.out⟩⟩
        case measure => simp [intOf]; omega
      · have hne : (r1 != 0) = true := by simp [h0]
        have hrun := HRUN.out
        rw [if_neg h0] at hrun
        have HRUN' := Aside0.mk hrun
        clear hrun HRUN h0
        go_wp2
        go_ret2
        rw [← HRUN'.out]
        exact ⟨g, S3, rfl, HP3.out, HS3.out, HB3.out⟩
    · rw [List.drop_eq_nil_of_le (by omega)] at hrun
      have HRUN := Aside0.mk hrun
      have HP := Aside0.mk hp
      have HS := Aside0.mk hS
      clear hrun hp hS HPi hll
      go_wp2
      go_ret2
      rw [← HRUN.out]
      exact ⟨g, S, rfl, HP.out, HS.out, HBi.out⟩
end Go.Proofs.Ytenbkljgmgdegaa.PO
