/- What the rows of this claim use, out of the texts of this work (RowOrderWords). No condition beyond those that each statement names. -/
import Derived.Test.YtenbkljgmgdegaaRows
import Derived.WalkKit
import Derived.ProofKit
import Derived.OpenShut
import Derived.ShutString
import Derived.ChangeOld
import Derived.Below
import Derived.SizedLaws
import Derived.Test.YtenbkljgmgdegaaQwRZ
import Derived.Test.YtenbkljgmgdegaaQwX
namespace Go.Proofs.Ytenbkljgmgdegaa.orderWords
open Go.ChangeShapes Go.WideShapes Go.ChangeAt Go.RowKit Go.Proofs.Ytenbkljgmgdegaa.XOpen Go.Proofs.Ytenbkljgmgdegaa.PO Go.Proofs.YtenbkljgmgdegaaW.PrintWords
open Go.ChangeMaps (open_string shut_string)
set_option linter.unusedVariables false
theorem own : ownKnob Try.prog.godebug = none := by kernel_rfl
theorem laidOut : laidOutB Try.prog = true := by kernel_rfl
theorem opensDot : Opens Try.prog 34 k34 (fun a => a.f0.size ≤ maxLen) :=
  opens_iso (fun x : S34 => (x.f0, x.f1)) (fun a => ⟨a.1, a.2⟩) (fun _ => rfl) (fun a h => h.1) (opens_struct Try.underlying34 (by kernel_rfl) (fields_cons rfl rfl (by kernel_rfl) (opens_string Try.underlying9) (fields_last rfl rfl (by kernel_rfl) (opens_int Try.underlying2))))
theorem opensDots : Opens Try.prog 23 (Kd.slice 34 k34) (fun xs => ∀ a, a ∈ xs → a.f0.size ≤ maxLen) := opens_slice Try.underlying23 (by kernel_rfl) opensDot
set_option maxRecDepth 100000 in
theorem opensOp : Opens Try.prog 36 k36 WfOp :=
  by have h := opens_struct (P := Try.prog) (t := 36) Try.underlying36 (by kernel_rfl) (fields_cons rfl rfl (by kernel_rfl) opensDot (fields_cons rfl rfl (by kernel_rfl) opensDots (fields_cons rfl rfl (by kernel_rfl) (opens_string Try.underlying9) (fields_cons rfl rfl (by kernel_rfl) (opens_int Try.underlying3) (fields_cons rfl rfl (by kernel_rfl) (opens_string Try.underlying9) (fields_cons rfl rfl (by kernel_rfl) (opens_int Try.underlying2) (fields_last rfl rfl (by kernel_rfl) opensDots)))))))
     exact opens_iso (fun x : S36 => (x.f0, x.f1, x.f2, x.f3, x.f4, x.f5, x.f6)) (fun a => ⟨a.1, a.2.1, a.2.2.1, a.2.2.2.1, a.2.2.2.2.1, a.2.2.2.2.2.1, a.2.2.2.2.2.2⟩) (fun _ => rfl) (fun a h => h) h
set_option maxHeartbeats 4000000 in
set_option maxRecDepth 100000 in
theorem lifted (os : Os) (started : os.Started) (H : Type) (enc : TypeId × Value → H) :
    ReturnsInHanded {} Try.checked os 13 .any (Rows.orderWordsSpec.pre6 enc Try.prog Try.f13 Rows.orderWordsRow.domain false) (Rows.orderWordsSpec.post enc Try.prog Try.f13 false true false false) := by
  refine returnsInHanded_of_change_sized (C := Try.checked) own started (by kernel_rfl) Try.func13
    (ChangeSpec.witness6 (enc := enc) (C := Try.checked) false ⟨#[], #[.agg #[.string ByteArray.empty, .int .i64 0, .slice none 0 0, .string ByteArray.empty, .int .i64 0, .string ByteArray.empty, .int .i64 0, .slice none 0 0], .agg #[.string ByteArray.empty, .int .i64 0, .slice none 0 0, .string ByteArray.empty, .int .i64 0, .string ByteArray.empty, .int .i64 0, .slice none 0 0], .string ByteArray.empty], []⟩ 8 (by kernel_rfl) (by kernel_rfl) (by kernel_rfl) (by kernel_rfl)) ?_
  intro W base args ds gs before hval0 hW hcnd hsz0 _
  have hval : ∀ (j : Nat) t v, Try.f13.params[j]? = some t → args[j]? = some v → Value.okWide Try.prog W .any base t v := hval0
  have hsz : (DataW.weightsEach Try.prog (Try.f13.params.toList ++ Rows.orderWordsSpec.plain.varTypes Try.prog) (ds ++ gs)).all (· ≤ reachBytes) = true := hsz0
  have hW' := hW
  obtain ⟨p, q, hA0, hV, rfl, hfz, hnd⟩ := hW
  have hA : DataW.TrodAll enc Try.prog W 0 (fun _ => true) true Try.f13.params.toList args.toList ds p := hA0
  rw [Try.params13] at hA hval hsz
  obtain ⟨v0, vs0, d0, ds0, p0, q0, hargs, rfl, rfl, h0, r0⟩ := trodAll_cons hA
  obtain ⟨v1, vs1, d1, ds1, p1, q1, rfl, rfl, rfl, h1, r1⟩ := trodAll_cons r0
  obtain ⟨v2, vs2, d2, ds2, p2, q2, rfl, rfl, rfl, h2, r2⟩ := trodAll_cons r1
  obtain ⟨rfl, rfl, rfl⟩ := trodAll_nil r2
  obtain rfl : args = #[v0, v1, v2] := by cases args; simp_all
  obtain ⟨rfl, rfl⟩ := trodVars_none hV
  have lt0 : ∀ x ∈ p0, x.block < W.heap.size := by obtain ⟨m, hm⟩ := h0; exact DataW.trod_lt m _ _ _ hm
  obtain ⟨cs0, rfl, _⟩ := okWide_struct Try.underlying36 (hval 0 36 v0 rfl rfl)
  obtain ⟨x0, K0, w0⟩ : ∃ a, k36.K W a cs0.toList ∧ WfOp a := by
    obtain ⟨fuel, hf⟩ := h0
    exact opensOp H enc W _ _ _ fuel _ _ hf
  obtain ⟨A2_0, c2_0, A7_0, c7_0, E0, l2_0, g2_0, l7_0, g7_0⟩ := k36_open K0
  obtain rfl : cs0 = #[.string x0.f0.f0, .int .i64 x0.f0.f1, .slice A2_0 x0.f1.length c2_0, .string x0.f2, .int .i64 x0.f3, .string x0.f4, .int .i64 x0.f5, .slice A7_0 x0.f6.length c7_0] := by
    apply Array.ext'
    rw [E0]
  have lt1 : ∀ x ∈ p1, x.block < W.heap.size := by obtain ⟨m, hm⟩ := h1; exact DataW.trod_lt m _ _ _ hm
  obtain ⟨cs1, rfl, _⟩ := okWide_struct Try.underlying36 (hval 1 36 v1 rfl rfl)
  obtain ⟨x1, K1, w1⟩ : ∃ a, k36.K W a cs1.toList ∧ WfOp a := by
    obtain ⟨fuel, hf⟩ := h1
    exact opensOp H enc W _ _ _ fuel _ _ hf
  obtain ⟨A2_1, c2_1, A7_1, c7_1, E1, l2_1, g2_1, l7_1, g7_1⟩ := k36_open K1
  obtain rfl : cs1 = #[.string x1.f0.f0, .int .i64 x1.f0.f1, .slice A2_1 x1.f1.length c2_1, .string x1.f2, .int .i64 x1.f3, .string x1.f4, .int .i64 x1.f5, .slice A7_1 x1.f6.length c7_1] := by
    apply Array.ext'
    rw [E1]
  obtain ⟨x2, rfl, rfl, rfl, w2⟩ := open_string Try.underlying9 (hval 2 9 v2 rfl rfl) h2
  have y2 : x2.size ≤ 140737488351232 := by have h := sized_string hsz (j := 2) (t := 9) rfl rfl; simpa [reachBytes] using h
  refine (orderWords_calls W x0 A2_0 c2_0 A7_0 c7_0 x1 A2_1 c2_1 A7_1 c7_1 x2 l2_0 g2_0 l7_0 g7_0 w0 l2_1 g2_1 l7_1 g7_1 w1 y2).mono fun e W' ⟨he, bel⟩ => ?_
  subst he
  exact ⟨_, rfl, _, _, _, [], _, [], hW', trodAll_mk1 (shut_bool Try.underlying4 _), (trodAll_cons_mk (Below.trod laidOut (by kernel_rfl) (of_decide_eq_true (by kernel_rfl)) h0 bel lt0) (trodAll_cons_mk (Below.trod laidOut (by kernel_rfl) (of_decide_eq_true (by kernel_rfl)) h1 bel lt1) (trodAll_cons_mk (shut_string Try.underlying9 w2) trodAll_mk0))), rfl, bel.frame _, fun h => by cases h⟩
theorem over : Rows.orderWordsRow.holds Try.pinned (OpenSpec.ofChange Rows.orderWordsSpec) :=
  OpenClaim.holds_of_wide 13 Try.f13 rfl rfl rfl rfl rfl rfl rfl ⟨rfl, rfl, rfl, rfl, rfl⟩ rfl rfl rfl rfl rfl (by kernel_rfl) Try.func13 (by kernel_rfl)
    (of_decide_eq_true (by kernel_rfl)) (by unfold Func.isWrapper; first | (rw [if_pos (by decide +kernel)]; kernel_rfl) | (rw [if_neg (by decide +kernel)]; exact ⟨rfl, rfl⟩))
    (fun os started H enc _ => lifted os started H enc)
theorem proved : Rows.OrderWordsSaid := over
end Go.Proofs.Ytenbkljgmgdegaa.orderWords
namespace Go.Proofs.Ytenbkljgmgdegaa
theorem orderWords_holds : Rows.OrderWordsSaid := orderWords.proved
end Go.Proofs.Ytenbkljgmgdegaa
