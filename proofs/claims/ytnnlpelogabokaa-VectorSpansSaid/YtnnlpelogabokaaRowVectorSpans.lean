/- pannierlaw07.VectorSpans returns true whatever it is handed, and what it is handed reads as it did. No condition beyond the statement's own. Printed by a program of this work (rowgen.py); Lean checks it. -/
import Derived.Test.YtnnlpelogabokaaRows
import Derived.Test.YtnnlpelogabokaaPWSpans
import Derived.Test.YtnnlpelogabokaaXOpen
import Derived.WalkKit
import Derived.ProofKit
import Derived.OpenShut
import Derived.ShutString
import Derived.ChangeOld
import Derived.Below
import Derived.SizedLaws
namespace Go.Proofs.Ytnnlpelogabokaa.vectorSpans
open Go.ChangeShapes Go.WideShapes Go.ChangeAt Go.RowKit Go.Proofs.Ytnnlpelogabokaa.XOpen Go.Proofs.Ytnnlpelogabokaa.PW Go.Proofs.YtnnlpelogabokaaW.PrintWords
open Go.ChangeMaps (open_string shut_string)
set_option linter.unusedVariables false
theorem own : ownKnob Try.prog.godebug = none := by kernel_rfl
theorem laidOut : laidOutB Try.prog = true := by kernel_rfl
theorem opensDot : Opens Try.prog 35 k35 (fun x => x.f0.size ≤ maxLen) :=
  opens_iso (fun x : S35 => (x.f0, x.f1)) (fun a => ⟨a.1, a.2⟩) (fun _ => rfl) (fun a h => h.1) (opens_struct Try.underlying35 (by kernel_rfl) (fields_cons rfl rfl (by kernel_rfl) (opens_string Try.underlying9) (fields_last rfl rfl (by kernel_rfl) (opens_int Try.underlying2))))
theorem opensDots : Opens Try.prog 24 (Kd.slice 35 k35) (fun xs => ∀ a, a ∈ xs → a.f0.size ≤ maxLen) := opens_slice Try.underlying24 (by kernel_rfl) opensDot
set_option maxHeartbeats 4000000 in
set_option maxRecDepth 100000 in
theorem lifted (os : Os) (started : os.Started) (H : Type) (enc : TypeId × Value → H) :
    ReturnsInHanded {} Try.checked os 11 .any (Rows.vectorSpansSpec.pre6 enc Try.prog Try.f11 Rows.vectorSpansRow.domain false) (Rows.vectorSpansSpec.post enc Try.prog Try.f11 false true false false) := by
  refine returnsInHanded_of_change_sized (C := Try.checked) own started (by kernel_rfl) Try.func11
    (ChangeSpec.witness6 (enc := enc) (C := Try.checked) false ⟨#[], #[.slice none 0 0, .slice none 0 0], []⟩ 8 (by kernel_rfl) (by kernel_rfl) (by kernel_rfl) (by kernel_rfl)) ?_
  intro W base args ds gs before hval0 hW hcnd hsz0 _
  have hval : ∀ (j : Nat) t v, Try.f11.params[j]? = some t → args[j]? = some v → Value.okWide Try.prog W .any base t v := hval0
  have hsz : (DataW.weightsEach Try.prog (Try.f11.params.toList ++ Rows.vectorSpansSpec.plain.varTypes Try.prog) (ds ++ gs)).all (· ≤ reachBytes) = true := hsz0
  have hW' := hW
  obtain ⟨p, q, hA0, hV, rfl, hfz, hnd⟩ := hW
  have hA : DataW.TrodAll enc Try.prog W 0 (fun _ => true) true Try.f11.params.toList args.toList ds p := hA0
  rw [Try.params11] at hA hval hsz
  obtain ⟨v0, vs0, d0, ds0, p0, q0, hargs, rfl, rfl, h0, r0⟩ := trodAll_cons hA
  obtain ⟨v1, vs1, d1, ds1, p1, q1, rfl, rfl, rfl, h1, r1⟩ := trodAll_cons r0
  obtain ⟨rfl, rfl, rfl⟩ := trodAll_nil r1
  obtain rfl : args = #[v0, v1] := by cases args; simp_all
  obtain ⟨rfl, rfl⟩ := trodVars_none hV
  have lt0 : ∀ x ∈ p0, x.block < W.heap.size := by obtain ⟨m, hm⟩ := h0; exact DataW.trod_lt m _ _ _ hm
  obtain ⟨a0, len0, cap0, rfl⟩ := okWide_slice Try.underlying24 (hval 0 24 v0 rfl rfl)
  obtain ⟨z0, ⟨A0, c0, e0, le0, C0⟩, w0⟩ : ∃ z, (Kd.slice 35 k35).K W z [.slice a0 len0 cap0] ∧ (∀ a, a ∈ z → a.f0.size ≤ maxLen) := by
    obtain ⟨fuel, hf⟩ := h0
    exact opensDots H enc W _ _ _ fuel _ _ hf
  cases e0
  have lt1 : ∀ x ∈ p1, x.block < W.heap.size := by obtain ⟨m, hm⟩ := h1; exact DataW.trod_lt m _ _ _ hm
  obtain ⟨a1, len1, cap1, rfl⟩ := okWide_slice Try.underlying24 (hval 1 24 v1 rfl rfl)
  obtain ⟨z1, ⟨A1, c1, e1, le1, C1⟩, w1⟩ : ∃ z, (Kd.slice 35 k35).K W z [.slice a1 len1 cap1] ∧ (∀ a, a ∈ z → a.f0.size ≤ maxLen) := by
    obtain ⟨fuel, hf⟩ := h1
    exact opensDots H enc W _ _ _ fuel _ _ hf
  cases e1
  obtain ⟨k, hk⟩ := PW.VectorSpans_pure z0 C0.2.1 w0 z1 C1.2.1 w1
  refine (PW.pannierlaw07_VectorSpans.calls k (fun _ => True) a0 cap0 z0 a1 cap1 z1 true W (V_of_C C0 le0) C1 le1 hk).mono fun e W' ⟨he, bel⟩ => ?_
  subst he
  exact ⟨_, rfl, _, _, _, [], _, [], hW', trodAll_mk1 (shut_bool Try.underlying4 _), (trodAll_cons_mk (Below.trod laidOut (by kernel_rfl) (of_decide_eq_true (by kernel_rfl)) h0 bel lt0) (trodAll_cons_mk (Below.trod laidOut (by kernel_rfl) (of_decide_eq_true (by kernel_rfl)) h1 bel lt1) trodAll_mk0)), rfl, bel.frame _, fun h => by cases h⟩
theorem over : Rows.vectorSpansRow.holds Try.pinned (OpenSpec.ofChange Rows.vectorSpansSpec) :=
  OpenClaim.holds_of_wide 11 Try.f11 rfl rfl rfl rfl rfl rfl rfl ⟨rfl, rfl, rfl, rfl, rfl⟩ rfl rfl rfl rfl rfl (by kernel_rfl) Try.func11 (by kernel_rfl)
    (of_decide_eq_true (by kernel_rfl)) (by unfold Func.isWrapper; first | (rw [if_pos (by decide +kernel)]; kernel_rfl) | (rw [if_neg (by decide +kernel)]; exact ⟨rfl, rfl⟩))
    (fun os started H enc _ => lifted os started H enc)
theorem proved : Rows.VectorSpansSaid := over
end Go.Proofs.Ytnnlpelogabokaa.vectorSpans
namespace Go.Proofs.Ytnnlpelogabokaa
/-- The row, under a short name, for the claim. -/
theorem vectorSpans_holds : Rows.VectorSpansSaid := vectorSpans.proved
end Go.Proofs.Ytnnlpelogabokaa
