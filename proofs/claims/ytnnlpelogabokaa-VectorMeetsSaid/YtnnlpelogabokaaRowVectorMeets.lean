/- pannierlaw07.VectorMeets returns true whatever it is handed, and what it is handed reads as it did. No condition beyond the statement's own. Printed by a program of this work (rowgen.py); Lean checks it. -/
import Derived.Test.YtnnlpelogabokaaRows
import Derived.Test.YtnnlpelogabokaaPure4
import Derived.Test.YtnnlpelogabokaaXOpen
import Derived.WalkKit
import Derived.ProofKit
import Derived.OpenShut
import Derived.ShutString
import Derived.ChangeOld
import Derived.Below
import Derived.SizedLaws
namespace Go.Proofs.Ytnnlpelogabokaa.vectorMeets
open Go.ChangeShapes Go.WideShapes Go.ChangeAt Go.RowKit Go.Proofs.Ytnnlpelogabokaa.XOpen Go.Proofs.Ytnnlpelogabokaa.PV Go.Proofs.YtnnlpelogabokaaW.PrintWords
open Go.ChangeMaps (open_string shut_string)
set_option linter.unusedVariables false
theorem own : ownKnob Try.prog.godebug = none := by kernel_rfl
theorem laidOut : laidOutB Try.prog = true := by kernel_rfl
theorem opensDot : Opens Try.prog 35 k35 (fun x => x.f0.size ≤ maxLen) :=
  opens_iso (fun x : S35 => (x.f0, x.f1)) (fun a => ⟨a.1, a.2⟩) (fun _ => rfl) (fun a h => h.1) (opens_struct Try.underlying35 (by kernel_rfl) (fields_cons rfl rfl (by kernel_rfl) (opens_string Try.underlying9) (fields_last rfl rfl (by kernel_rfl) (opens_int Try.underlying2))))
theorem opensDots : Opens Try.prog 24 (Kd.slice 35 k35) (fun xs => ∀ a, a ∈ xs → a.f0.size ≤ maxLen) := opens_slice Try.underlying24 (by kernel_rfl) opensDot
theorem opensBoth : Opens Try.prog 24 (Kd.slice 35 k35) (fun xs => xs.length ≤ maxLen ∧ ∀ a, a ∈ xs → a.f0.size ≤ maxLen) := fun H enc w base sp hd fuel cs x hx => by
  obtain ⟨a, ⟨A0, c0, e0, le0, C0⟩, w0⟩ := opensDots H enc w base sp hd fuel cs x hx
  exact ⟨a, ⟨A0, c0, e0, le0, C0⟩, C0.2.1, w0⟩
theorem opensDotss : Opens Try.prog 22 (Kd.slice 24 (Kd.slice 35 k35)) (fun xs => ∀ a, a ∈ xs → a.length ≤ maxLen ∧ ∀ b, b ∈ a → b.f0.size ≤ maxLen) := opens_slice Try.underlying22 (by kernel_rfl) opensBoth
set_option maxHeartbeats 4000000 in
set_option maxRecDepth 100000 in
theorem lifted (os : Os) (started : os.Started) (H : Type) (enc : TypeId × Value → H) :
    ReturnsInHanded {} Try.checked os 3 .any (Rows.vectorMeetsSpec.pre6 enc Try.prog Try.f3 Rows.vectorMeetsRow.domain false) (Rows.vectorMeetsSpec.post enc Try.prog Try.f3 false true false false) := by
  refine returnsInHanded_of_change_sized (C := Try.checked) own started (by kernel_rfl) Try.func3
    (ChangeSpec.witness6 (enc := enc) (C := Try.checked) false ⟨#[], #[.slice none 0 0], []⟩ 8 (by kernel_rfl) (by kernel_rfl) (by kernel_rfl) (by kernel_rfl)) ?_
  intro W base args ds gs before hval0 hW hcnd hsz0 _
  have hval : ∀ (j : Nat) t v, Try.f3.params[j]? = some t → args[j]? = some v → Value.okWide Try.prog W .any base t v := hval0
  have hW' := hW
  obtain ⟨p, q, hA0, hV, rfl, hfz, hnd⟩ := hW
  have hA : DataW.TrodAll enc Try.prog W 0 (fun _ => true) true Try.f3.params.toList args.toList ds p := hA0
  rw [Try.params3] at hA hval
  obtain ⟨v0, vs0, d0, ds0, p0, q0, hargs, rfl, rfl, h0, r0⟩ := trodAll_cons hA
  obtain ⟨rfl, rfl, rfl⟩ := trodAll_nil r0
  obtain rfl : args = #[v0] := by cases args; simp_all
  obtain ⟨rfl, rfl⟩ := trodVars_none hV
  have lt0 : ∀ x ∈ p0, x.block < W.heap.size := by obtain ⟨m, hm⟩ := h0; exact DataW.trod_lt m _ _ _ hm
  obtain ⟨a0, len0, cap0, rfl⟩ := okWide_slice Try.underlying22 (hval 0 22 v0 rfl rfl)
  obtain ⟨z0, ⟨A0, c0, e0, le0, C0⟩, w0⟩ : ∃ z, (Kd.slice 24 (Kd.slice 35 k35)).K W z [.slice a0 len0 cap0] ∧ (∀ a, a ∈ z → a.length ≤ maxLen ∧ ∀ b, b ∈ a → b.f0.size ≤ maxLen) := by
    obtain ⟨fuel, hf⟩ := h0
    exact opensDotss H enc W _ _ _ fuel _ _ hf
  cases e0
  obtain ⟨k, hk⟩ := PV.VectorMeets_pure z0 C0.2.1 w0
  refine (PV.pannierlaw07_VectorMeets.calls k a0 cap0 z0 true W C0 le0 hk).mono fun e W' ⟨he, bel⟩ => ?_
  subst he
  exact ⟨_, rfl, _, _, _, [], _, [], hW', trodAll_mk1 (shut_bool Try.underlying4 _), (trodAll_cons_mk (Below.trod laidOut (by kernel_rfl) (of_decide_eq_true (by kernel_rfl)) h0 bel lt0) trodAll_mk0), rfl, bel.frame _, fun h => by cases h⟩
theorem over : Rows.vectorMeetsRow.holds Try.pinned (OpenSpec.ofChange Rows.vectorMeetsSpec) :=
  OpenClaim.holds_of_wide 3 Try.f3 rfl rfl rfl rfl rfl rfl rfl ⟨rfl, rfl, rfl, rfl, rfl⟩ rfl rfl rfl rfl rfl (by kernel_rfl) Try.func3 (by kernel_rfl)
    (of_decide_eq_true (by kernel_rfl)) (by unfold Func.isWrapper; first | (rw [if_pos (by decide +kernel)]; kernel_rfl) | (rw [if_neg (by decide +kernel)]; exact ⟨rfl, rfl⟩))
    (fun os started H enc _ => lifted os started H enc)
theorem proved : Rows.VectorMeetsSaid := over
end Go.Proofs.Ytnnlpelogabokaa.vectorMeets
namespace Go.Proofs.Ytnnlpelogabokaa
/-- The row, under a short name, for the claim. -/
theorem vectorMeets_holds : Rows.VectorMeetsSaid := vectorMeets.proved
end Go.Proofs.Ytnnlpelogabokaa
