/- What the rows of this claim use, out of the texts of this work (RowOrderHands). No condition beyond those that each statement names. -/
import Derived.Test.YtenbkljgmgdegaaRows
import Derived.WalkKit
import Derived.ProofKit
import Derived.OpenShut
import Derived.ShutString
import Derived.ChangeOld
import Derived.Below
import Derived.SizedLaws
import Derived.Test.YtenbkljgmgdegaaQhOP
import Derived.Test.YtenbkljgmgdegaaQhX
namespace Go.Proofs.Ytenbkljgmgdegaa.orderHands
open Go.ChangeShapes Go.WideShapes Go.ChangeAt Go.RowKit Go.Proofs.Ytenbkljgmgdegaa.XOpen Go.Proofs.Ytenbkljgmgdegaa.PO Go.Proofs.YtenbkljgmgdegaaW.PrintWords
open Go.ChangeMaps (open_string shut_string)
set_option linter.unusedVariables false
theorem own : ownKnob Try.prog.godebug = none := by kernel_rfl
theorem laidOut : laidOutB Try.prog = true := by kernel_rfl
theorem opensDot : Opens Try.prog 34 k34 (fun a => a.f0.size ≤ maxLen) :=
  opens_iso (fun x : S34 => (x.f0, x.f1)) (fun a => ⟨a.1, a.2⟩) (fun _ => rfl) (fun a h => h.1) (opens_struct Try.underlying34 (by kernel_rfl) (fields_cons rfl rfl (by kernel_rfl) (opens_string Try.underlying9) (fields_last rfl rfl (by kernel_rfl) (opens_int Try.underlying2))))
theorem opensDots : Opens Try.prog 23 (Kd.slice 34 k34) (fun xs => ∀ a, a ∈ xs → a.f0.size ≤ maxLen) := opens_slice Try.underlying23 (by kernel_rfl) opensDot
set_option maxRecDepth 100000 in
theorem opensOp : Opens Try.prog 36 k36 WfOp :=
  by have h := opens_struct (P := Try.prog) (t := 36) Try.underlying36 (by kernel_rfl) (fields_cons rfl rfl (by kernel_rfl) opensDot (fields_cons rfl rfl (by kernel_rfl) opensDots (fields_cons rfl rfl (by kernel_rfl) (opens_string Try.underlying9) (fields_cons rfl rfl (by kernel_rfl) (opens_int Try.underlying3) (fields_cons rfl rfl (by kernel_rfl) (opens_string Try.underlying9) (fields_cons rfl rfl (by kernel_rfl) (opens_int Try.underlying2) (fields_last rfl rfl (by kernel_rfl) opensDots)))))))
     exact opens_iso (fun x : S36 => (x.f0, x.f1, x.f2, x.f3, x.f4, x.f5, x.f6)) (fun a => ⟨a.1, a.2.1, a.2.2.1, a.2.2.2.1, a.2.2.2.2.1, a.2.2.2.2.2.1, a.2.2.2.2.2.2⟩) (fun _ => rfl) (fun a h => h) h
theorem opensOps : Opens Try.prog 22 (Kd.slice 36 k36) (fun xs => ∀ a, a ∈ xs → WfOp a) := opens_slice Try.underlying22 (by kernel_rfl) opensOp
set_option maxHeartbeats 4000000 in
set_option maxRecDepth 100000 in
theorem lifted (os : Os) (started : os.Started) (H : Type) (enc : TypeId × Value → H) :
    ReturnsInHanded {} Try.checked os 5 .any (Rows.orderHandsSpec.pre6 enc Try.prog Try.f5 Rows.orderHandsRow.domain false) (Rows.orderHandsSpec.post enc Try.prog Try.f5 false true false false) := by
  refine returnsInHanded_of_change_sized (C := Try.checked) own started (by kernel_rfl) Try.func5
    (ChangeSpec.witness6 (enc := enc) (C := Try.checked) false ⟨#[], #[.slice none 0 0], []⟩ 8 (by kernel_rfl) (by kernel_rfl) (by kernel_rfl) (by kernel_rfl)) ?_
  intro W base args ds gs before hval0 hW hcnd hsz0 _
  have hval : ∀ (j : Nat) t v, Try.f5.params[j]? = some t → args[j]? = some v → Value.okWide Try.prog W .any base t v := hval0
  have hsz : (DataW.weightsEach Try.prog (Try.f5.params.toList ++ Rows.orderHandsSpec.plain.varTypes Try.prog) (ds ++ gs)).all (· ≤ reachBytes) = true := hsz0
  have hW' := hW
  obtain ⟨p, q, hA0, hV, rfl, hfz, hnd⟩ := hW
  have hA : DataW.TrodAll enc Try.prog W 0 (fun _ => true) true Try.f5.params.toList args.toList ds p := hA0
  rw [Try.params5] at hA hval hsz
  obtain ⟨v0, vs0, d0, ds0, p0, q0, hargs, rfl, rfl, h0, r0⟩ := trodAll_cons hA
  obtain ⟨rfl, rfl, rfl⟩ := trodAll_nil r0
  obtain rfl : args = #[v0] := by cases args; simp_all
  obtain ⟨rfl, rfl⟩ := trodVars_none hV
  have lt0 : ∀ x ∈ p0, x.block < W.heap.size := by obtain ⟨m, hm⟩ := h0; exact DataW.trod_lt m _ _ _ hm
  obtain ⟨a0, len0, cap0, rfl⟩ := okWide_slice Try.underlying22 (hval 0 22 v0 rfl rfl)
  obtain ⟨z0, ⟨A0, c0, e0, le0, C0⟩, w0⟩ : ∃ z, (Kd.slice 36 k36).K W z [.slice a0 len0 cap0] ∧ (∀ a, a ∈ z → WfOp a) := by
    obtain ⟨fuel, hf⟩ := h0
    exact opensOps H enc W _ _ _ fuel _ _ hf
  cases e0
  refine (orderHands_calls W a0 cap0 z0 C0 le0 w0).mono fun e W' ⟨he, bel⟩ => ?_
  subst he
  exact ⟨_, rfl, _, _, _, [], _, [], hW', trodAll_mk1 (shut_bool Try.underlying4 _), (trodAll_cons_mk (Below.trod laidOut (by kernel_rfl) (of_decide_eq_true (by kernel_rfl)) h0 bel lt0) trodAll_mk0), rfl, bel.frame _, fun h => by cases h⟩
theorem over : Rows.orderHandsRow.holds Try.pinned (OpenSpec.ofChange Rows.orderHandsSpec) :=
  OpenClaim.holds_of_wide 5 Try.f5 rfl rfl rfl rfl rfl rfl rfl ⟨rfl, rfl, rfl, rfl, rfl⟩ rfl rfl rfl rfl rfl (by kernel_rfl) Try.func5 (by kernel_rfl)
    (of_decide_eq_true (by kernel_rfl)) (by unfold Func.isWrapper; first | (rw [if_pos (by decide +kernel)]; kernel_rfl) | (rw [if_neg (by decide +kernel)]; exact ⟨rfl, rfl⟩))
    (fun os started H enc _ => lifted os started H enc)
theorem proved : Rows.OrderHandsSaid := over
end Go.Proofs.Ytenbkljgmgdegaa.orderHands
namespace Go.Proofs.Ytenbkljgmgdegaa
theorem orderHands_holds : Rows.OrderHandsSaid := orderHands.proved
end Go.Proofs.Ytenbkljgmgdegaa
