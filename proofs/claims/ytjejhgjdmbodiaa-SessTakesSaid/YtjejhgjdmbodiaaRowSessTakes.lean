/- What the rows of this claim use, out of the texts of this work (RowSessTakes). No condition beyond those that each statement names. -/
import Derived.Test.YtjejhgjdmbodiaaRows
import Derived.WalkKit
import Derived.ProofKit
import Derived.OpenShut
import Derived.ShutString
import Derived.ChangeOld
import Derived.Below
import Derived.SizedLaws
import Derived.Test.YtjejhgjdmbodiaaZdSE
import Derived.Test.YtjejhgjdmbodiaaZdX
namespace Go.Proofs.Ytjejhgjdmbodiaa.sessTakes
open Go.ChangeShapes Go.WideShapes Go.ChangeAt Go.RowKit Go.Proofs.Ytjejhgjdmbodiaa.XOpen Go.Proofs.Ytjejhgjdmbodiaa.PO Go.Proofs.YtjejhgjdmbodiaaW.PrintWords
open Go.ChangeMaps (open_string shut_string)
set_option linter.unusedVariables false
theorem own : ownKnob Try.prog.godebug = none := by kernel_rfl
theorem laidOut : laidOutB Try.prog = true := by kernel_rfl
theorem opensDot : Opens Try.prog 72 k72 (fun a => a.f0.size ≤ maxLen) :=
  opens_iso (fun x : S72 => (x.f0, x.f1)) (fun a => ⟨a.1, a.2⟩) (fun _ => rfl) (fun a h => h.1) (opens_struct Try.underlying72 (by kernel_rfl) (fields_cons rfl rfl (by kernel_rfl) (opens_string Try.underlying9) (fields_last rfl rfl (by kernel_rfl) (opens_int Try.underlying2))))
theorem opensDots : Opens Try.prog 32 (Kd.slice 72 k72) (fun xs => ∀ a, a ∈ xs → a.f0.size ≤ maxLen) := opens_slice Try.underlying32 (by kernel_rfl) opensDot
set_option maxRecDepth 100000 in
theorem opensOp : Opens Try.prog 74 k74 WfOp :=
  by have h := opens_struct (P := Try.prog) (t := 74) Try.underlying74 (by kernel_rfl) (fields_cons rfl rfl (by kernel_rfl) opensDot (fields_cons rfl rfl (by kernel_rfl) opensDots (fields_cons rfl rfl (by kernel_rfl) (opens_string Try.underlying9) (fields_cons rfl rfl (by kernel_rfl) (opens_int Try.underlying3) (fields_cons rfl rfl (by kernel_rfl) (opens_string Try.underlying9) (fields_cons rfl rfl (by kernel_rfl) (opens_int Try.underlying2) (fields_last rfl rfl (by kernel_rfl) opensDots)))))))
     exact opens_iso (fun x : S74 => (x.f0, x.f1, x.f2, x.f3, x.f4, x.f5, x.f6)) (fun a => ⟨a.1, a.2.1, a.2.2.1, a.2.2.2.1, a.2.2.2.2.1, a.2.2.2.2.2.1, a.2.2.2.2.2.2⟩) (fun _ => rfl) (fun a h => h) h
theorem opensOps : Opens Try.prog 22 (Kd.slice 74 k74) (fun xs => ∀ a, a ∈ xs → WfOp a) := opens_slice Try.underlying22 (by kernel_rfl) opensOp
set_option maxRecDepth 100000 in
theorem opensFr : Opens Try.prog 34 kFr (WfF maxLen) := by
  have h := opens_struct (P := Try.prog) (t := 34) Try.underlying34 (by kernel_rfl) (fields_cons rfl rfl (by kernel_rfl) (opens_int Try.underlying3) (fields_cons rfl rfl (by kernel_rfl) (opens_string Try.underlying9) (fields_cons rfl rfl (by kernel_rfl) (opens_string Try.underlying9) (fields_cons rfl rfl (by kernel_rfl) (opens_string Try.underlying9) (fields_cons rfl rfl (by kernel_rfl) (opens_int Try.underlying2) (fields_cons rfl rfl (by kernel_rfl) (opens_int Try.underlying2) (fields_cons rfl rfl (by kernel_rfl) (opens_int Try.underlying2) (fields_cons rfl rfl (by kernel_rfl) opensDots (fields_last rfl rfl (by kernel_rfl) opensOps)))))))))
  exact opens_iso (fun x : Fr => (x.k, x.fa, x.fb, x.ct, x.se, x.ix, x.mn, x.kn, x.op)) (fun a => ⟨a.1, a.2.1, a.2.2.1, a.2.2.2.1, a.2.2.2.2.1, a.2.2.2.2.2.1, a.2.2.2.2.2.2.1, a.2.2.2.2.2.2.2.1, a.2.2.2.2.2.2.2.2⟩) (fun _ => rfl) (fun a h => ⟨h.2.1, h.2.2.1, h.2.2.2.1, h.2.2.2.2.2.2.2.1, fun x hx => ⟨(h.2.2.2.2.2.2.2.2 x hx).1, (h.2.2.2.2.2.2.2.2 x hx).2.1, (h.2.2.2.2.2.2.2.2 x hx).2.2.2.2.2.2⟩, by unfold maxLen; omega⟩) h
theorem opensFrs : Opens Try.prog 23 (Kd.slice 34 kFr) (fun xs => ∀ a, a ∈ xs → WfF maxLen a) := opens_slice Try.underlying23 (by kernel_rfl) opensFr
set_option maxHeartbeats 4000000 in
set_option maxRecDepth 100000 in
theorem lifted (os : Os) (started : os.Started) (H : Type) (enc : TypeId × Value → H) :
    ReturnsInHanded {} Try.checked os 5 .any (Rows.sessTakesSpec.pre6 enc Try.prog Try.f5 Rows.sessTakesRow.domain false) (Rows.sessTakesSpec.post enc Try.prog Try.f5 false true false false) := by
  refine returnsInHanded_of_change_sized (C := Try.checked) own started (by kernel_rfl) Try.func5
    (ChangeSpec.witness6 (enc := enc) (C := Try.checked) false ⟨#[], #[.string ByteArray.empty, .slice none 0 0], []⟩ 8 (by kernel_rfl) (by kernel_rfl) (by kernel_rfl) (by kernel_rfl)) ?_
  intro W base args ds gs before hval0 hW hcnd hsz0 _
  have hval : ∀ (j : Nat) t v, Try.f5.params[j]? = some t → args[j]? = some v → Value.okWide Try.prog W .any base t v := hval0
  have hsz : (DataW.weightsEach Try.prog (Try.f5.params.toList ++ Rows.sessTakesSpec.plain.varTypes Try.prog) (ds ++ gs)).all (· ≤ reachBytes) = true := hsz0
  have hW' := hW
  obtain ⟨p, q, hA0, hV, rfl, hfz, hnd⟩ := hW
  have hA : DataW.TrodAll enc Try.prog W 0 (fun _ => true) true Try.f5.params.toList args.toList ds p := hA0
  rw [Try.params5] at hA hval hsz
  obtain ⟨v0, vs0, d0, ds0, p0, q0, hargs, rfl, rfl, h0, r0⟩ := trodAll_cons hA
  obtain ⟨v1, vs1, d1, ds1, p1, q1, rfl, rfl, rfl, h1, r1⟩ := trodAll_cons r0
  obtain ⟨rfl, rfl, rfl⟩ := trodAll_nil r1
  obtain rfl : args = #[v0, v1] := by cases args; simp_all
  obtain ⟨rfl, rfl⟩ := trodVars_none hV
  obtain ⟨x0, rfl, rfl, rfl, w0⟩ := open_string Try.underlying9 (hval 0 9 v0 rfl rfl) h0
  have y0 : x0.size ≤ 140737488351232 := by have h := sized_string hsz (j := 0) (t := 9) rfl rfl; simpa [reachBytes] using h
  have lt1 : ∀ x ∈ p1, x.block < W.heap.size := by obtain ⟨m, hm⟩ := h1; exact DataW.trod_lt m _ _ _ hm
  obtain ⟨a1, len1, cap1, rfl⟩ := okWide_slice Try.underlying23 (hval 1 23 v1 rfl rfl)
  obtain ⟨z1, ⟨A1, c1, e1, le1, C1⟩, w1⟩ : ∃ z, (Kd.slice 34 kFr).K W z [.slice a1 len1 cap1] ∧ (∀ a, a ∈ z → WfF maxLen a) := by
    obtain ⟨fuel, hf⟩ := h1
    exact opensFrs H enc W _ _ _ fuel _ _ hf
  cases e1
  refine (sessTakes_row W x0 a1 cap1 z1 y0 C1 le1 w1).mono fun e W' ⟨he, bel⟩ => ?_
  subst he
  exact ⟨_, rfl, _, _, _, [], _, [], hW', trodAll_mk1 (shut_bool Try.underlying4 _), (trodAll_cons_mk (shut_string Try.underlying9 w0) (trodAll_cons_mk (Below.trod laidOut (by kernel_rfl) (of_decide_eq_true (by kernel_rfl)) h1 bel lt1) trodAll_mk0)), rfl, bel.frame _, fun h => by cases h⟩
theorem over : Rows.sessTakesRow.holds Try.pinned (OpenSpec.ofChange Rows.sessTakesSpec) :=
  OpenClaim.holds_of_wide 5 Try.f5 rfl rfl rfl rfl rfl rfl rfl ⟨rfl, rfl, rfl, rfl, rfl⟩ rfl rfl rfl rfl rfl (by kernel_rfl) Try.func5 (by kernel_rfl)
    (of_decide_eq_true (by kernel_rfl)) (by unfold Func.isWrapper; first | (rw [if_pos (by decide +kernel)]; kernel_rfl) | (rw [if_neg (by decide +kernel)]; exact ⟨rfl, rfl⟩))
    (fun os started H enc _ => lifted os started H enc)
theorem proved : Rows.SessTakesSaid := over
end Go.Proofs.Ytjejhgjdmbodiaa.sessTakes
namespace Go.Proofs.Ytjejhgjdmbodiaa
theorem sessTakes_holds : Rows.SessTakesSaid := sessTakes.proved
end Go.Proofs.Ytjejhgjdmbodiaa
