/- What the rows of this claim use, out of the texts of this work (RowSessNone). No condition beyond those that each statement names. -/
import Derived.Test.YtjejhgjdmbodiaaRows
import Derived.WalkKit
import Derived.ProofKit
import Derived.OpenShut
import Derived.ShutString
import Derived.ChangeOld
import Derived.Below
import Derived.SizedLaws
import Derived.Test.YtjejhgjdmbodiaaZbSI
import Derived.Test.YtjejhgjdmbodiaaZbX
namespace Go.Proofs.Ytjejhgjdmbodiaa.sessNone
open Go.ChangeShapes Go.WideShapes Go.ChangeAt Go.RowKit Go.Proofs.Ytjejhgjdmbodiaa.XOpen Go.Proofs.Ytjejhgjdmbodiaa.PO Go.Proofs.YtjejhgjdmbodiaaW.PrintWords
open Go.ChangeMaps (open_string shut_string)
set_option linter.unusedVariables false
theorem own : ownKnob Try.prog.godebug = none := by kernel_rfl
theorem laidOut : laidOutB Try.prog = true := by kernel_rfl
theorem opensDot : Opens Try.prog 72 k72 (fun a => a.f0.size ≤ maxLen) :=
  opens_iso (fun x : S72 => (x.f0, x.f1)) (fun a => ⟨a.1, a.2⟩) (fun _ => rfl) (fun a h => h.1) (opens_struct Try.underlying72 (by kernel_rfl) (fields_cons rfl rfl (by kernel_rfl) (opens_string Try.underlying9) (fields_last rfl rfl (by kernel_rfl) (opens_int Try.underlying2))))
theorem opensDots : Opens Try.prog 32 (Kd.slice 72 k72) (fun xs => ∀ a, a ∈ xs → a.f0.size ≤ maxLen) := opens_slice Try.underlying32 (by kernel_rfl) opensDot
set_option maxRecDepth 100000 in
theorem opensOp : Opens Try.prog 74 k74 WfOp :=
  by have h := opens_struct (P := Try.prog) (t := 74) Try.underlying74 (by kernel_rfl) (fields_cons rfl rfl (by kernel_rfl) opensDot (fields_cons rfl rfl (by kernel_rfl) opensDots (fields_cons rfl rfl (by kernel_rfl) (opens_string Try.underlying9) (fields_cons rfl rfl (by kernel_rfl) (opens_int Try.underlying3) (fields_cons rfl rfl (by kernel_rfl) (opens_string Try.underlying9) (fields_cons rfl rfl (by kernel_rfl) (opens_int Try.underlying2) (fields_last rfl rfl (by kernel_rfl) opensDots)))))))
     exact opens_iso (fun x : S74 => (x.f0, x.f1, x.f2, x.f3, x.f4, x.f5, x.f6)) (fun a => ⟨a.1, a.2.1, a.2.2.1, a.2.2.2.1, a.2.2.2.2.1, a.2.2.2.2.2.1, a.2.2.2.2.2.2⟩) (fun _ => rfl) (fun a h => h) h
theorem opensOps : Opens Try.prog 22 (Kd.slice 74 k74) (fun xs => ∀ a, a ∈ xs → WfOp a) := opens_slice Try.underlying22 (by kernel_rfl) opensOp
def kFr : Kd Fr := Kd.iso (Kd.pair (Kd.int .i64) (Kd.pair Kd.string (Kd.pair Kd.string (Kd.pair Kd.string (Kd.pair (Kd.int .i64) (Kd.pair (Kd.int .i64) (Kd.pair (Kd.int .i64) (Kd.pair (Kd.slice 72 k72) (Kd.slice 74 k74))))))))) (fun x : Fr => (x.k, x.fa, x.fb, x.ct, x.se, x.ix, x.mn, x.kn, x.op))
theorem kFr_open {w : World} {x : Fr} {cs : List Value} (h : kFr.K w x cs) : ∃ A7 c7 A8 c8, cs = [.int .i64 x.k, .string x.fa, .string x.fb, .string x.ct, .int .i64 x.se, .int .i64 x.ix, .int .i64 x.mn, .slice A7 x.kn.length c7, .slice A8 x.op.length c8] ∧ x.kn.length ≤ c7 ∧ k72.C w A7 x.kn.length x.kn ∧ x.op.length ≤ c8 ∧ k74.C w A8 x.op.length x.op := by
  obtain ⟨_, _, rfl, rfl, ⟨_, _, rfl, rfl, ⟨_, _, rfl, rfl, ⟨_, _, rfl, rfl, ⟨_, _, rfl, rfl, ⟨_, _, rfl, rfl, ⟨_, _, rfl, rfl, ⟨_, _, rfl, ⟨A7, c7, rfl, l7, g7⟩, ⟨A8, c8, rfl, l8, g8⟩⟩⟩⟩⟩⟩⟩⟩⟩ := h
  exact ⟨A7, c7, A8, c8, rfl, l7, g7, l8, g8⟩
set_option maxRecDepth 100000 in
theorem opensFr : Opens Try.prog 34 kFr (fun _ => True) := by
  have h := opens_struct (P := Try.prog) (t := 34) Try.underlying34 (by kernel_rfl) (fields_cons rfl rfl (by kernel_rfl) (opens_int Try.underlying3) (fields_cons rfl rfl (by kernel_rfl) (opens_string Try.underlying9) (fields_cons rfl rfl (by kernel_rfl) (opens_string Try.underlying9) (fields_cons rfl rfl (by kernel_rfl) (opens_string Try.underlying9) (fields_cons rfl rfl (by kernel_rfl) (opens_int Try.underlying2) (fields_cons rfl rfl (by kernel_rfl) (opens_int Try.underlying2) (fields_cons rfl rfl (by kernel_rfl) (opens_int Try.underlying2) (fields_cons rfl rfl (by kernel_rfl) opensDots (fields_last rfl rfl (by kernel_rfl) opensOps)))))))))
  exact opens_iso (fun x : Fr => (x.k, x.fa, x.fb, x.ct, x.se, x.ix, x.mn, x.kn, x.op)) (fun a => ⟨a.1, a.2.1, a.2.2.1, a.2.2.2.1, a.2.2.2.2.1, a.2.2.2.2.2.1, a.2.2.2.2.2.2.1, a.2.2.2.2.2.2.2.1, a.2.2.2.2.2.2.2.2⟩) (fun _ => rfl) (fun a h => trivial) h
set_option maxHeartbeats 4000000 in
set_option maxRecDepth 100000 in
theorem lifted (os : Os) (started : os.Started) (H : Type) (enc : TypeId × Value → H) :
    ReturnsInHanded {} Try.checked os 6 .any (Rows.sessNoneSpec.pre6 enc Try.prog Try.f6 Rows.sessNoneRow.domain false) (Rows.sessNoneSpec.post enc Try.prog Try.f6 false true false false) := by
  refine returnsInHanded_of_change_sized (C := Try.checked) own started (by kernel_rfl) Try.func6
    (ChangeSpec.witness6 (enc := enc) (C := Try.checked) false ⟨#[], #[.agg #[.int .i64 0, .string ByteArray.empty, .string ByteArray.empty, .string ByteArray.empty, .int .i64 0, .int .i64 0, .int .i64 0, .slice none 0 0, .slice none 0 0]], []⟩ 8 (by kernel_rfl) (by kernel_rfl) (by kernel_rfl) (by kernel_rfl)) ?_
  intro W base args ds gs before hval0 hW hcnd hsz0 _
  have hval : ∀ (j : Nat) t v, Try.f6.params[j]? = some t → args[j]? = some v → Value.okWide Try.prog W .any base t v := hval0
  have hsz : (DataW.weightsEach Try.prog (Try.f6.params.toList ++ Rows.sessNoneSpec.plain.varTypes Try.prog) (ds ++ gs)).all (· ≤ reachBytes) = true := hsz0
  have hW' := hW
  obtain ⟨p, q, hA0, hV, rfl, hfz, hnd⟩ := hW
  have hA : DataW.TrodAll enc Try.prog W 0 (fun _ => true) true Try.f6.params.toList args.toList ds p := hA0
  rw [Try.params6] at hA hval hsz
  obtain ⟨v0, vs0, d0, ds0, p0, q0, hargs, rfl, rfl, h0, r0⟩ := trodAll_cons hA
  obtain ⟨rfl, rfl, rfl⟩ := trodAll_nil r0
  obtain rfl : args = #[v0] := by cases args; simp_all
  obtain ⟨rfl, rfl⟩ := trodVars_none hV
  have lt0 : ∀ x ∈ p0, x.block < W.heap.size := by obtain ⟨m, hm⟩ := h0; exact DataW.trod_lt m _ _ _ hm
  obtain ⟨cs0, rfl, _⟩ := okWide_struct Try.underlying34 (hval 0 34 v0 rfl rfl)
  obtain ⟨x0, K0, w0⟩ : ∃ a, kFr.K W a cs0.toList ∧ True := by
    obtain ⟨fuel, hf⟩ := h0
    exact opensFr H enc W _ _ _ fuel _ _ hf
  obtain ⟨A7_0, c7_0, A8_0, c8_0, E0, l7_0, g7_0, l8_0, g8_0⟩ := kFr_open K0
  obtain rfl : cs0 = #[.int .i64 x0.k, .string x0.fa, .string x0.fb, .string x0.ct, .int .i64 x0.se, .int .i64 x0.ix, .int .i64 x0.mn, .slice A7_0 x0.kn.length c7_0, .slice A8_0 x0.op.length c8_0] := by
    apply Array.ext'
    rw [E0]
  refine (sessNone_calls W x0 A7_0 c7_0 A8_0 c8_0 l7_0 g7_0 l8_0 g8_0).mono fun e W' ⟨he, bel⟩ => ?_
  subst he
  exact ⟨_, rfl, _, _, _, [], _, [], hW', trodAll_mk1 (shut_bool Try.underlying4 _), (trodAll_cons_mk (Below.trod laidOut (by kernel_rfl) (of_decide_eq_true (by kernel_rfl)) h0 bel lt0) trodAll_mk0), rfl, bel.frame _, fun h => by cases h⟩
theorem over : Rows.sessNoneRow.holds Try.pinned (OpenSpec.ofChange Rows.sessNoneSpec) :=
  OpenClaim.holds_of_wide 6 Try.f6 rfl rfl rfl rfl rfl rfl rfl ⟨rfl, rfl, rfl, rfl, rfl⟩ rfl rfl rfl rfl rfl (by kernel_rfl) Try.func6 (by kernel_rfl)
    (of_decide_eq_true (by kernel_rfl)) (by unfold Func.isWrapper; first | (rw [if_pos (by decide +kernel)]; kernel_rfl) | (rw [if_neg (by decide +kernel)]; exact ⟨rfl, rfl⟩))
    (fun os started H enc _ => lifted os started H enc)
theorem proved : Rows.SessNoneSaid := over
end Go.Proofs.Ytjejhgjdmbodiaa.sessNone
namespace Go.Proofs.Ytjejhgjdmbodiaa
theorem sessNone_holds : Rows.SessNoneSaid := sessNone.proved
end Go.Proofs.Ytjejhgjdmbodiaa
