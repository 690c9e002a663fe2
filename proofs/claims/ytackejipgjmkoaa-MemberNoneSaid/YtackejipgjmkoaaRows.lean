/-
  No cell of these rows narrows 'for every input' (looked for: loops, veiled, ifaces, maps, wideKeys, modest, calm, conditions, laid).
  DERIVED. THE GIVEN ROWS OF THIS SEAT. 5 by the template 'for every input the law returns true; each argument reads behind the call as it read before'; 0 by the template 'total and deterministic' (their statements: YtackejipgjmkoaaTotals.lean).
  GIVEN WITH THE SEED: the statements are not yours to turn. If you find one false, say at which input.
  Laid BY PROGRAM, IN A SANDBOX (cutbox-rows.mjs): the forced cells as the released guide's own fill.sh prints them over the translation cee4b1ed73c623eb… (all of the seat's roots in one cut). By AI agents, Wed Nov 11 2026. No macro, syntax, notation, axiom, sorry.
-/
import Derived.Test.YtackejipgjmkoaaChecked
import GoSem.Claim
import GoSem.ClaimJoined
import GoSem.ClaimMapViews
import Derived.JoinedTies
import Derived.KernelRfl
namespace Go.Proofs.Ytackejipgjmkoaa
/- THE CELL 'sum', in the pinned program and in every row, IS THE sha256 OF THE DUMP (.gsa) THAT YtackejipgjmkoaaProg.lean LOADS. Nothing in Lean hashes anything: it is a label: what it is worth is what the hold of that sum in a sandbox is worth. -/
noncomputable def Try.pinned : Pinned := { name := "ytackejipgjmkoaa", sum := "cee4b1ed73c623eb2c7ae42c5a1a51d8bdb607c4f75470cf118ca1a7c8ab307b", checked := Try.checked }
namespace Rows
def none {H : Type} : Left H := { results := [], args := [] }

/-- 'pannierlaw15.MemberOthers': WHATEVER THE INPUT: true; the input reads as it did. -/
def memberOthersSpec : ChangeSpec := { name := "memberOthers", fn := fun _ => fun
  | [d1, d2] => { results := [.lit (.bool true)], args := [d1, d2] }
  | _ => none }
def memberOthersRow : OpenClaim := { program := "ytackejipgjmkoaa", sum := "cee4b1ed73c623eb2c7ae42c5a1a51d8bdb607c4f75470cf118ca1a7c8ab307b", func := "pannier/pannierlaw15.MemberOthers", spec := "memberOthers", unfollowed := true, recurses := true, apart := false }
def MemberOthersSaid : Prop := memberOthersRow.holds Try.pinned (OpenSpec.ofChange memberOthersSpec)

/-- ITS FALSE NEIGHBOUR: 'it returns false'. Refute it at one input. -/
def memberOthersWrong : ChangeSpec := { name := "memberOthers", fn := fun _ => fun
  | [d1, d2] => { results := [.lit (.bool false)], args := [d1, d2] }
  | _ => none }
def MemberOthersWrongFalsely : Prop := memberOthersRow.holds Try.pinned (OpenSpec.ofChange memberOthersWrong)

/-- 'pannierlaw15.MemberDoes': WHATEVER THE INPUT: true; the input reads as it did. -/
def memberDoesSpec : ChangeSpec := { name := "memberDoes", fn := fun _ => fun
  | [d] => { results := [.lit (.bool true)], args := [d] }
  | _ => none }
def memberDoesRow : OpenClaim := { program := "ytackejipgjmkoaa", sum := "cee4b1ed73c623eb2c7ae42c5a1a51d8bdb607c4f75470cf118ca1a7c8ab307b", func := "pannier/pannierlaw15.MemberDoes", spec := "memberDoes", unfollowed := true, recurses := true, apart := false }
def MemberDoesSaid : Prop := memberDoesRow.holds Try.pinned (OpenSpec.ofChange memberDoesSpec)

/-- ITS FALSE NEIGHBOUR: 'it returns false'. Refute it at one input. -/
def memberDoesWrong : ChangeSpec := { name := "memberDoes", fn := fun _ => fun
  | [d] => { results := [.lit (.bool false)], args := [d] }
  | _ => none }
def MemberDoesWrongFalsely : Prop := memberDoesRow.holds Try.pinned (OpenSpec.ofChange memberDoesWrong)

/-- 'pannierlaw15.MemberNone': WHATEVER THE INPUT: true; the input reads as it did. -/
def memberNoneSpec : ChangeSpec := { name := "memberNone", fn := fun _ => fun
  | [d1, d2] => { results := [.lit (.bool true)], args := [d1, d2] }
  | _ => none }
def memberNoneRow : OpenClaim := { program := "ytackejipgjmkoaa", sum := "cee4b1ed73c623eb2c7ae42c5a1a51d8bdb607c4f75470cf118ca1a7c8ab307b", func := "pannier/pannierlaw15.MemberNone", spec := "memberNone", unfollowed := true, recurses := true, apart := false }
def MemberNoneSaid : Prop := memberNoneRow.holds Try.pinned (OpenSpec.ofChange memberNoneSpec)

/-- ITS FALSE NEIGHBOUR: 'it returns false'. Refute it at one input. -/
def memberNoneWrong : ChangeSpec := { name := "memberNone", fn := fun _ => fun
  | [d1, d2] => { results := [.lit (.bool false)], args := [d1, d2] }
  | _ => none }
def MemberNoneWrongFalsely : Prop := memberNoneRow.holds Try.pinned (OpenSpec.ofChange memberNoneWrong)

/-- 'pannierlaw15.MemberReads': WHATEVER THE INPUT: true; the input reads as it did. -/
def memberReadsSpec : ChangeSpec := { name := "memberReads", fn := fun _ => fun
  | [d] => { results := [.lit (.bool true)], args := [d] }
  | _ => none }
def memberReadsRow : OpenClaim := { program := "ytackejipgjmkoaa", sum := "cee4b1ed73c623eb2c7ae42c5a1a51d8bdb607c4f75470cf118ca1a7c8ab307b", func := "pannier/pannierlaw15.MemberReads", spec := "memberReads", unfollowed := true, recurses := true, apart := false }
def MemberReadsSaid : Prop := memberReadsRow.holds Try.pinned (OpenSpec.ofChange memberReadsSpec)

/-- ITS FALSE NEIGHBOUR: 'it returns false'. Refute it at one input. -/
def memberReadsWrong : ChangeSpec := { name := "memberReads", fn := fun _ => fun
  | [d] => { results := [.lit (.bool false)], args := [d] }
  | _ => none }
def MemberReadsWrongFalsely : Prop := memberReadsRow.holds Try.pinned (OpenSpec.ofChange memberReadsWrong)

/-- 'pannierlaw15.MemberOn': WHATEVER THE INPUT: true; the input reads as it did. -/
def memberOnSpec : ChangeSpec := { name := "memberOn", fn := fun _ => fun
  | [d1, d2] => { results := [.lit (.bool true)], args := [d1, d2] }
  | _ => none }
def memberOnRow : OpenClaim := { program := "ytackejipgjmkoaa", sum := "cee4b1ed73c623eb2c7ae42c5a1a51d8bdb607c4f75470cf118ca1a7c8ab307b", func := "pannier/pannierlaw15.MemberOn", spec := "memberOn", unfollowed := true, recurses := true, apart := false }
def MemberOnSaid : Prop := memberOnRow.holds Try.pinned (OpenSpec.ofChange memberOnSpec)

/-- ITS FALSE NEIGHBOUR: 'it returns false'. Refute it at one input. -/
def memberOnWrong : ChangeSpec := { name := "memberOn", fn := fun _ => fun
  | [d1, d2] => { results := [.lit (.bool false)], args := [d1, d2] }
  | _ => none }
def MemberOnWrongFalsely : Prop := memberOnRow.holds Try.pinned (OpenSpec.ofChange memberOnWrong)

/- THE SECOND FORM. 'bulk': how many values and letters a reading holds, each counted each time it is reached (what is shared counts as often as it is met; a slice's spare places count too). A statement '..UptoSaid' is the law's where the arguments, and the package variables that the reading takes, are together of bulk at most 1048576: NARROWER than '..Said'. Prove '..Said' where nothing that the law and all that it calls make is longer than what came in: it says more and counts as full. Else prove '..UptoSaid'. A law counts once. -/
mutual
def uptoBulk {H : Type} : DataW H → Nat
  | .lit (.string bytes) => bytes.length + 1
  | .lit _ => 1
  | .nil => 1
  | .ptr d => uptoBulk d + 1
  | .slice elems spare => uptoBulkAll elems + uptoBulkAll spare + 1
  | .agg parts => uptoBulkAll parts + 1
  | .iface _ d => uptoBulk d + 1
  | .map entries => uptoBulkEntries entries + 1
  | .held _ => 1
def uptoBulkAll {H : Type} : List (DataW H) → Nat
  | [] => 0
  | d :: r => uptoBulk d + uptoBulkAll r
def uptoBulkEntries {H : Type} : List (Lit × DataW H) → Nat
  | [] => 0
  | x :: r => uptoBulkEntry x + uptoBulkEntries r
def uptoBulkEntry {H : Type} : Lit × DataW H → Nat
  | (.string bytes, d) => bytes.length + uptoBulk d + 1
  | (_, d) => uptoBulk d + 1
 end
def uptoSmall : (H : Type) → List (DataW H) → Bool := fun _ ds => decide (uptoBulkAll ds ≤ 1048576)
def OpenSpec.upto (s : _root_.Go.ChangeSpec) : _root_.Go.OpenSpec := { _root_.Go.OpenSpec.ofChange s with cond := some uptoSmall }

/-- 'pannierlaw15.MemberOthers', WHERE WHAT IT READS IS OF BULK AT MOST 1048576: true; the input reads as it did. -/
def memberOthersUptoRow : OpenClaim := { program := "ytackejipgjmkoaa", sum := "cee4b1ed73c623eb2c7ae42c5a1a51d8bdb607c4f75470cf118ca1a7c8ab307b", func := "pannier/pannierlaw15.MemberOthers", spec := "memberOthers", unfollowed := true, recurses := true, apart := false, narrowed := true }
def MemberOthersUptoSaid : Prop := memberOthersUptoRow.holds Try.pinned (OpenSpec.upto memberOthersSpec)

/-- 'pannierlaw15.MemberDoes', WHERE WHAT IT READS IS OF BULK AT MOST 1048576: true; the input reads as it did. -/
def memberDoesUptoRow : OpenClaim := { program := "ytackejipgjmkoaa", sum := "cee4b1ed73c623eb2c7ae42c5a1a51d8bdb607c4f75470cf118ca1a7c8ab307b", func := "pannier/pannierlaw15.MemberDoes", spec := "memberDoes", unfollowed := true, recurses := true, apart := false, narrowed := true }
def MemberDoesUptoSaid : Prop := memberDoesUptoRow.holds Try.pinned (OpenSpec.upto memberDoesSpec)

/-- 'pannierlaw15.MemberNone', WHERE WHAT IT READS IS OF BULK AT MOST 1048576: true; the input reads as it did. -/
def memberNoneUptoRow : OpenClaim := { program := "ytackejipgjmkoaa", sum := "cee4b1ed73c623eb2c7ae42c5a1a51d8bdb607c4f75470cf118ca1a7c8ab307b", func := "pannier/pannierlaw15.MemberNone", spec := "memberNone", unfollowed := true, recurses := true, apart := false, narrowed := true }
def MemberNoneUptoSaid : Prop := memberNoneUptoRow.holds Try.pinned (OpenSpec.upto memberNoneSpec)

/-- 'pannierlaw15.MemberReads', WHERE WHAT IT READS IS OF BULK AT MOST 1048576: true; the input reads as it did. -/
def memberReadsUptoRow : OpenClaim := { program := "ytackejipgjmkoaa", sum := "cee4b1ed73c623eb2c7ae42c5a1a51d8bdb607c4f75470cf118ca1a7c8ab307b", func := "pannier/pannierlaw15.MemberReads", spec := "memberReads", unfollowed := true, recurses := true, apart := false, narrowed := true }
def MemberReadsUptoSaid : Prop := memberReadsUptoRow.holds Try.pinned (OpenSpec.upto memberReadsSpec)

/-- 'pannierlaw15.MemberOn', WHERE WHAT IT READS IS OF BULK AT MOST 1048576: true; the input reads as it did. -/
def memberOnUptoRow : OpenClaim := { program := "ytackejipgjmkoaa", sum := "cee4b1ed73c623eb2c7ae42c5a1a51d8bdb607c4f75470cf118ca1a7c8ab307b", func := "pannier/pannierlaw15.MemberOn", spec := "memberOn", unfollowed := true, recurses := true, apart := false, narrowed := true }
def MemberOnUptoSaid : Prop := memberOnUptoRow.holds Try.pinned (OpenSpec.upto memberOnSpec)

end Rows
end Go.Proofs.Ytackejipgjmkoaa
