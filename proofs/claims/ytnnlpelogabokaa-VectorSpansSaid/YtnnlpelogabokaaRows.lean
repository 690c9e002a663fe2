/-
  No cell of these rows narrows 'for every input' (looked for: loops, veiled, ifaces, maps, wideKeys, modest, calm, conditions, laid).
  DERIVED. THE GIVEN ROWS OF THIS SEAT. 9 by the template 'for every input the law returns true; each argument reads behind the call as it read before'; 0 by the template 'total and deterministic' (their statements: YtnnlpelogabokaaTotals.lean).
  GIVEN WITH THE SEED: the statements are not yours to turn. If you find one false, say at which input.
  Laid BY PROGRAM, IN A SANDBOX (cutbox-rows.mjs): the forced cells as the released guide's own fill.sh prints them over the translation e9c88790001f6ea4… (all of the seat's roots in one cut). By AI agents, Wed Nov 11 2026. No macro, syntax, notation, axiom, sorry.
-/
import Derived.Test.YtnnlpelogabokaaChecked
import GoSem.Claim
import GoSem.ClaimJoined
import GoSem.ClaimMapViews
import Derived.JoinedTies
import Derived.KernelRfl
namespace Go.Proofs.Ytnnlpelogabokaa
/- THE CELL 'sum', in the pinned program and in every row, IS THE sha256 OF THE DUMP (.gsa) THAT YtnnlpelogabokaaProg.lean LOADS. Nothing in Lean hashes anything: it is a label: what it is worth is what the hold of that sum in a sandbox is worth. -/
noncomputable def Try.pinned : Pinned := { name := "ytnnlpelogabokaa", sum := "e9c88790001f6ea4d3677556c9b8f97ddc2213ba163a3054bdf2ac3f3aa5f8f8", checked := Try.checked }
namespace Rows
def none {H : Type} : Left H := { results := [], args := [] }

/-- 'pannierlaw07.VectorMeets': WHATEVER THE INPUT: true; the input reads as it did. -/
def vectorMeetsSpec : ChangeSpec := { name := "vectorMeets", fn := fun _ => fun
  | [d] => { results := [.lit (.bool true)], args := [d] }
  | _ => none }
def vectorMeetsRow : OpenClaim := { program := "ytnnlpelogabokaa", sum := "e9c88790001f6ea4d3677556c9b8f97ddc2213ba163a3054bdf2ac3f3aa5f8f8", func := "pannier/pannierlaw07.VectorMeets", spec := "vectorMeets", inPlace := ["internal/bytealg.abigen_runtime_cmpstring"], unfollowed := true, recurses := true, apart := false }
def VectorMeetsSaid : Prop := vectorMeetsRow.holds Try.pinned (OpenSpec.ofChange vectorMeetsSpec)

/-- ITS FALSE NEIGHBOUR: 'it returns false'. Refute it at one input. -/
def vectorMeetsWrong : ChangeSpec := { name := "vectorMeets", fn := fun _ => fun
  | [d] => { results := [.lit (.bool false)], args := [d] }
  | _ => none }
def VectorMeetsWrongFalsely : Prop := vectorMeetsRow.holds Try.pinned (OpenSpec.ofChange vectorMeetsWrong)

/-- 'pannierlaw07.VectorThree': WHATEVER THE INPUT: true; the input reads as it did. -/
def vectorThreeSpec : ChangeSpec := { name := "vectorThree", fn := fun _ => fun
  | [d1, d2, d3] => { results := [.lit (.bool true)], args := [d1, d2, d3] }
  | _ => none }
def vectorThreeRow : OpenClaim := { program := "ytnnlpelogabokaa", sum := "e9c88790001f6ea4d3677556c9b8f97ddc2213ba163a3054bdf2ac3f3aa5f8f8", func := "pannier/pannierlaw07.VectorThree", spec := "vectorThree", inPlace := ["internal/bytealg.abigen_runtime_cmpstring"], unfollowed := true, recurses := true, apart := false }
def VectorThreeSaid : Prop := vectorThreeRow.holds Try.pinned (OpenSpec.ofChange vectorThreeSpec)

/-- ITS FALSE NEIGHBOUR: 'it returns false'. Refute it at one input. -/
def vectorThreeWrong : ChangeSpec := { name := "vectorThree", fn := fun _ => fun
  | [d1, d2, d3] => { results := [.lit (.bool false)], args := [d1, d2, d3] }
  | _ => none }
def VectorThreeWrongFalsely : Prop := vectorThreeRow.holds Try.pinned (OpenSpec.ofChange vectorThreeWrong)

/-- 'pannierlaw07.VectorHas': WHATEVER THE INPUT: true; the input reads as it did. -/
def vectorHasSpec : ChangeSpec := { name := "vectorHas", fn := fun _ => fun
  | [d1, d2] => { results := [.lit (.bool true)], args := [d1, d2] }
  | _ => none }
def vectorHasRow : OpenClaim := { program := "ytnnlpelogabokaa", sum := "e9c88790001f6ea4d3677556c9b8f97ddc2213ba163a3054bdf2ac3f3aa5f8f8", func := "pannier/pannierlaw07.VectorHas", spec := "vectorHas", inPlace := ["internal/bytealg.abigen_runtime_cmpstring"], unfollowed := true, recurses := true, apart := false }
def VectorHasSaid : Prop := vectorHasRow.holds Try.pinned (OpenSpec.ofChange vectorHasSpec)

/-- ITS FALSE NEIGHBOUR: 'it returns false'. Refute it at one input. -/
def vectorHasWrong : ChangeSpec := { name := "vectorHas", fn := fun _ => fun
  | [d1, d2] => { results := [.lit (.bool false)], args := [d1, d2] }
  | _ => none }
def VectorHasWrongFalsely : Prop := vectorHasRow.holds Try.pinned (OpenSpec.ofChange vectorHasWrong)

/-- 'pannierlaw07.VectorLeast': WHATEVER THE INPUT: true; the input reads as it did. -/
def vectorLeastSpec : ChangeSpec := { name := "vectorLeast", fn := fun _ => fun
  | [d1, d2, d3] => { results := [.lit (.bool true)], args := [d1, d2, d3] }
  | _ => none }
def vectorLeastRow : OpenClaim := { program := "ytnnlpelogabokaa", sum := "e9c88790001f6ea4d3677556c9b8f97ddc2213ba163a3054bdf2ac3f3aa5f8f8", func := "pannier/pannierlaw07.VectorLeast", spec := "vectorLeast", inPlace := ["internal/bytealg.abigen_runtime_cmpstring"], unfollowed := true, recurses := true, apart := false }
def VectorLeastSaid : Prop := vectorLeastRow.holds Try.pinned (OpenSpec.ofChange vectorLeastSpec)

/-- ITS FALSE NEIGHBOUR: 'it returns false'. Refute it at one input. -/
def vectorLeastWrong : ChangeSpec := { name := "vectorLeast", fn := fun _ => fun
  | [d1, d2, d3] => { results := [.lit (.bool false)], args := [d1, d2, d3] }
  | _ => none }
def VectorLeastWrongFalsely : Prop := vectorLeastRow.holds Try.pinned (OpenSpec.ofChange vectorLeastWrong)

/-- 'pannierlaw07.VectorJoins': WHATEVER THE INPUT: true; the input reads as it did. -/
def vectorJoinsSpec : ChangeSpec := { name := "vectorJoins", fn := fun _ => fun
  | [d1, d2] => { results := [.lit (.bool true)], args := [d1, d2] }
  | _ => none }
def vectorJoinsRow : OpenClaim := { program := "ytnnlpelogabokaa", sum := "e9c88790001f6ea4d3677556c9b8f97ddc2213ba163a3054bdf2ac3f3aa5f8f8", func := "pannier/pannierlaw07.VectorJoins", spec := "vectorJoins", inPlace := ["internal/bytealg.abigen_runtime_cmpstring"], unfollowed := true, recurses := true, apart := false }
def VectorJoinsSaid : Prop := vectorJoinsRow.holds Try.pinned (OpenSpec.ofChange vectorJoinsSpec)

/-- ITS FALSE NEIGHBOUR: 'it returns false'. Refute it at one input. -/
def vectorJoinsWrong : ChangeSpec := { name := "vectorJoins", fn := fun _ => fun
  | [d1, d2] => { results := [.lit (.bool false)], args := [d1, d2] }
  | _ => none }
def VectorJoinsWrongFalsely : Prop := vectorJoinsRow.holds Try.pinned (OpenSpec.ofChange vectorJoinsWrong)

/-- 'pannierlaw07.VectorBytes': WHATEVER THE INPUT: true; the input reads as it did. -/
def vectorBytesSpec : ChangeSpec := { name := "vectorBytes", fn := fun _ => fun
  | [d1, d2, d3] => { results := [.lit (.bool true)], args := [d1, d2, d3] }
  | _ => none }
def vectorBytesRow : OpenClaim := { program := "ytnnlpelogabokaa", sum := "e9c88790001f6ea4d3677556c9b8f97ddc2213ba163a3054bdf2ac3f3aa5f8f8", func := "pannier/pannierlaw07.VectorBytes", spec := "vectorBytes", inPlace := ["internal/bytealg.abigen_runtime_cmpstring"], unfollowed := true, recurses := true, apart := false }
def VectorBytesSaid : Prop := vectorBytesRow.holds Try.pinned (OpenSpec.ofChange vectorBytesSpec)

/-- ITS FALSE NEIGHBOUR: 'it returns false'. Refute it at one input. -/
def vectorBytesWrong : ChangeSpec := { name := "vectorBytes", fn := fun _ => fun
  | [d1, d2, d3] => { results := [.lit (.bool false)], args := [d1, d2, d3] }
  | _ => none }
def VectorBytesWrongFalsely : Prop := vectorBytesRow.holds Try.pinned (OpenSpec.ofChange vectorBytesWrong)

/-- 'pannierlaw07.VectorBack': WHATEVER THE INPUT: true; the input reads as it did. -/
def vectorBackSpec : ChangeSpec := { name := "vectorBack", fn := fun _ => fun
  | [d1, d2] => { results := [.lit (.bool true)], args := [d1, d2] }
  | _ => none }
def vectorBackRow : OpenClaim := { program := "ytnnlpelogabokaa", sum := "e9c88790001f6ea4d3677556c9b8f97ddc2213ba163a3054bdf2ac3f3aa5f8f8", func := "pannier/pannierlaw07.VectorBack", spec := "vectorBack", inPlace := ["internal/bytealg.abigen_runtime_cmpstring"], unfollowed := true, recurses := true, apart := false }
def VectorBackSaid : Prop := vectorBackRow.holds Try.pinned (OpenSpec.ofChange vectorBackSpec)

/-- ITS FALSE NEIGHBOUR: 'it returns false'. Refute it at one input. -/
def vectorBackWrong : ChangeSpec := { name := "vectorBack", fn := fun _ => fun
  | [d1, d2] => { results := [.lit (.bool false)], args := [d1, d2] }
  | _ => none }
def VectorBackWrongFalsely : Prop := vectorBackRow.holds Try.pinned (OpenSpec.ofChange vectorBackWrong)

/-- 'pannierlaw07.VectorWith': WHATEVER THE INPUT: true; the input reads as it did. -/
def vectorWithSpec : ChangeSpec := { name := "vectorWith", fn := fun _ => fun
  | [d1, d2] => { results := [.lit (.bool true)], args := [d1, d2] }
  | _ => none }
def vectorWithRow : OpenClaim := { program := "ytnnlpelogabokaa", sum := "e9c88790001f6ea4d3677556c9b8f97ddc2213ba163a3054bdf2ac3f3aa5f8f8", func := "pannier/pannierlaw07.VectorWith", spec := "vectorWith", inPlace := ["internal/bytealg.abigen_runtime_cmpstring", "slices.overlaps[pannier/api.Dot]"], unfollowed := true, recurses := true, apart := false }
def VectorWithSaid : Prop := vectorWithRow.holds Try.pinned (OpenSpec.ofChange vectorWithSpec)

/-- ITS FALSE NEIGHBOUR: 'it returns false'. Refute it at one input. -/
def vectorWithWrong : ChangeSpec := { name := "vectorWith", fn := fun _ => fun
  | [d1, d2] => { results := [.lit (.bool false)], args := [d1, d2] }
  | _ => none }
def VectorWithWrongFalsely : Prop := vectorWithRow.holds Try.pinned (OpenSpec.ofChange vectorWithWrong)

/-- 'pannierlaw07.VectorSpans': WHATEVER THE INPUT: true; the input reads as it did. -/
def vectorSpansSpec : ChangeSpec := { name := "vectorSpans", fn := fun _ => fun
  | [d1, d2] => { results := [.lit (.bool true)], args := [d1, d2] }
  | _ => none }
def vectorSpansRow : OpenClaim := { program := "ytnnlpelogabokaa", sum := "e9c88790001f6ea4d3677556c9b8f97ddc2213ba163a3054bdf2ac3f3aa5f8f8", func := "pannier/pannierlaw07.VectorSpans", spec := "vectorSpans", inPlace := ["internal/bytealg.abigen_runtime_cmpstring", "slices.overlaps[pannier/api.Dot]"], unfollowed := true, recurses := true, apart := false }
def VectorSpansSaid : Prop := vectorSpansRow.holds Try.pinned (OpenSpec.ofChange vectorSpansSpec)

/-- ITS FALSE NEIGHBOUR: 'it returns false'. Refute it at one input. -/
def vectorSpansWrong : ChangeSpec := { name := "vectorSpans", fn := fun _ => fun
  | [d1, d2] => { results := [.lit (.bool false)], args := [d1, d2] }
  | _ => none }
def VectorSpansWrongFalsely : Prop := vectorSpansRow.holds Try.pinned (OpenSpec.ofChange vectorSpansWrong)

/- THE SECOND FORM. 'bulk': how many values and letters a reading holds, each counted each time it is reached (what is shared counts as often as it is met; a slice's spare places count too). A statement '..UptoSaid' is the law's where the arguments, and the package variables that the reading takes, are together of bulk at most 1048576: NARROWER than '..Said'. Prove '..Said' where nothing that the law and all that it calls make is longer than what came in: it says more and counts as full. Else prove '..UptoSaid'. A law counts once. -/
mutual
def uptoBulk {H : Type} : DataW H → Nat
  | .lit (.string bytes) => bytes.length + 1
  | .lit _ => 1
  | .nil => 1
  | .ptr d => uptoBulk d + 1
  | .slice elems spare => uptoBulkAll elems + uptoBulkAll spare + 1
  | .agg parts => uptoBulkAll parts + 1
  | .iface _ d => uptoBulk d + 1
  | .map entries => uptoBulkEntries entries + 1
  | .held _ => 1
def uptoBulkAll {H : Type} : List (DataW H) → Nat
  | [] => 0
  | d :: r => uptoBulk d + uptoBulkAll r
def uptoBulkEntries {H : Type} : List (Lit × DataW H) → Nat
  | [] => 0
  | x :: r => uptoBulkEntry x + uptoBulkEntries r
def uptoBulkEntry {H : Type} : Lit × DataW H → Nat
  | (.string bytes, d) => bytes.length + uptoBulk d + 1
  | (_, d) => uptoBulk d + 1
 end
def uptoSmall : (H : Type) → List (DataW H) → Bool := fun _ ds => decide (uptoBulkAll ds ≤ 1048576)
def OpenSpec.upto (s : _root_.Go.ChangeSpec) : _root_.Go.OpenSpec := { _root_.Go.OpenSpec.ofChange s with cond := some uptoSmall }

/-- 'pannierlaw07.VectorMeets', WHERE WHAT IT READS IS OF BULK AT MOST 1048576: true; the input reads as it did. -/
def vectorMeetsUptoRow : OpenClaim := { program := "ytnnlpelogabokaa", sum := "e9c88790001f6ea4d3677556c9b8f97ddc2213ba163a3054bdf2ac3f3aa5f8f8", func := "pannier/pannierlaw07.VectorMeets", spec := "vectorMeets", inPlace := ["internal/bytealg.abigen_runtime_cmpstring"], unfollowed := true, recurses := true, apart := false, narrowed := true }
def VectorMeetsUptoSaid : Prop := vectorMeetsUptoRow.holds Try.pinned (OpenSpec.upto vectorMeetsSpec)

/-- 'pannierlaw07.VectorThree', WHERE WHAT IT READS IS OF BULK AT MOST 1048576: true; the input reads as it did. -/
def vectorThreeUptoRow : OpenClaim := { program := "ytnnlpelogabokaa", sum := "e9c88790001f6ea4d3677556c9b8f97ddc2213ba163a3054bdf2ac3f3aa5f8f8", func := "pannier/pannierlaw07.VectorThree", spec := "vectorThree", inPlace := ["internal/bytealg.abigen_runtime_cmpstring"], unfollowed := true, recurses := true, apart := false, narrowed := true }
def VectorThreeUptoSaid : Prop := vectorThreeUptoRow.holds Try.pinned (OpenSpec.upto vectorThreeSpec)

/-- 'pannierlaw07.VectorHas', WHERE WHAT IT READS IS OF BULK AT MOST 1048576: true; the input reads as it did. -/
def vectorHasUptoRow : OpenClaim := { program := "ytnnlpelogabokaa", sum := "e9c88790001f6ea4d3677556c9b8f97ddc2213ba163a3054bdf2ac3f3aa5f8f8", func := "pannier/pannierlaw07.VectorHas", spec := "vectorHas", inPlace := ["internal/bytealg.abigen_runtime_cmpstring"], unfollowed := true, recurses := true, apart := false, narrowed := true }
def VectorHasUptoSaid : Prop := vectorHasUptoRow.holds Try.pinned (OpenSpec.upto vectorHasSpec)

/-- 'pannierlaw07.VectorLeast', WHERE WHAT IT READS IS OF BULK AT MOST 1048576: true; the input reads as it did. -/
def vectorLeastUptoRow : OpenClaim := { program := "ytnnlpelogabokaa", sum := "e9c88790001f6ea4d3677556c9b8f97ddc2213ba163a3054bdf2ac3f3aa5f8f8", func := "pannier/pannierlaw07.VectorLeast", spec := "vectorLeast", inPlace := ["internal/bytealg.abigen_runtime_cmpstring"], unfollowed := true, recurses := true, apart := false, narrowed := true }
def VectorLeastUptoSaid : Prop := vectorLeastUptoRow.holds Try.pinned (OpenSpec.upto vectorLeastSpec)

/-- 'pannierlaw07.VectorJoins', WHERE WHAT IT READS IS OF BULK AT MOST 1048576: true; the input reads as it did. -/
def vectorJoinsUptoRow : OpenClaim := { program := "ytnnlpelogabokaa", sum := "e9c88790001f6ea4d3677556c9b8f97ddc2213ba163a3054bdf2ac3f3aa5f8f8", func := "pannier/pannierlaw07.VectorJoins", spec := "vectorJoins", inPlace := ["internal/bytealg.abigen_runtime_cmpstring"], unfollowed := true, recurses := true, apart := false, narrowed := true }
def VectorJoinsUptoSaid : Prop := vectorJoinsUptoRow.holds Try.pinned (OpenSpec.upto vectorJoinsSpec)

/-- 'pannierlaw07.VectorBytes', WHERE WHAT IT READS IS OF BULK AT MOST 1048576: true; the input reads as it did. -/
def vectorBytesUptoRow : OpenClaim := { program := "ytnnlpelogabokaa", sum := "e9c88790001f6ea4d3677556c9b8f97ddc2213ba163a3054bdf2ac3f3aa5f8f8", func := "pannier/pannierlaw07.VectorBytes", spec := "vectorBytes", inPlace := ["internal/bytealg.abigen_runtime_cmpstring"], unfollowed := true, recurses := true, apart := false, narrowed := true }
def VectorBytesUptoSaid : Prop := vectorBytesUptoRow.holds Try.pinned (OpenSpec.upto vectorBytesSpec)

/-- 'pannierlaw07.VectorBack', WHERE WHAT IT READS IS OF BULK AT MOST 1048576: true; the input reads as it did. -/
def vectorBackUptoRow : OpenClaim := { program := "ytnnlpelogabokaa", sum := "e9c88790001f6ea4d3677556c9b8f97ddc2213ba163a3054bdf2ac3f3aa5f8f8", func := "pannier/pannierlaw07.VectorBack", spec := "vectorBack", inPlace := ["internal/bytealg.abigen_runtime_cmpstring"], unfollowed := true, recurses := true, apart := false, narrowed := true }
def VectorBackUptoSaid : Prop := vectorBackUptoRow.holds Try.pinned (OpenSpec.upto vectorBackSpec)

/-- 'pannierlaw07.VectorWith', WHERE WHAT IT READS IS OF BULK AT MOST 1048576: true; the input reads as it did. -/
def vectorWithUptoRow : OpenClaim := { program := "ytnnlpelogabokaa", sum := "e9c88790001f6ea4d3677556c9b8f97ddc2213ba163a3054bdf2ac3f3aa5f8f8", func := "pannier/pannierlaw07.VectorWith", spec := "vectorWith", inPlace := ["internal/bytealg.abigen_runtime_cmpstring", "slices.overlaps[pannier/api.Dot]"], unfollowed := true, recurses := true, apart := false, narrowed := true }
def VectorWithUptoSaid : Prop := vectorWithUptoRow.holds Try.pinned (OpenSpec.upto vectorWithSpec)

/-- 'pannierlaw07.VectorSpans', WHERE WHAT IT READS IS OF BULK AT MOST 1048576: true; the input reads as it did. -/
def vectorSpansUptoRow : OpenClaim := { program := "ytnnlpelogabokaa", sum := "e9c88790001f6ea4d3677556c9b8f97ddc2213ba163a3054bdf2ac3f3aa5f8f8", func := "pannier/pannierlaw07.VectorSpans", spec := "vectorSpans", inPlace := ["internal/bytealg.abigen_runtime_cmpstring", "slices.overlaps[pannier/api.Dot]"], unfollowed := true, recurses := true, apart := false, narrowed := true }
def VectorSpansUptoSaid : Prop := vectorSpansUptoRow.holds Try.pinned (OpenSpec.upto vectorSpansSpec)

end Rows
end Go.Proofs.Ytnnlpelogabokaa
