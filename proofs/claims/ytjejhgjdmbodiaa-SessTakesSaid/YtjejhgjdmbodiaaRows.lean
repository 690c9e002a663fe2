/-
  No cell of these rows narrows 'for every input' (looked for: loops, veiled, ifaces, maps, wideKeys, modest, calm, conditions, laid).
  DERIVED. THE GIVEN ROWS OF THIS SEAT. 7 by the template 'for every input the law returns true; each argument reads behind the call as it read before'; 0 by the template 'total and deterministic' (their statements: YtjejhgjdmbodiaaTotals.lean).
  GIVEN WITH THE SEED: the statements are not yours to turn. If you find one false, say at which input.
  Laid BY PROGRAM, IN A SANDBOX (cutbox-rows.mjs): the forced cells as the released guide's own fill.sh prints them over the translation c3a013b067a0b18b… (all of the seat's roots in one cut). By AI agents, Wed Nov 11 2026. No macro, syntax, notation, axiom, sorry.
-/
import Derived.Test.YtjejhgjdmbodiaaChecked
import GoSem.Claim
import GoSem.ClaimJoined
import GoSem.ClaimMapViews
import Derived.JoinedTies
import Derived.KernelRfl
namespace Go.Proofs.Ytjejhgjdmbodiaa
/- THE CELL 'sum', in the pinned program and in every row, IS THE sha256 OF THE DUMP (.gsa) THAT YtjejhgjdmbodiaaProg.lean LOADS. Nothing in Lean hashes anything: it is a label: what it is worth is what the hold of that sum in a sandbox is worth. -/
noncomputable def Try.pinned : Pinned := { name := "ytjejhgjdmbodiaa", sum := "c3a013b067a0b18bdf6ef825d7f5a2f0a61f9087968c9661fabd1d296dedc6b2", checked := Try.checked }
namespace Rows
def none {H : Type} : Left H := { results := [], args := [] }

/-- 'pannierlaw16.SessTells': WHATEVER THE INPUT: true; the input reads as it did. -/
def sessTellsSpec : ChangeSpec := { name := "sessTells", fn := fun _ => fun
  | [d1, d2, d3, d4, d5, d6] => { results := [.lit (.bool true)], args := [d1, d2, d3, d4, d5, d6] }
  | _ => none }
def sessTellsRow : OpenClaim := { program := "ytjejhgjdmbodiaa", sum := "c3a013b067a0b18bdf6ef825d7f5a2f0a61f9087968c9661fabd1d296dedc6b2", func := "pannier/pannierlaw16.SessTells", spec := "sessTells", inPlace := ["internal/bytealg.abigen_runtime_cmpstring"], unfollowed := true, recurses := true, plainKeys := false, apart := false }
def SessTellsSaid : Prop := sessTellsRow.holds Try.pinned (OpenSpec.ofChange sessTellsSpec)

/-- ITS FALSE NEIGHBOUR: 'it returns false'. Refute it at one input. -/
def sessTellsWrong : ChangeSpec := { name := "sessTells", fn := fun _ => fun
  | [d1, d2, d3, d4, d5, d6] => { results := [.lit (.bool false)], args := [d1, d2, d3, d4, d5, d6] }
  | _ => none }
def SessTellsWrongFalsely : Prop := sessTellsRow.holds Try.pinned (OpenSpec.ofChange sessTellsWrong)

/-- 'pannierlaw16.SessPieces': WHATEVER THE INPUT: true; the input reads as it did. -/
def sessPiecesSpec : ChangeSpec := { name := "sessPieces", fn := fun _ => fun
  | [d] => { results := [.lit (.bool true)], args := [d] }
  | _ => none }
def sessPiecesRow : OpenClaim := { program := "ytjejhgjdmbodiaa", sum := "c3a013b067a0b18bdf6ef825d7f5a2f0a61f9087968c9661fabd1d296dedc6b2", func := "pannier/pannierlaw16.SessPieces", spec := "sessPieces", inPlace := ["internal/bytealg.abigen_runtime_cmpstring"], unfollowed := true, recurses := true, plainKeys := false, apart := false }
def SessPiecesSaid : Prop := sessPiecesRow.holds Try.pinned (OpenSpec.ofChange sessPiecesSpec)

/-- ITS FALSE NEIGHBOUR: 'it returns false'. Refute it at one input. -/
def sessPiecesWrong : ChangeSpec := { name := "sessPieces", fn := fun _ => fun
  | [d] => { results := [.lit (.bool false)], args := [d] }
  | _ => none }
def SessPiecesWrongFalsely : Prop := sessPiecesRow.holds Try.pinned (OpenSpec.ofChange sessPiecesWrong)

/-- 'pannierlaw16.SessTakes': WHATEVER THE INPUT: true; the input reads as it did. -/
def sessTakesSpec : ChangeSpec := { name := "sessTakes", fn := fun _ => fun
  | [d1, d2] => { results := [.lit (.bool true)], args := [d1, d2] }
  | _ => none }
def sessTakesRow : OpenClaim := { program := "ytjejhgjdmbodiaa", sum := "c3a013b067a0b18bdf6ef825d7f5a2f0a61f9087968c9661fabd1d296dedc6b2", func := "pannier/pannierlaw16.SessTakes", spec := "sessTakes", inPlace := ["internal/bytealg.abigen_runtime_cmpstring"], unfollowed := true, recurses := true, plainKeys := false, apart := false }
def SessTakesSaid : Prop := sessTakesRow.holds Try.pinned (OpenSpec.ofChange sessTakesSpec)

/-- ITS FALSE NEIGHBOUR: 'it returns false'. Refute it at one input. -/
def sessTakesWrong : ChangeSpec := { name := "sessTakes", fn := fun _ => fun
  | [d1, d2] => { results := [.lit (.bool false)], args := [d1, d2] }
  | _ => none }
def SessTakesWrongFalsely : Prop := sessTakesRow.holds Try.pinned (OpenSpec.ofChange sessTakesWrong)

/-- 'pannierlaw16.SessNone': WHATEVER THE INPUT: true; the input reads as it did. -/
def sessNoneSpec : ChangeSpec := { name := "sessNone", fn := fun _ => fun
  | [d] => { results := [.lit (.bool true)], args := [d] }
  | _ => none }
def sessNoneRow : OpenClaim := { program := "ytjejhgjdmbodiaa", sum := "c3a013b067a0b18bdf6ef825d7f5a2f0a61f9087968c9661fabd1d296dedc6b2", func := "pannier/pannierlaw16.SessNone", spec := "sessNone", inPlace := ["internal/bytealg.abigen_runtime_cmpstring"], unfollowed := true, recurses := true, plainKeys := false, apart := false }
def SessNoneSaid : Prop := sessNoneRow.holds Try.pinned (OpenSpec.ofChange sessNoneSpec)

/-- ITS FALSE NEIGHBOUR: 'it returns false'. Refute it at one input. -/
def sessNoneWrong : ChangeSpec := { name := "sessNone", fn := fun _ => fun
  | [d] => { results := [.lit (.bool false)], args := [d] }
  | _ => none }
def SessNoneWrongFalsely : Prop := sessNoneRow.holds Try.pinned (OpenSpec.ofChange sessNoneWrong)

/-- 'pannierlaw16.SessReads': WHATEVER THE INPUT: true; the input reads as it did. -/
def sessReadsSpec : ChangeSpec := { name := "sessReads", fn := fun _ => fun
  | [d] => { results := [.lit (.bool true)], args := [d] }
  | _ => none }
def sessReadsRow : OpenClaim := { program := "ytjejhgjdmbodiaa", sum := "c3a013b067a0b18bdf6ef825d7f5a2f0a61f9087968c9661fabd1d296dedc6b2", func := "pannier/pannierlaw16.SessReads", spec := "sessReads", inPlace := ["internal/bytealg.abigen_runtime_cmpstring"], unfollowed := true, recurses := true, plainKeys := false, apart := false }
def SessReadsSaid : Prop := sessReadsRow.holds Try.pinned (OpenSpec.ofChange sessReadsSpec)

/-- ITS FALSE NEIGHBOUR: 'it returns false'. Refute it at one input. -/
def sessReadsWrong : ChangeSpec := { name := "sessReads", fn := fun _ => fun
  | [d] => { results := [.lit (.bool false)], args := [d] }
  | _ => none }
def SessReadsWrongFalsely : Prop := sessReadsRow.holds Try.pinned (OpenSpec.ofChange sessReadsWrong)

/-- 'pannierlaw16.SessOn': WHATEVER THE INPUT: true; the input reads as it did. -/
def sessOnSpec : ChangeSpec := { name := "sessOn", fn := fun _ => fun
  | [d1, d2] => { results := [.lit (.bool true)], args := [d1, d2] }
  | _ => none }
def sessOnRow : OpenClaim := { program := "ytjejhgjdmbodiaa", sum := "c3a013b067a0b18bdf6ef825d7f5a2f0a61f9087968c9661fabd1d296dedc6b2", func := "pannier/pannierlaw16.SessOn", spec := "sessOn", inPlace := ["internal/bytealg.abigen_runtime_cmpstring"], unfollowed := true, recurses := true, plainKeys := false, apart := false }
def SessOnSaid : Prop := sessOnRow.holds Try.pinned (OpenSpec.ofChange sessOnSpec)

/-- ITS FALSE NEIGHBOUR: 'it returns false'. Refute it at one input. -/
def sessOnWrong : ChangeSpec := { name := "sessOn", fn := fun _ => fun
  | [d1, d2] => { results := [.lit (.bool false)], args := [d1, d2] }
  | _ => none }
def SessOnWrongFalsely : Prop := sessOnRow.holds Try.pinned (OpenSpec.ofChange sessOnWrong)

/-- 'pannierlaw16.SessAll': WHATEVER THE INPUT: true; the input reads as it did. -/
def sessAllSpec : ChangeSpec := { name := "sessAll", fn := fun _ => fun
  | [d1, d2] => { results := [.lit (.bool true)], args := [d1, d2] }
  | _ => none }
def sessAllRow : OpenClaim := { program := "ytjejhgjdmbodiaa", sum := "c3a013b067a0b18bdf6ef825d7f5a2f0a61f9087968c9661fabd1d296dedc6b2", func := "pannier/pannierlaw16.SessAll", spec := "sessAll", inPlace := ["internal/bytealg.abigen_runtime_cmpstring"], unfollowed := true, recurses := true, plainKeys := false, apart := false }
def SessAllSaid : Prop := sessAllRow.holds Try.pinned (OpenSpec.ofChange sessAllSpec)

/-- ITS FALSE NEIGHBOUR: 'it returns false'. Refute it at one input. -/
def sessAllWrong : ChangeSpec := { name := "sessAll", fn := fun _ => fun
  | [d1, d2] => { results := [.lit (.bool false)], args := [d1, d2] }
  | _ => none }
def SessAllWrongFalsely : Prop := sessAllRow.holds Try.pinned (OpenSpec.ofChange sessAllWrong)

/- THE SECOND FORM. 'bulk': how many values and letters a reading holds, each counted each time it is reached (what is shared counts as often as it is met; a slice's spare places count too). A statement '..UptoSaid' is the law's where the arguments, and the package variables that the reading takes, are together of bulk at most 1048576: NARROWER than '..Said'. Prove '..Said' where nothing that the law and all that it calls make is longer than what came in: it says more and counts as full. Else prove '..UptoSaid'. A law counts once. -/
mutual
def uptoBulk {H : Type} : DataW H → Nat
  | .lit (.string bytes) => bytes.length + 1
  | .lit _ => 1
  | .nil => 1
  | .ptr d => uptoBulk d + 1
  | .slice elems spare => uptoBulkAll elems + uptoBulkAll spare + 1
  | .agg parts => uptoBulkAll parts + 1
  | .iface _ d => uptoBulk d + 1
  | .map entries => uptoBulkEntries entries + 1
  | .held _ => 1
def uptoBulkAll {H : Type} : List (DataW H) → Nat
  | [] => 0
  | d :: r => uptoBulk d + uptoBulkAll r
def uptoBulkEntries {H : Type} : List (Lit × DataW H) → Nat
  | [] => 0
  | x :: r => uptoBulkEntry x + uptoBulkEntries r
def uptoBulkEntry {H : Type} : Lit × DataW H → Nat
  | (.string bytes, d) => bytes.length + uptoBulk d + 1
  | (_, d) => uptoBulk d + 1
 end
def uptoSmall : (H : Type) → List (DataW H) → Bool := fun _ ds => decide (uptoBulkAll ds ≤ 1048576)
def OpenSpec.upto (s : _root_.Go.ChangeSpec) : _root_.Go.OpenSpec := { _root_.Go.OpenSpec.ofChange s with cond := some uptoSmall }

/-- 'pannierlaw16.SessTells', WHERE WHAT IT READS IS OF BULK AT MOST 1048576: true; the input reads as it did. -/
def sessTellsUptoRow : OpenClaim := { program := "ytjejhgjdmbodiaa", sum := "c3a013b067a0b18bdf6ef825d7f5a2f0a61f9087968c9661fabd1d296dedc6b2", func := "pannier/pannierlaw16.SessTells", spec := "sessTells", inPlace := ["internal/bytealg.abigen_runtime_cmpstring"], unfollowed := true, recurses := true, plainKeys := false, apart := false, narrowed := true }
def SessTellsUptoSaid : Prop := sessTellsUptoRow.holds Try.pinned (OpenSpec.upto sessTellsSpec)

/-- 'pannierlaw16.SessPieces', WHERE WHAT IT READS IS OF BULK AT MOST 1048576: true; the input reads as it did. -/
def sessPiecesUptoRow : OpenClaim := { program := "ytjejhgjdmbodiaa", sum := "c3a013b067a0b18bdf6ef825d7f5a2f0a61f9087968c9661fabd1d296dedc6b2", func := "pannier/pannierlaw16.SessPieces", spec := "sessPieces", inPlace := ["internal/bytealg.abigen_runtime_cmpstring"], unfollowed := true, recurses := true, plainKeys := false, apart := false, narrowed := true }
def SessPiecesUptoSaid : Prop := sessPiecesUptoRow.holds Try.pinned (OpenSpec.upto sessPiecesSpec)

/-- 'pannierlaw16.SessTakes', WHERE WHAT IT READS IS OF BULK AT MOST 1048576: true; the input reads as it did. -/
def sessTakesUptoRow : OpenClaim := { program := "ytjejhgjdmbodiaa", sum := "c3a013b067a0b18bdf6ef825d7f5a2f0a61f9087968c9661fabd1d296dedc6b2", func := "pannier/pannierlaw16.SessTakes", spec := "sessTakes", inPlace := ["internal/bytealg.abigen_runtime_cmpstring"], unfollowed := true, recurses := true, plainKeys := false, apart := false, narrowed := true }
def SessTakesUptoSaid : Prop := sessTakesUptoRow.holds Try.pinned (OpenSpec.upto sessTakesSpec)

/-- 'pannierlaw16.SessNone', WHERE WHAT IT READS IS OF BULK AT MOST 1048576: true; the input reads as it did. -/
def sessNoneUptoRow : OpenClaim := { program := "ytjejhgjdmbodiaa", sum := "c3a013b067a0b18bdf6ef825d7f5a2f0a61f9087968c9661fabd1d296dedc6b2", func := "pannier/pannierlaw16.SessNone", spec := "sessNone", inPlace := ["internal/bytealg.abigen_runtime_cmpstring"], unfollowed := true, recurses := true, plainKeys := false, apart := false, narrowed := true }
def SessNoneUptoSaid : Prop := sessNoneUptoRow.holds Try.pinned (OpenSpec.upto sessNoneSpec)

/-- 'pannierlaw16.SessReads', WHERE WHAT IT READS IS OF BULK AT MOST 1048576: true; the input reads as it did. -/
def sessReadsUptoRow : OpenClaim := { program := "ytjejhgjdmbodiaa", sum := "c3a013b067a0b18bdf6ef825d7f5a2f0a61f9087968c9661fabd1d296dedc6b2", func := "pannier/pannierlaw16.SessReads", spec := "sessReads", inPlace := ["internal/bytealg.abigen_runtime_cmpstring"], unfollowed := true, recurses := true, plainKeys := false, apart := false, narrowed := true }
def SessReadsUptoSaid : Prop := sessReadsUptoRow.holds Try.pinned (OpenSpec.upto sessReadsSpec)

/-- 'pannierlaw16.SessOn', WHERE WHAT IT READS IS OF BULK AT MOST 1048576: true; the input reads as it did. -/
def sessOnUptoRow : OpenClaim := { program := "ytjejhgjdmbodiaa", sum := "c3a013b067a0b18bdf6ef825d7f5a2f0a61f9087968c9661fabd1d296dedc6b2", func := "pannier/pannierlaw16.SessOn", spec := "sessOn", inPlace := ["internal/bytealg.abigen_runtime_cmpstring"], unfollowed := true, recurses := true, plainKeys := false, apart := false, narrowed := true }
def SessOnUptoSaid : Prop := sessOnUptoRow.holds Try.pinned (OpenSpec.upto sessOnSpec)

/-- 'pannierlaw16.SessAll', WHERE WHAT IT READS IS OF BULK AT MOST 1048576: true; the input reads as it did. -/
def sessAllUptoRow : OpenClaim := { program := "ytjejhgjdmbodiaa", sum := "c3a013b067a0b18bdf6ef825d7f5a2f0a61f9087968c9661fabd1d296dedc6b2", func := "pannier/pannierlaw16.SessAll", spec := "sessAll", inPlace := ["internal/bytealg.abigen_runtime_cmpstring"], unfollowed := true, recurses := true, plainKeys := false, apart := false, narrowed := true }
def SessAllUptoSaid : Prop := sessAllUptoRow.holds Try.pinned (OpenSpec.upto sessAllSpec)

end Rows
end Go.Proofs.Ytjejhgjdmbodiaa
