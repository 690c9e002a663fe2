/-
  No cell of these rows narrows 'for every input' (looked for: loops, veiled, ifaces, maps, wideKeys, modest, calm, conditions, laid).
  DERIVED. THE GIVEN ROWS OF THIS SEAT. 12 by the template 'for every input the law returns true; each argument reads behind the call as it read before'; 0 by the template 'total and deterministic' (their statements: YtenbkljgmgdegaaTotals.lean).
  GIVEN WITH THE SEED: the statements are not yours to turn. If you find one false, say at which input.
  Laid BY PROGRAM, IN A SANDBOX (cutbox-rows.mjs): the forced cells as the released guide's own fill.sh prints them over the translation c3d18958eb065795… (all of the seat's roots in one cut). By AI agents, Wed Nov 11 2026. No macro, syntax, notation, axiom, sorry.
-/
import Derived.Test.YtenbkljgmgdegaaChecked
import GoSem.Claim
import GoSem.ClaimJoined
import GoSem.ClaimMapViews
import Derived.JoinedTies
import Derived.KernelRfl
namespace Go.Proofs.Ytenbkljgmgdegaa
/- THE CELL 'sum', in the pinned program and in every row, IS THE sha256 OF THE DUMP (.gsa) THAT YtenbkljgmgdegaaProg.lean LOADS. Nothing in Lean hashes anything: it is a label: what it is worth is what the hold of that sum in a sandbox is worth. -/
noncomputable def Try.pinned : Pinned := { name := "ytenbkljgmgdegaa", sum := "c3d18958eb06579565188f5187c34f9c0cda0a2abcf297211aa2d949298dd9ca", checked := Try.checked }
namespace Rows
def none {H : Type} : Left H := { results := [], args := [] }

/-- 'pannierlaw08.OrderBehind': WHATEVER THE INPUT: true; the input reads as it did. -/
def orderBehindSpec : ChangeSpec := { name := "orderBehind", fn := fun _ => fun
  | [d1, d2] => { results := [.lit (.bool true)], args := [d1, d2] }
  | _ => none }
def orderBehindRow : OpenClaim := { program := "ytenbkljgmgdegaa", sum := "c3d18958eb06579565188f5187c34f9c0cda0a2abcf297211aa2d949298dd9ca", func := "pannier/pannierlaw08.OrderBehind", spec := "orderBehind", inPlace := ["internal/bytealg.abigen_runtime_cmpstring", "slices.overlaps[pannier/api.Dot]"], unfollowed := true, recurses := true, plainKeys := false, apart := false }
def OrderBehindSaid : Prop := orderBehindRow.holds Try.pinned (OpenSpec.ofChange orderBehindSpec)

/-- ITS FALSE NEIGHBOUR: 'it returns false'. Refute it at one input. -/
def orderBehindWrong : ChangeSpec := { name := "orderBehind", fn := fun _ => fun
  | [d1, d2] => { results := [.lit (.bool false)], args := [d1, d2] }
  | _ => none }
def OrderBehindWrongFalsely : Prop := orderBehindRow.holds Try.pinned (OpenSpec.ofChange orderBehindWrong)

/-- 'pannierlaw08.OrderDown': WHATEVER THE INPUT: true; the input reads as it did. -/
def orderDownSpec : ChangeSpec := { name := "orderDown", fn := fun _ => fun
  | [d] => { results := [.lit (.bool true)], args := [d] }
  | _ => none }
def orderDownRow : OpenClaim := { program := "ytenbkljgmgdegaa", sum := "c3d18958eb06579565188f5187c34f9c0cda0a2abcf297211aa2d949298dd9ca", func := "pannier/pannierlaw08.OrderDown", spec := "orderDown", inPlace := ["internal/bytealg.abigen_runtime_cmpstring", "slices.overlaps[pannier/api.Dot]"], unfollowed := true, recurses := true, plainKeys := false, apart := false }
def OrderDownSaid : Prop := orderDownRow.holds Try.pinned (OpenSpec.ofChange orderDownSpec)

/-- ITS FALSE NEIGHBOUR: 'it returns false'. Refute it at one input. -/
def orderDownWrong : ChangeSpec := { name := "orderDown", fn := fun _ => fun
  | [d] => { results := [.lit (.bool false)], args := [d] }
  | _ => none }
def OrderDownWrongFalsely : Prop := orderDownRow.holds Try.pinned (OpenSpec.ofChange orderDownWrong)

/-- 'pannierlaw08.OrderHands': WHATEVER THE INPUT: true; the input reads as it did. -/
def orderHandsSpec : ChangeSpec := { name := "orderHands", fn := fun _ => fun
  | [d] => { results := [.lit (.bool true)], args := [d] }
  | _ => none }
def orderHandsRow : OpenClaim := { program := "ytenbkljgmgdegaa", sum := "c3d18958eb06579565188f5187c34f9c0cda0a2abcf297211aa2d949298dd9ca", func := "pannier/pannierlaw08.OrderHands", spec := "orderHands", inPlace := ["internal/bytealg.abigen_runtime_cmpstring", "slices.overlaps[pannier/api.Dot]"], unfollowed := true, recurses := true, plainKeys := false, apart := false }
def OrderHandsSaid : Prop := orderHandsRow.holds Try.pinned (OpenSpec.ofChange orderHandsSpec)

/-- ITS FALSE NEIGHBOUR: 'it returns false'. Refute it at one input. -/
def orderHandsWrong : ChangeSpec := { name := "orderHands", fn := fun _ => fun
  | [d] => { results := [.lit (.bool false)], args := [d] }
  | _ => none }
def OrderHandsWrongFalsely : Prop := orderHandsRow.holds Try.pinned (OpenSpec.ofChange orderHandsWrong)

/-- 'pannierlaw08.OrderNone': WHATEVER THE INPUT: true; the input reads as it did. -/
def orderNoneSpec : ChangeSpec := { name := "orderNone", fn := fun _ => fun
  | [d] => { results := [.lit (.bool true)], args := [d] }
  | _ => none }
def orderNoneRow : OpenClaim := { program := "ytenbkljgmgdegaa", sum := "c3d18958eb06579565188f5187c34f9c0cda0a2abcf297211aa2d949298dd9ca", func := "pannier/pannierlaw08.OrderNone", spec := "orderNone", inPlace := ["internal/bytealg.abigen_runtime_cmpstring", "slices.overlaps[pannier/api.Dot]"], unfollowed := true, recurses := true, plainKeys := false, apart := false }
def OrderNoneSaid : Prop := orderNoneRow.holds Try.pinned (OpenSpec.ofChange orderNoneSpec)

/-- ITS FALSE NEIGHBOUR: 'it returns false'. Refute it at one input. -/
def orderNoneWrong : ChangeSpec := { name := "orderNone", fn := fun _ => fun
  | [d] => { results := [.lit (.bool false)], args := [d] }
  | _ => none }
def OrderNoneWrongFalsely : Prop := orderNoneRow.holds Try.pinned (OpenSpec.ofChange orderNoneWrong)

/-- 'pannierlaw08.OrderTwice': WHATEVER THE INPUT: true; the input reads as it did. -/
def orderTwiceSpec : ChangeSpec := { name := "orderTwice", fn := fun _ => fun
  | [d] => { results := [.lit (.bool true)], args := [d] }
  | _ => none }
def orderTwiceRow : OpenClaim := { program := "ytenbkljgmgdegaa", sum := "c3d18958eb06579565188f5187c34f9c0cda0a2abcf297211aa2d949298dd9ca", func := "pannier/pannierlaw08.OrderTwice", spec := "orderTwice", inPlace := ["internal/bytealg.abigen_runtime_cmpstring", "slices.overlaps[pannier/api.Dot]"], unfollowed := true, recurses := true, plainKeys := false, apart := false }
def OrderTwiceSaid : Prop := orderTwiceRow.holds Try.pinned (OpenSpec.ofChange orderTwiceSpec)

/-- ITS FALSE NEIGHBOUR: 'it returns false'. Refute it at one input. -/
def orderTwiceWrong : ChangeSpec := { name := "orderTwice", fn := fun _ => fun
  | [d] => { results := [.lit (.bool false)], args := [d] }
  | _ => none }
def OrderTwiceWrongFalsely : Prop := orderTwiceRow.holds Try.pinned (OpenSpec.ofChange orderTwiceWrong)

/-- 'pannierlaw08.OrderSame': WHATEVER THE INPUT: true; the input reads as it did. -/
def orderSameSpec : ChangeSpec := { name := "orderSame", fn := fun _ => fun
  | [d] => { results := [.lit (.bool true)], args := [d] }
  | _ => none }
def orderSameRow : OpenClaim := { program := "ytenbkljgmgdegaa", sum := "c3d18958eb06579565188f5187c34f9c0cda0a2abcf297211aa2d949298dd9ca", func := "pannier/pannierlaw08.OrderSame", spec := "orderSame", inPlace := ["internal/bytealg.abigen_runtime_cmpstring", "slices.overlaps[pannier/api.Dot]"], unfollowed := true, recurses := true, plainKeys := false, apart := false }
def OrderSameSaid : Prop := orderSameRow.holds Try.pinned (OpenSpec.ofChange orderSameSpec)

/-- ITS FALSE NEIGHBOUR: 'it returns false'. Refute it at one input. -/
def orderSameWrong : ChangeSpec := { name := "orderSame", fn := fun _ => fun
  | [d] => { results := [.lit (.bool false)], args := [d] }
  | _ => none }
def OrderSameWrongFalsely : Prop := orderSameRow.holds Try.pinned (OpenSpec.ofChange orderSameWrong)

/-- 'pannierlaw14.FrameReads': WHATEVER THE INPUT: true; the input reads as it did. -/
def frameReadsSpec : ChangeSpec := { name := "frameReads", fn := fun _ => fun
  | [d] => { results := [.lit (.bool true)], args := [d] }
  | _ => none }
def frameReadsRow : OpenClaim := { program := "ytenbkljgmgdegaa", sum := "c3d18958eb06579565188f5187c34f9c0cda0a2abcf297211aa2d949298dd9ca", func := "pannier/pannierlaw14.FrameReads", spec := "frameReads", inPlace := ["internal/bytealg.abigen_runtime_cmpstring"], unfollowed := true, recurses := true, plainKeys := false, apart := false }
def FrameReadsSaid : Prop := frameReadsRow.holds Try.pinned (OpenSpec.ofChange frameReadsSpec)

/-- ITS FALSE NEIGHBOUR: 'it returns false'. Refute it at one input. -/
def frameReadsWrong : ChangeSpec := { name := "frameReads", fn := fun _ => fun
  | [d] => { results := [.lit (.bool false)], args := [d] }
  | _ => none }
def FrameReadsWrongFalsely : Prop := frameReadsRow.holds Try.pinned (OpenSpec.ofChange frameReadsWrong)

/-- 'pannierlaw14.FrameWords': WHATEVER THE INPUT: true; the input reads as it did. -/
def frameWordsSpec : ChangeSpec := { name := "frameWords", fn := fun _ => fun
  | [d1, d2] => { results := [.lit (.bool true)], args := [d1, d2] }
  | _ => none }
def frameWordsRow : OpenClaim := { program := "ytenbkljgmgdegaa", sum := "c3d18958eb06579565188f5187c34f9c0cda0a2abcf297211aa2d949298dd9ca", func := "pannier/pannierlaw14.FrameWords", spec := "frameWords", inPlace := ["internal/bytealg.abigen_runtime_cmpstring"], unfollowed := true, recurses := true, plainKeys := false, apart := false }
def FrameWordsSaid : Prop := frameWordsRow.holds Try.pinned (OpenSpec.ofChange frameWordsSpec)

/-- ITS FALSE NEIGHBOUR: 'it returns false'. Refute it at one input. -/
def frameWordsWrong : ChangeSpec := { name := "frameWords", fn := fun _ => fun
  | [d1, d2] => { results := [.lit (.bool false)], args := [d1, d2] }
  | _ => none }
def FrameWordsWrongFalsely : Prop := frameWordsRow.holds Try.pinned (OpenSpec.ofChange frameWordsWrong)

/-- 'pannierlaw14.FrameBack': WHATEVER THE INPUT: true; the input reads as it did. -/
def frameBackSpec : ChangeSpec := { name := "frameBack", fn := fun _ => fun
  | [d1, d2] => { results := [.lit (.bool true)], args := [d1, d2] }
  | _ => none }
def frameBackRow : OpenClaim := { program := "ytenbkljgmgdegaa", sum := "c3d18958eb06579565188f5187c34f9c0cda0a2abcf297211aa2d949298dd9ca", func := "pannier/pannierlaw14.FrameBack", spec := "frameBack", inPlace := ["internal/bytealg.abigen_runtime_cmpstring"], unfollowed := true, recurses := true, plainKeys := false, apart := false }
def FrameBackSaid : Prop := frameBackRow.holds Try.pinned (OpenSpec.ofChange frameBackSpec)

/-- ITS FALSE NEIGHBOUR: 'it returns false'. Refute it at one input. -/
def frameBackWrong : ChangeSpec := { name := "frameBack", fn := fun _ => fun
  | [d1, d2] => { results := [.lit (.bool false)], args := [d1, d2] }
  | _ => none }
def FrameBackWrongFalsely : Prop := frameBackRow.holds Try.pinned (OpenSpec.ofChange frameBackWrong)

/-- 'pannierlaw14.FrameTurns': WHATEVER THE INPUT: true; the input reads as it did. -/
def frameTurnsSpec : ChangeSpec := { name := "frameTurns", fn := fun _ => fun
  | [d1, d2, d3] => { results := [.lit (.bool true)], args := [d1, d2, d3] }
  | _ => none }
def frameTurnsRow : OpenClaim := { program := "ytenbkljgmgdegaa", sum := "c3d18958eb06579565188f5187c34f9c0cda0a2abcf297211aa2d949298dd9ca", func := "pannier/pannierlaw14.FrameTurns", spec := "frameTurns", inPlace := ["internal/bytealg.abigen_runtime_cmpstring"], unfollowed := true, recurses := true, plainKeys := false, apart := false }
def FrameTurnsSaid : Prop := frameTurnsRow.holds Try.pinned (OpenSpec.ofChange frameTurnsSpec)

/-- ITS FALSE NEIGHBOUR: 'it returns false'. Refute it at one input. -/
def frameTurnsWrong : ChangeSpec := { name := "frameTurns", fn := fun _ => fun
  | [d1, d2, d3] => { results := [.lit (.bool false)], args := [d1, d2, d3] }
  | _ => none }
def FrameTurnsWrongFalsely : Prop := frameTurnsRow.holds Try.pinned (OpenSpec.ofChange frameTurnsWrong)

/-- 'pannierlaw08.OrderWords': WHATEVER THE INPUT: true; the input reads as it did. -/
def orderWordsSpec : ChangeSpec := { name := "orderWords", fn := fun _ => fun
  | [d1, d2, d3] => { results := [.lit (.bool true)], args := [d1, d2, d3] }
  | _ => none }
def orderWordsRow : OpenClaim := { program := "ytenbkljgmgdegaa", sum := "c3d18958eb06579565188f5187c34f9c0cda0a2abcf297211aa2d949298dd9ca", func := "pannier/pannierlaw08.OrderWords", spec := "orderWords", inPlace := ["internal/bytealg.abigen_runtime_cmpstring", "slices.overlaps[pannier/api.Dot]"], unfollowed := true, recurses := true, plainKeys := false, apart := false }
def OrderWordsSaid : Prop := orderWordsRow.holds Try.pinned (OpenSpec.ofChange orderWordsSpec)

/-- ITS FALSE NEIGHBOUR: 'it returns false'. Refute it at one input. -/
def orderWordsWrong : ChangeSpec := { name := "orderWords", fn := fun _ => fun
  | [d1, d2, d3] => { results := [.lit (.bool false)], args := [d1, d2, d3] }
  | _ => none }
def OrderWordsWrongFalsely : Prop := orderWordsRow.holds Try.pinned (OpenSpec.ofChange orderWordsWrong)

/-- 'pannierlaw08.OrderBack': WHATEVER THE INPUT: true; the input reads as it did. -/
def orderBackSpec : ChangeSpec := { name := "orderBack", fn := fun _ => fun
  | [d1, d2] => { results := [.lit (.bool true)], args := [d1, d2] }
  | _ => none }
def orderBackRow : OpenClaim := { program := "ytenbkljgmgdegaa", sum := "c3d18958eb06579565188f5187c34f9c0cda0a2abcf297211aa2d949298dd9ca", func := "pannier/pannierlaw08.OrderBack", spec := "orderBack", inPlace := ["internal/bytealg.abigen_runtime_cmpstring", "slices.overlaps[pannier/api.Dot]"], unfollowed := true, recurses := true, plainKeys := false, apart := false }
def OrderBackSaid : Prop := orderBackRow.holds Try.pinned (OpenSpec.ofChange orderBackSpec)

/-- ITS FALSE NEIGHBOUR: 'it returns false'. Refute it at one input. -/
def orderBackWrong : ChangeSpec := { name := "orderBack", fn := fun _ => fun
  | [d1, d2] => { results := [.lit (.bool false)], args := [d1, d2] }
  | _ => none }
def OrderBackWrongFalsely : Prop := orderBackRow.holds Try.pinned (OpenSpec.ofChange orderBackWrong)

/- THE SECOND FORM. 'bulk': how many values and letters a reading holds, each counted each time it is reached (what is shared counts as often as it is met; a slice's spare places count too). A statement '..UptoSaid' is the law's where the arguments, and the package variables that the reading takes, are together of bulk at most 1048576: NARROWER than '..Said'. Prove '..Said' where nothing that the law and all that it calls make is longer than what came in: it says more and counts as full. Else prove '..UptoSaid'. A law counts once. -/
mutual
def uptoBulk {H : Type} : DataW H → Nat
  | .lit (.string bytes) => bytes.length + 1
  | .lit _ => 1
  | .nil => 1
  | .ptr d => uptoBulk d + 1
  | .slice elems spare => uptoBulkAll elems + uptoBulkAll spare + 1
  | .agg parts => uptoBulkAll parts + 1
  | .iface _ d => uptoBulk d + 1
  | .map entries => uptoBulkEntries entries + 1
  | .held _ => 1
def uptoBulkAll {H : Type} : List (DataW H) → Nat
  | [] => 0
  | d :: r => uptoBulk d + uptoBulkAll r
def uptoBulkEntries {H : Type} : List (Lit × DataW H) → Nat
  | [] => 0
  | x :: r => uptoBulkEntry x + uptoBulkEntries r
def uptoBulkEntry {H : Type} : Lit × DataW H → Nat
  | (.string bytes, d) => bytes.length + uptoBulk d + 1
  | (_, d) => uptoBulk d + 1
 end
def uptoSmall : (H : Type) → List (DataW H) → Bool := fun _ ds => decide (uptoBulkAll ds ≤ 1048576)
def OpenSpec.upto (s : _root_.Go.ChangeSpec) : _root_.Go.OpenSpec := { _root_.Go.OpenSpec.ofChange s with cond := some uptoSmall }

/-- 'pannierlaw08.OrderBehind', WHERE WHAT IT READS IS OF BULK AT MOST 1048576: true; the input reads as it did. -/
def orderBehindUptoRow : OpenClaim := { program := "ytenbkljgmgdegaa", sum := "c3d18958eb06579565188f5187c34f9c0cda0a2abcf297211aa2d949298dd9ca", func := "pannier/pannierlaw08.OrderBehind", spec := "orderBehind", inPlace := ["internal/bytealg.abigen_runtime_cmpstring", "slices.overlaps[pannier/api.Dot]"], unfollowed := true, recurses := true, plainKeys := false, apart := false, narrowed := true }
def OrderBehindUptoSaid : Prop := orderBehindUptoRow.holds Try.pinned (OpenSpec.upto orderBehindSpec)

/-- 'pannierlaw08.OrderDown', WHERE WHAT IT READS IS OF BULK AT MOST 1048576: true; the input reads as it did. -/
def orderDownUptoRow : OpenClaim := { program := "ytenbkljgmgdegaa", sum := "c3d18958eb06579565188f5187c34f9c0cda0a2abcf297211aa2d949298dd9ca", func := "pannier/pannierlaw08.OrderDown", spec := "orderDown", inPlace := ["internal/bytealg.abigen_runtime_cmpstring", "slices.overlaps[pannier/api.Dot]"], unfollowed := true, recurses := true, plainKeys := false, apart := false, narrowed := true }
def OrderDownUptoSaid : Prop := orderDownUptoRow.holds Try.pinned (OpenSpec.upto orderDownSpec)

/-- 'pannierlaw08.OrderHands', WHERE WHAT IT READS IS OF BULK AT MOST 1048576: true; the input reads as it did. -/
def orderHandsUptoRow : OpenClaim := { program := "ytenbkljgmgdegaa", sum := "c3d18958eb06579565188f5187c34f9c0cda0a2abcf297211aa2d949298dd9ca", func := "pannier/pannierlaw08.OrderHands", spec := "orderHands", inPlace := ["internal/bytealg.abigen_runtime_cmpstring", "slices.overlaps[pannier/api.Dot]"], unfollowed := true, recurses := true, plainKeys := false, apart := false, narrowed := true }
def OrderHandsUptoSaid : Prop := orderHandsUptoRow.holds Try.pinned (OpenSpec.upto orderHandsSpec)

/-- 'pannierlaw08.OrderNone', WHERE WHAT IT READS IS OF BULK AT MOST 1048576: true; the input reads as it did. -/
def orderNoneUptoRow : OpenClaim := { program := "ytenbkljgmgdegaa", sum := "c3d18958eb06579565188f5187c34f9c0cda0a2abcf297211aa2d949298dd9ca", func := "pannier/pannierlaw08.OrderNone", spec := "orderNone", inPlace := ["internal/bytealg.abigen_runtime_cmpstring", "slices.overlaps[pannier/api.Dot]"], unfollowed := true, recurses := true, plainKeys := false, apart := false, narrowed := true }
def OrderNoneUptoSaid : Prop := orderNoneUptoRow.holds Try.pinned (OpenSpec.upto orderNoneSpec)

/-- 'pannierlaw08.OrderTwice', WHERE WHAT IT READS IS OF BULK AT MOST 1048576: true; the input reads as it did. -/
def orderTwiceUptoRow : OpenClaim := { program := "ytenbkljgmgdegaa", sum := "c3d18958eb06579565188f5187c34f9c0cda0a2abcf297211aa2d949298dd9ca", func := "pannier/pannierlaw08.OrderTwice", spec := "orderTwice", inPlace := ["internal/bytealg.abigen_runtime_cmpstring", "slices.overlaps[pannier/api.Dot]"], unfollowed := true, recurses := true, plainKeys := false, apart := false, narrowed := true }
def OrderTwiceUptoSaid : Prop := orderTwiceUptoRow.holds Try.pinned (OpenSpec.upto orderTwiceSpec)

/-- 'pannierlaw08.OrderSame', WHERE WHAT IT READS IS OF BULK AT MOST 1048576: true; the input reads as it did. -/
def orderSameUptoRow : OpenClaim := { program := "ytenbkljgmgdegaa", sum := "c3d18958eb06579565188f5187c34f9c0cda0a2abcf297211aa2d949298dd9ca", func := "pannier/pannierlaw08.OrderSame", spec := "orderSame", inPlace := ["internal/bytealg.abigen_runtime_cmpstring", "slices.overlaps[pannier/api.Dot]"], unfollowed := true, recurses := true, plainKeys := false, apart := false, narrowed := true }
def OrderSameUptoSaid : Prop := orderSameUptoRow.holds Try.pinned (OpenSpec.upto orderSameSpec)

/-- 'pannierlaw14.FrameReads', WHERE WHAT IT READS IS OF BULK AT MOST 1048576: true; the input reads as it did. -/
def frameReadsUptoRow : OpenClaim := { program := "ytenbkljgmgdegaa", sum := "c3d18958eb06579565188f5187c34f9c0cda0a2abcf297211aa2d949298dd9ca", func := "pannier/pannierlaw14.FrameReads", spec := "frameReads", inPlace := ["internal/bytealg.abigen_runtime_cmpstring"], unfollowed := true, recurses := true, plainKeys := false, apart := false, narrowed := true }
def FrameReadsUptoSaid : Prop := frameReadsUptoRow.holds Try.pinned (OpenSpec.upto frameReadsSpec)

/-- 'pannierlaw14.FrameWords', WHERE WHAT IT READS IS OF BULK AT MOST 1048576: true; the input reads as it did. -/
def frameWordsUptoRow : OpenClaim := { program := "ytenbkljgmgdegaa", sum := "c3d18958eb06579565188f5187c34f9c0cda0a2abcf297211aa2d949298dd9ca", func := "pannier/pannierlaw14.FrameWords", spec := "frameWords", inPlace := ["internal/bytealg.abigen_runtime_cmpstring"], unfollowed := true, recurses := true, plainKeys := false, apart := false, narrowed := true }
def FrameWordsUptoSaid : Prop := frameWordsUptoRow.holds Try.pinned (OpenSpec.upto frameWordsSpec)

/-- 'pannierlaw14.FrameBack', WHERE WHAT IT READS IS OF BULK AT MOST 1048576: true; the input reads as it did. -/
def frameBackUptoRow : OpenClaim := { program := "ytenbkljgmgdegaa", sum := "c3d18958eb06579565188f5187c34f9c0cda0a2abcf297211aa2d949298dd9ca", func := "pannier/pannierlaw14.FrameBack", spec := "frameBack", inPlace := ["internal/bytealg.abigen_runtime_cmpstring"], unfollowed := true, recurses := true, plainKeys := false, apart := false, narrowed := true }
def FrameBackUptoSaid : Prop := frameBackUptoRow.holds Try.pinned (OpenSpec.upto frameBackSpec)

/-- 'pannierlaw14.FrameTurns', WHERE WHAT IT READS IS OF BULK AT MOST 1048576: true; the input reads as it did. -/
def frameTurnsUptoRow : OpenClaim := { program := "ytenbkljgmgdegaa", sum := "c3d18958eb06579565188f5187c34f9c0cda0a2abcf297211aa2d949298dd9ca", func := "pannier/pannierlaw14.FrameTurns", spec := "frameTurns", inPlace := ["internal/bytealg.abigen_runtime_cmpstring"], unfollowed := true, recurses := true, plainKeys := false, apart := false, narrowed := true }
def FrameTurnsUptoSaid : Prop := frameTurnsUptoRow.holds Try.pinned (OpenSpec.upto frameTurnsSpec)

/-- 'pannierlaw08.OrderWords', WHERE WHAT IT READS IS OF BULK AT MOST 1048576: true; the input reads as it did. -/
def orderWordsUptoRow : OpenClaim := { program := "ytenbkljgmgdegaa", sum := "c3d18958eb06579565188f5187c34f9c0cda0a2abcf297211aa2d949298dd9ca", func := "pannier/pannierlaw08.OrderWords", spec := "orderWords", inPlace := ["internal/bytealg.abigen_runtime_cmpstring", "slices.overlaps[pannier/api.Dot]"], unfollowed := true, recurses := true, plainKeys := false, apart := false, narrowed := true }
def OrderWordsUptoSaid : Prop := orderWordsUptoRow.holds Try.pinned (OpenSpec.upto orderWordsSpec)

/-- 'pannierlaw08.OrderBack', WHERE WHAT IT READS IS OF BULK AT MOST 1048576: true; the input reads as it did. -/
def orderBackUptoRow : OpenClaim := { program := "ytenbkljgmgdegaa", sum := "c3d18958eb06579565188f5187c34f9c0cda0a2abcf297211aa2d949298dd9ca", func := "pannier/pannierlaw08.OrderBack", spec := "orderBack", inPlace := ["internal/bytealg.abigen_runtime_cmpstring", "slices.overlaps[pannier/api.Dot]"], unfollowed := true, recurses := true, plainKeys := false, apart := false, narrowed := true }
def OrderBackUptoSaid : Prop := orderBackUptoRow.holds Try.pinned (OpenSpec.upto orderBackSpec)

end Rows
end Go.Proofs.Ytenbkljgmgdegaa
