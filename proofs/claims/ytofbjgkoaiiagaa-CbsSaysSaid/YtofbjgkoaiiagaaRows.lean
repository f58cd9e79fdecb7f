/-
  No cell of these rows narrows 'for every input' (looked for: loops, veiled, ifaces, maps, wideKeys, modest, calm, conditions, laid).
  DERIVED. THE GIVEN ROWS OF THIS SEAT. 6 by the template 'for every input the law returns true; each argument reads behind the call as it read before'; 0 by the template 'total and deterministic' (their statements: YtofbjgkoaiiagaaTotals.lean).
  GIVEN WITH THE SEED: the statements are not yours to turn. If you find one false, say at which input.
  Laid BY PROGRAM, IN A SANDBOX (cutbox-rows.mjs): the forced cells as the released guide's own fill.sh prints them over the translation 33609a6e8bddf80c… (all of the seat's roots in one cut). By AI agents, Wed Nov 11 2026. No macro, syntax, notation, axiom, sorry.
-/
import Derived.Test.YtofbjgkoaiiagaaChecked
import GoSem.Claim
import GoSem.ClaimJoined
import GoSem.ClaimMapViews
import Derived.JoinedTies
import Derived.KernelRfl
namespace Go.Proofs.Ytofbjgkoaiiagaa
/- THE CELL 'sum', in the pinned program and in every row, IS THE sha256 OF THE DUMP (.gsa) THAT YtofbjgkoaiiagaaProg.lean LOADS. Nothing in Lean hashes anything: it is a label: what it is worth is what the hold of that sum in a sandbox is worth. -/
noncomputable def Try.pinned : Pinned := { name := "ytofbjgkoaiiagaa", sum := "33609a6e8bddf80c4571be2a0125af7537ecbfe1065f7ced86299d4dc3560255", checked := Try.checked }
namespace Rows
def none {H : Type} : Left H := { results := [], args := [] }

/-- 'beadlelaw12.CbsCut': WHATEVER THE INPUT: true; the input reads as it did. -/
def cbsCutSpec : ChangeSpec := { name := "cbsCut", fn := fun _ => fun
  | [d1, d2] => { results := [.lit (.bool true)], args := [d1, d2] }
  | _ => none }
def cbsCutRow : OpenClaim := { program := "ytofbjgkoaiiagaa", sum := "33609a6e8bddf80c4571be2a0125af7537ecbfe1065f7ced86299d4dc3560255", func := "beadle/beadlelaw12.CbsCut", spec := "cbsCut", apart := false }
def CbsCutSaid : Prop := cbsCutRow.holds Try.pinned (OpenSpec.ofChange cbsCutSpec)

/-- ITS FALSE NEIGHBOUR: 'it returns false'. Refute it at one input. -/
def cbsCutWrong : ChangeSpec := { name := "cbsCut", fn := fun _ => fun
  | [d1, d2] => { results := [.lit (.bool false)], args := [d1, d2] }
  | _ => none }
def CbsCutWrongFalsely : Prop := cbsCutRow.holds Try.pinned (OpenSpec.ofChange cbsCutWrong)

/-- 'beadlelaw12.CbsUses': WHATEVER THE INPUT: true; the input reads as it did. -/
def cbsUsesSpec : ChangeSpec := { name := "cbsUses", fn := fun _ => fun
  | [d1, d2, d3] => { results := [.lit (.bool true)], args := [d1, d2, d3] }
  | _ => none }
def cbsUsesRow : OpenClaim := { program := "ytofbjgkoaiiagaa", sum := "33609a6e8bddf80c4571be2a0125af7537ecbfe1065f7ced86299d4dc3560255", func := "beadle/beadlelaw12.CbsUses", spec := "cbsUses", apart := false }
def CbsUsesSaid : Prop := cbsUsesRow.holds Try.pinned (OpenSpec.ofChange cbsUsesSpec)

/-- ITS FALSE NEIGHBOUR: 'it returns false'. Refute it at one input. -/
def cbsUsesWrong : ChangeSpec := { name := "cbsUses", fn := fun _ => fun
  | [d1, d2, d3] => { results := [.lit (.bool false)], args := [d1, d2, d3] }
  | _ => none }
def CbsUsesWrongFalsely : Prop := cbsUsesRow.holds Try.pinned (OpenSpec.ofChange cbsUsesWrong)

/-- 'beadlelaw12.CbsTurns': WHATEVER THE INPUT: true; the input reads as it did. -/
def cbsTurnsSpec : ChangeSpec := { name := "cbsTurns", fn := fun _ => fun
  | [d1, d2] => { results := [.lit (.bool true)], args := [d1, d2] }
  | _ => none }
def cbsTurnsRow : OpenClaim := { program := "ytofbjgkoaiiagaa", sum := "33609a6e8bddf80c4571be2a0125af7537ecbfe1065f7ced86299d4dc3560255", func := "beadle/beadlelaw12.CbsTurns", spec := "cbsTurns", apart := false }
def CbsTurnsSaid : Prop := cbsTurnsRow.holds Try.pinned (OpenSpec.ofChange cbsTurnsSpec)

/-- ITS FALSE NEIGHBOUR: 'it returns false'. Refute it at one input. -/
def cbsTurnsWrong : ChangeSpec := { name := "cbsTurns", fn := fun _ => fun
  | [d1, d2] => { results := [.lit (.bool false)], args := [d1, d2] }
  | _ => none }
def CbsTurnsWrongFalsely : Prop := cbsTurnsRow.holds Try.pinned (OpenSpec.ofChange cbsTurnsWrong)

/-- 'beadlelaw12.CbsWindows': WHATEVER THE INPUT: true; the input reads as it did. -/
def cbsWindowsSpec : ChangeSpec := { name := "cbsWindows", fn := fun _ => fun
  | [d1, d2, d3] => { results := [.lit (.bool true)], args := [d1, d2, d3] }
  | _ => none }
def cbsWindowsRow : OpenClaim := { program := "ytofbjgkoaiiagaa", sum := "33609a6e8bddf80c4571be2a0125af7537ecbfe1065f7ced86299d4dc3560255", func := "beadle/beadlelaw12.CbsWindows", spec := "cbsWindows", apart := false }
def CbsWindowsSaid : Prop := cbsWindowsRow.holds Try.pinned (OpenSpec.ofChange cbsWindowsSpec)

/-- ITS FALSE NEIGHBOUR: 'it returns false'. Refute it at one input. -/
def cbsWindowsWrong : ChangeSpec := { name := "cbsWindows", fn := fun _ => fun
  | [d1, d2, d3] => { results := [.lit (.bool false)], args := [d1, d2, d3] }
  | _ => none }
def CbsWindowsWrongFalsely : Prop := cbsWindowsRow.holds Try.pinned (OpenSpec.ofChange cbsWindowsWrong)

/-- 'beadlelaw12.CbsKnown': WHATEVER THE INPUT: true; the input reads as it did. -/
def cbsKnownSpec : ChangeSpec := { name := "cbsKnown", fn := fun _ => fun
  | [] => { results := [.lit (.bool true)], args := [] }
  | _ => none }
def cbsKnownRow : OpenClaim := { program := "ytofbjgkoaiiagaa", sum := "33609a6e8bddf80c4571be2a0125af7537ecbfe1065f7ced86299d4dc3560255", func := "beadle/beadlelaw12.CbsKnown", spec := "cbsKnown", apart := false }
def CbsKnownSaid : Prop := cbsKnownRow.holds Try.pinned (OpenSpec.ofChange cbsKnownSpec)

/-- ITS FALSE NEIGHBOUR: 'it returns false'. Refute it at one input. -/
def cbsKnownWrong : ChangeSpec := { name := "cbsKnown", fn := fun _ => fun
  | [] => { results := [.lit (.bool false)], args := [] }
  | _ => none }
def CbsKnownWrongFalsely : Prop := cbsKnownRow.holds Try.pinned (OpenSpec.ofChange cbsKnownWrong)

/-- 'beadlelaw12.CbsSays': WHATEVER THE INPUT: true; the input reads as it did. -/
def cbsSaysSpec : ChangeSpec := { name := "cbsSays", fn := fun _ => fun
  | [d1, d2, d3, d4] => { results := [.lit (.bool true)], args := [d1, d2, d3, d4] }
  | _ => none }
def cbsSaysRow : OpenClaim := { program := "ytofbjgkoaiiagaa", sum := "33609a6e8bddf80c4571be2a0125af7537ecbfe1065f7ced86299d4dc3560255", func := "beadle/beadlelaw12.CbsSays", spec := "cbsSays", apart := false }
def CbsSaysSaid : Prop := cbsSaysRow.holds Try.pinned (OpenSpec.ofChange cbsSaysSpec)

/-- ITS FALSE NEIGHBOUR: 'it returns false'. Refute it at one input. -/
def cbsSaysWrong : ChangeSpec := { name := "cbsSays", fn := fun _ => fun
  | [d1, d2, d3, d4] => { results := [.lit (.bool false)], args := [d1, d2, d3, d4] }
  | _ => none }
def CbsSaysWrongFalsely : Prop := cbsSaysRow.holds Try.pinned (OpenSpec.ofChange cbsSaysWrong)

/- THE SECOND FORM. 'bulk': how many values and letters a reading holds, each counted each time it is reached (what is shared counts as often as it is met; a slice's spare places count too). A statement '..UptoSaid' is the law's where the arguments, and the package variables that the reading takes, are together of bulk at most 1048576: NARROWER than '..Said'. Prove '..Said' where nothing that the law and all that it calls make is longer than what came in: it says more and counts as full. Else prove '..UptoSaid'. A law counts once. -/
mutual
def uptoBulk {H : Type} : DataW H → Nat
  | .lit (.string bytes) => bytes.length + 1
  | .lit _ => 1
  | .nil => 1
  | .ptr d => uptoBulk d + 1
  | .slice elems spare => uptoBulkAll elems + uptoBulkAll spare + 1
  | .agg parts => uptoBulkAll parts + 1
  | .iface _ d => uptoBulk d + 1
  | .map entries => uptoBulkEntries entries + 1
  | .held _ => 1
def uptoBulkAll {H : Type} : List (DataW H) → Nat
  | [] => 0
  | d :: r => uptoBulk d + uptoBulkAll r
def uptoBulkEntries {H : Type} : List (Lit × DataW H) → Nat
  | [] => 0
  | x :: r => uptoBulkEntry x + uptoBulkEntries r
def uptoBulkEntry {H : Type} : Lit × DataW H → Nat
  | (.string bytes, d) => bytes.length + uptoBulk d + 1
  | (_, d) => uptoBulk d + 1
 end
def uptoSmall : (H : Type) → List (DataW H) → Bool := fun _ ds => decide (uptoBulkAll ds ≤ 1048576)
def OpenSpec.upto (s : _root_.Go.ChangeSpec) : _root_.Go.OpenSpec := { _root_.Go.OpenSpec.ofChange s with cond := some uptoSmall }

/-- 'beadlelaw12.CbsCut', WHERE WHAT IT READS IS OF BULK AT MOST 1048576: true; the input reads as it did. -/
def cbsCutUptoRow : OpenClaim := { program := "ytofbjgkoaiiagaa", sum := "33609a6e8bddf80c4571be2a0125af7537ecbfe1065f7ced86299d4dc3560255", func := "beadle/beadlelaw12.CbsCut", spec := "cbsCut", apart := false, narrowed := true }
def CbsCutUptoSaid : Prop := cbsCutUptoRow.holds Try.pinned (OpenSpec.upto cbsCutSpec)

/-- 'beadlelaw12.CbsUses', WHERE WHAT IT READS IS OF BULK AT MOST 1048576: true; the input reads as it did. -/
def cbsUsesUptoRow : OpenClaim := { program := "ytofbjgkoaiiagaa", sum := "33609a6e8bddf80c4571be2a0125af7537ecbfe1065f7ced86299d4dc3560255", func := "beadle/beadlelaw12.CbsUses", spec := "cbsUses", apart := false, narrowed := true }
def CbsUsesUptoSaid : Prop := cbsUsesUptoRow.holds Try.pinned (OpenSpec.upto cbsUsesSpec)

/-- 'beadlelaw12.CbsTurns', WHERE WHAT IT READS IS OF BULK AT MOST 1048576: true; the input reads as it did. -/
def cbsTurnsUptoRow : OpenClaim := { program := "ytofbjgkoaiiagaa", sum := "33609a6e8bddf80c4571be2a0125af7537ecbfe1065f7ced86299d4dc3560255", func := "beadle/beadlelaw12.CbsTurns", spec := "cbsTurns", apart := false, narrowed := true }
def CbsTurnsUptoSaid : Prop := cbsTurnsUptoRow.holds Try.pinned (OpenSpec.upto cbsTurnsSpec)

/-- 'beadlelaw12.CbsWindows', WHERE WHAT IT READS IS OF BULK AT MOST 1048576: true; the input reads as it did. -/
def cbsWindowsUptoRow : OpenClaim := { program := "ytofbjgkoaiiagaa", sum := "33609a6e8bddf80c4571be2a0125af7537ecbfe1065f7ced86299d4dc3560255", func := "beadle/beadlelaw12.CbsWindows", spec := "cbsWindows", apart := false, narrowed := true }
def CbsWindowsUptoSaid : Prop := cbsWindowsUptoRow.holds Try.pinned (OpenSpec.upto cbsWindowsSpec)

/-- 'beadlelaw12.CbsKnown', WHERE WHAT IT READS IS OF BULK AT MOST 1048576: true; the input reads as it did. -/
def cbsKnownUptoRow : OpenClaim := { program := "ytofbjgkoaiiagaa", sum := "33609a6e8bddf80c4571be2a0125af7537ecbfe1065f7ced86299d4dc3560255", func := "beadle/beadlelaw12.CbsKnown", spec := "cbsKnown", apart := false, narrowed := true }
def CbsKnownUptoSaid : Prop := cbsKnownUptoRow.holds Try.pinned (OpenSpec.upto cbsKnownSpec)

/-- 'beadlelaw12.CbsSays', WHERE WHAT IT READS IS OF BULK AT MOST 1048576: true; the input reads as it did. -/
def cbsSaysUptoRow : OpenClaim := { program := "ytofbjgkoaiiagaa", sum := "33609a6e8bddf80c4571be2a0125af7537ecbfe1065f7ced86299d4dc3560255", func := "beadle/beadlelaw12.CbsSays", spec := "cbsSays", apart := false, narrowed := true }
def CbsSaysUptoSaid : Prop := cbsSaysUptoRow.holds Try.pinned (OpenSpec.upto cbsSaysSpec)

end Rows
end Go.Proofs.Ytofbjgkoaiiagaa
