/-
  No cell of these rows narrows 'for every input' (looked for: loops, veiled, ifaces, maps, wideKeys, modest, calm, conditions, laid).
  DERIVED. THE GIVEN ROWS OF THIS SEAT. 7 by the template 'for every input the law returns true; each argument reads behind the call as it read before'; 0 by the template 'total and deterministic' (their statements: YtdamaflkcakcdaaTotals.lean).
  GIVEN WITH THE SEED: the statements are not yours to turn. If you find one false, say at which input.
  Laid BY PROGRAM, IN A SANDBOX (cutbox-rows.mjs): the forced cells as the released guide's own fill.sh prints them over the translation b39843be4db931a3… (all of the seat's roots in one cut). By AI agents, Wed Nov 11 2026. No macro, syntax, notation, axiom, sorry.
-/
import Derived.Test.YtdamaflkcakcdaaChecked
import GoSem.Claim
import GoSem.ClaimJoined
import GoSem.ClaimMapViews
import Derived.JoinedTies
import Derived.KernelRfl
namespace Go.Proofs.Ytdamaflkcakcdaa
/- THE CELL 'sum', in the pinned program and in every row, IS THE sha256 OF THE DUMP (.gsa) THAT YtdamaflkcakcdaaProg.lean LOADS. Nothing in Lean hashes anything: it is a label: what it is worth is what the hold of that sum in a sandbox is worth. -/
noncomputable def Try.pinned : Pinned := { name := "ytdamaflkcakcdaa", sum := "b39843be4db931a38a65c35e0ba18e3699f79ca1230c98cdddddb936679d842a", checked := Try.checked }
namespace Rows
def none {H : Type} : Left H := { results := [], args := [] }

/-- 'beadlelaw1.TickUps': WHATEVER THE INPUT: true; the input reads as it did. -/
def tickUpsSpec : ChangeSpec := { name := "tickUps", fn := fun _ => fun
  | [d1, d2, d3] => { results := [.lit (.bool true)], args := [d1, d2, d3] }
  | _ => none }
def tickUpsRow : OpenClaim := { program := "ytdamaflkcakcdaa", sum := "b39843be4db931a38a65c35e0ba18e3699f79ca1230c98cdddddb936679d842a", func := "beadle/beadlelaw1.TickUps", spec := "tickUps", apart := false }
def TickUpsSaid : Prop := tickUpsRow.holds Try.pinned (OpenSpec.ofChange tickUpsSpec)

/-- ITS FALSE NEIGHBOUR: 'it returns false'. Refute it at one input. -/
def tickUpsWrong : ChangeSpec := { name := "tickUps", fn := fun _ => fun
  | [d1, d2, d3] => { results := [.lit (.bool false)], args := [d1, d2, d3] }
  | _ => none }
def TickUpsWrongFalsely : Prop := tickUpsRow.holds Try.pinned (OpenSpec.ofChange tickUpsWrong)

/-- 'beadlelaw1.TickAdds': WHATEVER THE INPUT: true; the input reads as it did. -/
def tickAddsSpec : ChangeSpec := { name := "tickAdds", fn := fun _ => fun
  | [d1, d2, d3] => { results := [.lit (.bool true)], args := [d1, d2, d3] }
  | _ => none }
def tickAddsRow : OpenClaim := { program := "ytdamaflkcakcdaa", sum := "b39843be4db931a38a65c35e0ba18e3699f79ca1230c98cdddddb936679d842a", func := "beadle/beadlelaw1.TickAdds", spec := "tickAdds", apart := false }
def TickAddsSaid : Prop := tickAddsRow.holds Try.pinned (OpenSpec.ofChange tickAddsSpec)

/-- ITS FALSE NEIGHBOUR: 'it returns false'. Refute it at one input. -/
def tickAddsWrong : ChangeSpec := { name := "tickAdds", fn := fun _ => fun
  | [d1, d2, d3] => { results := [.lit (.bool false)], args := [d1, d2, d3] }
  | _ => none }
def TickAddsWrongFalsely : Prop := tickAddsRow.holds Try.pinned (OpenSpec.ofChange tickAddsWrong)

/-- 'beadlelaw1.TickMuls': WHATEVER THE INPUT: true; the input reads as it did. -/
def tickMulsSpec : ChangeSpec := { name := "tickMuls", fn := fun _ => fun
  | [d1, d2] => { results := [.lit (.bool true)], args := [d1, d2] }
  | _ => none }
def tickMulsRow : OpenClaim := { program := "ytdamaflkcakcdaa", sum := "b39843be4db931a38a65c35e0ba18e3699f79ca1230c98cdddddb936679d842a", func := "beadle/beadlelaw1.TickMuls", spec := "tickMuls", apart := false }
def TickMulsSaid : Prop := tickMulsRow.holds Try.pinned (OpenSpec.ofChange tickMulsSpec)

/-- ITS FALSE NEIGHBOUR: 'it returns false'. Refute it at one input. -/
def tickMulsWrong : ChangeSpec := { name := "tickMuls", fn := fun _ => fun
  | [d1, d2] => { results := [.lit (.bool false)], args := [d1, d2] }
  | _ => none }
def TickMulsWrongFalsely : Prop := tickMulsRow.holds Try.pinned (OpenSpec.ofChange tickMulsWrong)

/-- 'beadlelaw1.TickShares': WHATEVER THE INPUT: true; the input reads as it did. -/
def tickSharesSpec : ChangeSpec := { name := "tickShares", fn := fun _ => fun
  | [d1, d2, d3, d4] => { results := [.lit (.bool true)], args := [d1, d2, d3, d4] }
  | _ => none }
def tickSharesRow : OpenClaim := { program := "ytdamaflkcakcdaa", sum := "b39843be4db931a38a65c35e0ba18e3699f79ca1230c98cdddddb936679d842a", func := "beadle/beadlelaw1.TickShares", spec := "tickShares", apart := false }
def TickSharesSaid : Prop := tickSharesRow.holds Try.pinned (OpenSpec.ofChange tickSharesSpec)

/-- ITS FALSE NEIGHBOUR: 'it returns false'. Refute it at one input. -/
def tickSharesWrong : ChangeSpec := { name := "tickShares", fn := fun _ => fun
  | [d1, d2, d3, d4] => { results := [.lit (.bool false)], args := [d1, d2, d3, d4] }
  | _ => none }
def TickSharesWrongFalsely : Prop := tickSharesRow.holds Try.pinned (OpenSpec.ofChange tickSharesWrong)

/-- 'beadlelaw1.TickCmps': WHATEVER THE INPUT: true; the input reads as it did. -/
def tickCmpsSpec : ChangeSpec := { name := "tickCmps", fn := fun _ => fun
  | [d1, d2, d3, d4, d5, d6] => { results := [.lit (.bool true)], args := [d1, d2, d3, d4, d5, d6] }
  | _ => none }
def tickCmpsRow : OpenClaim := { program := "ytdamaflkcakcdaa", sum := "b39843be4db931a38a65c35e0ba18e3699f79ca1230c98cdddddb936679d842a", func := "beadle/beadlelaw1.TickCmps", spec := "tickCmps", apart := false }
def TickCmpsSaid : Prop := tickCmpsRow.holds Try.pinned (OpenSpec.ofChange tickCmpsSpec)

/-- ITS FALSE NEIGHBOUR: 'it returns false'. Refute it at one input. -/
def tickCmpsWrong : ChangeSpec := { name := "tickCmps", fn := fun _ => fun
  | [d1, d2, d3, d4, d5, d6] => { results := [.lit (.bool false)], args := [d1, d2, d3, d4, d5, d6] }
  | _ => none }
def TickCmpsWrongFalsely : Prop := tickCmpsRow.holds Try.pinned (OpenSpec.ofChange tickCmpsWrong)

/-- 'beadlelaw1.TickKnown': WHATEVER THE INPUT: true; the input reads as it did. -/
def tickKnownSpec : ChangeSpec := { name := "tickKnown", fn := fun _ => fun
  | [] => { results := [.lit (.bool true)], args := [] }
  | _ => none }
def tickKnownRow : OpenClaim := { program := "ytdamaflkcakcdaa", sum := "b39843be4db931a38a65c35e0ba18e3699f79ca1230c98cdddddb936679d842a", func := "beadle/beadlelaw1.TickKnown", spec := "tickKnown", apart := false }
def TickKnownSaid : Prop := tickKnownRow.holds Try.pinned (OpenSpec.ofChange tickKnownSpec)

/-- ITS FALSE NEIGHBOUR: 'it returns false'. Refute it at one input. -/
def tickKnownWrong : ChangeSpec := { name := "tickKnown", fn := fun _ => fun
  | [] => { results := [.lit (.bool false)], args := [] }
  | _ => none }
def TickKnownWrongFalsely : Prop := tickKnownRow.holds Try.pinned (OpenSpec.ofChange tickKnownWrong)

/-- 'beadlelaw1.TickSays': WHATEVER THE INPUT: true; the input reads as it did. -/
def tickSaysSpec : ChangeSpec := { name := "tickSays", fn := fun _ => fun
  | [d1, d2, d3, d4] => { results := [.lit (.bool true)], args := [d1, d2, d3, d4] }
  | _ => none }
def tickSaysRow : OpenClaim := { program := "ytdamaflkcakcdaa", sum := "b39843be4db931a38a65c35e0ba18e3699f79ca1230c98cdddddb936679d842a", func := "beadle/beadlelaw1.TickSays", spec := "tickSays", apart := false }
def TickSaysSaid : Prop := tickSaysRow.holds Try.pinned (OpenSpec.ofChange tickSaysSpec)

/-- ITS FALSE NEIGHBOUR: 'it returns false'. Refute it at one input. -/
def tickSaysWrong : ChangeSpec := { name := "tickSays", fn := fun _ => fun
  | [d1, d2, d3, d4] => { results := [.lit (.bool false)], args := [d1, d2, d3, d4] }
  | _ => none }
def TickSaysWrongFalsely : Prop := tickSaysRow.holds Try.pinned (OpenSpec.ofChange tickSaysWrong)

/- THE SECOND FORM. 'bulk': how many values and letters a reading holds, each counted each time it is reached (what is shared counts as often as it is met; a slice's spare places count too). A statement '..UptoSaid' is the law's where the arguments, and the package variables that the reading takes, are together of bulk at most 1048576: NARROWER than '..Said'. Prove '..Said' where nothing that the law and all that it calls make is longer than what came in: it says more and counts as full. Else prove '..UptoSaid'. A law counts once. -/
mutual
def uptoBulk {H : Type} : DataW H → Nat
  | .lit (.string bytes) => bytes.length + 1
  | .lit _ => 1
  | .nil => 1
  | .ptr d => uptoBulk d + 1
  | .slice elems spare => uptoBulkAll elems + uptoBulkAll spare + 1
  | .agg parts => uptoBulkAll parts + 1
  | .iface _ d => uptoBulk d + 1
  | .map entries => uptoBulkEntries entries + 1
  | .held _ => 1
def uptoBulkAll {H : Type} : List (DataW H) → Nat
  | [] => 0
  | d :: r => uptoBulk d + uptoBulkAll r
def uptoBulkEntries {H : Type} : List (Lit × DataW H) → Nat
  | [] => 0
  | x :: r => uptoBulkEntry x + uptoBulkEntries r
def uptoBulkEntry {H : Type} : Lit × DataW H → Nat
  | (.string bytes, d) => bytes.length + uptoBulk d + 1
  | (_, d) => uptoBulk d + 1
 end
def uptoSmall : (H : Type) → List (DataW H) → Bool := fun _ ds => decide (uptoBulkAll ds ≤ 1048576)
def OpenSpec.upto (s : _root_.Go.ChangeSpec) : _root_.Go.OpenSpec := { _root_.Go.OpenSpec.ofChange s with cond := some uptoSmall }

/-- 'beadlelaw1.TickUps', WHERE WHAT IT READS IS OF BULK AT MOST 1048576: true; the input reads as it did. -/
def tickUpsUptoRow : OpenClaim := { program := "ytdamaflkcakcdaa", sum := "b39843be4db931a38a65c35e0ba18e3699f79ca1230c98cdddddb936679d842a", func := "beadle/beadlelaw1.TickUps", spec := "tickUps", apart := false, narrowed := true }
def TickUpsUptoSaid : Prop := tickUpsUptoRow.holds Try.pinned (OpenSpec.upto tickUpsSpec)

/-- 'beadlelaw1.TickAdds', WHERE WHAT IT READS IS OF BULK AT MOST 1048576: true; the input reads as it did. -/
def tickAddsUptoRow : OpenClaim := { program := "ytdamaflkcakcdaa", sum := "b39843be4db931a38a65c35e0ba18e3699f79ca1230c98cdddddb936679d842a", func := "beadle/beadlelaw1.TickAdds", spec := "tickAdds", apart := false, narrowed := true }
def TickAddsUptoSaid : Prop := tickAddsUptoRow.holds Try.pinned (OpenSpec.upto tickAddsSpec)

/-- 'beadlelaw1.TickMuls', WHERE WHAT IT READS IS OF BULK AT MOST 1048576: true; the input reads as it did. -/
def tickMulsUptoRow : OpenClaim := { program := "ytdamaflkcakcdaa", sum := "b39843be4db931a38a65c35e0ba18e3699f79ca1230c98cdddddb936679d842a", func := "beadle/beadlelaw1.TickMuls", spec := "tickMuls", apart := false, narrowed := true }
def TickMulsUptoSaid : Prop := tickMulsUptoRow.holds Try.pinned (OpenSpec.upto tickMulsSpec)

/-- 'beadlelaw1.TickShares', WHERE WHAT IT READS IS OF BULK AT MOST 1048576: true; the input reads as it did. -/
def tickSharesUptoRow : OpenClaim := { program := "ytdamaflkcakcdaa", sum := "b39843be4db931a38a65c35e0ba18e3699f79ca1230c98cdddddb936679d842a", func := "beadle/beadlelaw1.TickShares", spec := "tickShares", apart := false, narrowed := true }
def TickSharesUptoSaid : Prop := tickSharesUptoRow.holds Try.pinned (OpenSpec.upto tickSharesSpec)

/-- 'beadlelaw1.TickCmps', WHERE WHAT IT READS IS OF BULK AT MOST 1048576: true; the input reads as it did. -/
def tickCmpsUptoRow : OpenClaim := { program := "ytdamaflkcakcdaa", sum := "b39843be4db931a38a65c35e0ba18e3699f79ca1230c98cdddddb936679d842a", func := "beadle/beadlelaw1.TickCmps", spec := "tickCmps", apart := false, narrowed := true }
def TickCmpsUptoSaid : Prop := tickCmpsUptoRow.holds Try.pinned (OpenSpec.upto tickCmpsSpec)

/-- 'beadlelaw1.TickKnown', WHERE WHAT IT READS IS OF BULK AT MOST 1048576: true; the input reads as it did. -/
def tickKnownUptoRow : OpenClaim := { program := "ytdamaflkcakcdaa", sum := "b39843be4db931a38a65c35e0ba18e3699f79ca1230c98cdddddb936679d842a", func := "beadle/beadlelaw1.TickKnown", spec := "tickKnown", apart := false, narrowed := true }
def TickKnownUptoSaid : Prop := tickKnownUptoRow.holds Try.pinned (OpenSpec.upto tickKnownSpec)

/-- 'beadlelaw1.TickSays', WHERE WHAT IT READS IS OF BULK AT MOST 1048576: true; the input reads as it did. -/
def tickSaysUptoRow : OpenClaim := { program := "ytdamaflkcakcdaa", sum := "b39843be4db931a38a65c35e0ba18e3699f79ca1230c98cdddddb936679d842a", func := "beadle/beadlelaw1.TickSays", spec := "tickSays", apart := false, narrowed := true }
def TickSaysUptoSaid : Prop := tickSaysUptoRow.holds Try.pinned (OpenSpec.upto tickSaysSpec)

end Rows
end Go.Proofs.Ytdamaflkcakcdaa
