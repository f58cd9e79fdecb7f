/-
  No cell of these rows narrows 'for every input' (looked for: loops, veiled, ifaces, maps, wideKeys, modest, calm, conditions, laid).
  DERIVED. THE GIVEN ROWS OF THIS SEAT. 4 by the template 'for every input the law returns true; each argument reads behind the call as it read before'; 0 by the template 'total and deterministic' (their statements: YtnfpgdcnihbokaaTotals.lean).
  GIVEN WITH THE SEED: the statements are not yours to turn. If you find one false, say at which input.
  Laid BY PROGRAM, IN A SANDBOX (cutbox-rows.mjs): the forced cells as the released guide's own fill.sh prints them over the translation d7c736c249c96d00… (all of the seat's roots in one cut). By AI agents, Wed Nov 11 2026. No macro, syntax, notation, axiom, sorry.
-/
import Derived.Test.YtnfpgdcnihbokaaChecked
import GoSem.Claim
import GoSem.ClaimJoined
import GoSem.ClaimMapViews
import Derived.JoinedTies
import Derived.KernelRfl
namespace Go.Proofs.Ytnfpgdcnihbokaa
/- THE CELL 'sum', in the pinned program and in every row, IS THE sha256 OF THE DUMP (.gsa) THAT YtnfpgdcnihbokaaProg.lean LOADS. Nothing in Lean hashes anything: it is a label: what it is worth is what the hold of that sum in a sandbox is worth. -/
noncomputable def Try.pinned : Pinned := { name := "ytnfpgdcnihbokaa", sum := "d7c736c249c96d0059287924226d4170666bfa32ecb9b195caf0796e63c724b4", checked := Try.checked }
namespace Rows
def none {H : Type} : Left H := { results := [], args := [] }

/-- 'beadlelaw18.SemTurns': WHATEVER THE INPUT: true; the input reads as it did. -/
def semTurnsSpec : ChangeSpec := { name := "semTurns", fn := fun _ => fun
  | [d1, d2] => { results := [.lit (.bool true)], args := [d1, d2] }
  | _ => none }
def semTurnsRow : OpenClaim := { program := "ytnfpgdcnihbokaa", sum := "d7c736c249c96d0059287924226d4170666bfa32ecb9b195caf0796e63c724b4", func := "beadle/beadlelaw18.SemTurns", spec := "semTurns", apart := false }
def SemTurnsSaid : Prop := semTurnsRow.holds Try.pinned (OpenSpec.ofChange semTurnsSpec)

/-- ITS FALSE NEIGHBOUR: 'it returns false'. Refute it at one input. -/
def semTurnsWrong : ChangeSpec := { name := "semTurns", fn := fun _ => fun
  | [d1, d2] => { results := [.lit (.bool false)], args := [d1, d2] }
  | _ => none }
def SemTurnsWrongFalsely : Prop := semTurnsRow.holds Try.pinned (OpenSpec.ofChange semTurnsWrong)

/-- 'beadlelaw18.SemKnown': WHATEVER THE INPUT: true; the input reads as it did. -/
def semKnownSpec : ChangeSpec := { name := "semKnown", fn := fun _ => fun
  | [] => { results := [.lit (.bool true)], args := [] }
  | _ => none }
def semKnownRow : OpenClaim := { program := "ytnfpgdcnihbokaa", sum := "d7c736c249c96d0059287924226d4170666bfa32ecb9b195caf0796e63c724b4", func := "beadle/beadlelaw18.SemKnown", spec := "semKnown", apart := false }
def SemKnownSaid : Prop := semKnownRow.holds Try.pinned (OpenSpec.ofChange semKnownSpec)

/-- ITS FALSE NEIGHBOUR: 'it returns false'. Refute it at one input. -/
def semKnownWrong : ChangeSpec := { name := "semKnown", fn := fun _ => fun
  | [] => { results := [.lit (.bool false)], args := [] }
  | _ => none }
def SemKnownWrongFalsely : Prop := semKnownRow.holds Try.pinned (OpenSpec.ofChange semKnownWrong)

/-- 'beadlelaw18.SemPlays': WHATEVER THE INPUT: true; the input reads as it did. -/
def semPlaysSpec : ChangeSpec := { name := "semPlays", fn := fun _ => fun
  | [d] => { results := [.lit (.bool true)], args := [d] }
  | _ => none }
def semPlaysRow : OpenClaim := { program := "ytnfpgdcnihbokaa", sum := "d7c736c249c96d0059287924226d4170666bfa32ecb9b195caf0796e63c724b4", func := "beadle/beadlelaw18.SemPlays", spec := "semPlays", apart := false }
def SemPlaysSaid : Prop := semPlaysRow.holds Try.pinned (OpenSpec.ofChange semPlaysSpec)

/-- ITS FALSE NEIGHBOUR: 'it returns false'. Refute it at one input. -/
def semPlaysWrong : ChangeSpec := { name := "semPlays", fn := fun _ => fun
  | [d] => { results := [.lit (.bool false)], args := [d] }
  | _ => none }
def SemPlaysWrongFalsely : Prop := semPlaysRow.holds Try.pinned (OpenSpec.ofChange semPlaysWrong)

/-- 'beadlelaw18.SemOne': WHATEVER THE INPUT: true; the input reads as it did. -/
def semOneSpec : ChangeSpec := { name := "semOne", fn := fun _ => fun
  | [d] => { results := [.lit (.bool true)], args := [d] }
  | _ => none }
def semOneRow : OpenClaim := { program := "ytnfpgdcnihbokaa", sum := "d7c736c249c96d0059287924226d4170666bfa32ecb9b195caf0796e63c724b4", func := "beadle/beadlelaw18.SemOne", spec := "semOne", apart := false }
def SemOneSaid : Prop := semOneRow.holds Try.pinned (OpenSpec.ofChange semOneSpec)

/-- ITS FALSE NEIGHBOUR: 'it returns false'. Refute it at one input. -/
def semOneWrong : ChangeSpec := { name := "semOne", fn := fun _ => fun
  | [d] => { results := [.lit (.bool false)], args := [d] }
  | _ => none }
def SemOneWrongFalsely : Prop := semOneRow.holds Try.pinned (OpenSpec.ofChange semOneWrong)

/- THE SECOND FORM. 'bulk': how many values and letters a reading holds, each counted each time it is reached (what is shared counts as often as it is met; a slice's spare places count too). A statement '..UptoSaid' is the law's where the arguments, and the package variables that the reading takes, are together of bulk at most 1048576: NARROWER than '..Said'. Prove '..Said' where nothing that the law and all that it calls make is longer than what came in: it says more and counts as full. Else prove '..UptoSaid'. A law counts once. -/
mutual
def uptoBulk {H : Type} : DataW H → Nat
  | .lit (.string bytes) => bytes.length + 1
  | .lit _ => 1
  | .nil => 1
  | .ptr d => uptoBulk d + 1
  | .slice elems spare => uptoBulkAll elems + uptoBulkAll spare + 1
  | .agg parts => uptoBulkAll parts + 1
  | .iface _ d => uptoBulk d + 1
  | .map entries => uptoBulkEntries entries + 1
  | .held _ => 1
def uptoBulkAll {H : Type} : List (DataW H) → Nat
  | [] => 0
  | d :: r => uptoBulk d + uptoBulkAll r
def uptoBulkEntries {H : Type} : List (Lit × DataW H) → Nat
  | [] => 0
  | x :: r => uptoBulkEntry x + uptoBulkEntries r
def uptoBulkEntry {H : Type} : Lit × DataW H → Nat
  | (.string bytes, d) => bytes.length + uptoBulk d + 1
  | (_, d) => uptoBulk d + 1
 end
def uptoSmall : (H : Type) → List (DataW H) → Bool := fun _ ds => decide (uptoBulkAll ds ≤ 1048576)
def OpenSpec.upto (s : _root_.Go.ChangeSpec) : _root_.Go.OpenSpec := { _root_.Go.OpenSpec.ofChange s with cond := some uptoSmall }

/-- 'beadlelaw18.SemTurns', WHERE WHAT IT READS IS OF BULK AT MOST 1048576: true; the input reads as it did. -/
def semTurnsUptoRow : OpenClaim := { program := "ytnfpgdcnihbokaa", sum := "d7c736c249c96d0059287924226d4170666bfa32ecb9b195caf0796e63c724b4", func := "beadle/beadlelaw18.SemTurns", spec := "semTurns", apart := false, narrowed := true }
def SemTurnsUptoSaid : Prop := semTurnsUptoRow.holds Try.pinned (OpenSpec.upto semTurnsSpec)

/-- 'beadlelaw18.SemKnown', WHERE WHAT IT READS IS OF BULK AT MOST 1048576: true; the input reads as it did. -/
def semKnownUptoRow : OpenClaim := { program := "ytnfpgdcnihbokaa", sum := "d7c736c249c96d0059287924226d4170666bfa32ecb9b195caf0796e63c724b4", func := "beadle/beadlelaw18.SemKnown", spec := "semKnown", apart := false, narrowed := true }
def SemKnownUptoSaid : Prop := semKnownUptoRow.holds Try.pinned (OpenSpec.upto semKnownSpec)

/-- 'beadlelaw18.SemPlays', WHERE WHAT IT READS IS OF BULK AT MOST 1048576: true; the input reads as it did. -/
def semPlaysUptoRow : OpenClaim := { program := "ytnfpgdcnihbokaa", sum := "d7c736c249c96d0059287924226d4170666bfa32ecb9b195caf0796e63c724b4", func := "beadle/beadlelaw18.SemPlays", spec := "semPlays", apart := false, narrowed := true }
def SemPlaysUptoSaid : Prop := semPlaysUptoRow.holds Try.pinned (OpenSpec.upto semPlaysSpec)

/-- 'beadlelaw18.SemOne', WHERE WHAT IT READS IS OF BULK AT MOST 1048576: true; the input reads as it did. -/
def semOneUptoRow : OpenClaim := { program := "ytnfpgdcnihbokaa", sum := "d7c736c249c96d0059287924226d4170666bfa32ecb9b195caf0796e63c724b4", func := "beadle/beadlelaw18.SemOne", spec := "semOne", apart := false, narrowed := true }
def SemOneUptoSaid : Prop := semOneUptoRow.holds Try.pinned (OpenSpec.upto semOneSpec)

end Rows
end Go.Proofs.Ytnfpgdcnihbokaa
