/-
  No cell of these rows narrows 'for every input' (looked for: loops, veiled, ifaces, maps, wideKeys, modest, calm, conditions, laid).
  DERIVED. THE GIVEN ROWS OF THIS SEAT. 4 by the template 'for every input the law returns true; each argument reads behind the call as it read before'; 0 by the template 'total and deterministic' (their statements: YtdolfdijcbfegaaTotals.lean).
  GIVEN WITH THE SEED: the statements are not yours to turn. If you find one false, say at which input.
  Laid BY PROGRAM, IN A SANDBOX (cutbox-rows.mjs): the forced cells as the released guide's own fill.sh prints them over the translation 5274367d6fbe3991… (all of the seat's roots in one cut). By AI agents, Wed Nov 11 2026. No macro, syntax, notation, axiom, sorry.
-/
import Derived.Test.YtdolfdijcbfegaaChecked
import GoSem.Claim
import GoSem.ClaimJoined
import GoSem.ClaimMapViews
import Derived.JoinedTies
import Derived.KernelRfl
namespace Go.Proofs.Ytdolfdijcbfegaa
/- THE CELL 'sum', in the pinned program and in every row, IS THE sha256 OF THE DUMP (.gsa) THAT YtdolfdijcbfegaaProg.lean LOADS. Nothing in Lean hashes anything: it is a label: what it is worth is what the hold of that sum in a sandbox is worth. -/
noncomputable def Try.pinned : Pinned := { name := "ytdolfdijcbfegaa", sum := "5274367d6fbe3991a504a3a5c876dc16b30535f48d4631d22b4e1179bce9fe24", checked := Try.checked }
namespace Rows
def none {H : Type} : Left H := { results := [], args := [] }

/-- 'beadlelaw16.SeatKeeps': WHATEVER THE INPUT: true; the input reads as it did. -/
def seatKeepsSpec : ChangeSpec := { name := "seatKeeps", fn := fun _ => fun
  | [d1, d2] => { results := [.lit (.bool true)], args := [d1, d2] }
  | _ => none }
def seatKeepsRow : OpenClaim := { program := "ytdolfdijcbfegaa", sum := "5274367d6fbe3991a504a3a5c876dc16b30535f48d4631d22b4e1179bce9fe24", func := "beadle/beadlelaw16.SeatKeeps", spec := "seatKeeps", apart := false }
def SeatKeepsSaid : Prop := seatKeepsRow.holds Try.pinned (OpenSpec.ofChange seatKeepsSpec)

/-- ITS FALSE NEIGHBOUR: 'it returns false'. Refute it at one input. -/
def seatKeepsWrong : ChangeSpec := { name := "seatKeeps", fn := fun _ => fun
  | [d1, d2] => { results := [.lit (.bool false)], args := [d1, d2] }
  | _ => none }
def SeatKeepsWrongFalsely : Prop := seatKeepsRow.holds Try.pinned (OpenSpec.ofChange seatKeepsWrong)

/-- 'beadlelaw16.SeatSwaps': WHATEVER THE INPUT: true; the input reads as it did. -/
def seatSwapsSpec : ChangeSpec := { name := "seatSwaps", fn := fun _ => fun
  | [d1, d2, d3] => { results := [.lit (.bool true)], args := [d1, d2, d3] }
  | _ => none }
def seatSwapsRow : OpenClaim := { program := "ytdolfdijcbfegaa", sum := "5274367d6fbe3991a504a3a5c876dc16b30535f48d4631d22b4e1179bce9fe24", func := "beadle/beadlelaw16.SeatSwaps", spec := "seatSwaps", apart := false }
def SeatSwapsSaid : Prop := seatSwapsRow.holds Try.pinned (OpenSpec.ofChange seatSwapsSpec)

/-- ITS FALSE NEIGHBOUR: 'it returns false'. Refute it at one input. -/
def seatSwapsWrong : ChangeSpec := { name := "seatSwaps", fn := fun _ => fun
  | [d1, d2, d3] => { results := [.lit (.bool false)], args := [d1, d2, d3] }
  | _ => none }
def SeatSwapsWrongFalsely : Prop := seatSwapsRow.holds Try.pinned (OpenSpec.ofChange seatSwapsWrong)

/-- 'beadlelaw16.SeatKnown': WHATEVER THE INPUT: true; the input reads as it did. -/
def seatKnownSpec : ChangeSpec := { name := "seatKnown", fn := fun _ => fun
  | [] => { results := [.lit (.bool true)], args := [] }
  | _ => none }
def seatKnownRow : OpenClaim := { program := "ytdolfdijcbfegaa", sum := "5274367d6fbe3991a504a3a5c876dc16b30535f48d4631d22b4e1179bce9fe24", func := "beadle/beadlelaw16.SeatKnown", spec := "seatKnown", apart := false }
def SeatKnownSaid : Prop := seatKnownRow.holds Try.pinned (OpenSpec.ofChange seatKnownSpec)

/-- ITS FALSE NEIGHBOUR: 'it returns false'. Refute it at one input. -/
def seatKnownWrong : ChangeSpec := { name := "seatKnown", fn := fun _ => fun
  | [] => { results := [.lit (.bool false)], args := [] }
  | _ => none }
def SeatKnownWrongFalsely : Prop := seatKnownRow.holds Try.pinned (OpenSpec.ofChange seatKnownWrong)

/-- 'beadlelaw16.SeatFree': WHATEVER THE INPUT: true; the input reads as it did. -/
def seatFreeSpec : ChangeSpec := { name := "seatFree", fn := fun _ => fun
  | [d1, d2] => { results := [.lit (.bool true)], args := [d1, d2] }
  | _ => none }
def seatFreeRow : OpenClaim := { program := "ytdolfdijcbfegaa", sum := "5274367d6fbe3991a504a3a5c876dc16b30535f48d4631d22b4e1179bce9fe24", func := "beadle/beadlelaw16.SeatFree", spec := "seatFree", apart := false }
def SeatFreeSaid : Prop := seatFreeRow.holds Try.pinned (OpenSpec.ofChange seatFreeSpec)

/-- ITS FALSE NEIGHBOUR: 'it returns false'. Refute it at one input. -/
def seatFreeWrong : ChangeSpec := { name := "seatFree", fn := fun _ => fun
  | [d1, d2] => { results := [.lit (.bool false)], args := [d1, d2] }
  | _ => none }
def SeatFreeWrongFalsely : Prop := seatFreeRow.holds Try.pinned (OpenSpec.ofChange seatFreeWrong)

/- THE SECOND FORM. 'bulk': how many values and letters a reading holds, each counted each time it is reached (what is shared counts as often as it is met; a slice's spare places count too). A statement '..UptoSaid' is the law's where the arguments, and the package variables that the reading takes, are together of bulk at most 1048576: NARROWER than '..Said'. Prove '..Said' where nothing that the law and all that it calls make is longer than what came in: it says more and counts as full. Else prove '..UptoSaid'. A law counts once. -/
mutual
def uptoBulk {H : Type} : DataW H → Nat
  | .lit (.string bytes) => bytes.length + 1
  | .lit _ => 1
  | .nil => 1
  | .ptr d => uptoBulk d + 1
  | .slice elems spare => uptoBulkAll elems + uptoBulkAll spare + 1
  | .agg parts => uptoBulkAll parts + 1
  | .iface _ d => uptoBulk d + 1
  | .map entries => uptoBulkEntries entries + 1
  | .held _ => 1
def uptoBulkAll {H : Type} : List (DataW H) → Nat
  | [] => 0
  | d :: r => uptoBulk d + uptoBulkAll r
def uptoBulkEntries {H : Type} : List (Lit × DataW H) → Nat
  | [] => 0
  | x :: r => uptoBulkEntry x + uptoBulkEntries r
def uptoBulkEntry {H : Type} : Lit × DataW H → Nat
  | (.string bytes, d) => bytes.length + uptoBulk d + 1
  | (_, d) => uptoBulk d + 1
 end
def uptoSmall : (H : Type) → List (DataW H) → Bool := fun _ ds => decide (uptoBulkAll ds ≤ 1048576)
def OpenSpec.upto (s : _root_.Go.ChangeSpec) : _root_.Go.OpenSpec := { _root_.Go.OpenSpec.ofChange s with cond := some uptoSmall }

/-- 'beadlelaw16.SeatKeeps', WHERE WHAT IT READS IS OF BULK AT MOST 1048576: true; the input reads as it did. -/
def seatKeepsUptoRow : OpenClaim := { program := "ytdolfdijcbfegaa", sum := "5274367d6fbe3991a504a3a5c876dc16b30535f48d4631d22b4e1179bce9fe24", func := "beadle/beadlelaw16.SeatKeeps", spec := "seatKeeps", apart := false, narrowed := true }
def SeatKeepsUptoSaid : Prop := seatKeepsUptoRow.holds Try.pinned (OpenSpec.upto seatKeepsSpec)

/-- 'beadlelaw16.SeatSwaps', WHERE WHAT IT READS IS OF BULK AT MOST 1048576: true; the input reads as it did. -/
def seatSwapsUptoRow : OpenClaim := { program := "ytdolfdijcbfegaa", sum := "5274367d6fbe3991a504a3a5c876dc16b30535f48d4631d22b4e1179bce9fe24", func := "beadle/beadlelaw16.SeatSwaps", spec := "seatSwaps", apart := false, narrowed := true }
def SeatSwapsUptoSaid : Prop := seatSwapsUptoRow.holds Try.pinned (OpenSpec.upto seatSwapsSpec)

/-- 'beadlelaw16.SeatKnown', WHERE WHAT IT READS IS OF BULK AT MOST 1048576: true; the input reads as it did. -/
def seatKnownUptoRow : OpenClaim := { program := "ytdolfdijcbfegaa", sum := "5274367d6fbe3991a504a3a5c876dc16b30535f48d4631d22b4e1179bce9fe24", func := "beadle/beadlelaw16.SeatKnown", spec := "seatKnown", apart := false, narrowed := true }
def SeatKnownUptoSaid : Prop := seatKnownUptoRow.holds Try.pinned (OpenSpec.upto seatKnownSpec)

/-- 'beadlelaw16.SeatFree', WHERE WHAT IT READS IS OF BULK AT MOST 1048576: true; the input reads as it did. -/
def seatFreeUptoRow : OpenClaim := { program := "ytdolfdijcbfegaa", sum := "5274367d6fbe3991a504a3a5c876dc16b30535f48d4631d22b4e1179bce9fe24", func := "beadle/beadlelaw16.SeatFree", spec := "seatFree", apart := false, narrowed := true }
def SeatFreeUptoSaid : Prop := seatFreeUptoRow.holds Try.pinned (OpenSpec.upto seatFreeSpec)

end Rows
end Go.Proofs.Ytdolfdijcbfegaa
