/-
  No cell of these rows narrows 'for every input' (looked for: loops, veiled, ifaces, maps, wideKeys, modest, calm, conditions, laid).
  DERIVED. THE GIVEN ROWS OF THIS SEAT. 3 by the template 'for every input the law returns true; each argument reads behind the call as it read before'; 0 by the template 'total and deterministic' (their statements: YteihnocbeaaokaaTotals.lean).
  GIVEN WITH THE SEED: the statements are not yours to turn. If you find one false, say at which input.
  Laid BY PROGRAM, IN A SANDBOX (cutbox-rows.mjs): the forced cells as the released guide's own fill.sh prints them over the translation 7a7286a2ac0f2fe0… (all of the seat's roots in one cut). By AI agents, Wed Nov 11 2026. No macro, syntax, notation, axiom, sorry.
-/
import Derived.Test.YteihnocbeaaokaaChecked
import GoSem.Claim
import GoSem.ClaimJoined
import GoSem.ClaimMapViews
import Derived.JoinedTies
import Derived.KernelRfl
namespace Go.Proofs.Yteihnocbeaaokaa
/- THE CELL 'sum', in the pinned program and in every row, IS THE sha256 OF THE DUMP (.gsa) THAT YteihnocbeaaokaaProg.lean LOADS. Nothing in Lean hashes anything: it is a label: what it is worth is what the hold of that sum in a sandbox is worth. -/
noncomputable def Try.pinned : Pinned := { name := "yteihnocbeaaokaa", sum := "7a7286a2ac0f2fe00335e4737a9748a4749fcf7e8311e743700663a69edcd5ff", checked := Try.checked }
namespace Rows
def none {H : Type} : Left H := { results := [], args := [] }

/-- 'beadlelaw9.PokeAll': WHATEVER THE INPUT: true; the input reads as it did. -/
def pokeAllSpec : ChangeSpec := { name := "pokeAll", fn := fun _ => fun
  | [d1, d2, d3, d4] => { results := [.lit (.bool true)], args := [d1, d2, d3, d4] }
  | _ => none }
def pokeAllRow : OpenClaim := { program := "yteihnocbeaaokaa", sum := "7a7286a2ac0f2fe00335e4737a9748a4749fcf7e8311e743700663a69edcd5ff", func := "beadle/beadlelaw9.PokeAll", spec := "pokeAll", apart := false }
def PokeAllSaid : Prop := pokeAllRow.holds Try.pinned (OpenSpec.ofChange pokeAllSpec)

/-- ITS FALSE NEIGHBOUR: 'it returns false'. Refute it at one input. -/
def pokeAllWrong : ChangeSpec := { name := "pokeAll", fn := fun _ => fun
  | [d1, d2, d3, d4] => { results := [.lit (.bool false)], args := [d1, d2, d3, d4] }
  | _ => none }
def PokeAllWrongFalsely : Prop := pokeAllRow.holds Try.pinned (OpenSpec.ofChange pokeAllWrong)

/-- 'beadlelaw9.PokeKnown': WHATEVER THE INPUT: true; the input reads as it did. -/
def pokeKnownSpec : ChangeSpec := { name := "pokeKnown", fn := fun _ => fun
  | [] => { results := [.lit (.bool true)], args := [] }
  | _ => none }
def pokeKnownRow : OpenClaim := { program := "yteihnocbeaaokaa", sum := "7a7286a2ac0f2fe00335e4737a9748a4749fcf7e8311e743700663a69edcd5ff", func := "beadle/beadlelaw9.PokeKnown", spec := "pokeKnown", apart := false }
def PokeKnownSaid : Prop := pokeKnownRow.holds Try.pinned (OpenSpec.ofChange pokeKnownSpec)

/-- ITS FALSE NEIGHBOUR: 'it returns false'. Refute it at one input. -/
def pokeKnownWrong : ChangeSpec := { name := "pokeKnown", fn := fun _ => fun
  | [] => { results := [.lit (.bool false)], args := [] }
  | _ => none }
def PokeKnownWrongFalsely : Prop := pokeKnownRow.holds Try.pinned (OpenSpec.ofChange pokeKnownWrong)

/-- 'beadlelaw9.PokePlays': WHATEVER THE INPUT: true; the input reads as it did. -/
def pokePlaysSpec : ChangeSpec := { name := "pokePlays", fn := fun _ => fun
  | [d1, d2] => { results := [.lit (.bool true)], args := [d1, d2] }
  | _ => none }
def pokePlaysRow : OpenClaim := { program := "yteihnocbeaaokaa", sum := "7a7286a2ac0f2fe00335e4737a9748a4749fcf7e8311e743700663a69edcd5ff", func := "beadle/beadlelaw9.PokePlays", spec := "pokePlays", apart := false }
def PokePlaysSaid : Prop := pokePlaysRow.holds Try.pinned (OpenSpec.ofChange pokePlaysSpec)

/-- ITS FALSE NEIGHBOUR: 'it returns false'. Refute it at one input. -/
def pokePlaysWrong : ChangeSpec := { name := "pokePlays", fn := fun _ => fun
  | [d1, d2] => { results := [.lit (.bool false)], args := [d1, d2] }
  | _ => none }
def PokePlaysWrongFalsely : Prop := pokePlaysRow.holds Try.pinned (OpenSpec.ofChange pokePlaysWrong)

/- THE SECOND FORM. 'bulk': how many values and letters a reading holds, each counted each time it is reached (what is shared counts as often as it is met; a slice's spare places count too). A statement '..UptoSaid' is the law's where the arguments, and the package variables that the reading takes, are together of bulk at most 1048576: NARROWER than '..Said'. Prove '..Said' where nothing that the law and all that it calls make is longer than what came in: it says more and counts as full. Else prove '..UptoSaid'. A law counts once. -/
mutual
def uptoBulk {H : Type} : DataW H → Nat
  | .lit (.string bytes) => bytes.length + 1
  | .lit _ => 1
  | .nil => 1
  | .ptr d => uptoBulk d + 1
  | .slice elems spare => uptoBulkAll elems + uptoBulkAll spare + 1
  | .agg parts => uptoBulkAll parts + 1
  | .iface _ d => uptoBulk d + 1
  | .map entries => uptoBulkEntries entries + 1
  | .held _ => 1
def uptoBulkAll {H : Type} : List (DataW H) → Nat
  | [] => 0
  | d :: r => uptoBulk d + uptoBulkAll r
def uptoBulkEntries {H : Type} : List (Lit × DataW H) → Nat
  | [] => 0
  | x :: r => uptoBulkEntry x + uptoBulkEntries r
def uptoBulkEntry {H : Type} : Lit × DataW H → Nat
  | (.string bytes, d) => bytes.length + uptoBulk d + 1
  | (_, d) => uptoBulk d + 1
 end
def uptoSmall : (H : Type) → List (DataW H) → Bool := fun _ ds => decide (uptoBulkAll ds ≤ 1048576)
def OpenSpec.upto (s : _root_.Go.ChangeSpec) : _root_.Go.OpenSpec := { _root_.Go.OpenSpec.ofChange s with cond := some uptoSmall }

/-- 'beadlelaw9.PokeAll', WHERE WHAT IT READS IS OF BULK AT MOST 1048576: true; the input reads as it did. -/
def pokeAllUptoRow : OpenClaim := { program := "yteihnocbeaaokaa", sum := "7a7286a2ac0f2fe00335e4737a9748a4749fcf7e8311e743700663a69edcd5ff", func := "beadle/beadlelaw9.PokeAll", spec := "pokeAll", apart := false, narrowed := true }
def PokeAllUptoSaid : Prop := pokeAllUptoRow.holds Try.pinned (OpenSpec.upto pokeAllSpec)

/-- 'beadlelaw9.PokeKnown', WHERE WHAT IT READS IS OF BULK AT MOST 1048576: true; the input reads as it did. -/
def pokeKnownUptoRow : OpenClaim := { program := "yteihnocbeaaokaa", sum := "7a7286a2ac0f2fe00335e4737a9748a4749fcf7e8311e743700663a69edcd5ff", func := "beadle/beadlelaw9.PokeKnown", spec := "pokeKnown", apart := false, narrowed := true }
def PokeKnownUptoSaid : Prop := pokeKnownUptoRow.holds Try.pinned (OpenSpec.upto pokeKnownSpec)

/-- 'beadlelaw9.PokePlays', WHERE WHAT IT READS IS OF BULK AT MOST 1048576: true; the input reads as it did. -/
def pokePlaysUptoRow : OpenClaim := { program := "yteihnocbeaaokaa", sum := "7a7286a2ac0f2fe00335e4737a9748a4749fcf7e8311e743700663a69edcd5ff", func := "beadle/beadlelaw9.PokePlays", spec := "pokePlays", apart := false, narrowed := true }
def PokePlaysUptoSaid : Prop := pokePlaysUptoRow.holds Try.pinned (OpenSpec.upto pokePlaysSpec)

end Rows
end Go.Proofs.Yteihnocbeaaokaa
