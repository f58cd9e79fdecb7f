/-
  No cell of these rows narrows 'for every input' (looked for: loops, veiled, ifaces, maps, wideKeys, modest, calm, conditions, laid).
  DERIVED. THE GIVEN ROWS OF THIS SEAT. 3 by the template 'for every input the law returns true; each argument reads behind the call as it read before'; 0 by the template 'total and deterministic' (their statements: YtjeflmdfnfgacaaTotals.lean).
  GIVEN WITH THE SEED: the statements are not yours to turn. If you find one false, say at which input.
  Laid BY PROGRAM, IN A SANDBOX (cutbox-rows.mjs): the forced cells as the released guide's own fill.sh prints them over the translation b457a9f128f65307… (all of the seat's roots in one cut). By AI agents, Wed Nov 11 2026. No macro, syntax, notation, axiom, sorry.
-/
import Derived.Test.YtjeflmdfnfgacaaChecked
import GoSem.Claim
import GoSem.ClaimJoined
import GoSem.ClaimMapViews
import Derived.JoinedTies
import Derived.KernelRfl
namespace Go.Proofs.Ytjeflmdfnfgacaa
/- THE CELL 'sum', in the pinned program and in every row, IS THE sha256 OF THE DUMP (.gsa) THAT YtjeflmdfnfgacaaProg.lean LOADS. Nothing in Lean hashes anything: it is a label: what it is worth is what the hold of that sum in a sandbox is worth. -/
noncomputable def Try.pinned : Pinned := { name := "ytjeflmdfnfgacaa", sum := "b457a9f128f65307034ba7fad808e9e3301ef44e73cbffd457591d1605994262", checked := Try.checked }
namespace Rows
def none {H : Type} : Left H := { results := [], args := [] }

/-- 'beadlelaw23.RankKnown': WHATEVER THE INPUT: true; the input reads as it did. -/
def rankKnownSpec : ChangeSpec := { name := "rankKnown", fn := fun _ => fun
  | [] => { results := [.lit (.bool true)], args := [] }
  | _ => none }
def rankKnownRow : OpenClaim := { program := "ytjeflmdfnfgacaa", sum := "b457a9f128f65307034ba7fad808e9e3301ef44e73cbffd457591d1605994262", func := "beadle/beadlelaw23.RankKnown", spec := "rankKnown", apart := false }
def RankKnownSaid : Prop := rankKnownRow.holds Try.pinned (OpenSpec.ofChange rankKnownSpec)

/-- ITS FALSE NEIGHBOUR: 'it returns false'. Refute it at one input. -/
def rankKnownWrong : ChangeSpec := { name := "rankKnown", fn := fun _ => fun
  | [] => { results := [.lit (.bool false)], args := [] }
  | _ => none }
def RankKnownWrongFalsely : Prop := rankKnownRow.holds Try.pinned (OpenSpec.ofChange rankKnownWrong)

/-- 'beadlelaw23.RankPlays': WHATEVER THE INPUT: true; the input reads as it did. -/
def rankPlaysSpec : ChangeSpec := { name := "rankPlays", fn := fun _ => fun
  | [d1, d2] => { results := [.lit (.bool true)], args := [d1, d2] }
  | _ => none }
def rankPlaysRow : OpenClaim := { program := "ytjeflmdfnfgacaa", sum := "b457a9f128f65307034ba7fad808e9e3301ef44e73cbffd457591d1605994262", func := "beadle/beadlelaw23.RankPlays", spec := "rankPlays", apart := false }
def RankPlaysSaid : Prop := rankPlaysRow.holds Try.pinned (OpenSpec.ofChange rankPlaysSpec)

/-- ITS FALSE NEIGHBOUR: 'it returns false'. Refute it at one input. -/
def rankPlaysWrong : ChangeSpec := { name := "rankPlays", fn := fun _ => fun
  | [d1, d2] => { results := [.lit (.bool false)], args := [d1, d2] }
  | _ => none }
def RankPlaysWrongFalsely : Prop := rankPlaysRow.holds Try.pinned (OpenSpec.ofChange rankPlaysWrong)

/-- 'beadlelaw23.RankMoves': WHATEVER THE INPUT: true; the input reads as it did. -/
def rankMovesSpec : ChangeSpec := { name := "rankMoves", fn := fun _ => fun
  | [d1, d2, d3, d4] => { results := [.lit (.bool true)], args := [d1, d2, d3, d4] }
  | _ => none }
def rankMovesRow : OpenClaim := { program := "ytjeflmdfnfgacaa", sum := "b457a9f128f65307034ba7fad808e9e3301ef44e73cbffd457591d1605994262", func := "beadle/beadlelaw23.RankMoves", spec := "rankMoves", apart := false }
def RankMovesSaid : Prop := rankMovesRow.holds Try.pinned (OpenSpec.ofChange rankMovesSpec)

/-- ITS FALSE NEIGHBOUR: 'it returns false'. Refute it at one input. -/
def rankMovesWrong : ChangeSpec := { name := "rankMoves", fn := fun _ => fun
  | [d1, d2, d3, d4] => { results := [.lit (.bool false)], args := [d1, d2, d3, d4] }
  | _ => none }
def RankMovesWrongFalsely : Prop := rankMovesRow.holds Try.pinned (OpenSpec.ofChange rankMovesWrong)

/- THE SECOND FORM. 'bulk': how many values and letters a reading holds, each counted each time it is reached (what is shared counts as often as it is met; a slice's spare places count too). A statement '..UptoSaid' is the law's where the arguments, and the package variables that the reading takes, are together of bulk at most 1048576: NARROWER than '..Said'. Prove '..Said' where nothing that the law and all that it calls make is longer than what came in: it says more and counts as full. Else prove '..UptoSaid'. A law counts once. -/
mutual
def uptoBulk {H : Type} : DataW H → Nat
  | .lit (.string bytes) => bytes.length + 1
  | .lit _ => 1
  | .nil => 1
  | .ptr d => uptoBulk d + 1
  | .slice elems spare => uptoBulkAll elems + uptoBulkAll spare + 1
  | .agg parts => uptoBulkAll parts + 1
  | .iface _ d => uptoBulk d + 1
  | .map entries => uptoBulkEntries entries + 1
  | .held _ => 1
def uptoBulkAll {H : Type} : List (DataW H) → Nat
  | [] => 0
  | d :: r => uptoBulk d + uptoBulkAll r
def uptoBulkEntries {H : Type} : List (Lit × DataW H) → Nat
  | [] => 0
  | x :: r => uptoBulkEntry x + uptoBulkEntries r
def uptoBulkEntry {H : Type} : Lit × DataW H → Nat
  | (.string bytes, d) => bytes.length + uptoBulk d + 1
  | (_, d) => uptoBulk d + 1
 end
def uptoSmall : (H : Type) → List (DataW H) → Bool := fun _ ds => decide (uptoBulkAll ds ≤ 1048576)
def OpenSpec.upto (s : _root_.Go.ChangeSpec) : _root_.Go.OpenSpec := { _root_.Go.OpenSpec.ofChange s with cond := some uptoSmall }

/-- 'beadlelaw23.RankKnown', WHERE WHAT IT READS IS OF BULK AT MOST 1048576: true; the input reads as it did. -/
def rankKnownUptoRow : OpenClaim := { program := "ytjeflmdfnfgacaa", sum := "b457a9f128f65307034ba7fad808e9e3301ef44e73cbffd457591d1605994262", func := "beadle/beadlelaw23.RankKnown", spec := "rankKnown", apart := false, narrowed := true }
def RankKnownUptoSaid : Prop := rankKnownUptoRow.holds Try.pinned (OpenSpec.upto rankKnownSpec)

/-- 'beadlelaw23.RankPlays', WHERE WHAT IT READS IS OF BULK AT MOST 1048576: true; the input reads as it did. -/
def rankPlaysUptoRow : OpenClaim := { program := "ytjeflmdfnfgacaa", sum := "b457a9f128f65307034ba7fad808e9e3301ef44e73cbffd457591d1605994262", func := "beadle/beadlelaw23.RankPlays", spec := "rankPlays", apart := false, narrowed := true }
def RankPlaysUptoSaid : Prop := rankPlaysUptoRow.holds Try.pinned (OpenSpec.upto rankPlaysSpec)

/-- 'beadlelaw23.RankMoves', WHERE WHAT IT READS IS OF BULK AT MOST 1048576: true; the input reads as it did. -/
def rankMovesUptoRow : OpenClaim := { program := "ytjeflmdfnfgacaa", sum := "b457a9f128f65307034ba7fad808e9e3301ef44e73cbffd457591d1605994262", func := "beadle/beadlelaw23.RankMoves", spec := "rankMoves", apart := false, narrowed := true }
def RankMovesUptoSaid : Prop := rankMovesUptoRow.holds Try.pinned (OpenSpec.upto rankMovesSpec)

end Rows
end Go.Proofs.Ytjeflmdfnfgacaa
