/-
  No cell of these rows narrows 'for every input' (looked for: loops, veiled, ifaces, maps, wideKeys, modest, calm, conditions, laid).
  DERIVED. THE GIVEN ROWS OF THIS SEAT. 4 by the template 'for every input the law returns true; each argument reads behind the call as it read before'; 0 by the template 'total and deterministic' (their statements: YtmjmfkbdnhdafaaTotals.lean).
  GIVEN WITH THE SEED: the statements are not yours to turn. If you find one false, say at which input.
  Laid BY PROGRAM, IN A SANDBOX (cutbox-rows.mjs): the forced cells as the released guide's own fill.sh prints them over the translation 8e5bf1e623bdff12… (all of the seat's roots in one cut). By AI agents, Wed Nov 11 2026. No macro, syntax, notation, axiom, sorry.
-/
import Derived.Test.YtmjmfkbdnhdafaaChecked
import GoSem.Claim
import GoSem.ClaimJoined
import GoSem.ClaimMapViews
import Derived.JoinedTies
import Derived.KernelRfl
namespace Go.Proofs.Ytmjmfkbdnhdafaa
/- THE CELL 'sum', in the pinned program and in every row, IS THE sha256 OF THE DUMP (.gsa) THAT YtmjmfkbdnhdafaaProg.lean LOADS. Nothing in Lean hashes anything: it is a label: what it is worth is what the hold of that sum in a sandbox is worth. -/
noncomputable def Try.pinned : Pinned := { name := "ytmjmfkbdnhdafaa", sum := "8e5bf1e623bdff12fd55ee7495e25cb088a769bed08a531d205f3ffd793bcf46", checked := Try.checked }
namespace Rows
def none {H : Type} : Left H := { results := [], args := [] }

/-- 'beadlelaw17.RobinFair': WHATEVER THE INPUT: true; the input reads as it did. -/
def robinFairSpec : ChangeSpec := { name := "robinFair", fn := fun _ => fun
  | [d1, d2, d3] => { results := [.lit (.bool true)], args := [d1, d2, d3] }
  | _ => none }
def robinFairRow : OpenClaim := { program := "ytmjmfkbdnhdafaa", sum := "8e5bf1e623bdff12fd55ee7495e25cb088a769bed08a531d205f3ffd793bcf46", func := "beadle/beadlelaw17.RobinFair", spec := "robinFair", apart := false }
def RobinFairSaid : Prop := robinFairRow.holds Try.pinned (OpenSpec.ofChange robinFairSpec)

/-- ITS FALSE NEIGHBOUR: 'it returns false'. Refute it at one input. -/
def robinFairWrong : ChangeSpec := { name := "robinFair", fn := fun _ => fun
  | [d1, d2, d3] => { results := [.lit (.bool false)], args := [d1, d2, d3] }
  | _ => none }
def RobinFairWrongFalsely : Prop := robinFairRow.holds Try.pinned (OpenSpec.ofChange robinFairWrong)

/-- 'beadlelaw17.RobinMany': WHATEVER THE INPUT: true; the input reads as it did. -/
def robinManySpec : ChangeSpec := { name := "robinMany", fn := fun _ => fun
  | [d1, d2, d3, d4] => { results := [.lit (.bool true)], args := [d1, d2, d3, d4] }
  | _ => none }
def robinManyRow : OpenClaim := { program := "ytmjmfkbdnhdafaa", sum := "8e5bf1e623bdff12fd55ee7495e25cb088a769bed08a531d205f3ffd793bcf46", func := "beadle/beadlelaw17.RobinMany", spec := "robinMany", apart := false }
def RobinManySaid : Prop := robinManyRow.holds Try.pinned (OpenSpec.ofChange robinManySpec)

/-- ITS FALSE NEIGHBOUR: 'it returns false'. Refute it at one input. -/
def robinManyWrong : ChangeSpec := { name := "robinMany", fn := fun _ => fun
  | [d1, d2, d3, d4] => { results := [.lit (.bool false)], args := [d1, d2, d3, d4] }
  | _ => none }
def RobinManyWrongFalsely : Prop := robinManyRow.holds Try.pinned (OpenSpec.ofChange robinManyWrong)

/-- 'beadlelaw17.RobinKnown': WHATEVER THE INPUT: true; the input reads as it did. -/
def robinKnownSpec : ChangeSpec := { name := "robinKnown", fn := fun _ => fun
  | [] => { results := [.lit (.bool true)], args := [] }
  | _ => none }
def robinKnownRow : OpenClaim := { program := "ytmjmfkbdnhdafaa", sum := "8e5bf1e623bdff12fd55ee7495e25cb088a769bed08a531d205f3ffd793bcf46", func := "beadle/beadlelaw17.RobinKnown", spec := "robinKnown", apart := false }
def RobinKnownSaid : Prop := robinKnownRow.holds Try.pinned (OpenSpec.ofChange robinKnownSpec)

/-- ITS FALSE NEIGHBOUR: 'it returns false'. Refute it at one input. -/
def robinKnownWrong : ChangeSpec := { name := "robinKnown", fn := fun _ => fun
  | [] => { results := [.lit (.bool false)], args := [] }
  | _ => none }
def RobinKnownWrongFalsely : Prop := robinKnownRow.holds Try.pinned (OpenSpec.ofChange robinKnownWrong)

/-- 'beadlelaw17.RobinPlays': WHATEVER THE INPUT: true; the input reads as it did. -/
def robinPlaysSpec : ChangeSpec := { name := "robinPlays", fn := fun _ => fun
  | [d1, d2] => { results := [.lit (.bool true)], args := [d1, d2] }
  | _ => none }
def robinPlaysRow : OpenClaim := { program := "ytmjmfkbdnhdafaa", sum := "8e5bf1e623bdff12fd55ee7495e25cb088a769bed08a531d205f3ffd793bcf46", func := "beadle/beadlelaw17.RobinPlays", spec := "robinPlays", apart := false }
def RobinPlaysSaid : Prop := robinPlaysRow.holds Try.pinned (OpenSpec.ofChange robinPlaysSpec)

/-- ITS FALSE NEIGHBOUR: 'it returns false'. Refute it at one input. -/
def robinPlaysWrong : ChangeSpec := { name := "robinPlays", fn := fun _ => fun
  | [d1, d2] => { results := [.lit (.bool false)], args := [d1, d2] }
  | _ => none }
def RobinPlaysWrongFalsely : Prop := robinPlaysRow.holds Try.pinned (OpenSpec.ofChange robinPlaysWrong)

/- THE SECOND FORM. 'bulk': how many values and letters a reading holds, each counted each time it is reached (what is shared counts as often as it is met; a slice's spare places count too). A statement '..UptoSaid' is the law's where the arguments, and the package variables that the reading takes, are together of bulk at most 1048576: NARROWER than '..Said'. Prove '..Said' where nothing that the law and all that it calls make is longer than what came in: it says more and counts as full. Else prove '..UptoSaid'. A law counts once. -/
mutual
def uptoBulk {H : Type} : DataW H → Nat
  | .lit (.string bytes) => bytes.length + 1
  | .lit _ => 1
  | .nil => 1
  | .ptr d => uptoBulk d + 1
  | .slice elems spare => uptoBulkAll elems + uptoBulkAll spare + 1
  | .agg parts => uptoBulkAll parts + 1
  | .iface _ d => uptoBulk d + 1
  | .map entries => uptoBulkEntries entries + 1
  | .held _ => 1
def uptoBulkAll {H : Type} : List (DataW H) → Nat
  | [] => 0
  | d :: r => uptoBulk d + uptoBulkAll r
def uptoBulkEntries {H : Type} : List (Lit × DataW H) → Nat
  | [] => 0
  | x :: r => uptoBulkEntry x + uptoBulkEntries r
def uptoBulkEntry {H : Type} : Lit × DataW H → Nat
  | (.string bytes, d) => bytes.length + uptoBulk d + 1
  | (_, d) => uptoBulk d + 1
 end
def uptoSmall : (H : Type) → List (DataW H) → Bool := fun _ ds => decide (uptoBulkAll ds ≤ 1048576)
def OpenSpec.upto (s : _root_.Go.ChangeSpec) : _root_.Go.OpenSpec := { _root_.Go.OpenSpec.ofChange s with cond := some uptoSmall }

/-- 'beadlelaw17.RobinFair', WHERE WHAT IT READS IS OF BULK AT MOST 1048576: true; the input reads as it did. -/
def robinFairUptoRow : OpenClaim := { program := "ytmjmfkbdnhdafaa", sum := "8e5bf1e623bdff12fd55ee7495e25cb088a769bed08a531d205f3ffd793bcf46", func := "beadle/beadlelaw17.RobinFair", spec := "robinFair", apart := false, narrowed := true }
def RobinFairUptoSaid : Prop := robinFairUptoRow.holds Try.pinned (OpenSpec.upto robinFairSpec)

/-- 'beadlelaw17.RobinMany', WHERE WHAT IT READS IS OF BULK AT MOST 1048576: true; the input reads as it did. -/
def robinManyUptoRow : OpenClaim := { program := "ytmjmfkbdnhdafaa", sum := "8e5bf1e623bdff12fd55ee7495e25cb088a769bed08a531d205f3ffd793bcf46", func := "beadle/beadlelaw17.RobinMany", spec := "robinMany", apart := false, narrowed := true }
def RobinManyUptoSaid : Prop := robinManyUptoRow.holds Try.pinned (OpenSpec.upto robinManySpec)

/-- 'beadlelaw17.RobinKnown', WHERE WHAT IT READS IS OF BULK AT MOST 1048576: true; the input reads as it did. -/
def robinKnownUptoRow : OpenClaim := { program := "ytmjmfkbdnhdafaa", sum := "8e5bf1e623bdff12fd55ee7495e25cb088a769bed08a531d205f3ffd793bcf46", func := "beadle/beadlelaw17.RobinKnown", spec := "robinKnown", apart := false, narrowed := true }
def RobinKnownUptoSaid : Prop := robinKnownUptoRow.holds Try.pinned (OpenSpec.upto robinKnownSpec)

/-- 'beadlelaw17.RobinPlays', WHERE WHAT IT READS IS OF BULK AT MOST 1048576: true; the input reads as it did. -/
def robinPlaysUptoRow : OpenClaim := { program := "ytmjmfkbdnhdafaa", sum := "8e5bf1e623bdff12fd55ee7495e25cb088a769bed08a531d205f3ffd793bcf46", func := "beadle/beadlelaw17.RobinPlays", spec := "robinPlays", apart := false, narrowed := true }
def RobinPlaysUptoSaid : Prop := robinPlaysUptoRow.holds Try.pinned (OpenSpec.upto robinPlaysSpec)

end Rows
end Go.Proofs.Ytmjmfkbdnhdafaa
