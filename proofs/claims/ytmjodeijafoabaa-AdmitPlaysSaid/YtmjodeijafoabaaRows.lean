/-
  No cell of these rows narrows 'for every input' (looked for: loops, veiled, ifaces, maps, wideKeys, modest, calm, conditions, laid).
  DERIVED. THE GIVEN ROWS OF THIS SEAT. 4 by the template 'for every input the law returns true; each argument reads behind the call as it read before'; 0 by the template 'total and deterministic' (their statements: YtmjodeijafoabaaTotals.lean).
  GIVEN WITH THE SEED: the statements are not yours to turn. If you find one false, say at which input.
  Laid BY PROGRAM, IN A SANDBOX (cutbox-rows.mjs): the forced cells as the released guide's own fill.sh prints them over the translation fb9b461af854bd6b… (all of the seat's roots in one cut). By AI agents, Wed Nov 11 2026. No macro, syntax, notation, axiom, sorry.
-/
import Derived.Test.YtmjodeijafoabaaChecked
import GoSem.Claim
import GoSem.ClaimJoined
import GoSem.ClaimMapViews
import Derived.JoinedTies
import Derived.KernelRfl
namespace Go.Proofs.Ytmjodeijafoabaa
/- THE CELL 'sum', in the pinned program and in every row, IS THE sha256 OF THE DUMP (.gsa) THAT YtmjodeijafoabaaProg.lean LOADS. Nothing in Lean hashes anything: it is a label: what it is worth is what the hold of that sum in a sandbox is worth. -/
noncomputable def Try.pinned : Pinned := { name := "ytmjodeijafoabaa", sum := "fb9b461af854bd6b81163ee6244abb02060d235c43ce82a2728cd9eeb52c1cf3", checked := Try.checked }
namespace Rows
def none {H : Type} : Left H := { results := [], args := [] }

/-- 'beadlelaw14.AdmitAsks': WHATEVER THE INPUT: true; the input reads as it did. -/
def admitAsksSpec : ChangeSpec := { name := "admitAsks", fn := fun _ => fun
  | [d1, d2, d3, d4] => { results := [.lit (.bool true)], args := [d1, d2, d3, d4] }
  | _ => none }
def admitAsksRow : OpenClaim := { program := "ytmjodeijafoabaa", sum := "fb9b461af854bd6b81163ee6244abb02060d235c43ce82a2728cd9eeb52c1cf3", func := "beadle/beadlelaw14.AdmitAsks", spec := "admitAsks", unfollowed := true, recurses := true, apart := false }
def AdmitAsksSaid : Prop := admitAsksRow.holds Try.pinned (OpenSpec.ofChange admitAsksSpec)

/-- ITS FALSE NEIGHBOUR: 'it returns false'. Refute it at one input. -/
def admitAsksWrong : ChangeSpec := { name := "admitAsks", fn := fun _ => fun
  | [d1, d2, d3, d4] => { results := [.lit (.bool false)], args := [d1, d2, d3, d4] }
  | _ => none }
def AdmitAsksWrongFalsely : Prop := admitAsksRow.holds Try.pinned (OpenSpec.ofChange admitAsksWrong)

/-- 'beadlelaw14.AdmitKnown': WHATEVER THE INPUT: true; the input reads as it did. -/
def admitKnownSpec : ChangeSpec := { name := "admitKnown", fn := fun _ => fun
  | [] => { results := [.lit (.bool true)], args := [] }
  | _ => none }
def admitKnownRow : OpenClaim := { program := "ytmjodeijafoabaa", sum := "fb9b461af854bd6b81163ee6244abb02060d235c43ce82a2728cd9eeb52c1cf3", func := "beadle/beadlelaw14.AdmitKnown", spec := "admitKnown", unfollowed := true, recurses := true, apart := false }
def AdmitKnownSaid : Prop := admitKnownRow.holds Try.pinned (OpenSpec.ofChange admitKnownSpec)

/-- ITS FALSE NEIGHBOUR: 'it returns false'. Refute it at one input. -/
def admitKnownWrong : ChangeSpec := { name := "admitKnown", fn := fun _ => fun
  | [] => { results := [.lit (.bool false)], args := [] }
  | _ => none }
def AdmitKnownWrongFalsely : Prop := admitKnownRow.holds Try.pinned (OpenSpec.ofChange admitKnownWrong)

/-- 'beadlelaw14.AdmitPlays': WHATEVER THE INPUT: true; the input reads as it did. -/
def admitPlaysSpec : ChangeSpec := { name := "admitPlays", fn := fun _ => fun
  | [d1, d2] => { results := [.lit (.bool true)], args := [d1, d2] }
  | _ => none }
def admitPlaysRow : OpenClaim := { program := "ytmjodeijafoabaa", sum := "fb9b461af854bd6b81163ee6244abb02060d235c43ce82a2728cd9eeb52c1cf3", func := "beadle/beadlelaw14.AdmitPlays", spec := "admitPlays", unfollowed := true, recurses := true, apart := false }
def AdmitPlaysSaid : Prop := admitPlaysRow.holds Try.pinned (OpenSpec.ofChange admitPlaysSpec)

/-- ITS FALSE NEIGHBOUR: 'it returns false'. Refute it at one input. -/
def admitPlaysWrong : ChangeSpec := { name := "admitPlays", fn := fun _ => fun
  | [d1, d2] => { results := [.lit (.bool false)], args := [d1, d2] }
  | _ => none }
def AdmitPlaysWrongFalsely : Prop := admitPlaysRow.holds Try.pinned (OpenSpec.ofChange admitPlaysWrong)

/-- 'beadlelaw14.AdmitFits': WHATEVER THE INPUT: true; the input reads as it did. -/
def admitFitsSpec : ChangeSpec := { name := "admitFits", fn := fun _ => fun
  | [d1, d2] => { results := [.lit (.bool true)], args := [d1, d2] }
  | _ => none }
def admitFitsRow : OpenClaim := { program := "ytmjodeijafoabaa", sum := "fb9b461af854bd6b81163ee6244abb02060d235c43ce82a2728cd9eeb52c1cf3", func := "beadle/beadlelaw14.AdmitFits", spec := "admitFits", unfollowed := true, recurses := true, apart := false }
def AdmitFitsSaid : Prop := admitFitsRow.holds Try.pinned (OpenSpec.ofChange admitFitsSpec)

/-- ITS FALSE NEIGHBOUR: 'it returns false'. Refute it at one input. -/
def admitFitsWrong : ChangeSpec := { name := "admitFits", fn := fun _ => fun
  | [d1, d2] => { results := [.lit (.bool false)], args := [d1, d2] }
  | _ => none }
def AdmitFitsWrongFalsely : Prop := admitFitsRow.holds Try.pinned (OpenSpec.ofChange admitFitsWrong)

/- THE SECOND FORM. 'bulk': how many values and letters a reading holds, each counted each time it is reached (what is shared counts as often as it is met; a slice's spare places count too). A statement '..UptoSaid' is the law's where the arguments, and the package variables that the reading takes, are together of bulk at most 1048576: NARROWER than '..Said'. Prove '..Said' where nothing that the law and all that it calls make is longer than what came in: it says more and counts as full. Else prove '..UptoSaid'. A law counts once. -/
mutual
def uptoBulk {H : Type} : DataW H → Nat
  | .lit (.string bytes) => bytes.length + 1
  | .lit _ => 1
  | .nil => 1
  | .ptr d => uptoBulk d + 1
  | .slice elems spare => uptoBulkAll elems + uptoBulkAll spare + 1
  | .agg parts => uptoBulkAll parts + 1
  | .iface _ d => uptoBulk d + 1
  | .map entries => uptoBulkEntries entries + 1
  | .held _ => 1
def uptoBulkAll {H : Type} : List (DataW H) → Nat
  | [] => 0
  | d :: r => uptoBulk d + uptoBulkAll r
def uptoBulkEntries {H : Type} : List (Lit × DataW H) → Nat
  | [] => 0
  | x :: r => uptoBulkEntry x + uptoBulkEntries r
def uptoBulkEntry {H : Type} : Lit × DataW H → Nat
  | (.string bytes, d) => bytes.length + uptoBulk d + 1
  | (_, d) => uptoBulk d + 1
 end
def uptoSmall : (H : Type) → List (DataW H) → Bool := fun _ ds => decide (uptoBulkAll ds ≤ 1048576)
def OpenSpec.upto (s : _root_.Go.ChangeSpec) : _root_.Go.OpenSpec := { _root_.Go.OpenSpec.ofChange s with cond := some uptoSmall }

/-- 'beadlelaw14.AdmitAsks', WHERE WHAT IT READS IS OF BULK AT MOST 1048576: true; the input reads as it did. -/
def admitAsksUptoRow : OpenClaim := { program := "ytmjodeijafoabaa", sum := "fb9b461af854bd6b81163ee6244abb02060d235c43ce82a2728cd9eeb52c1cf3", func := "beadle/beadlelaw14.AdmitAsks", spec := "admitAsks", unfollowed := true, recurses := true, apart := false, narrowed := true }
def AdmitAsksUptoSaid : Prop := admitAsksUptoRow.holds Try.pinned (OpenSpec.upto admitAsksSpec)

/-- 'beadlelaw14.AdmitKnown', WHERE WHAT IT READS IS OF BULK AT MOST 1048576: true; the input reads as it did. -/
def admitKnownUptoRow : OpenClaim := { program := "ytmjodeijafoabaa", sum := "fb9b461af854bd6b81163ee6244abb02060d235c43ce82a2728cd9eeb52c1cf3", func := "beadle/beadlelaw14.AdmitKnown", spec := "admitKnown", unfollowed := true, recurses := true, apart := false, narrowed := true }
def AdmitKnownUptoSaid : Prop := admitKnownUptoRow.holds Try.pinned (OpenSpec.upto admitKnownSpec)

/-- 'beadlelaw14.AdmitPlays', WHERE WHAT IT READS IS OF BULK AT MOST 1048576: true; the input reads as it did. -/
def admitPlaysUptoRow : OpenClaim := { program := "ytmjodeijafoabaa", sum := "fb9b461af854bd6b81163ee6244abb02060d235c43ce82a2728cd9eeb52c1cf3", func := "beadle/beadlelaw14.AdmitPlays", spec := "admitPlays", unfollowed := true, recurses := true, apart := false, narrowed := true }
def AdmitPlaysUptoSaid : Prop := admitPlaysUptoRow.holds Try.pinned (OpenSpec.upto admitPlaysSpec)

/-- 'beadlelaw14.AdmitFits', WHERE WHAT IT READS IS OF BULK AT MOST 1048576: true; the input reads as it did. -/
def admitFitsUptoRow : OpenClaim := { program := "ytmjodeijafoabaa", sum := "fb9b461af854bd6b81163ee6244abb02060d235c43ce82a2728cd9eeb52c1cf3", func := "beadle/beadlelaw14.AdmitFits", spec := "admitFits", unfollowed := true, recurses := true, apart := false, narrowed := true }
def AdmitFitsUptoSaid : Prop := admitFitsUptoRow.holds Try.pinned (OpenSpec.upto admitFitsSpec)

end Rows
end Go.Proofs.Ytmjodeijafoabaa
