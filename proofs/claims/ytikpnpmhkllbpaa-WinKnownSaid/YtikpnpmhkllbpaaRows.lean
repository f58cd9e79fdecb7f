/-
  No cell of these rows narrows 'for every input' (looked for: loops, veiled, ifaces, maps, wideKeys, modest, calm, conditions, laid).
  DERIVED. THE GIVEN ROWS OF THIS SEAT. 7 by the template 'for every input the law returns true; each argument reads behind the call as it read before'; 0 by the template 'total and deterministic' (their statements: YtikpnpmhkllbpaaTotals.lean).
  GIVEN WITH THE SEED: the statements are not yours to turn. If you find one false, say at which input.
  Laid BY PROGRAM, IN A SANDBOX (cutbox-rows.mjs): the forced cells as the released guide's own fill.sh prints them over the translation 48dbb2ee883aa9ff… (all of the seat's roots in one cut). By AI agents, Wed Nov 11 2026. No macro, syntax, notation, axiom, sorry.
-/
import Derived.Test.YtikpnpmhkllbpaaChecked
import GoSem.Claim
import GoSem.ClaimJoined
import GoSem.ClaimMapViews
import Derived.JoinedTies
import Derived.KernelRfl
namespace Go.Proofs.Ytikpnpmhkllbpaa
/- THE CELL 'sum', in the pinned program and in every row, IS THE sha256 OF THE DUMP (.gsa) THAT YtikpnpmhkllbpaaProg.lean LOADS. Nothing in Lean hashes anything: it is a label: what it is worth is what the hold of that sum in a sandbox is worth. -/
noncomputable def Try.pinned : Pinned := { name := "ytikpnpmhkllbpaa", sum := "48dbb2ee883aa9ffa88559da262b59783153802a39a047f3025fa7e9e9e42e64", checked := Try.checked }
namespace Rows
def none {H : Type} : Left H := { results := [], args := [] }

/-- 'beadlelaw13.WinSays': WHATEVER THE INPUT: true; the input reads as it did. -/
def winSaysSpec : ChangeSpec := { name := "winSays", fn := fun _ => fun
  | [d1, d2, d3, d4] => { results := [.lit (.bool true)], args := [d1, d2, d3, d4] }
  | _ => none }
def winSaysRow : OpenClaim := { program := "ytikpnpmhkllbpaa", sum := "48dbb2ee883aa9ffa88559da262b59783153802a39a047f3025fa7e9e9e42e64", func := "beadle/beadlelaw13.WinSays", spec := "winSays", unfollowed := true, recurses := true, apart := false }
def WinSaysSaid : Prop := winSaysRow.holds Try.pinned (OpenSpec.ofChange winSaysSpec)

/-- ITS FALSE NEIGHBOUR: 'it returns false'. Refute it at one input. -/
def winSaysWrong : ChangeSpec := { name := "winSays", fn := fun _ => fun
  | [d1, d2, d3, d4] => { results := [.lit (.bool false)], args := [d1, d2, d3, d4] }
  | _ => none }
def WinSaysWrongFalsely : Prop := winSaysRow.holds Try.pinned (OpenSpec.ofChange winSaysWrong)

/-- 'beadlelaw13.WinFew': WHATEVER THE INPUT: true; the input reads as it did. -/
def winFewSpec : ChangeSpec := { name := "winFew", fn := fun _ => fun
  | [d1, d2, d3] => { results := [.lit (.bool true)], args := [d1, d2, d3] }
  | _ => none }
def winFewRow : OpenClaim := { program := "ytikpnpmhkllbpaa", sum := "48dbb2ee883aa9ffa88559da262b59783153802a39a047f3025fa7e9e9e42e64", func := "beadle/beadlelaw13.WinFew", spec := "winFew", unfollowed := true, recurses := true, apart := false }
def WinFewSaid : Prop := winFewRow.holds Try.pinned (OpenSpec.ofChange winFewSpec)

/-- ITS FALSE NEIGHBOUR: 'it returns false'. Refute it at one input. -/
def winFewWrong : ChangeSpec := { name := "winFew", fn := fun _ => fun
  | [d1, d2, d3] => { results := [.lit (.bool false)], args := [d1, d2, d3] }
  | _ => none }
def WinFewWrongFalsely : Prop := winFewRow.holds Try.pinned (OpenSpec.ofChange winFewWrong)

/-- 'beadlelaw13.WinWork': WHATEVER THE INPUT: true; the input reads as it did. -/
def winWorkSpec : ChangeSpec := { name := "winWork", fn := fun _ => fun
  | [d1, d2] => { results := [.lit (.bool true)], args := [d1, d2] }
  | _ => none }
def winWorkRow : OpenClaim := { program := "ytikpnpmhkllbpaa", sum := "48dbb2ee883aa9ffa88559da262b59783153802a39a047f3025fa7e9e9e42e64", func := "beadle/beadlelaw13.WinWork", spec := "winWork", unfollowed := true, recurses := true, apart := false }
def WinWorkSaid : Prop := winWorkRow.holds Try.pinned (OpenSpec.ofChange winWorkSpec)

/-- ITS FALSE NEIGHBOUR: 'it returns false'. Refute it at one input. -/
def winWorkWrong : ChangeSpec := { name := "winWork", fn := fun _ => fun
  | [d1, d2] => { results := [.lit (.bool false)], args := [d1, d2] }
  | _ => none }
def WinWorkWrongFalsely : Prop := winWorkRow.holds Try.pinned (OpenSpec.ofChange winWorkWrong)

/-- 'beadlelaw13.WinOrder': WHATEVER THE INPUT: true; the input reads as it did. -/
def winOrderSpec : ChangeSpec := { name := "winOrder", fn := fun _ => fun
  | [d1, d2, d3, d4] => { results := [.lit (.bool true)], args := [d1, d2, d3, d4] }
  | _ => none }
def winOrderRow : OpenClaim := { program := "ytikpnpmhkllbpaa", sum := "48dbb2ee883aa9ffa88559da262b59783153802a39a047f3025fa7e9e9e42e64", func := "beadle/beadlelaw13.WinOrder", spec := "winOrder", unfollowed := true, recurses := true, apart := false }
def WinOrderSaid : Prop := winOrderRow.holds Try.pinned (OpenSpec.ofChange winOrderSpec)

/-- ITS FALSE NEIGHBOUR: 'it returns false'. Refute it at one input. -/
def winOrderWrong : ChangeSpec := { name := "winOrder", fn := fun _ => fun
  | [d1, d2, d3, d4] => { results := [.lit (.bool false)], args := [d1, d2, d3, d4] }
  | _ => none }
def WinOrderWrongFalsely : Prop := winOrderRow.holds Try.pinned (OpenSpec.ofChange winOrderWrong)

/-- 'beadlelaw13.WinKnown': WHATEVER THE INPUT: true; the input reads as it did. -/
def winKnownSpec : ChangeSpec := { name := "winKnown", fn := fun _ => fun
  | [] => { results := [.lit (.bool true)], args := [] }
  | _ => none }
def winKnownRow : OpenClaim := { program := "ytikpnpmhkllbpaa", sum := "48dbb2ee883aa9ffa88559da262b59783153802a39a047f3025fa7e9e9e42e64", func := "beadle/beadlelaw13.WinKnown", spec := "winKnown", unfollowed := true, recurses := true, apart := false }
def WinKnownSaid : Prop := winKnownRow.holds Try.pinned (OpenSpec.ofChange winKnownSpec)

/-- ITS FALSE NEIGHBOUR: 'it returns false'. Refute it at one input. -/
def winKnownWrong : ChangeSpec := { name := "winKnown", fn := fun _ => fun
  | [] => { results := [.lit (.bool false)], args := [] }
  | _ => none }
def WinKnownWrongFalsely : Prop := winKnownRow.holds Try.pinned (OpenSpec.ofChange winKnownWrong)

/-- 'beadlelaw13.WinUse': WHATEVER THE INPUT: true; the input reads as it did. -/
def winUseSpec : ChangeSpec := { name := "winUse", fn := fun _ => fun
  | [d] => { results := [.lit (.bool true)], args := [d] }
  | _ => none }
def winUseRow : OpenClaim := { program := "ytikpnpmhkllbpaa", sum := "48dbb2ee883aa9ffa88559da262b59783153802a39a047f3025fa7e9e9e42e64", func := "beadle/beadlelaw13.WinUse", spec := "winUse", unfollowed := true, recurses := true, apart := false }
def WinUseSaid : Prop := winUseRow.holds Try.pinned (OpenSpec.ofChange winUseSpec)

/-- ITS FALSE NEIGHBOUR: 'it returns false'. Refute it at one input. -/
def winUseWrong : ChangeSpec := { name := "winUse", fn := fun _ => fun
  | [d] => { results := [.lit (.bool false)], args := [d] }
  | _ => none }
def WinUseWrongFalsely : Prop := winUseRow.holds Try.pinned (OpenSpec.ofChange winUseWrong)

/-- 'beadlelaw13.WinFull': WHATEVER THE INPUT: true; the input reads as it did. -/
def winFullSpec : ChangeSpec := { name := "winFull", fn := fun _ => fun
  | [d1, d2, d3] => { results := [.lit (.bool true)], args := [d1, d2, d3] }
  | _ => none }
def winFullRow : OpenClaim := { program := "ytikpnpmhkllbpaa", sum := "48dbb2ee883aa9ffa88559da262b59783153802a39a047f3025fa7e9e9e42e64", func := "beadle/beadlelaw13.WinFull", spec := "winFull", unfollowed := true, recurses := true, apart := false }
def WinFullSaid : Prop := winFullRow.holds Try.pinned (OpenSpec.ofChange winFullSpec)

/-- ITS FALSE NEIGHBOUR: 'it returns false'. Refute it at one input. -/
def winFullWrong : ChangeSpec := { name := "winFull", fn := fun _ => fun
  | [d1, d2, d3] => { results := [.lit (.bool false)], args := [d1, d2, d3] }
  | _ => none }
def WinFullWrongFalsely : Prop := winFullRow.holds Try.pinned (OpenSpec.ofChange winFullWrong)

/- THE SECOND FORM. 'bulk': how many values and letters a reading holds, each counted each time it is reached (what is shared counts as often as it is met; a slice's spare places count too). A statement '..UptoSaid' is the law's where the arguments, and the package variables that the reading takes, are together of bulk at most 1048576: NARROWER than '..Said'. Prove '..Said' where nothing that the law and all that it calls make is longer than what came in: it says more and counts as full. Else prove '..UptoSaid'. A law counts once. -/
mutual
def uptoBulk {H : Type} : DataW H → Nat
  | .lit (.string bytes) => bytes.length + 1
  | .lit _ => 1
  | .nil => 1
  | .ptr d => uptoBulk d + 1
  | .slice elems spare => uptoBulkAll elems + uptoBulkAll spare + 1
  | .agg parts => uptoBulkAll parts + 1
  | .iface _ d => uptoBulk d + 1
  | .map entries => uptoBulkEntries entries + 1
  | .held _ => 1
def uptoBulkAll {H : Type} : List (DataW H) → Nat
  | [] => 0
  | d :: r => uptoBulk d + uptoBulkAll r
def uptoBulkEntries {H : Type} : List (Lit × DataW H) → Nat
  | [] => 0
  | x :: r => uptoBulkEntry x + uptoBulkEntries r
def uptoBulkEntry {H : Type} : Lit × DataW H → Nat
  | (.string bytes, d) => bytes.length + uptoBulk d + 1
  | (_, d) => uptoBulk d + 1
 end
def uptoSmall : (H : Type) → List (DataW H) → Bool := fun _ ds => decide (uptoBulkAll ds ≤ 1048576)
def OpenSpec.upto (s : _root_.Go.ChangeSpec) : _root_.Go.OpenSpec := { _root_.Go.OpenSpec.ofChange s with cond := some uptoSmall }

/-- 'beadlelaw13.WinSays', WHERE WHAT IT READS IS OF BULK AT MOST 1048576: true; the input reads as it did. -/
def winSaysUptoRow : OpenClaim := { program := "ytikpnpmhkllbpaa", sum := "48dbb2ee883aa9ffa88559da262b59783153802a39a047f3025fa7e9e9e42e64", func := "beadle/beadlelaw13.WinSays", spec := "winSays", unfollowed := true, recurses := true, apart := false, narrowed := true }
def WinSaysUptoSaid : Prop := winSaysUptoRow.holds Try.pinned (OpenSpec.upto winSaysSpec)

/-- 'beadlelaw13.WinFew', WHERE WHAT IT READS IS OF BULK AT MOST 1048576: true; the input reads as it did. -/
def winFewUptoRow : OpenClaim := { program := "ytikpnpmhkllbpaa", sum := "48dbb2ee883aa9ffa88559da262b59783153802a39a047f3025fa7e9e9e42e64", func := "beadle/beadlelaw13.WinFew", spec := "winFew", unfollowed := true, recurses := true, apart := false, narrowed := true }
def WinFewUptoSaid : Prop := winFewUptoRow.holds Try.pinned (OpenSpec.upto winFewSpec)

/-- 'beadlelaw13.WinWork', WHERE WHAT IT READS IS OF BULK AT MOST 1048576: true; the input reads as it did. -/
def winWorkUptoRow : OpenClaim := { program := "ytikpnpmhkllbpaa", sum := "48dbb2ee883aa9ffa88559da262b59783153802a39a047f3025fa7e9e9e42e64", func := "beadle/beadlelaw13.WinWork", spec := "winWork", unfollowed := true, recurses := true, apart := false, narrowed := true }
def WinWorkUptoSaid : Prop := winWorkUptoRow.holds Try.pinned (OpenSpec.upto winWorkSpec)

/-- 'beadlelaw13.WinOrder', WHERE WHAT IT READS IS OF BULK AT MOST 1048576: true; the input reads as it did. -/
def winOrderUptoRow : OpenClaim := { program := "ytikpnpmhkllbpaa", sum := "48dbb2ee883aa9ffa88559da262b59783153802a39a047f3025fa7e9e9e42e64", func := "beadle/beadlelaw13.WinOrder", spec := "winOrder", unfollowed := true, recurses := true, apart := false, narrowed := true }
def WinOrderUptoSaid : Prop := winOrderUptoRow.holds Try.pinned (OpenSpec.upto winOrderSpec)

/-- 'beadlelaw13.WinKnown', WHERE WHAT IT READS IS OF BULK AT MOST 1048576: true; the input reads as it did. -/
def winKnownUptoRow : OpenClaim := { program := "ytikpnpmhkllbpaa", sum := "48dbb2ee883aa9ffa88559da262b59783153802a39a047f3025fa7e9e9e42e64", func := "beadle/beadlelaw13.WinKnown", spec := "winKnown", unfollowed := true, recurses := true, apart := false, narrowed := true }
def WinKnownUptoSaid : Prop := winKnownUptoRow.holds Try.pinned (OpenSpec.upto winKnownSpec)

/-- 'beadlelaw13.WinUse', WHERE WHAT IT READS IS OF BULK AT MOST 1048576: true; the input reads as it did. -/
def winUseUptoRow : OpenClaim := { program := "ytikpnpmhkllbpaa", sum := "48dbb2ee883aa9ffa88559da262b59783153802a39a047f3025fa7e9e9e42e64", func := "beadle/beadlelaw13.WinUse", spec := "winUse", unfollowed := true, recurses := true, apart := false, narrowed := true }
def WinUseUptoSaid : Prop := winUseUptoRow.holds Try.pinned (OpenSpec.upto winUseSpec)

/-- 'beadlelaw13.WinFull', WHERE WHAT IT READS IS OF BULK AT MOST 1048576: true; the input reads as it did. -/
def winFullUptoRow : OpenClaim := { program := "ytikpnpmhkllbpaa", sum := "48dbb2ee883aa9ffa88559da262b59783153802a39a047f3025fa7e9e9e42e64", func := "beadle/beadlelaw13.WinFull", spec := "winFull", unfollowed := true, recurses := true, apart := false, narrowed := true }
def WinFullUptoSaid : Prop := winFullUptoRow.holds Try.pinned (OpenSpec.upto winFullSpec)

end Rows
end Go.Proofs.Ytikpnpmhkllbpaa
