/-
  No cell of these rows narrows 'for every input' (looked for: loops, veiled, ifaces, maps, wideKeys, modest, calm, conditions, laid).
  DERIVED. THE GIVEN ROWS OF THIS SEAT. 4 by the template 'for every input the law returns true; each argument reads behind the call as it read before'; 0 by the template 'total and deterministic' (their statements: YtdmoembbgcoeaaaTotals.lean).
  GIVEN WITH THE SEED: the statements are not yours to turn. If you find one false, say at which input.
  Laid BY PROGRAM, IN A SANDBOX (cutbox-rows.mjs): the forced cells as the released guide's own fill.sh prints them over the translation eac60117da6bcea6… (all of the seat's roots in one cut). By AI agents, Wed Nov 11 2026. No macro, syntax, notation, axiom, sorry.
-/
import Derived.Test.YtdmoembbgcoeaaaChecked
import GoSem.Claim
import GoSem.ClaimJoined
import GoSem.ClaimMapViews
import Derived.JoinedTies
import Derived.KernelRfl
namespace Go.Proofs.Ytdmoembbgcoeaaa
/- THE CELL 'sum', in the pinned program and in every row, IS THE sha256 OF THE DUMP (.gsa) THAT YtdmoembbgcoeaaaProg.lean LOADS. Nothing in Lean hashes anything: it is a label: what it is worth is what the hold of that sum in a sandbox is worth. -/
noncomputable def Try.pinned : Pinned := { name := "ytdmoembbgcoeaaa", sum := "eac60117da6bcea6e508675eb39b71beff71e1a3156f8c8fdec550ac0ea2ec4a", checked := Try.checked }
namespace Rows
def none {H : Type} : Left H := { results := [], args := [] }

/-- 'beadlelaw7.AlarmOnce': WHATEVER THE INPUT: true; the input reads as it did. -/
def alarmOnceSpec : ChangeSpec := { name := "alarmOnce", fn := fun _ => fun
  | [d1, d2, d3] => { results := [.lit (.bool true)], args := [d1, d2, d3] }
  | _ => none }
def alarmOnceRow : OpenClaim := { program := "ytdmoembbgcoeaaa", sum := "eac60117da6bcea6e508675eb39b71beff71e1a3156f8c8fdec550ac0ea2ec4a", func := "beadle/beadlelaw7.AlarmOnce", spec := "alarmOnce", unfollowed := true, recurses := true, apart := false }
def AlarmOnceSaid : Prop := alarmOnceRow.holds Try.pinned (OpenSpec.ofChange alarmOnceSpec)

/-- ITS FALSE NEIGHBOUR: 'it returns false'. Refute it at one input. -/
def alarmOnceWrong : ChangeSpec := { name := "alarmOnce", fn := fun _ => fun
  | [d1, d2, d3] => { results := [.lit (.bool false)], args := [d1, d2, d3] }
  | _ => none }
def AlarmOnceWrongFalsely : Prop := alarmOnceRow.holds Try.pinned (OpenSpec.ofChange alarmOnceWrong)

/-- 'beadlelaw7.AlarmRegisters': WHATEVER THE INPUT: true; the input reads as it did. -/
def alarmRegistersSpec : ChangeSpec := { name := "alarmRegisters", fn := fun _ => fun
  | [d1, d2] => { results := [.lit (.bool true)], args := [d1, d2] }
  | _ => none }
def alarmRegistersRow : OpenClaim := { program := "ytdmoembbgcoeaaa", sum := "eac60117da6bcea6e508675eb39b71beff71e1a3156f8c8fdec550ac0ea2ec4a", func := "beadle/beadlelaw7.AlarmRegisters", spec := "alarmRegisters", unfollowed := true, recurses := true, apart := false }
def AlarmRegistersSaid : Prop := alarmRegistersRow.holds Try.pinned (OpenSpec.ofChange alarmRegistersSpec)

/-- ITS FALSE NEIGHBOUR: 'it returns false'. Refute it at one input. -/
def alarmRegistersWrong : ChangeSpec := { name := "alarmRegisters", fn := fun _ => fun
  | [d1, d2] => { results := [.lit (.bool false)], args := [d1, d2] }
  | _ => none }
def AlarmRegistersWrongFalsely : Prop := alarmRegistersRow.holds Try.pinned (OpenSpec.ofChange alarmRegistersWrong)

/-- 'beadlelaw7.AlarmKnown': WHATEVER THE INPUT: true; the input reads as it did. -/
def alarmKnownSpec : ChangeSpec := { name := "alarmKnown", fn := fun _ => fun
  | [] => { results := [.lit (.bool true)], args := [] }
  | _ => none }
def alarmKnownRow : OpenClaim := { program := "ytdmoembbgcoeaaa", sum := "eac60117da6bcea6e508675eb39b71beff71e1a3156f8c8fdec550ac0ea2ec4a", func := "beadle/beadlelaw7.AlarmKnown", spec := "alarmKnown", unfollowed := true, recurses := true, apart := false }
def AlarmKnownSaid : Prop := alarmKnownRow.holds Try.pinned (OpenSpec.ofChange alarmKnownSpec)

/-- ITS FALSE NEIGHBOUR: 'it returns false'. Refute it at one input. -/
def alarmKnownWrong : ChangeSpec := { name := "alarmKnown", fn := fun _ => fun
  | [] => { results := [.lit (.bool false)], args := [] }
  | _ => none }
def AlarmKnownWrongFalsely : Prop := alarmKnownRow.holds Try.pinned (OpenSpec.ofChange alarmKnownWrong)

/-- 'beadlelaw7.AlarmPlays': WHATEVER THE INPUT: true; the input reads as it did. -/
def alarmPlaysSpec : ChangeSpec := { name := "alarmPlays", fn := fun _ => fun
  | [d1, d2] => { results := [.lit (.bool true)], args := [d1, d2] }
  | _ => none }
def alarmPlaysRow : OpenClaim := { program := "ytdmoembbgcoeaaa", sum := "eac60117da6bcea6e508675eb39b71beff71e1a3156f8c8fdec550ac0ea2ec4a", func := "beadle/beadlelaw7.AlarmPlays", spec := "alarmPlays", unfollowed := true, recurses := true, apart := false }
def AlarmPlaysSaid : Prop := alarmPlaysRow.holds Try.pinned (OpenSpec.ofChange alarmPlaysSpec)

/-- ITS FALSE NEIGHBOUR: 'it returns false'. Refute it at one input. -/
def alarmPlaysWrong : ChangeSpec := { name := "alarmPlays", fn := fun _ => fun
  | [d1, d2] => { results := [.lit (.bool false)], args := [d1, d2] }
  | _ => none }
def AlarmPlaysWrongFalsely : Prop := alarmPlaysRow.holds Try.pinned (OpenSpec.ofChange alarmPlaysWrong)

/- THE SECOND FORM. 'bulk': how many values and letters a reading holds, each counted each time it is reached (what is shared counts as often as it is met; a slice's spare places count too). A statement '..UptoSaid' is the law's where the arguments, and the package variables that the reading takes, are together of bulk at most 1048576: NARROWER than '..Said'. Prove '..Said' where nothing that the law and all that it calls make is longer than what came in: it says more and counts as full. Else prove '..UptoSaid'. A law counts once. -/
mutual
def uptoBulk {H : Type} : DataW H → Nat
  | .lit (.string bytes) => bytes.length + 1
  | .lit _ => 1
  | .nil => 1
  | .ptr d => uptoBulk d + 1
  | .slice elems spare => uptoBulkAll elems + uptoBulkAll spare + 1
  | .agg parts => uptoBulkAll parts + 1
  | .iface _ d => uptoBulk d + 1
  | .map entries => uptoBulkEntries entries + 1
  | .held _ => 1
def uptoBulkAll {H : Type} : List (DataW H) → Nat
  | [] => 0
  | d :: r => uptoBulk d + uptoBulkAll r
def uptoBulkEntries {H : Type} : List (Lit × DataW H) → Nat
  | [] => 0
  | x :: r => uptoBulkEntry x + uptoBulkEntries r
def uptoBulkEntry {H : Type} : Lit × DataW H → Nat
  | (.string bytes, d) => bytes.length + uptoBulk d + 1
  | (_, d) => uptoBulk d + 1
 end
def uptoSmall : (H : Type) → List (DataW H) → Bool := fun _ ds => decide (uptoBulkAll ds ≤ 1048576)
def OpenSpec.upto (s : _root_.Go.ChangeSpec) : _root_.Go.OpenSpec := { _root_.Go.OpenSpec.ofChange s with cond := some uptoSmall }

/-- 'beadlelaw7.AlarmOnce', WHERE WHAT IT READS IS OF BULK AT MOST 1048576: true; the input reads as it did. -/
def alarmOnceUptoRow : OpenClaim := { program := "ytdmoembbgcoeaaa", sum := "eac60117da6bcea6e508675eb39b71beff71e1a3156f8c8fdec550ac0ea2ec4a", func := "beadle/beadlelaw7.AlarmOnce", spec := "alarmOnce", unfollowed := true, recurses := true, apart := false, narrowed := true }
def AlarmOnceUptoSaid : Prop := alarmOnceUptoRow.holds Try.pinned (OpenSpec.upto alarmOnceSpec)

/-- 'beadlelaw7.AlarmRegisters', WHERE WHAT IT READS IS OF BULK AT MOST 1048576: true; the input reads as it did. -/
def alarmRegistersUptoRow : OpenClaim := { program := "ytdmoembbgcoeaaa", sum := "eac60117da6bcea6e508675eb39b71beff71e1a3156f8c8fdec550ac0ea2ec4a", func := "beadle/beadlelaw7.AlarmRegisters", spec := "alarmRegisters", unfollowed := true, recurses := true, apart := false, narrowed := true }
def AlarmRegistersUptoSaid : Prop := alarmRegistersUptoRow.holds Try.pinned (OpenSpec.upto alarmRegistersSpec)

/-- 'beadlelaw7.AlarmKnown', WHERE WHAT IT READS IS OF BULK AT MOST 1048576: true; the input reads as it did. -/
def alarmKnownUptoRow : OpenClaim := { program := "ytdmoembbgcoeaaa", sum := "eac60117da6bcea6e508675eb39b71beff71e1a3156f8c8fdec550ac0ea2ec4a", func := "beadle/beadlelaw7.AlarmKnown", spec := "alarmKnown", unfollowed := true, recurses := true, apart := false, narrowed := true }
def AlarmKnownUptoSaid : Prop := alarmKnownUptoRow.holds Try.pinned (OpenSpec.upto alarmKnownSpec)

/-- 'beadlelaw7.AlarmPlays', WHERE WHAT IT READS IS OF BULK AT MOST 1048576: true; the input reads as it did. -/
def alarmPlaysUptoRow : OpenClaim := { program := "ytdmoembbgcoeaaa", sum := "eac60117da6bcea6e508675eb39b71beff71e1a3156f8c8fdec550ac0ea2ec4a", func := "beadle/beadlelaw7.AlarmPlays", spec := "alarmPlays", unfollowed := true, recurses := true, apart := false, narrowed := true }
def AlarmPlaysUptoSaid : Prop := alarmPlaysUptoRow.holds Try.pinned (OpenSpec.upto alarmPlaysSpec)

end Rows
end Go.Proofs.Ytdmoembbgcoeaaa
