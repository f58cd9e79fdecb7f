-- Written by myprint.py: the kit's print program with patches of this session; Lean checks it.
import Derived.Test.YtfkjcimbpijfcaaProg
import Derived.Below
import Derived.Deep.Draws
import Derived.Deep.AppendLies
import Derived.Maps.AppendAt
import Derived.OwnWalk
import Derived.Laws.BytesArg
import Derived.Laws.MakeOwn
import Derived.Laws.OwnMore
import Derived.Deep.OwnRows
import Derived.Tactics
import Derived.Lib.ConvBytes
import Derived.Laws.Slices
import Derived.WalkKit
import Derived.KernelRfl
import Derived.RowKit3
import Derived.Deep.LoopGhost
import Derived.Deep.QuietTactic
import Derived.BigQuiet
import Derived.WideLaws
import Derived.Deep.DeepCutAuto
import Derived.Deep.CutBlock
import Derived.Deep.RegionHeld3
import Derived.Laws.Rows
import Derived.Lib.AppendStr
import Derived.ArgAppend
import Derived.Laws.IdiomCopy
import Derived.OrdersHeld
import Derived.Laws.BitsLemmas
import Derived.RowKit
import Derived.Maps.OwnOps
import Derived.Maps.Views
import Derived.Lib.SliceRun
import Derived.LoopTactic
import Derived.Test.YtfkjcimbpijfcaaMine
import Derived.Test.YtfkjcimbpijfcaaWWords
import Derived.Test.YtfkjcimbpijfcaaWLast
import Derived.Test.YtfkjcimbpijfcaaWTab
import Derived.Test.YtfkjcimbpijfcaaWFour
import Derived.Test.YtfkjcimbpijfcaaWQPut
import Derived.Test.YtfkjcimbpijfcaaWApart
import Derived.Test.YtfkjcimbpijfcaaWArr
import Derived.Test.YtfkjcimbpijfcaaWZeros
import Derived.Test.YtfkjcimbpijfcaaWFoot
import Derived.Test.YtfkjcimbpijfcaaWKept
import Derived.Test.YtfkjcimbpijfcaaWShare
import Derived.Test.YtfkjcimbpijfcaaWN
import Derived.Test.YtfkjcimbpijfcaaWFootNe
import Derived.Test.YtfkjcimbpijfcaaWAt
import Derived.Test.YtfkjcimbpijfcaaWEqStruct
import Derived.Test.YtfkjcimbpijfcaaWRepsOne
import Derived.Test.YtfkjcimbpijfcaaWInv
import Derived.Test.YtfkjcimbpijfcaaWInvWords
import Derived.Test.YtfkjcimbpijfcaaWGuard
import Derived.Test.YtfkjcimbpijfcaaWNEv
import Derived.Test.YtfkjcimbpijfcaaWMore
namespace Go.Proofs.Ytfkjcimbpijfcaa.Q
open Go.RowKit Go.Proofs.YtfkjcimbpijfcaaW.PrintWords Go.Proofs.YtfkjcimbpijfcaaW.PrintLast Go.Proofs.YtfkjcimbpijfcaaW.PrintMore
attribute [local go_sem] max2_int min2_int max_two min_two max_three min_three max_four min_four   -- for this text's walks alone
set_option linter.unusedVariables false
set_option linter.unusedSimpArgs false



def errW : Option Int → Value
  | none => .nilIface
  | some c => .iface 0 (.int .i64 c)
theorem errW_none : errW none = .nilIface := rfl
theorem errW_some (c : Int) : errW (some c) = .iface 0 (.int .i64 c) := rfl

-- the values' own types

end Go.Proofs.Ytfkjcimbpijfcaa.Q
