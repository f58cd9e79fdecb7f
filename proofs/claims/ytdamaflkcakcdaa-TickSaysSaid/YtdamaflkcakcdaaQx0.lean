-- Written by myprint.py: the kit's print program with patches of this session; Lean checks it.
import Derived.Test.YtdamaflkcakcdaaProg
import Derived.Below
import Derived.Deep.Draws
import Derived.Deep.AppendLies
import Derived.Maps.AppendAt
import Derived.OwnWalk
import Derived.Laws.BytesArg
import Derived.Laws.MakeOwn
import Derived.Laws.OwnMore
import Derived.Deep.OwnRows
import Derived.Tactics
import Derived.Lib.ConvBytes
import Derived.Laws.Slices
import Derived.WalkKit
import Derived.KernelRfl
import Derived.RowKit3
import Derived.Deep.LoopGhost
import Derived.Deep.QuietTactic
import Derived.BigQuiet
import Derived.WideLaws
import Derived.Deep.DeepCutAuto
import Derived.Deep.CutBlock
import Derived.Deep.RegionHeld3
import Derived.Laws.Rows
import Derived.Lib.AppendStr
import Derived.ArgAppend
import Derived.Laws.IdiomCopy
import Derived.OrdersHeld
import Derived.Laws.BitsLemmas
import Derived.RowKit
import Derived.Test.YtdamaflkcakcdaaWWords
import Derived.Test.YtdamaflkcakcdaaWLast
import Derived.Test.YtdamaflkcakcdaaWTab
import Derived.Test.YtdamaflkcakcdaaWFour
import Derived.Test.YtdamaflkcakcdaaWQPut
import Derived.Test.YtdamaflkcakcdaaWApart
import Derived.Test.YtdamaflkcakcdaaWArr
import Derived.Test.YtdamaflkcakcdaaWZeros
import Derived.Test.YtdamaflkcakcdaaWFoot
import Derived.Test.YtdamaflkcakcdaaWKept
import Derived.Test.YtdamaflkcakcdaaWShare
import Derived.Test.YtdamaflkcakcdaaWN
import Derived.Test.YtdamaflkcakcdaaWFootNe
import Derived.Test.YtdamaflkcakcdaaWAt
import Derived.Test.YtdamaflkcakcdaaWEqStruct
import Derived.Test.YtdamaflkcakcdaaWRepsOne
import Derived.Test.YtdamaflkcakcdaaWInv
import Derived.Test.YtdamaflkcakcdaaWInvWords
import Derived.Test.YtdamaflkcakcdaaWGuard
import Derived.Test.YtdamaflkcakcdaaWNEv
import Derived.Test.YtdamaflkcakcdaaWMore
namespace Go.Proofs.Ytdamaflkcakcdaa.Q
open Go.RowKit Go.Proofs.YtdamaflkcakcdaaW.PrintWords Go.Proofs.YtdamaflkcakcdaaW.PrintLast Go.Proofs.YtdamaflkcakcdaaW.PrintMore
attribute [local go_sem] max2_int min2_int max_two min_two max_three min_three max_four min_four   -- for this text's walks alone
set_option linter.unusedVariables false
set_option linter.unusedSimpArgs false



def errW : Option Int → Value
  | none => .nilIface
  | some c => .iface 0 (.int .i64 c)
theorem errW_none : errW none = .nilIface := rfl
theorem errW_some (c : Int) : errW (some c) = .iface 0 (.int .i64 c) := rfl

-- the values' own types

end Go.Proofs.Ytdamaflkcakcdaa.Q
