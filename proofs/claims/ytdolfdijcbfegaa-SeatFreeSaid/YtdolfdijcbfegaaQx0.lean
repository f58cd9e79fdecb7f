-- Written by myprint.py: the kit's print program with patches of this session; Lean checks it.
import Derived.Test.YtdolfdijcbfegaaProg
import Derived.Below
import Derived.Deep.Draws
import Derived.Deep.AppendLies
import Derived.Maps.AppendAt
import Derived.OwnWalk
import Derived.Laws.BytesArg
import Derived.Laws.MakeOwn
import Derived.Laws.OwnMore
import Derived.Deep.OwnRows
import Derived.Tactics
import Derived.Lib.ConvBytes
import Derived.Laws.Slices
import Derived.WalkKit
import Derived.KernelRfl
import Derived.RowKit3
import Derived.Deep.LoopGhost
import Derived.Deep.QuietTactic
import Derived.BigQuiet
import Derived.WideLaws
import Derived.Deep.DeepCutAuto
import Derived.Deep.CutBlock
import Derived.Deep.RegionHeld3
import Derived.Laws.Rows
import Derived.Lib.AppendStr
import Derived.ArgAppend
import Derived.Laws.IdiomCopy
import Derived.OrdersHeld
import Derived.Laws.BitsLemmas
import Derived.RowKit
import Derived.Maps.OwnOps
import Derived.Maps.Views
import Derived.Lib.SliceRun
import Derived.LoopTactic
import Derived.Test.YtdolfdijcbfegaaMine
import Derived.Test.YtdolfdijcbfegaaWWords
import Derived.Test.YtdolfdijcbfegaaWLast
import Derived.Test.YtdolfdijcbfegaaWTab
import Derived.Test.YtdolfdijcbfegaaWFour
import Derived.Test.YtdolfdijcbfegaaWQPut
import Derived.Test.YtdolfdijcbfegaaWApart
import Derived.Test.YtdolfdijcbfegaaWArr
import Derived.Test.YtdolfdijcbfegaaWZeros
import Derived.Test.YtdolfdijcbfegaaWFoot
import Derived.Test.YtdolfdijcbfegaaWKept
import Derived.Test.YtdolfdijcbfegaaWShare
import Derived.Test.YtdolfdijcbfegaaWN
import Derived.Test.YtdolfdijcbfegaaWFootNe
import Derived.Test.YtdolfdijcbfegaaWAt
import Derived.Test.YtdolfdijcbfegaaWEqStruct
import Derived.Test.YtdolfdijcbfegaaWRepsOne
import Derived.Test.YtdolfdijcbfegaaWInv
import Derived.Test.YtdolfdijcbfegaaWInvWords
import Derived.Test.YtdolfdijcbfegaaWGuard
import Derived.Test.YtdolfdijcbfegaaWNEv
import Derived.Test.YtdolfdijcbfegaaWMore
namespace Go.Proofs.Ytdolfdijcbfegaa.Q
open Go.RowKit Go.Proofs.YtdolfdijcbfegaaW.PrintWords Go.Proofs.YtdolfdijcbfegaaW.PrintLast Go.Proofs.YtdolfdijcbfegaaW.PrintMore
attribute [local go_sem] max2_int min2_int max_two min_two max_three min_three max_four min_four   -- for this text's walks alone
set_option linter.unusedVariables false
set_option linter.unusedSimpArgs false



def errW : Option Int → Value
  | none => .nilIface
  | some c => .iface 0 (.int .i64 c)
theorem errW_none : errW none = .nilIface := rfl
theorem errW_some (c : Int) : errW (some c) = .iface 0 (.int .i64 c) := rfl

theorem info3 : (Try.prog.info? 3).map (fun i => (i.zero, i.size, i.bytes)) = some (some (.int .i64 0), 1, 8) := by kernel_rfl
-- the values' own types

end Go.Proofs.Ytdolfdijcbfegaa.Q
