-- Written by myprint.py: the kit's print program with patches of this session; Lean checks it.
import Derived.Test.YtnfpgdcnihbokaaProg
import Derived.Below
import Derived.Deep.Draws
import Derived.Deep.AppendLies
import Derived.Maps.AppendAt
import Derived.OwnWalk
import Derived.Laws.BytesArg
import Derived.Laws.MakeOwn
import Derived.Laws.OwnMore
import Derived.Deep.OwnRows
import Derived.Tactics
import Derived.Lib.ConvBytes
import Derived.Laws.Slices
import Derived.WalkKit
import Derived.KernelRfl
import Derived.RowKit3
import Derived.Deep.LoopGhost
import Derived.Deep.QuietTactic
import Derived.BigQuiet
import Derived.WideLaws
import Derived.Deep.DeepCutAuto
import Derived.Deep.CutBlock
import Derived.Deep.RegionHeld3
import Derived.Laws.Rows
import Derived.Lib.AppendStr
import Derived.ArgAppend
import Derived.Laws.IdiomCopy
import Derived.OrdersHeld
import Derived.Laws.BitsLemmas
import Derived.RowKit
import Derived.Maps.OwnOps
import Derived.Maps.Views
import Derived.Lib.SliceRun
import Derived.LoopTactic
import Derived.Test.YtnfpgdcnihbokaaMine
import Derived.Test.YtnfpgdcnihbokaaWWords
import Derived.Test.YtnfpgdcnihbokaaWLast
import Derived.Test.YtnfpgdcnihbokaaWTab
import Derived.Test.YtnfpgdcnihbokaaWFour
import Derived.Test.YtnfpgdcnihbokaaWQPut
import Derived.Test.YtnfpgdcnihbokaaWApart
import Derived.Test.YtnfpgdcnihbokaaWArr
import Derived.Test.YtnfpgdcnihbokaaWZeros
import Derived.Test.YtnfpgdcnihbokaaWFoot
import Derived.Test.YtnfpgdcnihbokaaWKept
import Derived.Test.YtnfpgdcnihbokaaWShare
import Derived.Test.YtnfpgdcnihbokaaWN
import Derived.Test.YtnfpgdcnihbokaaWFootNe
import Derived.Test.YtnfpgdcnihbokaaWAt
import Derived.Test.YtnfpgdcnihbokaaWEqStruct
import Derived.Test.YtnfpgdcnihbokaaWRepsOne
import Derived.Test.YtnfpgdcnihbokaaWInv
import Derived.Test.YtnfpgdcnihbokaaWInvWords
import Derived.Test.YtnfpgdcnihbokaaWGuard
import Derived.Test.YtnfpgdcnihbokaaWNEv
import Derived.Test.YtnfpgdcnihbokaaWMore
namespace Go.Proofs.Ytnfpgdcnihbokaa.Q
open Go.RowKit Go.Proofs.YtnfpgdcnihbokaaW.PrintWords Go.Proofs.YtnfpgdcnihbokaaW.PrintLast Go.Proofs.YtnfpgdcnihbokaaW.PrintMore
attribute [local go_sem] max2_int min2_int max_two min_two max_three min_three max_four min_four   -- for this text's walks alone
set_option linter.unusedVariables false
set_option linter.unusedSimpArgs false



def errW : Option Int → Value
  | none => .nilIface
  | some c => .iface 0 (.int .i64 c)
theorem errW_none : errW none = .nilIface := rfl
theorem errW_some (c : Int) : errW (some c) = .iface 0 (.int .i64 c) := rfl

-- the values' own types

end Go.Proofs.Ytnfpgdcnihbokaa.Q
