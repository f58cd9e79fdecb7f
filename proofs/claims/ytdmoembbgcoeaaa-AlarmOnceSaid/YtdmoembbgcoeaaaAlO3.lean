/- Alarm: AlarmOnce's walk, its facts in the row's order (no law is stated here). -/
import Derived.Test.YtdmoembbgcoeaaaAlO2
namespace Go.Proofs.Ytdmoembbgcoeaaa.Alarm
open Go.RowKit Go.Proofs.YtdmoembbgcoeaaaW.PrintWords Go.Proofs.YtdmoembbgcoeaaaW.PrintLast Go.Proofs.YtdmoembbgcoeaaaW.PrintMore Go.Proofs.Ytdmoembbgcoeaaa.St Go.Proofs.Ytdmoembbgcoeaaa.Q Go.Proofs.Ytdmoembbgcoeaaa.Heap
set_option linter.unusedVariables false
theorem once_walk2 (m : Int) (h : (Lit.int .i64 m).wf = true) (A : Option Addr) (cap : Nat) (l : List Int) {good good2 : Int → Prop} {w : World} (hr : (Kd.int .i64).C w A l.length l) (hc : l.length ≤ cap) (hg : ∀ a ∈ l, good a) (A2 : Option Addr) (cap2 : Nat) (l2 : List Int) (hr2 : (Kd.int .i64).C w A2 l2.length l2) (hc2 : l2.length ≤ cap2) (hg2 : ∀ a ∈ l2, good2 a) (w2 : World) :
    Calls Try.prog 3 #[.int .i64 m, .slice A l.length cap, .slice A2 l2.length cap2] w fun e w' => e = .returned (.bool true) ∧ Below w.heap.size w w' :=
  once_walk m h A cap l A2 cap2 l2 hr hc hg hr2 hc2 hg2 w2
end Go.Proofs.Ytdmoembbgcoeaaa.Alarm
