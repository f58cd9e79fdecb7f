-- Written by myprint.py: the kit's print program with patches of this session; Lean checks it.
import Derived.Test.YtofbjgkoaiiagaaQx0
import Derived.Test.YtofbjgkoaiiagaaQM
import Derived.Test.YtofbjgkoaiiagaaQx27
namespace Go.Proofs.Ytofbjgkoaiiagaa.Q
open Go.RowKit Go.Proofs.YtofbjgkoaiiagaaW.PrintWords Go.Proofs.YtofbjgkoaiiagaaW.PrintLast Go.Proofs.YtofbjgkoaiiagaaW.PrintMore
attribute [local go_sem] max2_int min2_int max_two min_two max_three min_three max_four min_four   -- for this text's walks alone
set_option linter.unusedVariables false
set_option linter.unusedSimpArgs false

/-! ### beadleref10_Wake: function 19 -/
mutual
def beadleref10_Wake.j0 : Nat → Int → Bool → Int → Int → Int → Int → Int → Option (Int × Int × Int × Int × Int × Int)
  | 0, _, _, _, _, _, _, _ => none
  | k + 1, x1, x17, x283000, x283001, x283002, x283003, x283004 => if x17 = true then (some (x283000, x283001, x283002, x283003, x283004, 1)) else (if x283004 = 0 then (if x283003 ≤ x1 then ((beadleref1_Add.f x1 x283001).bind fun bt287 => (if bt287.2 = true then (if x283000 = 0 then (some (x283000, x283001, x283000, bt287.1, 2, 0)) else (some (x283000, x283001, x283000, bt287.1, 1, 0))) else (some (x283000, x283001, x283002, x283003, x283004, 6)))) else (if (wrap64 (x283003 - x1)) > x283001 then (beadleref10_Wake.j1 k x283001 x283000 x283001 x283002 x283003 x283004 x283000 x283001 x283002 x283003 x283004) else (beadleref10_Wake.j1 k (wrap64 (x283003 - x1)) x283000 x283001 x283002 x283003 x283004 x283000 x283001 x283002 x283003 x283004))) else (some (x283000, x283001, x283002, x283003, x283004, 5)))
def beadleref10_Wake.j1 : Nat → Int → Int → Int → Int → Int → Int → Int → Int → Int → Int → Int → Option (Int × Int × Int × Int × Int × Int)
  | 0, _, _, _, _, _, _, _, _, _, _, _ => none
  | k + 1, x9, x283000, x283001, x283002, x283003, x283004, x287000, x287001, x287002, x287003, x287004 => if (wrap64 (x283002 * x283001)) > (wrap64 (x9 * x283000)) then (if x283001 = 0 then (none) else (if (wrap64 (Int.tdiv (wrap64 (x9 * x283000)) x283001)) = 0 then (some (x287000, x287001, wrap64 (Int.tdiv (wrap64 (x9 * x283000)) x283001), x287003, 2, 0)) else (some (x287000, x287001, wrap64 (Int.tdiv (wrap64 (x9 * x283000)) x283001), x287003, 1, 0)))) else (if x287002 = 0 then (some (x287000, x287001, x287002, x287003, 2, 0)) else (some (x287000, x287001, x287002, x287003, 1, 0)))
end
def beadleref10_Wake.f (k : Nat) (a0_0 : Int) (a0_1 : Int) (a0_2 : Int) (a0_3 : Int) (a0_4 : Int) (a1 : Int) : Option (Int × Int × Int × Int × Int × Int) := (beadleref10_GoodServer.f a0_0 a0_1 a0_2 a0_3 a0_4).bind fun t284 => (if t284 = true then ((beadleref1_Good.f a1).bind fun t285 => (beadleref10_Wake.j0 k a1 (!t285) a0_0 a0_1 a0_2 a0_3 a0_4)) else (beadleref10_Wake.j0 k a1 true a0_0 a0_1 a0_2 a0_3 a0_4))

end Go.Proofs.Ytofbjgkoaiiagaa.Q
