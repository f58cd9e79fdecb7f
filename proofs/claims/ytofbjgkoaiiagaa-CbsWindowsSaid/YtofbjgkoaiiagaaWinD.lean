-- Written by myprint.py: the kit's print program with patches of this session; Lean checks it.
import Derived.Test.YtofbjgkoaiiagaaQx0
import Derived.Test.YtofbjgkoaiiagaaQx4
import Derived.Test.YtofbjgkoaiiagaaQx10
import Derived.Test.YtofbjgkoaiiagaaQx11
import Derived.Test.YtofbjgkoaiiagaaQx12
import Derived.Test.YtofbjgkoaiiagaaQx14
import Derived.Test.YtofbjgkoaiiagaaQx17
import Derived.Test.YtofbjgkoaiiagaaQx19
import Derived.Test.YtofbjgkoaiiagaaQx20
namespace Go.Proofs.Ytofbjgkoaiiagaa.Q
open Go.RowKit Go.Proofs.YtofbjgkoaiiagaaW.PrintWords Go.Proofs.YtofbjgkoaiiagaaW.PrintLast Go.Proofs.YtofbjgkoaiiagaaW.PrintMore
attribute [local go_sem] max2_int min2_int max_two min_two max_three min_three max_four min_four   -- for this text's walks alone
set_option linter.unusedVariables false
set_option linter.unusedSimpArgs false

/-! ### beadlelaw12_CbsWindows: function 6 -/
mutual
def beadlelaw12_CbsWindows.l0 : Nat → Int → Int → List (S36) → Int → Int → Int → Int → Int → Int → Int → Int → Option (Bool)
  | 0, _, _, _, _, _, _, _, _, _, _, _ => none
  | k + 1, x0, x1, x2, x9, x10, x11, x235000, x235001, x235002, x235003, x235004 => if x11 < (x2.length : Int) then (if 0 ≤ x11 then (if ((rd_T36 x2 x11).f2) > 0 then (beadlelaw12_CbsWindows.j1 k x0 x1 x2 x9 x10 x11 (decide (((rd_T36 x2 x11).f2) ≤ 1099511627776)) x235000 x235001 x235002 x235003 x235004) else (beadlelaw12_CbsWindows.j1 k x0 x1 x2 x9 x10 x11 false x235000 x235001 x235002 x235003 x235004)) else (none)) else (some true)
def beadlelaw12_CbsWindows.j1 : Nat → Int → Int → List (S36) → Int → Int → Int → Bool → Int → Int → Int → Int → Int → Option (Bool)
  | 0, _, _, _, _, _, _, _, _, _, _, _, _ => none
  | k + 1, x0, x1, x2, x9, x10, x11, x60, x235000, x235001, x235002, x235003, x235004 => if x60 = true then (if 0 ≤ x11 then (if x11 < (x2.length : Int) then (beadlelaw12_CbsWindows.j2 k x0 x1 x2 (wrap64 (x9 + ((rd_T36 x2 x11).f2))) x10 x11 x235000 x235001 x235002 x235003 x235004) else (none)) else (none)) else (beadlelaw12_CbsWindows.j2 k x0 x1 x2 x9 x10 x11 x235000 x235001 x235002 x235003 x235004)
def beadlelaw12_CbsWindows.j2 : Nat → Int → Int → List (S36) → Int → Int → Int → Int → Int → Int → Int → Int → Option (Bool)
  | 0, _, _, _, _, _, _, _, _, _, _, _ => none
  | k + 1, x0, x1, x2, x9, x10, x11, x235000, x235001, x235002, x235003, x235004 => if 0 ≤ x11 then (if x11 < (x2.length : Int) then (if ((rd_T36 x2 x11).f0) = 0 then ((cbs_Wake.f k x235000 x235001 x235002 x235003 x235004 x9).bind fun bt240 => (beadlelaw12_CbsWindows.j3 k x0 x1 x2 x9 x10 x11 bt240.1 bt240.2.1 bt240.2.2.1 bt240.2.2.2.1 bt240.2.2.2.2.1 x235000 x235001 x235002 x235003 x235004)) else (if ((rd_T36 x2 x11).f0) = 1 then ((cbs_Use.f k x235000 x235001 x235002 x235003 x235004 ((rd_T36 x2 x11).f1)).bind fun bt247 => (beadlelaw12_CbsWindows.j3 k x0 x1 x2 x9 x10 x11 bt247.1 bt247.2.1 bt247.2.2.1 bt247.2.2.2.1 bt247.2.2.2.2.1 x235000 x235001 x235002 x235003 x235004)) else (if ((rd_T36 x2 x11).f0) = 2 then ((cbs_Idle.f x235000 x235001 x235002 x235003 x235004).bind fun bt253 => (beadlelaw12_CbsWindows.j3 k x0 x1 x2 x9 x10 x11 bt253.1 bt253.2.1 bt253.2.2.1 bt253.2.2.2.1 bt253.2.2.2.2.1 x235000 x235001 x235002 x235003 x235004)) else (if ((rd_T36 x2 x11).f0) = 3 then ((cbs_Wait.f x235000 x235001 x235002 x235003 x235004).bind fun bt259 => (beadlelaw12_CbsWindows.j3 k x0 x1 x2 x9 x10 x11 bt259.1 bt259.2.1 bt259.2.2.1 bt259.2.2.2.1 bt259.2.2.2.2.1 x235000 x235001 x235002 x235003 x235004)) else ((cbs_Turn.f k x235000 x235001 x235002 x235003 x235004 x9).bind fun bt265 => (beadlelaw12_CbsWindows.j3 k x0 x1 x2 x9 x10 x11 bt265.1 bt265.2.1 bt265.2.2.1 bt265.2.2.2.1 bt265.2.2.2.2.1 x235000 x235001 x235002 x235003 x235004)))))) else (none)) else (none)
def beadlelaw12_CbsWindows.j3 : Nat → Int → Int → List (S36) → Int → Int → Int → Int → Int → Int → Int → Int → Int → Int → Int → Int → Int → Option (Bool)
  | 0, _, _, _, _, _, _, _, _, _, _, _, _, _, _, _, _ => none
  | k + 1, x0, x1, x2, x9, x10, x11, x235000, x235001, x235002, x235003, x235004, x239000, x239001, x239002, x239003, x239004 => (cbs_Good.f x235000 x235001 x235002 x235003 x235004).bind fun t271 => (if t271 = true then (if x235003 < x239003 then (beadlelaw12_CbsWindows.j4 k x0 x1 x2 x9 x10 x11 true x235000 x235001 x235002 x235003 x235004 x239000 x239001 x239002 x239003 x239004) else (if x235003 > x239003 then (if (wrap64 (x235003 - x239003)) < x1 then (beadlelaw12_CbsWindows.j4 k x0 x1 x2 x9 x10 x11 true x235000 x235001 x235002 x235003 x235004 x239000 x239001 x239002 x239003 x239004) else (if x235000 = x0 then (beadlelaw12_CbsWindows.j4 k x0 x1 x2 x9 x10 x11 (x235001 != x1) x235000 x235001 x235002 x235003 x235004 x239000 x239001 x239002 x239003 x239004) else (beadlelaw12_CbsWindows.j4 k x0 x1 x2 x9 x10 x11 true x235000 x235001 x235002 x235003 x235004 x239000 x239001 x239002 x239003 x239004))) else (if x235000 = x0 then (beadlelaw12_CbsWindows.j4 k x0 x1 x2 x9 x10 x11 (x235001 != x1) x235000 x235001 x235002 x235003 x235004 x239000 x239001 x239002 x239003 x239004) else (beadlelaw12_CbsWindows.j4 k x0 x1 x2 x9 x10 x11 true x235000 x235001 x235002 x235003 x235004 x239000 x239001 x239002 x239003 x239004)))) else (beadlelaw12_CbsWindows.j4 k x0 x1 x2 x9 x10 x11 true x235000 x235001 x235002 x235003 x235004 x239000 x239001 x239002 x239003 x239004))
def beadlelaw12_CbsWindows.j4 : Nat → Int → Int → List (S36) → Int → Int → Int → Bool → Int → Int → Int → Int → Int → Int → Int → Int → Int → Int → Option (Bool)
  | 0, _, _, _, _, _, _, _, _, _, _, _, _, _, _, _, _, _ => none
  | k + 1, x0, x1, x2, x9, x10, x11, x151, x235000, x235001, x235002, x235003, x235004, x239000, x239001, x239002, x239003, x239004 => if x151 = true then (some false) else (if x235003 = x239003 then (if x235002 < x239002 then (if 0 ≤ x11 then (if x11 < (x2.length : Int) then (beadlelaw12_CbsWindows.j5 k x0 x1 x2 x9 x10 x11 (((rd_T36 x2 x11).f0) == 1) x235000 x235001 x235002 x235003 x235004 x239000 x239001 x239002 x239003 x239004) else (none)) else (none)) else (beadlelaw12_CbsWindows.j5 k x0 x1 x2 x9 x10 x11 false x235000 x235001 x235002 x235003 x235004 x239000 x239001 x239002 x239003 x239004)) else (if 0 > x0 then (some false) else (if (wrap64 (0 + x235002)) > x0 then (some false) else (beadlelaw12_CbsWindows.l0 k x0 x1 x2 x9 0 (wrap64 (x11 + 1)) x235000 x235001 x235002 x235003 x235004))))
def beadlelaw12_CbsWindows.j5 : Nat → Int → Int → List (S36) → Int → Int → Int → Bool → Int → Int → Int → Int → Int → Int → Int → Int → Int → Int → Option (Bool)
  | 0, _, _, _, _, _, _, _, _, _, _, _, _, _, _, _, _, _ => none
  | k + 1, x0, x1, x2, x9, x10, x11, x169, x235000, x235001, x235002, x235003, x235004, x239000, x239001, x239002, x239003, x239004 => if x169 = true then (if (wrap64 ((wrap64 (x10 + x239002)) - x235002)) > x0 then (some false) else (if (wrap64 ((wrap64 ((wrap64 (x10 + x239002)) - x235002)) + x235002)) > x0 then (some false) else (beadlelaw12_CbsWindows.l0 k x0 x1 x2 x9 (wrap64 ((wrap64 (x10 + x239002)) - x235002)) (wrap64 (x11 + 1)) x235000 x235001 x235002 x235003 x235004))) else (if x235002 > x239002 then (some false) else (if x10 > x0 then (some false) else (if (wrap64 (x10 + x235002)) > x0 then (some false) else (beadlelaw12_CbsWindows.l0 k x0 x1 x2 x9 x10 (wrap64 (x11 + 1)) x235000 x235001 x235002 x235003 x235004))))
end
def beadlelaw12_CbsWindows.f (k : Nat) (a0 : Int) (a1 : Int) (l2 : List (S36)) : Option (Bool) := (beadlelaw12_awake.f k).bind fun t227 => (if t227 = true then (if (l2.length : Int) > 100 then (some true) else ((cbs_New.f a0 a1).bind fun bt228 => (if bt228.2.2.2.2.2 = 0 then (beadlelaw12_CbsWindows.l0 k a0 a1 l2 0 0 0 bt228.1 bt228.2.1 bt228.2.2.1 bt228.2.2.2.1 bt228.2.2.2.2.1) else (if a0 < 1 then (some true) else (if a1 < 1 then (some true) else (if a1 > 2147483648 then (some true) else (some (decide (a0 > a1))))))))) else (some false))

end Go.Proofs.Ytofbjgkoaiiagaa.Q
