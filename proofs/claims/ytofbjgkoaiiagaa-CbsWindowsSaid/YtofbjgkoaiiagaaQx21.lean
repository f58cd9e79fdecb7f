-- Written by myprint.py: the kit's print program with patches of this session; Lean checks it.
import Derived.Test.YtofbjgkoaiiagaaQx0
import Derived.Test.YtofbjgkoaiiagaaQx4
import Derived.Test.YtofbjgkoaiiagaaQx10
import Derived.Test.YtofbjgkoaiiagaaQx11
import Derived.Test.YtofbjgkoaiiagaaQx12
import Derived.Test.YtofbjgkoaiiagaaQx14
import Derived.Test.YtofbjgkoaiiagaaQx17
import Derived.Test.YtofbjgkoaiiagaaQx19
import Derived.Test.YtofbjgkoaiiagaaQx20
import Derived.Test.YtofbjgkoaiiagaaWinD
namespace Go.Proofs.Ytofbjgkoaiiagaa.Q
open Go.RowKit Go.Proofs.YtofbjgkoaiiagaaW.PrintWords Go.Proofs.YtofbjgkoaiiagaaW.PrintLast Go.Proofs.YtofbjgkoaiiagaaW.PrintMore
attribute [local go_sem] max2_int min2_int max_two min_two max_three min_three max_four min_four   -- for this text's walks alone
set_option linter.unusedVariables false
set_option linter.unusedSimpArgs false

/-! ### beadlelaw12_CbsWindows: function 6 -/
theorem beadlelaw12_CbsWindows.mono_l : ∀ k, (∀ y0 y1 y2 y3 y4 y5 y6 y7 y8 y9 y10, LeO (beadlelaw12_CbsWindows.l0 k y0 y1 y2 y3 y4 y5 y6 y7 y8 y9 y10) (beadlelaw12_CbsWindows.l0 (k + 1) y0 y1 y2 y3 y4 y5 y6 y7 y8 y9 y10)) ∧ (∀ y0 y1 y2 y3 y4 y5 y6 y7 y8 y9 y10 y11, LeO (beadlelaw12_CbsWindows.j1 k y0 y1 y2 y3 y4 y5 y6 y7 y8 y9 y10 y11) (beadlelaw12_CbsWindows.j1 (k + 1) y0 y1 y2 y3 y4 y5 y6 y7 y8 y9 y10 y11)) ∧ (∀ y0 y1 y2 y3 y4 y5 y6 y7 y8 y9 y10, LeO (beadlelaw12_CbsWindows.j2 k y0 y1 y2 y3 y4 y5 y6 y7 y8 y9 y10) (beadlelaw12_CbsWindows.j2 (k + 1) y0 y1 y2 y3 y4 y5 y6 y7 y8 y9 y10)) ∧ (∀ y0 y1 y2 y3 y4 y5 y6 y7 y8 y9 y10 y11 y12 y13 y14 y15, LeO (beadlelaw12_CbsWindows.j3 k y0 y1 y2 y3 y4 y5 y6 y7 y8 y9 y10 y11 y12 y13 y14 y15) (beadlelaw12_CbsWindows.j3 (k + 1) y0 y1 y2 y3 y4 y5 y6 y7 y8 y9 y10 y11 y12 y13 y14 y15)) ∧ (∀ y0 y1 y2 y3 y4 y5 y6 y7 y8 y9 y10 y11 y12 y13 y14 y15 y16, LeO (beadlelaw12_CbsWindows.j4 k y0 y1 y2 y3 y4 y5 y6 y7 y8 y9 y10 y11 y12 y13 y14 y15 y16) (beadlelaw12_CbsWindows.j4 (k + 1) y0 y1 y2 y3 y4 y5 y6 y7 y8 y9 y10 y11 y12 y13 y14 y15 y16)) ∧ (∀ y0 y1 y2 y3 y4 y5 y6 y7 y8 y9 y10 y11 y12 y13 y14 y15 y16, LeO (beadlelaw12_CbsWindows.j5 k y0 y1 y2 y3 y4 y5 y6 y7 y8 y9 y10 y11 y12 y13 y14 y15 y16) (beadlelaw12_CbsWindows.j5 (k + 1) y0 y1 y2 y3 y4 y5 y6 y7 y8 y9 y10 y11 y12 y13 y14 y15 y16))
  | 0 => ⟨fun _ _ _ _ _ _ _ _ _ _ _ r h => by simp [beadlelaw12_CbsWindows.l0] at h, fun _ _ _ _ _ _ _ _ _ _ _ _ r h => by simp [beadlelaw12_CbsWindows.j1] at h, fun _ _ _ _ _ _ _ _ _ _ _ r h => by simp [beadlelaw12_CbsWindows.j2] at h, fun _ _ _ _ _ _ _ _ _ _ _ _ _ _ _ _ r h => by simp [beadlelaw12_CbsWindows.j3] at h, fun _ _ _ _ _ _ _ _ _ _ _ _ _ _ _ _ _ r h => by simp [beadlelaw12_CbsWindows.j4] at h, fun _ _ _ _ _ _ _ _ _ _ _ _ _ _ _ _ _ r h => by simp [beadlelaw12_CbsWindows.j5] at h⟩
  | k + 1 => by
    obtain ⟨ih0, ih1, ih2, ih3, ih4, ih5⟩ := beadlelaw12_CbsWindows.mono_l k
    refine ⟨?_, ?_, ?_, ?_, ?_, ?_⟩
    · intro y0 y1 y2 y3 y4 y5 y6 y7 y8 y9 y10
      unfold beadlelaw12_CbsWindows.l0
      repeat' first
      | (with_reducible exact ih0 _ _ _ _ _ _ _ _ _ _ _)
      | (with_reducible exact ih1 _ _ _ _ _ _ _ _ _ _ _ _)
      | (with_reducible exact ih2 _ _ _ _ _ _ _ _ _ _ _)
      | (with_reducible exact ih3 _ _ _ _ _ _ _ _ _ _ _ _ _ _ _ _)
      | (with_reducible exact ih4 _ _ _ _ _ _ _ _ _ _ _ _ _ _ _ _ _)
      | (with_reducible exact ih5 _ _ _ _ _ _ _ _ _ _ _ _ _ _ _ _ _)
      | (with_reducible exact beadlelaw12_awake.mono _)
      | (with_reducible exact cbs_Turn.mono _ _ _ _ _ _ _)
      | (with_reducible exact cbs_Use.mono _ _ _ _ _ _ _)
      | (with_reducible exact cbs_Wake.mono _ _ _ _ _ _ _)
      | (with_reducible exact LeO.refl _)
      | (with_reducible exact LeO.none _)
      | (with_reducible refine LeO.ite ?_ ?_)
      | (with_reducible refine LeO.bind ?_ (fun _ => ?_))
      | exact ih0 _ _ _ _ _ _ _ _ _ _ _
      | exact ih1 _ _ _ _ _ _ _ _ _ _ _ _
      | exact ih2 _ _ _ _ _ _ _ _ _ _ _
      | exact ih3 _ _ _ _ _ _ _ _ _ _ _ _ _ _ _ _
      | exact ih4 _ _ _ _ _ _ _ _ _ _ _ _ _ _ _ _ _
      | exact ih5 _ _ _ _ _ _ _ _ _ _ _ _ _ _ _ _ _
      | exact beadlelaw12_awake.mono _
      | exact cbs_Turn.mono _ _ _ _ _ _ _
      | exact cbs_Use.mono _ _ _ _ _ _ _
      | exact cbs_Wake.mono _ _ _ _ _ _ _
      | exact LeO.none _
      | refine LeO.ite ?_ ?_
      | refine LeO.bind ?_ (fun _ => ?_)
    · intro y0 y1 y2 y3 y4 y5 y6 y7 y8 y9 y10 y11
      unfold beadlelaw12_CbsWindows.j1
      repeat' first
      | (with_reducible exact ih0 _ _ _ _ _ _ _ _ _ _ _)
      | (with_reducible exact ih1 _ _ _ _ _ _ _ _ _ _ _ _)
      | (with_reducible exact ih2 _ _ _ _ _ _ _ _ _ _ _)
      | (with_reducible exact ih3 _ _ _ _ _ _ _ _ _ _ _ _ _ _ _ _)
      | (with_reducible exact ih4 _ _ _ _ _ _ _ _ _ _ _ _ _ _ _ _ _)
      | (with_reducible exact ih5 _ _ _ _ _ _ _ _ _ _ _ _ _ _ _ _ _)
      | (with_reducible exact beadlelaw12_awake.mono _)
      | (with_reducible exact cbs_Turn.mono _ _ _ _ _ _ _)
      | (with_reducible exact cbs_Use.mono _ _ _ _ _ _ _)
      | (with_reducible exact cbs_Wake.mono _ _ _ _ _ _ _)
      | (with_reducible exact LeO.refl _)
      | (with_reducible exact LeO.none _)
      | (with_reducible refine LeO.ite ?_ ?_)
      | (with_reducible refine LeO.bind ?_ (fun _ => ?_))
      | exact ih0 _ _ _ _ _ _ _ _ _ _ _
      | exact ih1 _ _ _ _ _ _ _ _ _ _ _ _
      | exact ih2 _ _ _ _ _ _ _ _ _ _ _
      | exact ih3 _ _ _ _ _ _ _ _ _ _ _ _ _ _ _ _
      | exact ih4 _ _ _ _ _ _ _ _ _ _ _ _ _ _ _ _ _
      | exact ih5 _ _ _ _ _ _ _ _ _ _ _ _ _ _ _ _ _
      | exact beadlelaw12_awake.mono _
      | exact cbs_Turn.mono _ _ _ _ _ _ _
      | exact cbs_Use.mono _ _ _ _ _ _ _
      | exact cbs_Wake.mono _ _ _ _ _ _ _
      | exact LeO.none _
      | refine LeO.ite ?_ ?_
      | refine LeO.bind ?_ (fun _ => ?_)
    · intro y0 y1 y2 y3 y4 y5 y6 y7 y8 y9 y10
      unfold beadlelaw12_CbsWindows.j2
      repeat' first
      | (with_reducible exact ih0 _ _ _ _ _ _ _ _ _ _ _)
      | (with_reducible exact ih1 _ _ _ _ _ _ _ _ _ _ _ _)
      | (with_reducible exact ih2 _ _ _ _ _ _ _ _ _ _ _)
      | (with_reducible exact ih3 _ _ _ _ _ _ _ _ _ _ _ _ _ _ _ _)
      | (with_reducible exact ih4 _ _ _ _ _ _ _ _ _ _ _ _ _ _ _ _ _)
      | (with_reducible exact ih5 _ _ _ _ _ _ _ _ _ _ _ _ _ _ _ _ _)
      | (with_reducible exact beadlelaw12_awake.mono _)
      | (with_reducible exact cbs_Turn.mono _ _ _ _ _ _ _)
      | (with_reducible exact cbs_Use.mono _ _ _ _ _ _ _)
      | (with_reducible exact cbs_Wake.mono _ _ _ _ _ _ _)
      | (with_reducible exact LeO.refl _)
      | (with_reducible exact LeO.none _)
      | (with_reducible refine LeO.ite ?_ ?_)
      | (with_reducible refine LeO.bind ?_ (fun _ => ?_))
      | exact ih0 _ _ _ _ _ _ _ _ _ _ _
      | exact ih1 _ _ _ _ _ _ _ _ _ _ _ _
      | exact ih2 _ _ _ _ _ _ _ _ _ _ _
      | exact ih3 _ _ _ _ _ _ _ _ _ _ _ _ _ _ _ _
      | exact ih4 _ _ _ _ _ _ _ _ _ _ _ _ _ _ _ _ _
      | exact ih5 _ _ _ _ _ _ _ _ _ _ _ _ _ _ _ _ _
      | exact beadlelaw12_awake.mono _
      | exact cbs_Turn.mono _ _ _ _ _ _ _
      | exact cbs_Use.mono _ _ _ _ _ _ _
      | exact cbs_Wake.mono _ _ _ _ _ _ _
      | exact LeO.none _
      | refine LeO.ite ?_ ?_
      | refine LeO.bind ?_ (fun _ => ?_)
    · intro y0 y1 y2 y3 y4 y5 y6 y7 y8 y9 y10 y11 y12 y13 y14 y15
      unfold beadlelaw12_CbsWindows.j3
      repeat' first
      | (with_reducible exact ih0 _ _ _ _ _ _ _ _ _ _ _)
      | (with_reducible exact ih1 _ _ _ _ _ _ _ _ _ _ _ _)
      | (with_reducible exact ih2 _ _ _ _ _ _ _ _ _ _ _)
      | (with_reducible exact ih3 _ _ _ _ _ _ _ _ _ _ _ _ _ _ _ _)
      | (with_reducible exact ih4 _ _ _ _ _ _ _ _ _ _ _ _ _ _ _ _ _)
      | (with_reducible exact ih5 _ _ _ _ _ _ _ _ _ _ _ _ _ _ _ _ _)
      | (with_reducible exact beadlelaw12_awake.mono _)
      | (with_reducible exact cbs_Turn.mono _ _ _ _ _ _ _)
      | (with_reducible exact cbs_Use.mono _ _ _ _ _ _ _)
      | (with_reducible exact cbs_Wake.mono _ _ _ _ _ _ _)
      | (with_reducible exact LeO.refl _)
      | (with_reducible exact LeO.none _)
      | (with_reducible refine LeO.ite ?_ ?_)
      | (with_reducible refine LeO.bind ?_ (fun _ => ?_))
      | exact ih0 _ _ _ _ _ _ _ _ _ _ _
      | exact ih1 _ _ _ _ _ _ _ _ _ _ _ _
      | exact ih2 _ _ _ _ _ _ _ _ _ _ _
      | exact ih3 _ _ _ _ _ _ _ _ _ _ _ _ _ _ _ _
      | exact ih4 _ _ _ _ _ _ _ _ _ _ _ _ _ _ _ _ _
      | exact ih5 _ _ _ _ _ _ _ _ _ _ _ _ _ _ _ _ _
      | exact beadlelaw12_awake.mono _
      | exact cbs_Turn.mono _ _ _ _ _ _ _
      | exact cbs_Use.mono _ _ _ _ _ _ _
      | exact cbs_Wake.mono _ _ _ _ _ _ _
      | exact LeO.none _
      | refine LeO.ite ?_ ?_
      | refine LeO.bind ?_ (fun _ => ?_)
    · intro y0 y1 y2 y3 y4 y5 y6 y7 y8 y9 y10 y11 y12 y13 y14 y15 y16
      unfold beadlelaw12_CbsWindows.j4
      repeat' first
      | (with_reducible exact ih0 _ _ _ _ _ _ _ _ _ _ _)
      | (with_reducible exact ih1 _ _ _ _ _ _ _ _ _ _ _ _)
      | (with_reducible exact ih2 _ _ _ _ _ _ _ _ _ _ _)
      | (with_reducible exact ih3 _ _ _ _ _ _ _ _ _ _ _ _ _ _ _ _)
      | (with_reducible exact ih4 _ _ _ _ _ _ _ _ _ _ _ _ _ _ _ _ _)
      | (with_reducible exact ih5 _ _ _ _ _ _ _ _ _ _ _ _ _ _ _ _ _)
      | (with_reducible exact beadlelaw12_awake.mono _)
      | (with_reducible exact cbs_Turn.mono _ _ _ _ _ _ _)
      | (with_reducible exact cbs_Use.mono _ _ _ _ _ _ _)
      | (with_reducible exact cbs_Wake.mono _ _ _ _ _ _ _)
      | (with_reducible exact LeO.refl _)
      | (with_reducible exact LeO.none _)
      | (with_reducible refine LeO.ite ?_ ?_)
      | (with_reducible refine LeO.bind ?_ (fun _ => ?_))
      | exact ih0 _ _ _ _ _ _ _ _ _ _ _
      | exact ih1 _ _ _ _ _ _ _ _ _ _ _ _
      | exact ih2 _ _ _ _ _ _ _ _ _ _ _
      | exact ih3 _ _ _ _ _ _ _ _ _ _ _ _ _ _ _ _
      | exact ih4 _ _ _ _ _ _ _ _ _ _ _ _ _ _ _ _ _
      | exact ih5 _ _ _ _ _ _ _ _ _ _ _ _ _ _ _ _ _
      | exact beadlelaw12_awake.mono _
      | exact cbs_Turn.mono _ _ _ _ _ _ _
      | exact cbs_Use.mono _ _ _ _ _ _ _
      | exact cbs_Wake.mono _ _ _ _ _ _ _
      | exact LeO.none _
      | refine LeO.ite ?_ ?_
      | refine LeO.bind ?_ (fun _ => ?_)
    · intro y0 y1 y2 y3 y4 y5 y6 y7 y8 y9 y10 y11 y12 y13 y14 y15 y16
      unfold beadlelaw12_CbsWindows.j5
      repeat' first
      | (with_reducible exact ih0 _ _ _ _ _ _ _ _ _ _ _)
      | (with_reducible exact ih1 _ _ _ _ _ _ _ _ _ _ _ _)
      | (with_reducible exact ih2 _ _ _ _ _ _ _ _ _ _ _)
      | (with_reducible exact ih3 _ _ _ _ _ _ _ _ _ _ _ _ _ _ _ _)
      | (with_reducible exact ih4 _ _ _ _ _ _ _ _ _ _ _ _ _ _ _ _ _)
      | (with_reducible exact ih5 _ _ _ _ _ _ _ _ _ _ _ _ _ _ _ _ _)
      | (with_reducible exact beadlelaw12_awake.mono _)
      | (with_reducible exact cbs_Turn.mono _ _ _ _ _ _ _)
      | (with_reducible exact cbs_Use.mono _ _ _ _ _ _ _)
      | (with_reducible exact cbs_Wake.mono _ _ _ _ _ _ _)
      | (with_reducible exact LeO.refl _)
      | (with_reducible exact LeO.none _)
      | (with_reducible refine LeO.ite ?_ ?_)
      | (with_reducible refine LeO.bind ?_ (fun _ => ?_))
      | exact ih0 _ _ _ _ _ _ _ _ _ _ _
      | exact ih1 _ _ _ _ _ _ _ _ _ _ _ _
      | exact ih2 _ _ _ _ _ _ _ _ _ _ _
      | exact ih3 _ _ _ _ _ _ _ _ _ _ _ _ _ _ _ _
      | exact ih4 _ _ _ _ _ _ _ _ _ _ _ _ _ _ _ _ _
      | exact ih5 _ _ _ _ _ _ _ _ _ _ _ _ _ _ _ _ _
      | exact beadlelaw12_awake.mono _
      | exact cbs_Turn.mono _ _ _ _ _ _ _
      | exact cbs_Use.mono _ _ _ _ _ _ _
      | exact cbs_Wake.mono _ _ _ _ _ _ _
      | exact LeO.none _
      | refine LeO.ite ?_ ?_
      | refine LeO.bind ?_ (fun _ => ?_)
theorem beadlelaw12_CbsWindows.mono : ∀ a0 a1 a2 k, LeO (beadlelaw12_CbsWindows.f k a0 a1 a2) (beadlelaw12_CbsWindows.f (k + 1) a0 a1 a2) := by
  intro a0 a1 a2 k
  obtain ⟨ih0, ih1, ih2, ih3, ih4, ih5⟩ := beadlelaw12_CbsWindows.mono_l k
  unfold beadlelaw12_CbsWindows.f
  repeat' first
      | (with_reducible exact ih0 _ _ _ _ _ _ _ _ _ _ _)
      | (with_reducible exact ih1 _ _ _ _ _ _ _ _ _ _ _ _)
      | (with_reducible exact ih2 _ _ _ _ _ _ _ _ _ _ _)
      | (with_reducible exact ih3 _ _ _ _ _ _ _ _ _ _ _ _ _ _ _ _)
      | (with_reducible exact ih4 _ _ _ _ _ _ _ _ _ _ _ _ _ _ _ _ _)
      | (with_reducible exact ih5 _ _ _ _ _ _ _ _ _ _ _ _ _ _ _ _ _)
      | (with_reducible exact beadlelaw12_awake.mono _)
      | (with_reducible exact cbs_Turn.mono _ _ _ _ _ _ _)
      | (with_reducible exact cbs_Use.mono _ _ _ _ _ _ _)
      | (with_reducible exact cbs_Wake.mono _ _ _ _ _ _ _)
      | (with_reducible exact LeO.refl _)
      | (with_reducible exact LeO.none _)
      | (with_reducible refine LeO.ite ?_ ?_)
      | (with_reducible refine LeO.bind ?_ (fun _ => ?_))
      | exact ih0 _ _ _ _ _ _ _ _ _ _ _
      | exact ih1 _ _ _ _ _ _ _ _ _ _ _ _
      | exact ih2 _ _ _ _ _ _ _ _ _ _ _
      | exact ih3 _ _ _ _ _ _ _ _ _ _ _ _ _ _ _ _
      | exact ih4 _ _ _ _ _ _ _ _ _ _ _ _ _ _ _ _ _
      | exact ih5 _ _ _ _ _ _ _ _ _ _ _ _ _ _ _ _ _
      | exact beadlelaw12_awake.mono _
      | exact cbs_Turn.mono _ _ _ _ _ _ _
      | exact cbs_Use.mono _ _ _ _ _ _ _
      | exact cbs_Wake.mono _ _ _ _ _ _ _
      | exact LeO.none _
      | refine LeO.ite ?_ ?_
      | refine LeO.bind ?_ (fun _ => ?_)
def beadlelaw12_CbsWindows.T20 : Bool × List (List Nat × List Nat) := (true, [([], []), ([], []), ([], []), ([1, 2], [1, 2]), ([3], [3]), ([4], [4]), ([0, 5], [0, 5]), ([6], [6]), ([7], [7]), ([7], [7]), ([8, 6, 0, 1, 2, 3, 4, 5, 6, 7, 8], [8])])
def beadlelaw12_CbsWindows.B20 : List Nat := [0, 0, 0, 6, 14, 30, 63, 127, 255, 255, 511]
theorem beadlelaw12_CbsWindows.tab20 : rtab .any (opsOf Try.f6 20) = beadlelaw12_CbsWindows.T20 := by kernel_rfl
theorem beadlelaw12_CbsWindows.bits20 : waitsOk beadlelaw12_CbsWindows.T20.2 beadlelaw12_CbsWindows.B20 = true := by kernel_rfl
set_option maxHeartbeats 20000000 in
set_option maxRecDepth 100000 in
theorem beadlelaw12_CbsWindows.calls (k : Nat) (a0 : Int) (a1 : Int) (A2 : Option Addr) (c2 : Nat) (l2 : List (S36)) (r : Bool) (w : World) (hr2 : Kd.C k36 w A2 l2.length l2) (hc2 : l2.length ≤ c2) (h : beadlelaw12_CbsWindows.f k a0 a1 l2 = some r) :
    Calls Try.prog 6 #[.int .i64 a0, .int .i64 a1, .slice A2 l2.length c2] w fun e w' => e = .returned (.bool r) ∧ Below w.heap.size w w' := by
  have hu23 := Try.underlying23
  have HR2 := Aside0.mk hr2
  have HC2 := Aside0.mk hc2
  clear hr2 hc2
  have HB := Aside0.mk (Below.refl w.heap.size w)
  have H : ((beadlelaw12_awake.f k).bind fun t227 => (if t227 = true then (if (l2.length : Int) > 100 then (some true) else ((cbs_New.f a0 a1).bind fun bt228 => (if bt228.2.2.2.2.2 = 0 then (beadlelaw12_CbsWindows.l0 k a0 a1 l2 0 0 0 bt228.1 bt228.2.1 bt228.2.2.1 bt228.2.2.2.1 bt228.2.2.2.2.1) else (if a0 < 1 then (some true) else (if a1 < 1 then (some true) else (if a1 > 2147483648 then (some true) else (some (decide (a0 > a1))))))))) else (some false))) = some r := h
  clear h
  replace H := Option.bind_eq_some_iff.mp H
  obtain ⟨t227, A40, H⟩ := H
  replace H : (if t227 = true then (if (l2.length : Int) > 100 then (some true) else ((cbs_New.f a0 a1).bind fun bt228 => (if bt228.2.2.2.2.2 = 0 then (beadlelaw12_CbsWindows.l0 k a0 a1 l2 0 0 0 bt228.1 bt228.2.1 bt228.2.2.1 bt228.2.2.2.1 bt228.2.2.2.2.1) else (if a0 < 1 then (some true) else (if a1 < 1 then (some true) else (if a1 > 2147483648 then (some true) else (some (decide (a0 > a1))))))))) else (some false)) = some r := H
  have A4 := Aside0.mk A40
  clear A40
  by_cases c5 : t227 = true
  · subst c5
    have H1 : (if (l2.length : Int) > 100 then (some true) else ((cbs_New.f a0 a1).bind fun bt228 => (if bt228.2.2.2.2.2 = 0 then (beadlelaw12_CbsWindows.l0 k a0 a1 l2 0 0 0 bt228.1 bt228.2.1 bt228.2.2.1 bt228.2.2.2.1 bt228.2.2.2.2.1) else (if a0 < 1 then (some true) else (if a1 < 1 then (some true) else (if a1 > 2147483648 then (some true) else (some (decide (a0 > a1))))))))) = some r := by rw [if_pos rfl] at H; exact H
    clear H
    have H := H1
    clear H1
    by_cases c6 : (l2.length : Int) > 100
    · rw [if_pos c6] at H
      have c6b0 : decide (100 < (l2.length : Int)) = true := decide_eq_true c6
      have c6b1 : decide (100 < l2.length) = true := decide_eq_true (by omega)
      clear c6
      obtain rfl := Option.some.inj H
      go_enter Try.func6, Try.ntmps6
      go_wp2_with (first | ((with_reducible refine gate_callee (f := 9) rfl ?_); refine goesL_ (some 13) rfl rfl Try.func9 (by kernel_rfl) rfl #[] rfl (by (try simp only [List.map_toArray, List.map_cons, List.map_nil]); first | done | rfl | (simp only [List.length_drop, List.length_take]; rfl)) ?_; (with_reducible refine (beadlelaw12_awake.calls k  true _ A4.out).mono ?_); rintro e w7 ⟨rfl, hb⟩; refine ⟨_, rfl, ?_⟩; have n0_ := Aside0.mk (below_step (by repeat (first | (with_reducible first | exact HB.out | apply below_alloc | apply pw_below_drewN | apply below_drew1) | exact HB.out)) hb); clear HB; have HB := n0_; clear n0_; (try clear hb); (try clear hb2); (try clear hk); (try clear hi)))
      go_ret
      exact ⟨by first | rfl | (simp [errW_none, errW_some] <;> rfl) | (simp [*, errW_none, errW_some] <;> rfl), by repeat (first | (with_reducible first | exact HB.out | apply below_alloc | apply pw_below_drewN | apply below_drew1) | exact HB.out)⟩
    · rw [if_neg c6] at H
      have c6b0 : decide (100 < (l2.length : Int)) = false := decide_eq_false c6
      have c6b1 : decide (100 < l2.length) = false := decide_eq_false (by omega)
      clear c6
      replace H := Option.bind_eq_some_iff.mp H
      obtain ⟨⟨t228, t229, t230, t231, t232, t233⟩, A80, H⟩ := H
      replace H : (if t233 = 0 then (beadlelaw12_CbsWindows.l0 k a0 a1 l2 0 0 0 t228 t229 t230 t231 t232) else (if a0 < 1 then (some true) else (if a1 < 1 then (some true) else (if a1 > 2147483648 then (some true) else (some (decide (a0 > a1))))))) = some r := H
      have A8 := Aside0.mk A80
      clear A80
      by_cases c9 : t233 = 0
      · rw [if_pos c9] at H
        have c9b0 : (t233 == 0) = true := beq_iff_eq.mpr c9
        have c9b1 : (t233 != 0) = false := bne_eq_false_iff_eq.mpr c9
        clear c9
        have H' := Aside0.mk H
        clear H
        go_enter Try.func6, Try.ntmps6
        go_wp2_with (first | ((with_reducible refine gate_callee (f := 9) rfl ?_); refine goesL_ (some 13) rfl rfl Try.func9 (by kernel_rfl) rfl #[] rfl (by (try simp only [List.map_toArray, List.map_cons, List.map_nil]); first | done | rfl | (simp only [List.length_drop, List.length_take]; rfl)) ?_; (with_reducible refine (beadlelaw12_awake.calls k  true _ A4.out).mono ?_); rintro e w10 ⟨rfl, hb⟩; refine ⟨_, rfl, ?_⟩; have n0_ := Aside0.mk (below_step (by repeat (first | (with_reducible first | exact HB.out | apply below_alloc | apply pw_below_drewN | apply below_drew1) | exact HB.out)) hb); clear HB; have HB := n0_; clear n0_; (try clear hb); (try clear hb2); (try clear hk); (try clear hi)) | ((with_reducible refine gate_callee (f := 14) rfl ?_); refine goesL_ (some 21) rfl rfl Try.func14 (by kernel_rfl) rfl #[.int .i64 a0, .int .i64 a1] rfl (by (try simp only [List.map_toArray, List.map_cons, List.map_nil]); first | done | rfl | (simp only [List.length_drop, List.length_take]; rfl)) ?_; (with_reducible refine (cbs_New.calls a0 a1 t228 t229 t230 t231 t232 t233 _ A8.out).mono ?_); rintro e w11 ⟨rfl, hb⟩; refine ⟨_, rfl, ?_⟩; have n0_ := Aside0.mk (below_step (by repeat (first | (with_reducible first | exact HB.out | apply below_alloc | apply pw_below_drewN | apply below_drew1) | exact HB.out)) hb); clear HB; have HB := n0_; clear n0_; (try clear hb); (try clear hb2); (try clear hk); (try clear hi)) | ((with_reducible refine gate_dst (N := 7) rfl ?_); refine box_event ?hg (N := 7) ?hd (cs := #[.int .i64 0, .int .i64 0, .int .i64 0, .int .i64 0, .int .i64 0]) (t := 23) ?hr ?_; (case hd => rfl); (case hg => rfl); (case hr => first | (go_simp; done) | (go_simp; rfl)); intro gb234 hg w12 hbox hb; have n0_ := Aside0.mk (below_step (by repeat (first | (with_reducible first | exact HB.out | apply below_alloc | apply pw_below_drewN | apply below_drew1) | exact HB.out)) hb); have n1_ := Aside0.mk (hbox); have n2_ := Aside0.mk ((by rw [hg]; exact (below_size (by repeat (first | (with_reducible first | exact HB.out | apply below_alloc | apply pw_below_drewN | apply below_drew1) | exact HB.out))) : w.heap.size ≤ gb234)); have n3_ := Aside0.mk ((by rw [hg]; exact (below_size (by repeat (first | (with_reducible first | exact HB.out | apply below_alloc | apply pw_below_drewN | apply below_drew1) | exact HB.out))) : w.heap.size ≤ gb234)); clear HB; have HB := n0_; have BK234 := n1_; have GW234 := n2_; have GE234 := n3_; clear n0_ n1_ n2_ n3_; clear hb hbox hg; have hcz13_0 : w12.cell? ⟨gb234, 0, none⟩ = some (.int .i64 0) := (blk_cell BK234.out 0).trans rfl; have hcz13_1 : w12.cell? ⟨gb234, 1, none⟩ = some (.int .i64 0) := (blk_cell BK234.out 1).trans rfl; have hcz13_2 : w12.cell? ⟨gb234, 2, none⟩ = some (.int .i64 0) := (blk_cell BK234.out 2).trans rfl; have hcz13_3 : w12.cell? ⟨gb234, 3, none⟩ = some (.int .i64 0) := (blk_cell BK234.out 3).trans rfl; have hcz13_4 : w12.cell? ⟨gb234, 4, none⟩ = some (.int .i64 0) := (blk_cell BK234.out 4).trans rfl; have hfz13_0 := blk_frozen BK234.out 0; have hfz13_1 := blk_frozen BK234.out 1; have hfz13_2 := blk_frozen BK234.out 2; have hfz13_3 := blk_frozen BK234.out 3; have hfz13_4 := blk_frozen BK234.out 4))
        go_loopg [9, 10, 11] k (fun kq v9 v10 v11 w' => ∃ (x9_1 : Int) (x10_1 : Int) (x11_1 : Int) (x235000_1 : Int) (x235001_1 : Int) (x235002_1 : Int) (x235003_1 : Int) (x235004_1 : Int), v9 = .int .i64 x9_1 ∧ v10 = .int .i64 x10_1 ∧ v11 = .int .i64 x11_1 ∧ Aside0 (beadlelaw12_CbsWindows.l0 kq a0 a1 l2 x9_1 x10_1 x11_1 x235000_1 x235001_1 x235002_1 x235003_1 x235004_1 = some r) ∧ Aside0 (kq ≤ k) ∧ Aside0 (w'.heap[gb234]? = some (.cells #[.int .i64 x235000_1, .int .i64 x235001_1, .int .i64 x235002_1, .int .i64 x235003_1, .int .i64 x235004_1] 23 (0, 0))) ∧ Aside0 (Below w.heap.size w w'))
        case atStart => exact ⟨(0), (0), (0), (t228), (t229), (t230), (t231), (t232), (by first | rfl | (simp; done) | (simp [*]; done)), (by first | rfl | (simp; done) | (simp [*]; done)), (by first | rfl | (simp; done) | (simp [*]; done)), H', ⟨Nat.le_refl _⟩, ⟨by (with_reducible repeat (first | refine blk_drewN ?_ _ | refine blk_drew ?_ | refine blk_alloc ?_ _)); refine blk_put (cs := #[.int .i64 t228, .int .i64 t229, .int .i64 t230, .int .i64 t231, .int .i64 0]) ?_ 4 _ rfl; (with_reducible repeat (first | refine blk_drewN ?_ _ | refine blk_drew ?_ | refine blk_alloc ?_ _)); refine blk_put (cs := #[.int .i64 t228, .int .i64 t229, .int .i64 t230, .int .i64 0, .int .i64 0]) ?_ 3 _ rfl; (with_reducible repeat (first | refine blk_drewN ?_ _ | refine blk_drew ?_ | refine blk_alloc ?_ _)); refine blk_put (cs := #[.int .i64 t228, .int .i64 t229, .int .i64 0, .int .i64 0, .int .i64 0]) ?_ 2 _ rfl; (with_reducible repeat (first | refine blk_drewN ?_ _ | refine blk_drew ?_ | refine blk_alloc ?_ _)); refine blk_put (cs := #[.int .i64 t228, .int .i64 0, .int .i64 0, .int .i64 0, .int .i64 0]) ?_ 1 _ rfl; (with_reducible repeat (first | refine blk_drewN ?_ _ | refine blk_drew ?_ | refine blk_alloc ?_ _)); refine blk_put (cs := #[.int .i64 0, .int .i64 0, .int .i64 0, .int .i64 0, .int .i64 0]) ?_ 0 _ rfl; (with_reducible repeat (first | refine blk_drewN ?_ _ | refine blk_drew ?_ | refine blk_alloc ?_ _)); exact BK234.out⟩, ⟨by repeat (first | (with_reducible first | exact HB.out | apply below_alloc | apply pw_below_drewN | apply below_drew1 | refine below_set ?_ GE234.out) | exact HB.out)⟩⟩
        case round =>
          clear H'
          try clear c1
          try clear c2
          try clear p2
          try clear c5
          try clear c6
          try clear c6b0
          try clear c6b1
          try clear c9
          try clear c9b0
          try clear c9b1
          try clear hcz13_0
          try clear hcz13_1
          try clear hcz13_2
          try clear hcz13_3
          try clear hcz13_4
          try clear hfz13_0
          try clear hfz13_1
          try clear hfz13_2
          try clear hfz13_3
          try clear hfz13_4
          obtain ⟨x9_1, x10_1, x11_1, x235000_1, x235001_1, x235002_1, x235003_1, x235004_1, rfl, rfl, rfl, HA, HK1, BK234, HB⟩ := hrel
          cases gk with
          | zero => exact absurd HA.out (by simp [beadlelaw12_CbsWindows.l0])
          | succ k1 =>
            have H := HA.out
            clear HA
            simp only [beadlelaw12_CbsWindows.l0] at H
            by_cases c14 : x11_1 < (l2.length : Int)
            · rw [if_pos c14] at H
              have c14b0 : decide (x11_1 < (l2.length : Int)) = true := decide_eq_true c14
              clear c14
              have HC15 := Aside0.mk H
              clear H
              go_upto_region 12 with (fail)
              go_cut [60] (fun v60 wc => ∃ (kq : Nat) (x60_14 : Bool), v60 = .bool x60_14 ∧ Aside0 (beadlelaw12_CbsWindows.j1 kq a0 a1 l2 x9_1 x10_1 x11_1 x60_14 x235000_1 x235001_1 x235002_1 x235003_1 x235004_1 = some r) ∧ Aside0 (kq ≤ k1) ∧ Aside0 (wc.heap[gb234]? = some (.cells #[.int .i64 x235000_1, .int .i64 x235001_1, .int .i64 x235002_1, .int .i64 x235003_1, .int .i64 x235004_1] 23 (0, 0))) ∧ Aside0 (Below w.heap.size w wc))
              case first =>
                have H := HC15.out
                clear HC15
                by_cases c16 : 0 ≤ x11_1
                · as_aux_lemma =>
                  rw [if_pos c16] at H
                  have c16b0 : decide (0 ≤ x11_1) = true := decide_eq_true c16
                  clear c16
                  (first | rw [c16b0] | (simp only [i64_w, i32_w]; rw [c16b0]) | skip)
                  by_cases c17 : ((rd_T36 l2 x11_1).f2) > 0
                  · rw [if_pos c17] at H
                    have c17b0 : decide (0 < ((rd_T36 l2 x11_1).f2)) = true := decide_eq_true c17
                    clear c17
                    have H' := Aside0.mk H
                    clear H
                    have p235 : 0 ≤ (x11_1 : Int) := of_decide_eq_true (by first | (with_reducible assumption) | assumption)
                    have q235 : x11_1 < (l2.length : Int) := of_decide_eq_true (by first | (with_reducible assumption) | assumption)
                    obtain ⟨ad235, e235, hx235_0, hx235_1, hx235_2⟩ := at_T36 HR2.out x11_1 p235 q235
                    cases e235
                    replace hx235_0 := (HB.out.cell (World.block_lt_of_cell? w _ hx235_0)).trans hx235_0
                    replace hx235_1 := (HB.out.cell (World.block_lt_of_cell? w _ hx235_1)).trans hx235_1
                    replace hx235_2 := (HB.out.cell (World.block_lt_of_cell? w _ hx235_2)).trans hx235_2
                    replace p235 := eq_true p235
                    replace q235 := eq_true q235
                    have p236 : 0 ≤ (x11_1 : Int) := of_decide_eq_true (by first | (with_reducible assumption) | assumption)
                    have q236 : x11_1 < (l2.length : Int) := of_decide_eq_true (by first | (with_reducible assumption) | assumption)
                    obtain ⟨ad236, e236, hx236_0, hx236_1, hx236_2⟩ := at_T36 HR2.out x11_1 p236 q236
                    obtain rfl : ad235 = ad236 := (by injection e236)
                    replace hx236_0 := (HB.out.cell (World.block_lt_of_cell? w _ hx236_0)).trans hx236_0
                    replace hx236_1 := (HB.out.cell (World.block_lt_of_cell? w _ hx236_1)).trans hx236_1
                    replace hx236_2 := (HB.out.cell (World.block_lt_of_cell? w _ hx236_2)).trans hx236_2
                    replace p236 := eq_true p236
                    replace q236 := eq_true q236
                    go_wp2
                    go_meet
                    case rel => exact ⟨_, (decide (((rd_T36 l2 x11_1).f2) ≤ 1099511627776)), (by first | rfl | (simp; done) | (simp [*]; done)), H', ⟨by have := HK1.out; first | omega | exact Nat.le_refl _⟩, ⟨by (with_reducible repeat (first | refine blk_drewN ?_ _ | refine blk_drew ?_ | refine blk_alloc ?_ _)); exact BK234.out⟩, ⟨by repeat (first | (with_reducible first | exact HB.out | apply below_alloc | apply pw_below_drewN | apply below_drew1 | refine below_set ?_ GE234.out) | exact HB.out)⟩⟩
                  · rw [if_neg c17] at H
                    have c17b0 : decide (0 < ((rd_T36 l2 x11_1).f2)) = false := decide_eq_false c17
                    clear c17
                    have H' := Aside0.mk H
                    clear H
                    have p235 : 0 ≤ (x11_1 : Int) := of_decide_eq_true (by first | (with_reducible assumption) | assumption)
                    have q235 : x11_1 < (l2.length : Int) := of_decide_eq_true (by first | (with_reducible assumption) | assumption)
                    obtain ⟨ad235, e235, hx235_0, hx235_1, hx235_2⟩ := at_T36 HR2.out x11_1 p235 q235
                    cases e235
                    replace hx235_0 := (HB.out.cell (World.block_lt_of_cell? w _ hx235_0)).trans hx235_0
                    replace hx235_1 := (HB.out.cell (World.block_lt_of_cell? w _ hx235_1)).trans hx235_1
                    replace hx235_2 := (HB.out.cell (World.block_lt_of_cell? w _ hx235_2)).trans hx235_2
                    replace p235 := eq_true p235
                    replace q235 := eq_true q235
                    go_wp2
                    go_meet
                    case rel => exact ⟨_, (false), (by first | rfl | (simp; done) | (simp [*]; done)), H', ⟨by have := HK1.out; first | omega | exact Nat.le_refl _⟩, ⟨by (with_reducible repeat (first | refine blk_drewN ?_ _ | refine blk_drew ?_ | refine blk_alloc ?_ _)); exact BK234.out⟩, ⟨by repeat (first | (with_reducible first | exact HB.out | apply below_alloc | apply pw_below_drewN | apply below_drew1 | refine below_set ?_ GE234.out) | exact HB.out)⟩⟩
                · rw [if_neg c16] at H
                  exact absurd H (by simp)
              case rest =>
                clear HC15
                try clear c1
                try clear c2
                try clear p2
                try clear q2
                try clear hx2
                try clear c5
                try clear c6
                try clear c6b0
                try clear c6b1
                try clear c9
                try clear c9b0
                try clear c9b1
                try clear c14
                try clear c14b0
                try clear c16
                try clear c16b0
                try clear c17
                try clear c17b0
                try clear hcz13_0
                try clear hcz13_1
                try clear hcz13_2
                try clear hcz13_3
                try clear hcz13_4
                try clear hfz13_0
                try clear hfz13_1
                try clear hfz13_2
                try clear hfz13_3
                try clear hfz13_4
                try clear hx235_0
                try clear hx235_1
                try clear hx235_2
                try clear hx236_0
                try clear hx236_1
                try clear hx236_2
                try clear p2
                try clear p235
                try clear p236
                try clear q235
                try clear q236
                obtain ⟨kq, x60_14, rfl, HA, HJ14, BK234, HB⟩ := hcut
                cases kq with
                | zero => exact absurd HA.out (by simp [beadlelaw12_CbsWindows.j1])
                | succ kj14 =>
                  have H := HA.out
                  clear HA
                  simp only [beadlelaw12_CbsWindows.j1] at H
                  have HC18 := Aside0.mk H
                  clear H
                  go_upto_if 60 with (fail)
                  go_cut [9] (fun v9 wc => ∃ (kq : Nat) (x9_17 : Int), v9 = .int .i64 x9_17 ∧ Aside0 (beadlelaw12_CbsWindows.j2 kq a0 a1 l2 x9_17 x10_1 x11_1 x235000_1 x235001_1 x235002_1 x235003_1 x235004_1 = some r) ∧ Aside0 (kq ≤ kj14) ∧ Aside0 (wc.heap[gb234]? = some (.cells #[.int .i64 x235000_1, .int .i64 x235001_1, .int .i64 x235002_1, .int .i64 x235003_1, .int .i64 x235004_1] 23 (0, 0))) ∧ Aside0 (Below w.heap.size w wc))
                  case first =>
                    have H := HC18.out
                    clear HC18
                    by_cases c19 : x60_14 = true
                    · as_aux_lemma =>
                      subst c19
                      have H1 : (if 0 ≤ x11_1 then (if x11_1 < (l2.length : Int) then (beadlelaw12_CbsWindows.j2 kj14 a0 a1 l2 (wrap64 (x9_1 + ((rd_T36 l2 x11_1).f2))) x10_1 x11_1 x235000_1 x235001_1 x235002_1 x235003_1 x235004_1) else (none)) else (none)) = some r := by rw [if_pos rfl] at H; exact H
                      clear H
                      have H := H1
                      clear H1
                      by_cases c20 : 0 ≤ x11_1
                      · rw [if_pos c20] at H
                        have c20b0 : decide (0 ≤ x11_1) = true := decide_eq_true c20
                        clear c20
                        (first | rw [c20b0] | (simp only [i64_w, i32_w]; rw [c20b0]) | skip)
                        by_cases c21 : x11_1 < (l2.length : Int)
                        · rw [if_pos c21] at H
                          have c21b0 : decide (x11_1 < (l2.length : Int)) = true := decide_eq_true c21
                          clear c21
                          have H' := Aside0.mk H
                          clear H
                          have p237 : 0 ≤ (x11_1 : Int) := of_decide_eq_true (by first | (with_reducible assumption) | assumption)
                          have q237 : x11_1 < (l2.length : Int) := of_decide_eq_true (by first | (with_reducible assumption) | assumption)
                          obtain ⟨ad237, e237, hx237_0, hx237_1, hx237_2⟩ := at_T36 HR2.out x11_1 p237 q237
                          cases e237
                          replace hx237_0 := (HB.out.cell (World.block_lt_of_cell? w _ hx237_0)).trans hx237_0
                          replace hx237_1 := (HB.out.cell (World.block_lt_of_cell? w _ hx237_1)).trans hx237_1
                          replace hx237_2 := (HB.out.cell (World.block_lt_of_cell? w _ hx237_2)).trans hx237_2
                          replace p237 := eq_true p237
                          replace q237 := eq_true q237
                          go_wp2
                          go_meet
                          case rel => exact ⟨_, (wrap64 (x9_1 + ((rd_T36 l2 x11_1).f2))), (by first | rfl | (simp; done) | (simp [*]; done)), H', ⟨by have := HK1.out; have := HJ14.out; first | omega | exact Nat.le_refl _⟩, ⟨by (with_reducible repeat (first | refine blk_drewN ?_ _ | refine blk_drew ?_ | refine blk_alloc ?_ _)); exact BK234.out⟩, ⟨by repeat (first | (with_reducible first | exact HB.out | apply below_alloc | apply pw_below_drewN | apply below_drew1 | refine below_set ?_ GE234.out) | exact HB.out)⟩⟩
                        · rw [if_neg c21] at H
                          exact absurd H (by simp)
                      · rw [if_neg c20] at H
                        exact absurd H (by simp)
                    · replace c19 := Bool.eq_false_iff.mpr c19
                      subst c19
                      have H1 : (beadlelaw12_CbsWindows.j2 kj14 a0 a1 l2 x9_1 x10_1 x11_1 x235000_1 x235001_1 x235002_1 x235003_1 x235004_1) = some r := by rw [if_neg (show ¬ (false = true) by decide)] at H; exact H
                      clear H
                      have H := H1
                      clear H1
                      have H' := Aside0.mk H
                      clear H
                      go_wp2
                      go_meet
                      case rel => exact ⟨_, (x9_1), (by first | rfl | (simp; done) | (simp [*]; done)), H', ⟨by have := HK1.out; have := HJ14.out; first | omega | exact Nat.le_refl _⟩, ⟨by (with_reducible repeat (first | refine blk_drewN ?_ _ | refine blk_drew ?_ | refine blk_alloc ?_ _)); exact BK234.out⟩, ⟨by repeat (first | (with_reducible first | exact HB.out | apply below_alloc | apply pw_below_drewN | apply below_drew1 | refine below_set ?_ GE234.out) | exact HB.out)⟩⟩
                  case rest =>
                    clear HC18
                    try clear c1
                    try clear c2
                    try clear p2
                    try clear q2
                    try clear hx2
                    try clear c5
                    try clear c6
                    try clear c6b0
                    try clear c6b1
                    try clear p6
                    try clear c9
                    try clear c9b0
                    try clear c9b1
                    try clear c14
                    try clear c14b0
                    try clear c16
                    try clear c16b0
                    try clear c17
                    try clear c17b0
                    try clear c19
                    try clear c20
                    try clear c20b0
                    try clear c21
                    try clear c21b0
                    try clear hcz13_0
                    try clear hcz13_1
                    try clear hcz13_2
                    try clear hcz13_3
                    try clear hcz13_4
                    try clear hfz13_0
                    try clear hfz13_1
                    try clear hfz13_2
                    try clear hfz13_3
                    try clear hfz13_4
                    try clear hx235_0
                    try clear hx235_1
                    try clear hx235_2
                    try clear hx236_0
                    try clear hx236_1
                    try clear hx236_2
                    try clear hx237_0
                    try clear hx237_1
                    try clear hx237_2
                    try clear p2
                    try clear p235
                    try clear p236
                    try clear p237
                    try clear q2
                    try clear q235
                    try clear q236
                    try clear q237
                    obtain ⟨kq, x9_17, rfl, HA, HJ17, BK234, HB⟩ := hcut
                    cases kq with
                    | zero => exact absurd HA.out (by simp [beadlelaw12_CbsWindows.j2])
                    | succ kj17 =>
                      have H := HA.out
                      clear HA
                      simp only [beadlelaw12_CbsWindows.j2] at H
                      by_cases c22 : 0 ≤ x11_1
                      · rw [if_pos c22] at H
                        have c22b0 : decide (0 ≤ x11_1) = true := decide_eq_true c22
                        clear c22
                        by_cases c23 : x11_1 < (l2.length : Int)
                        · rw [if_pos c23] at H
                          have c23b0 : decide (x11_1 < (l2.length : Int)) = true := decide_eq_true c23
                          clear c23
                          have HC24 := Aside0.mk H
                          clear H
                          have hcz25_0 : wc.cell? ⟨gb234, 0, none⟩ = some (.int .i64 x235000_1) := (blk_cell BK234.out 0).trans rfl
                          have hcz25_1 : wc.cell? ⟨gb234, 1, none⟩ = some (.int .i64 x235001_1) := (blk_cell BK234.out 1).trans rfl
                          have hcz25_2 : wc.cell? ⟨gb234, 2, none⟩ = some (.int .i64 x235002_1) := (blk_cell BK234.out 2).trans rfl
                          have hcz25_3 : wc.cell? ⟨gb234, 3, none⟩ = some (.int .i64 x235003_1) := (blk_cell BK234.out 3).trans rfl
                          have hcz25_4 : wc.cell? ⟨gb234, 4, none⟩ = some (.int .i64 x235004_1) := (blk_cell BK234.out 4).trans rfl
                          have hfz25_0 := blk_frozen BK234.out 0
                          have hfz25_1 := blk_frozen BK234.out 1
                          have hfz25_2 := blk_frozen BK234.out 2
                          have hfz25_3 := blk_frozen BK234.out 3
                          have hfz25_4 := blk_frozen BK234.out 4
                          go_upto_block 2 with (first | ((with_reducible refine gate_dst (N := 12) rfl ?_); refine box_event ?hg (N := 12) ?hd (cs := #[.int .i64 0, .int .i64 0, .int .i64 0, .int .i64 0, .int .i64 0]) (t := 23) ?hr ?_; (case hd => rfl); (case hg => rfl); (case hr => first | (go_simp; done) | (go_simp; rfl)); intro gb238 hg w26 hbox hb; have n0_ := Aside0.mk (blk_below (g := gb234) (o := .cells #[.int .i64 x235000_1, .int .i64 x235001_1, .int .i64 x235002_1, .int .i64 x235003_1, .int .i64 x235004_1] 23 (0, 0)) (by (with_reducible repeat (first | refine blk_drewN ?_ _ | refine blk_drew ?_ | refine blk_alloc ?_ _)); exact BK234.out) hb); have n1_ := Aside0.mk (below_step (by repeat (first | (with_reducible first | exact HB.out | apply below_alloc | apply pw_below_drewN | apply below_drew1 | refine below_set ?_ GE234.out) | exact HB.out)) hb); have n2_ := Aside0.mk (hbox); have n3_ := Aside0.mk ((by rw [hg]; exact (below_size (by repeat (first | (with_reducible first | exact HB.out | apply below_alloc | apply pw_below_drewN | apply below_drew1 | refine below_set ?_ GE234.out) | exact HB.out))) : w.heap.size ≤ gb238)); have n4_ := Aside0.mk ((by rw [hg]; exact (below_size (by repeat (first | (with_reducible first | exact HB.out | apply below_alloc | apply pw_below_drewN | apply below_drew1 | refine below_set ?_ GE234.out) | exact HB.out))) : w.heap.size ≤ gb238)); have n5_ := Aside0.mk ((by rw [hg]; exact Nat.ne_of_lt (blk_lt (g := gb234) (o := .cells #[.int .i64 x235000_1, .int .i64 x235001_1, .int .i64 x235002_1, .int .i64 x235003_1, .int .i64 x235004_1] 23 (0, 0)) (by (with_reducible repeat (first | refine blk_drewN ?_ _ | refine blk_drew ?_ | refine blk_alloc ?_ _)); exact BK234.out)) : gb234 ≠ gb238)); have n6_ := Aside0.mk ((by rw [hg]; exact Nat.ne_of_gt (blk_lt (g := gb234) (o := .cells #[.int .i64 x235000_1, .int .i64 x235001_1, .int .i64 x235002_1, .int .i64 x235003_1, .int .i64 x235004_1] 23 (0, 0)) (by (with_reducible repeat (first | refine blk_drewN ?_ _ | refine blk_drew ?_ | refine blk_alloc ?_ _)); exact BK234.out)) : gb238 ≠ gb234)); clear BK234; clear HB; have BK234 := n0_; have HB := n1_; have BK238 := n2_; have GW238 := n3_; have GE238 := n4_; have NB234_238 := n5_; have NB238_234 := n6_; clear n0_ n1_ n2_ n3_ n4_ n5_ n6_; clear hb hbox hg; have hnb27 := NB238_234.out; have hnc27 := NB234_238.out; have hcz28_0 : w26.cell? ⟨gb238, 0, none⟩ = some (.int .i64 0) := (blk_cell BK238.out 0).trans rfl; have hcz28_1 : w26.cell? ⟨gb238, 1, none⟩ = some (.int .i64 0) := (blk_cell BK238.out 1).trans rfl; have hcz28_2 : w26.cell? ⟨gb238, 2, none⟩ = some (.int .i64 0) := (blk_cell BK238.out 2).trans rfl; have hcz28_3 : w26.cell? ⟨gb238, 3, none⟩ = some (.int .i64 0) := (blk_cell BK238.out 3).trans rfl; have hcz28_4 : w26.cell? ⟨gb238, 4, none⟩ = some (.int .i64 0) := (blk_cell BK238.out 4).trans rfl; have hfz28_0 := blk_frozen BK238.out 0; have hfz28_1 := blk_frozen BK238.out 1; have hfz28_2 := blk_frozen BK238.out 2; have hfz28_3 := blk_frozen BK238.out 3; have hfz28_4 := blk_frozen BK238.out 4; have p239 : 0 ≤ (x11_1 : Int) := of_decide_eq_true (by first | (with_reducible assumption) | assumption); have q239 : x11_1 < (l2.length : Int) := of_decide_eq_true (by first | (with_reducible assumption) | assumption); obtain ⟨ad239, e239, hx239_0, hx239_1, hx239_2⟩ := at_T36 HR2.out x11_1 p239 q239; cases e239; have hn239_0 : ad239.block ≠ gb238 := Nat.ne_of_lt (Nat.lt_of_lt_of_le (by have := World.block_lt_of_cell? _ _ hx239_0; first | rwa [add_block] at this | exact this) GW238.out); have hn239_1 : ad239.block ≠ gb238 := Nat.ne_of_lt (Nat.lt_of_lt_of_le (by have := World.block_lt_of_cell? _ _ hx239_0; first | rwa [add_block] at this | exact this) GW238.out); have hn239_2 : ad239.block ≠ gb238 := Nat.ne_of_lt (Nat.lt_of_lt_of_le (by have := World.block_lt_of_cell? _ _ hx239_0; first | rwa [add_block] at this | exact this) GW238.out); have hn239_3 : ad239.block ≠ gb238 := Nat.ne_of_lt (Nat.lt_of_lt_of_le (by have := World.block_lt_of_cell? _ _ hx239_0; first | rwa [add_block] at this | exact this) GW238.out); have hn239_4 : ad239.block ≠ gb238 := Nat.ne_of_lt (Nat.lt_of_lt_of_le (by have := World.block_lt_of_cell? _ _ hx239_0; first | rwa [add_block] at this | exact this) GW238.out); replace hx239_0 := (HB.out.cell (World.block_lt_of_cell? w _ hx239_0)).trans hx239_0; replace hx239_1 := (HB.out.cell (World.block_lt_of_cell? w _ hx239_1)).trans hx239_1; replace hx239_2 := (HB.out.cell (World.block_lt_of_cell? w _ hx239_2)).trans hx239_2; replace hx239_0 := (cell_far (p := ⟨gb238, 0, none⟩) (by first | (rw [add_block]; exact hn239_0) | (show (Addr.add _ _).block ≠ _; rw [add_block]; exact hn239_0) | exact hn239_0) (.int .i64 x235000_1)).trans hx239_0; replace hx239_1 := (cell_far (p := ⟨gb238, 0, none⟩) (by first | (rw [add_block]; exact hn239_0) | (show (Addr.add _ _).block ≠ _; rw [add_block]; exact hn239_0) | exact hn239_0) (.int .i64 x235000_1)).trans hx239_1; replace hx239_2 := (cell_far (p := ⟨gb238, 0, none⟩) (by first | (rw [add_block]; exact hn239_0) | (show (Addr.add _ _).block ≠ _; rw [add_block]; exact hn239_0) | exact hn239_0) (.int .i64 x235000_1)).trans hx239_2; replace hx239_0 := (cell_far (p := ⟨gb238, 1, none⟩) (by first | (rw [add_block]; exact hn239_1) | (show (Addr.add _ _).block ≠ _; rw [add_block]; exact hn239_1) | exact hn239_1) (.int .i64 x235001_1)).trans hx239_0; replace hx239_1 := (cell_far (p := ⟨gb238, 1, none⟩) (by first | (rw [add_block]; exact hn239_1) | (show (Addr.add _ _).block ≠ _; rw [add_block]; exact hn239_1) | exact hn239_1) (.int .i64 x235001_1)).trans hx239_1; replace hx239_2 := (cell_far (p := ⟨gb238, 1, none⟩) (by first | (rw [add_block]; exact hn239_1) | (show (Addr.add _ _).block ≠ _; rw [add_block]; exact hn239_1) | exact hn239_1) (.int .i64 x235001_1)).trans hx239_2; replace hx239_0 := (cell_far (p := ⟨gb238, 2, none⟩) (by first | (rw [add_block]; exact hn239_2) | (show (Addr.add _ _).block ≠ _; rw [add_block]; exact hn239_2) | exact hn239_2) (.int .i64 x235002_1)).trans hx239_0; replace hx239_1 := (cell_far (p := ⟨gb238, 2, none⟩) (by first | (rw [add_block]; exact hn239_2) | (show (Addr.add _ _).block ≠ _; rw [add_block]; exact hn239_2) | exact hn239_2) (.int .i64 x235002_1)).trans hx239_1; replace hx239_2 := (cell_far (p := ⟨gb238, 2, none⟩) (by first | (rw [add_block]; exact hn239_2) | (show (Addr.add _ _).block ≠ _; rw [add_block]; exact hn239_2) | exact hn239_2) (.int .i64 x235002_1)).trans hx239_2; replace hx239_0 := (cell_far (p := ⟨gb238, 3, none⟩) (by first | (rw [add_block]; exact hn239_3) | (show (Addr.add _ _).block ≠ _; rw [add_block]; exact hn239_3) | exact hn239_3) (.int .i64 x235003_1)).trans hx239_0; replace hx239_1 := (cell_far (p := ⟨gb238, 3, none⟩) (by first | (rw [add_block]; exact hn239_3) | (show (Addr.add _ _).block ≠ _; rw [add_block]; exact hn239_3) | exact hn239_3) (.int .i64 x235003_1)).trans hx239_1; replace hx239_2 := (cell_far (p := ⟨gb238, 3, none⟩) (by first | (rw [add_block]; exact hn239_3) | (show (Addr.add _ _).block ≠ _; rw [add_block]; exact hn239_3) | exact hn239_3) (.int .i64 x235003_1)).trans hx239_2; replace hx239_0 := (cell_far (p := ⟨gb238, 4, none⟩) (by first | (rw [add_block]; exact hn239_4) | (show (Addr.add _ _).block ≠ _; rw [add_block]; exact hn239_4) | exact hn239_4) (.int .i64 x235004_1)).trans hx239_0; replace hx239_1 := (cell_far (p := ⟨gb238, 4, none⟩) (by first | (rw [add_block]; exact hn239_4) | (show (Addr.add _ _).block ≠ _; rw [add_block]; exact hn239_4) | exact hn239_4) (.int .i64 x235004_1)).trans hx239_1; replace hx239_2 := (cell_far (p := ⟨gb238, 4, none⟩) (by first | (rw [add_block]; exact hn239_4) | (show (Addr.add _ _).block ≠ _; rw [add_block]; exact hn239_4) | exact hn239_4) (.int .i64 x235004_1)).trans hx239_2; clear hn239_0; clear hn239_1; clear hn239_2; clear hn239_3; clear hn239_4; replace p239 := eq_true p239; replace q239 := eq_true q239))
                          (try simp only [Act.put, List.setIfInBounds_toArray, List.set_cons_zero, List.set_cons_succ])
                          go_cut [] (fun wc => ∃ (kq : Nat) (x235000_23 : Int) (x235001_23 : Int) (x235002_23 : Int) (x235003_23 : Int) (x235004_23 : Int), Aside0 (beadlelaw12_CbsWindows.j3 kq a0 a1 l2 x9_17 x10_1 x11_1 x235000_23 x235001_23 x235002_23 x235003_23 x235004_23 x235000_1 x235001_1 x235002_1 x235003_1 x235004_1 = some r) ∧ Aside0 (kq ≤ kj17) ∧ Aside0 (wc.heap[gb234]? = some (.cells #[.int .i64 x235000_23, .int .i64 x235001_23, .int .i64 x235002_23, .int .i64 x235003_23, .int .i64 x235004_23] 23 (0, 0))) ∧ Aside0 (wc.heap[gb238]? = some (.cells #[.int .i64 x235000_1, .int .i64 x235001_1, .int .i64 x235002_1, .int .i64 x235003_1, .int .i64 x235004_1] 23 (0, 0))) ∧ Aside0 (Below w.heap.size w wc))
                          case first =>
                            have H := HC24.out
                            clear HC24
                            by_cases c29 : ((rd_T36 l2 x11_1).f0) = 0
                            · as_aux_lemma =>
                              rw [if_pos c29] at H
                              have c29b0 : (((rd_T36 l2 x11_1).f0) == 0) = true := beq_iff_eq.mpr c29
                              have c29b1 : (((rd_T36 l2 x11_1).f0) != 0) = false := bne_eq_false_iff_eq.mpr c29
                              clear c29
                              (first | rw [c29b0] | (simp only [i64_w, i32_w]; rw [c29b0]) | skip)
                              replace H := Option.bind_eq_some_iff.mp H
                              obtain ⟨⟨t240, t241, t242, t243, t244, t245⟩, A300, H⟩ := H
                              replace H : (beadlelaw12_CbsWindows.j3 kj17 a0 a1 l2 x9_17 x10_1 x11_1 t240 t241 t242 t243 t244 x235000_1 x235001_1 x235002_1 x235003_1 x235004_1) = some r := H
                              have A30 := Aside0.mk A300
                              clear A300
                              have H' := Aside0.mk H
                              clear H
                              have hnb31 := NB234_238.out
                              have hnc31 := NB238_234.out
                              have hcz32_0 : w26.cell? ⟨gb234, 0, none⟩ = some (.int .i64 x235000_1) := (blk_cell BK234.out 0).trans rfl
                              have hcz32_1 : w26.cell? ⟨gb234, 1, none⟩ = some (.int .i64 x235001_1) := (blk_cell BK234.out 1).trans rfl
                              have hcz32_2 : w26.cell? ⟨gb234, 2, none⟩ = some (.int .i64 x235002_1) := (blk_cell BK234.out 2).trans rfl
                              have hcz32_3 : w26.cell? ⟨gb234, 3, none⟩ = some (.int .i64 x235003_1) := (blk_cell BK234.out 3).trans rfl
                              have hcz32_4 : w26.cell? ⟨gb234, 4, none⟩ = some (.int .i64 x235004_1) := (blk_cell BK234.out 4).trans rfl
                              have hfz32_0 := blk_frozen BK234.out 0
                              have hfz32_1 := blk_frozen BK234.out 1
                              have hfz32_2 := blk_frozen BK234.out 2
                              have hfz32_3 := blk_frozen BK234.out 3
                              have hfz32_4 := blk_frozen BK234.out 4
                              go_wp2_with (first | ((with_reducible refine gate_callee (f := 11) rfl ?_); refine goesL_ (some 85) rfl rfl Try.func11 (by kernel_rfl) rfl #[.agg #[.int .i64 x235000_1, .int .i64 x235001_1, .int .i64 x235002_1, .int .i64 x235003_1, .int .i64 x235004_1], .int .i64 x9_17] rfl (by (try simp only [List.map_toArray, List.map_cons, List.map_nil]); first | done | rfl | (simp only [List.length_drop, List.length_take]; rfl)) ?_; (with_reducible refine (cbs_Wake.calls kj17 x235000_1 x235001_1 x235002_1 x235003_1 x235004_1 x9_17 t240 t241 t242 t243 t244 t245 _ A30.out).mono ?_); rintro e w33 ⟨rfl, hb⟩; refine ⟨_, rfl, ?_⟩; have n0_ := Aside0.mk (blk_below (g := gb234) (o := .cells #[.int .i64 x235000_1, .int .i64 x235001_1, .int .i64 x235002_1, .int .i64 x235003_1, .int .i64 x235004_1] 23 (0, 0)) (by (with_reducible repeat (first | refine blk_drewN ?_ _ | refine blk_drew ?_ | refine blk_alloc ?_ _)); refine blk_far ?_ NB234_238.out _; (with_reducible repeat (first | refine blk_drewN ?_ _ | refine blk_drew ?_ | refine blk_alloc ?_ _)); refine blk_far ?_ NB234_238.out _; (with_reducible repeat (first | refine blk_drewN ?_ _ | refine blk_drew ?_ | refine blk_alloc ?_ _)); refine blk_far ?_ NB234_238.out _; (with_reducible repeat (first | refine blk_drewN ?_ _ | refine blk_drew ?_ | refine blk_alloc ?_ _)); refine blk_far ?_ NB234_238.out _; (with_reducible repeat (first | refine blk_drewN ?_ _ | refine blk_drew ?_ | refine blk_alloc ?_ _)); refine blk_far ?_ NB234_238.out _; (with_reducible repeat (first | refine blk_drewN ?_ _ | refine blk_drew ?_ | refine blk_alloc ?_ _)); exact BK234.out) hb); have n1_ := Aside0.mk (blk_below (g := gb238) (o := .cells #[.int .i64 x235000_1, .int .i64 x235001_1, .int .i64 x235002_1, .int .i64 x235003_1, .int .i64 x235004_1] 23 (0, 0)) (by (with_reducible repeat (first | refine blk_drewN ?_ _ | refine blk_drew ?_ | refine blk_alloc ?_ _)); refine blk_put (cs := #[.int .i64 x235000_1, .int .i64 x235001_1, .int .i64 x235002_1, .int .i64 x235003_1, .int .i64 0]) ?_ 4 _ rfl; (with_reducible repeat (first | refine blk_drewN ?_ _ | refine blk_drew ?_ | refine blk_alloc ?_ _)); refine blk_put (cs := #[.int .i64 x235000_1, .int .i64 x235001_1, .int .i64 x235002_1, .int .i64 0, .int .i64 0]) ?_ 3 _ rfl; (with_reducible repeat (first | refine blk_drewN ?_ _ | refine blk_drew ?_ | refine blk_alloc ?_ _)); refine blk_put (cs := #[.int .i64 x235000_1, .int .i64 x235001_1, .int .i64 0, .int .i64 0, .int .i64 0]) ?_ 2 _ rfl; (with_reducible repeat (first | refine blk_drewN ?_ _ | refine blk_drew ?_ | refine blk_alloc ?_ _)); refine blk_put (cs := #[.int .i64 x235000_1, .int .i64 0, .int .i64 0, .int .i64 0, .int .i64 0]) ?_ 1 _ rfl; (with_reducible repeat (first | refine blk_drewN ?_ _ | refine blk_drew ?_ | refine blk_alloc ?_ _)); refine blk_put (cs := #[.int .i64 0, .int .i64 0, .int .i64 0, .int .i64 0, .int .i64 0]) ?_ 0 _ rfl; (with_reducible repeat (first | refine blk_drewN ?_ _ | refine blk_drew ?_ | refine blk_alloc ?_ _)); exact BK238.out) hb); have n2_ := Aside0.mk (below_step (by repeat (first | (with_reducible first | exact HB.out | apply below_alloc | apply pw_below_drewN | apply below_drew1 | refine below_set ?_ GE234.out | refine below_set ?_ GE238.out) | exact HB.out)) hb); clear BK234; clear BK238; clear HB; have BK234 := n0_; have BK238 := n1_; have HB := n2_; clear n0_ n1_ n2_; (try clear hb); (try clear hb2); (try clear hk); (try clear hi); have hcz34_0 : w33.cell? ⟨gb234, 0, none⟩ = some (.int .i64 x235000_1) := (blk_cell BK234.out 0).trans rfl; have hcz34_1 : w33.cell? ⟨gb234, 1, none⟩ = some (.int .i64 x235001_1) := (blk_cell BK234.out 1).trans rfl; have hcz34_2 : w33.cell? ⟨gb234, 2, none⟩ = some (.int .i64 x235002_1) := (blk_cell BK234.out 2).trans rfl; have hcz34_3 : w33.cell? ⟨gb234, 3, none⟩ = some (.int .i64 x235003_1) := (blk_cell BK234.out 3).trans rfl; have hcz34_4 : w33.cell? ⟨gb234, 4, none⟩ = some (.int .i64 x235004_1) := (blk_cell BK234.out 4).trans rfl; have hfz34_0 := blk_frozen BK234.out 0; have hfz34_1 := blk_frozen BK234.out 1; have hfz34_2 := blk_frozen BK234.out 2; have hfz34_3 := blk_frozen BK234.out 3; have hfz34_4 := blk_frozen BK234.out 4))
                              go_meet
                              case rel => exact ⟨_, (t240), (t241), (t242), (t243), (t244), H', ⟨by have := HK1.out; have := HJ14.out; have := HJ17.out; first | omega | exact Nat.le_refl _⟩, ⟨by (with_reducible repeat (first | refine blk_drewN ?_ _ | refine blk_drew ?_ | refine blk_alloc ?_ _)); refine blk_put (cs := #[.int .i64 t240, .int .i64 t241, .int .i64 t242, .int .i64 t243, .int .i64 x235004_1]) ?_ 4 _ rfl; (with_reducible repeat (first | refine blk_drewN ?_ _ | refine blk_drew ?_ | refine blk_alloc ?_ _)); refine blk_put (cs := #[.int .i64 t240, .int .i64 t241, .int .i64 t242, .int .i64 x235003_1, .int .i64 x235004_1]) ?_ 3 _ rfl; (with_reducible repeat (first | refine blk_drewN ?_ _ | refine blk_drew ?_ | refine blk_alloc ?_ _)); refine blk_put (cs := #[.int .i64 t240, .int .i64 t241, .int .i64 x235002_1, .int .i64 x235003_1, .int .i64 x235004_1]) ?_ 2 _ rfl; (with_reducible repeat (first | refine blk_drewN ?_ _ | refine blk_drew ?_ | refine blk_alloc ?_ _)); refine blk_put (cs := #[.int .i64 t240, .int .i64 x235001_1, .int .i64 x235002_1, .int .i64 x235003_1, .int .i64 x235004_1]) ?_ 1 _ rfl; (with_reducible repeat (first | refine blk_drewN ?_ _ | refine blk_drew ?_ | refine blk_alloc ?_ _)); refine blk_put (cs := #[.int .i64 x235000_1, .int .i64 x235001_1, .int .i64 x235002_1, .int .i64 x235003_1, .int .i64 x235004_1]) ?_ 0 _ rfl; (with_reducible repeat (first | refine blk_drewN ?_ _ | refine blk_drew ?_ | refine blk_alloc ?_ _)); exact BK234.out⟩, ⟨by (with_reducible repeat (first | refine blk_drewN ?_ _ | refine blk_drew ?_ | refine blk_alloc ?_ _)); refine blk_far ?_ NB238_234.out _; (with_reducible repeat (first | refine blk_drewN ?_ _ | refine blk_drew ?_ | refine blk_alloc ?_ _)); refine blk_far ?_ NB238_234.out _; (with_reducible repeat (first | refine blk_drewN ?_ _ | refine blk_drew ?_ | refine blk_alloc ?_ _)); refine blk_far ?_ NB238_234.out _; (with_reducible repeat (first | refine blk_drewN ?_ _ | refine blk_drew ?_ | refine blk_alloc ?_ _)); refine blk_far ?_ NB238_234.out _; (with_reducible repeat (first | refine blk_drewN ?_ _ | refine blk_drew ?_ | refine blk_alloc ?_ _)); refine blk_far ?_ NB238_234.out _; (with_reducible repeat (first | refine blk_drewN ?_ _ | refine blk_drew ?_ | refine blk_alloc ?_ _)); exact BK238.out⟩, ⟨by repeat (first | (with_reducible first | exact HB.out | apply below_alloc | apply pw_below_drewN | apply below_drew1 | refine below_set ?_ GE234.out | refine below_set ?_ GE238.out) | exact HB.out)⟩⟩
                            · as_aux_lemma =>
                              rw [if_neg c29] at H
                              have c29b0 : (((rd_T36 l2 x11_1).f0) == 0) = false := beq_eq_false_iff_ne.mpr c29
                              have c29b1 : (((rd_T36 l2 x11_1).f0) != 0) = true := bne_iff_ne.mpr c29
                              (first | rw [c29b0] | (simp only [i64_w, i32_w]; rw [c29b0]) | skip)
                              by_cases c35 : ((rd_T36 l2 x11_1).f0) = 1
                              · rw [if_pos c35] at H
                                have c35b0 : (((rd_T36 l2 x11_1).f0) == 1) = true := beq_iff_eq.mpr c35
                                have c35b1 : (((rd_T36 l2 x11_1).f0) != 1) = false := bne_eq_false_iff_eq.mpr c35
                                clear c35
                                replace H := Option.bind_eq_some_iff.mp H
                                obtain ⟨⟨t247, t248, t249, t250, t251, t252⟩, A360, H⟩ := H
                                replace H : (beadlelaw12_CbsWindows.j3 kj17 a0 a1 l2 x9_17 x10_1 x11_1 t247 t248 t249 t250 t251 x235000_1 x235001_1 x235002_1 x235003_1 x235004_1) = some r := H
                                have A36 := Aside0.mk A360
                                clear A360
                                have H' := Aside0.mk H
                                clear H
                                try go_wp2
                                have n0_ : Aside0 ((((((w26.setCell ⟨gb238, 0, none⟩ (.int .i64 x235000_1)).setCell ⟨gb238, 1, none⟩ (.int .i64 x235001_1)).setCell ⟨gb238, 2, none⟩ (.int .i64 x235002_1)).setCell ⟨gb238, 3, none⟩ (.int .i64 x235003_1)).setCell ⟨gb238, 4, none⟩ (.int .i64 x235004_1)).heap[gb234]? = some (.cells #[.int .i64 x235000_1, .int .i64 x235001_1, .int .i64 x235002_1, .int .i64 x235003_1, .int .i64 x235004_1] 23 (0, 0))) := ⟨by (with_reducible repeat (first | refine blk_drewN ?_ _ | refine blk_drew ?_ | refine blk_alloc ?_ _)); refine blk_far ?_ NB234_238.out _; (with_reducible repeat (first | refine blk_drewN ?_ _ | refine blk_drew ?_ | refine blk_alloc ?_ _)); refine blk_far ?_ NB234_238.out _; (with_reducible repeat (first | refine blk_drewN ?_ _ | refine blk_drew ?_ | refine blk_alloc ?_ _)); refine blk_far ?_ NB234_238.out _; (with_reducible repeat (first | refine blk_drewN ?_ _ | refine blk_drew ?_ | refine blk_alloc ?_ _)); refine blk_far ?_ NB234_238.out _; (with_reducible repeat (first | refine blk_drewN ?_ _ | refine blk_drew ?_ | refine blk_alloc ?_ _)); refine blk_far ?_ NB234_238.out _; (with_reducible repeat (first | refine blk_drewN ?_ _ | refine blk_drew ?_ | refine blk_alloc ?_ _)); exact BK234.out⟩
                                have n1_ : Aside0 ((((((w26.setCell ⟨gb238, 0, none⟩ (.int .i64 x235000_1)).setCell ⟨gb238, 1, none⟩ (.int .i64 x235001_1)).setCell ⟨gb238, 2, none⟩ (.int .i64 x235002_1)).setCell ⟨gb238, 3, none⟩ (.int .i64 x235003_1)).setCell ⟨gb238, 4, none⟩ (.int .i64 x235004_1)).heap[gb238]? = some (.cells #[.int .i64 x235000_1, .int .i64 x235001_1, .int .i64 x235002_1, .int .i64 x235003_1, .int .i64 x235004_1] 23 (0, 0))) := ⟨by (with_reducible repeat (first | refine blk_drewN ?_ _ | refine blk_drew ?_ | refine blk_alloc ?_ _)); refine blk_put (cs := #[.int .i64 x235000_1, .int .i64 x235001_1, .int .i64 x235002_1, .int .i64 x235003_1, .int .i64 0]) ?_ 4 _ rfl; (with_reducible repeat (first | refine blk_drewN ?_ _ | refine blk_drew ?_ | refine blk_alloc ?_ _)); refine blk_put (cs := #[.int .i64 x235000_1, .int .i64 x235001_1, .int .i64 x235002_1, .int .i64 0, .int .i64 0]) ?_ 3 _ rfl; (with_reducible repeat (first | refine blk_drewN ?_ _ | refine blk_drew ?_ | refine blk_alloc ?_ _)); refine blk_put (cs := #[.int .i64 x235000_1, .int .i64 x235001_1, .int .i64 0, .int .i64 0, .int .i64 0]) ?_ 2 _ rfl; (with_reducible repeat (first | refine blk_drewN ?_ _ | refine blk_drew ?_ | refine blk_alloc ?_ _)); refine blk_put (cs := #[.int .i64 x235000_1, .int .i64 0, .int .i64 0, .int .i64 0, .int .i64 0]) ?_ 1 _ rfl; (with_reducible repeat (first | refine blk_drewN ?_ _ | refine blk_drew ?_ | refine blk_alloc ?_ _)); refine blk_put (cs := #[.int .i64 0, .int .i64 0, .int .i64 0, .int .i64 0, .int .i64 0]) ?_ 0 _ rfl; (with_reducible repeat (first | refine blk_drewN ?_ _ | refine blk_drew ?_ | refine blk_alloc ?_ _)); exact BK238.out⟩
                                have n2_ : Aside0 (Below w.heap.size w (((((w26.setCell ⟨gb238, 0, none⟩ (.int .i64 x235000_1)).setCell ⟨gb238, 1, none⟩ (.int .i64 x235001_1)).setCell ⟨gb238, 2, none⟩ (.int .i64 x235002_1)).setCell ⟨gb238, 3, none⟩ (.int .i64 x235003_1)).setCell ⟨gb238, 4, none⟩ (.int .i64 x235004_1))) := ⟨by repeat (first | (with_reducible first | exact HB.out | apply below_alloc | apply pw_below_drewN | apply below_drew1 | refine below_set ?_ GE234.out | refine below_set ?_ GE238.out) | exact HB.out)⟩
                                (try clear BK234)
                                (try clear BK238)
                                (try clear HB)
                                generalize (((((w26.setCell ⟨gb238, 0, none⟩ (.int .i64 x235000_1)).setCell ⟨gb238, 1, none⟩ (.int .i64 x235001_1)).setCell ⟨gb238, 2, none⟩ (.int .i64 x235002_1)).setCell ⟨gb238, 3, none⟩ (.int .i64 x235003_1)).setCell ⟨gb238, 4, none⟩ (.int .i64 x235004_1)) = w37 at n0_ n1_ n2_ ⊢
                                have BK234 := n0_
                                have BK238 := n1_
                                have HB := n2_
                                clear n0_ n1_ n2_
                                have n0_ := Aside0.mk (blk_drew BK234.out)
                                have n1_ := Aside0.mk (blk_drew BK238.out)
                                have n2_ := Aside0.mk (below_drew1 HB.out)
                                clear BK234
                                clear BK238
                                clear HB
                                have BK234 := n0_
                                have BK238 := n1_
                                have HB := n2_
                                clear n0_ n1_ n2_
                                have p246 : 0 ≤ (x11_1 : Int) := of_decide_eq_true (by first | (with_reducible assumption) | assumption)
                                have q246 : x11_1 < (l2.length : Int) := of_decide_eq_true (by first | (with_reducible assumption) | assumption)
                                obtain ⟨ad246, e246, hx246_0, hx246_1, hx246_2⟩ := at_T36 HR2.out x11_1 p246 q246
                                have hw246_2 := hx246_2
                                have hw246_1 := hx246_1
                                have hw246_0 := hx246_0
                                obtain rfl : ad239 = ad246 := (by injection e246)
                                replace hx246_0 := (HB.out.cell (World.block_lt_of_cell? w _ hx246_0)).trans hx246_0
                                replace hx246_1 := (HB.out.cell (World.block_lt_of_cell? w _ hx246_1)).trans hx246_1
                                replace hx246_2 := (HB.out.cell (World.block_lt_of_cell? w _ hx246_2)).trans hx246_2
                                replace p246 := eq_true p246
                                replace q246 := eq_true q246
                                refine start_ (n := 11) (S := fun w' => w'.cell? ⟨gb234, 0, none⟩ = some (.int .i64 x235000_1) ∧ w'.cell? ⟨gb234, 1, none⟩ = some (.int .i64 x235001_1) ∧ w'.cell? ⟨gb234, 2, none⟩ = some (.int .i64 x235002_1) ∧ w'.cell? ⟨gb234, 3, none⟩ = some (.int .i64 x235003_1) ∧ w'.cell? ⟨gb234, 4, none⟩ = some (.int .i64 x235004_1) ∧ w'.cell? (ad239.add ((x11_1).toNat * 3)) = some (.int .i64 ((rd_T36 l2 x11_1).f0)) ∧ w'.cell? ⟨(ad239.add ((x11_1).toNat * 3)).block, (ad239.add ((x11_1).toNat * 3)).off + 1, none⟩ = some (.int .i64 ((rd_T36 l2 x11_1).f1)) ∧ w'.cell? ⟨(ad239.add ((x11_1).toNat * 3)).block, (ad239.add ((x11_1).toNat * 3)).off + 2, none⟩ = some (.int .i64 ((rd_T36 l2 x11_1).f2))) (ds := [10]) #[false, false, false, false, false, false, false, false, false, false, false] (by kernel_rfl) rfl rfl ⟨(blk_cell BK234.out 0).trans rfl, (blk_cell BK234.out 1).trans rfl, (blk_cell BK234.out 2).trans rfl, (blk_cell BK234.out 3).trans rfl, (blk_cell BK234.out 4).trans rfl, ((HB.out.cell (World.block_lt_of_cell? w _ hw246_0)).trans hw246_0), ((HB.out.cell (World.block_lt_of_cell? w _ hw246_1)).trans hw246_1), ((HB.out.cell (World.block_lt_of_cell? w _ hw246_2)).trans hw246_2)⟩ (fun hHeld => ?_); refine with_tabW beadlelaw12_CbsWindows.tab20 beadlelaw12_CbsWindows.bits20 (fun HT_ HW_ => ?_)
                                generalize w37.drew = w38 at BK234 BK238 HB hx246_0 hx246_1 hx246_2 hHeld ⊢
                                refine pure_ (i := 1) (N := some 92) (v := ?_) (a' := ?_) #[false, true, false, false, false, false, false, false, false, false, false] rfl rfl (any_of HT_.out (by kernel_rfl)) (fun _ _ _ h => h) (Or.inl ⟨by rfl, ?_⟩) ?_ ?_
                                rotate_left
                                · intro w'
                                  go_simp
                                  with_reducible rfl
                                rotate_left
                                · simp only [Act.put, List.setIfInBounds_toArray, List.set_cons_zero, List.set_cons_succ, i64_w, i32_w]
                                  rfl
                                refine pure_ (i := 2) (N := some 93) (v := ?_) (a' := ?_) #[false, true, true, false, false, false, false, false, false, false, false] rfl rfl (any_of HT_.out (by kernel_rfl)) (fun _ _ _ h => h) (Or.inl ⟨by rfl, ?_⟩) ?_ ?_
                                rotate_left
                                · intro w'
                                  go_simp
                                  with_reducible rfl
                                rotate_left
                                · simp only [Act.put, List.setIfInBounds_toArray, List.set_cons_zero, List.set_cons_succ, i64_w, i32_w]
                                  rfl
                                refine pure_ (i := 3) (N := some 94) (v := ?_) (a' := ?_) #[false, true, true, true, false, false, false, false, false, false, false] rfl rfl (any_of HT_.out (by kernel_rfl)) (fun _ _ _ h => h) (Or.inl ⟨by rfl, ?_⟩) ?_ ?_
                                rotate_left
                                · intro w'
                                  go_simp
                                  with_reducible rfl
                                rotate_left
                                · simp only [Act.put, List.setIfInBounds_toArray, List.set_cons_zero, List.set_cons_succ, i64_w, i32_w]
                                  rfl
                                refine pure_ (i := 4) (N := some 95) (v := ?_) (a' := ?_) #[false, true, true, true, true, false, false, false, false, false, false] rfl rfl (any_of HT_.out (by kernel_rfl)) (fun _ _ _ h => h) (Or.inl ⟨by rfl, ?_⟩) ?_ ?_
                                rotate_left
                                · intro w'
                                  go_simp
                                  with_reducible rfl
                                rotate_left
                                · simp only [Act.put, List.setIfInBounds_toArray, List.set_cons_zero, List.set_cons_succ, i64_w, i32_w]
                                  rfl
                                refine take_ (i := 0) (N := some 91) (v := ?_) (a' := ?_) #[true, true, true, true, true, false, false, false, false, false, false] rfl rfl (take_ofW HT_.out HW_.out (by kernel_rfl)) (fun _ _ _ h => h) (Or.inl ⟨by rfl, ?_⟩) hHeld ?_ ?_
                                rotate_left
                                · rintro w' ⟨s0, s1, s2, s3, s4, s5, s6, s7⟩
                                  go_simp
                                  with_reducible rfl
                                rotate_left
                                · simp only [Act.put, List.setIfInBounds_toArray, List.set_cons_zero, List.set_cons_succ, i64_w, i32_w]
                                  rfl
                                refine take_ (i := 5) (N := some 96) (v := ?_) (a' := ?_) #[true, true, true, true, true, true, false, false, false, false, false] rfl rfl (take_ofW HT_.out HW_.out (by kernel_rfl)) (fun _ _ _ h => h) (Or.inl ⟨by rfl, ?_⟩) hHeld ?_ ?_
                                rotate_left
                                · rintro w' ⟨s0, s1, s2, s3, s4, s5, s6, s7⟩
                                  go_simp
                                  with_reducible rfl
                                rotate_left
                                · simp only [Act.put, List.setIfInBounds_toArray, List.set_cons_zero, List.set_cons_succ, i64_w, i32_w]
                                  rfl
                                refine one_ (i := 6) (N := some 97) #[true, true, true, true, true, true, true, false, false, false, false] rfl rfl (one_of HT_.out (by kernel_rfl)) (by decide) (fun K hK => ?_)
                                refine goes_ Try.func12 (by kernel_rfl) rfl #[.agg #[.int .i64 x235000_1, .int .i64 x235001_1, .int .i64 x235002_1, .int .i64 x235003_1, .int .i64 x235004_1], .int .i64 ((rd_T36 l2 x11_1).f1)] (by rfl) rfl rfl (by (try simp only [List.map_toArray, List.map_cons, List.map_nil]); first | done | rfl | (simp only [List.length_drop, List.length_take]; rfl)) ?_
                                with_reducible refine (cbs_Use.calls kj17 x235000_1 x235001_1 x235002_1 x235003_1 x235004_1 ((rd_T36 l2 x11_1).f1) t247 t248 t249 t250 t251 t252 _ A36.out).mono ?_
                                rintro e w39 ⟨rfl, hb⟩
                                refine ⟨_, rfl, ?_⟩
                                have n0_ := Aside0.mk (blk_below (g := gb234) (o := .cells #[.int .i64 x235000_1, .int .i64 x235001_1, .int .i64 x235002_1, .int .i64 x235003_1, .int .i64 x235004_1] 23 (0, 0)) (by (with_reducible repeat (first | refine blk_drewN ?_ _ | refine blk_drew ?_ | refine blk_alloc ?_ _)); exact BK234.out) hb)
                                have n1_ := Aside0.mk (blk_below (g := gb238) (o := .cells #[.int .i64 x235000_1, .int .i64 x235001_1, .int .i64 x235002_1, .int .i64 x235003_1, .int .i64 x235004_1] 23 (0, 0)) (by (with_reducible repeat (first | refine blk_drewN ?_ _ | refine blk_drew ?_ | refine blk_alloc ?_ _)); exact BK238.out) hb)
                                have n2_ := Aside0.mk (below_step (by repeat (first | (with_reducible first | exact HB.out | apply below_alloc | apply pw_below_drewN | apply below_drew1 | refine below_set ?_ GE234.out | refine below_set ?_ GE238.out) | exact HB.out)) hb)
                                clear BK234
                                clear BK238
                                clear HB
                                have BK234 := n0_
                                have BK238 := n1_
                                have HB := n2_
                                clear n0_ n1_ n2_
                                (try clear hb)
                                (try clear hb2)
                                (try clear hk)
                                (try clear hi)
                                refine hK.out _ _ ⟨(blk_cell BK234.out 0).trans rfl, (blk_cell BK234.out 1).trans rfl, (blk_cell BK234.out 2).trans rfl, (blk_cell BK234.out 3).trans rfl, (blk_cell BK234.out 4).trans rfl, ((HB.out.cell (World.block_lt_of_cell? w _ hw246_0)).trans hw246_0), ((HB.out.cell (World.block_lt_of_cell? w _ hw246_1)).trans hw246_1), ((HB.out.cell (World.block_lt_of_cell? w _ hw246_2)).trans hw246_2)⟩ (fun hHeld => ?_)
                                clear hK K
                                refine norm_ (a' := ?_) ?_ ?_
                                rotate_left
                                · show Act.put _ (some 97) _ = _
                                  simp only [Act.put, List.setIfInBounds_toArray, List.set_cons_zero, List.set_cons_succ, i64_w, i32_w]
                                  rfl
                                refine pure_ (i := 7) (N := some 90) (v := ?_) (a' := ?_) #[true, true, true, true, true, true, true, true, false, false, false] rfl rfl (any_of HT_.out (by kernel_rfl)) (fun _ _ _ h => h) (Or.inl ⟨by rfl, ?_⟩) ?_ ?_
                                rotate_left
                                · intro w'
                                  go_simp
                                  with_reducible rfl
                                rotate_left
                                · simp only [Act.put, List.setIfInBounds_toArray, List.set_cons_zero, List.set_cons_succ, i64_w, i32_w]
                                  rfl
                                refine pure_ (i := 8) (N := some 98) (v := ?_) (a' := ?_) #[true, true, true, true, true, true, true, true, true, false, false] rfl rfl (any_of HT_.out (by kernel_rfl)) (fun _ _ _ h => h) (Or.inl ⟨by rfl, ?_⟩) ?_ ?_
                                rotate_left
                                · intro w'
                                  go_simp
                                  with_reducible rfl
                                rotate_left
                                · simp only [Act.put, List.setIfInBounds_toArray, List.set_cons_zero, List.set_cons_succ, i64_w, i32_w]
                                  rfl
                                refine pure_ (i := 9) (N := some 99) (v := ?_) (a' := ?_) #[true, true, true, true, true, true, true, true, true, true, false] rfl rfl (any_of HT_.out (by kernel_rfl)) (fun _ _ _ h => h) (Or.inl ⟨by rfl, ?_⟩) ?_ ?_
                                rotate_left
                                · intro w'
                                  go_simp
                                  with_reducible rfl
                                rotate_left
                                · simp only [Act.put, List.setIfInBounds_toArray, List.set_cons_zero, List.set_cons_succ, i64_w, i32_w]
                                  rfl
                                refine last_ (i := 10) (N := none) #[true, true, true, true, true, true, true, true, true, true, true] rfl rfl (one_of HT_.out (by kernel_rfl)) (by decide) (fun K hK => ?_)
                                have hs40 : w39.cell? ⟨gb234, 0, none⟩ = some (.int .i64 x235000_1) := (blk_cell BK234.out 0).trans rfl
                                have hfs40 := blk_frozen BK234.out 0
                                have hns40_1 := NB238_234.out
                                have hms40_1 := NB234_238.out
                                have hs41 : w39.cell? ⟨gb234, 1, none⟩ = some (.int .i64 x235001_1) := (blk_cell BK234.out 1).trans rfl
                                have hfs41 := blk_frozen BK234.out 1
                                have hns41_1 := NB238_234.out
                                have hms41_1 := NB234_238.out
                                have hs42 : w39.cell? ⟨gb234, 2, none⟩ = some (.int .i64 x235002_1) := (blk_cell BK234.out 2).trans rfl
                                have hfs42 := blk_frozen BK234.out 2
                                have hns42_1 := NB238_234.out
                                have hms42_1 := NB234_238.out
                                have hs43 : w39.cell? ⟨gb234, 3, none⟩ = some (.int .i64 x235003_1) := (blk_cell BK234.out 3).trans rfl
                                have hfs43 := blk_frozen BK234.out 3
                                have hns43_1 := NB238_234.out
                                have hms43_1 := NB234_238.out
                                have hs44 : w39.cell? ⟨gb234, 4, none⟩ = some (.int .i64 x235004_1) := (blk_cell BK234.out 4).trans rfl
                                have hfs44 := blk_frozen BK234.out 4
                                have hns44_1 := NB238_234.out
                                have hms44_1 := NB234_238.out
                                refine skip_ (w1 := ?_) (by rfl) rfl ?_ ?_
                                rotate_left
                                · go_simp
                                  rfl
                                refine hK.out _ _ ?_
                                clear hK K
                                refine done_ (done_of HT_.out (by kernel_rfl)) ?_
                                try go_wp2
                                go_meet
                                case rel => exact ⟨_, (t247), (t248), (t249), (t250), (t251), H', ⟨by have := HK1.out; have := HJ14.out; have := HJ17.out; first | omega | exact Nat.le_refl _⟩, ⟨by (with_reducible repeat (first | refine blk_drewN ?_ _ | refine blk_drew ?_ | refine blk_alloc ?_ _)); refine blk_put (cs := #[.int .i64 t247, .int .i64 t248, .int .i64 t249, .int .i64 t250, .int .i64 x235004_1]) ?_ 4 _ rfl; (with_reducible repeat (first | refine blk_drewN ?_ _ | refine blk_drew ?_ | refine blk_alloc ?_ _)); refine blk_put (cs := #[.int .i64 t247, .int .i64 t248, .int .i64 t249, .int .i64 x235003_1, .int .i64 x235004_1]) ?_ 3 _ rfl; (with_reducible repeat (first | refine blk_drewN ?_ _ | refine blk_drew ?_ | refine blk_alloc ?_ _)); refine blk_put (cs := #[.int .i64 t247, .int .i64 t248, .int .i64 x235002_1, .int .i64 x235003_1, .int .i64 x235004_1]) ?_ 2 _ rfl; (with_reducible repeat (first | refine blk_drewN ?_ _ | refine blk_drew ?_ | refine blk_alloc ?_ _)); refine blk_put (cs := #[.int .i64 t247, .int .i64 x235001_1, .int .i64 x235002_1, .int .i64 x235003_1, .int .i64 x235004_1]) ?_ 1 _ rfl; (with_reducible repeat (first | refine blk_drewN ?_ _ | refine blk_drew ?_ | refine blk_alloc ?_ _)); refine blk_put (cs := #[.int .i64 x235000_1, .int .i64 x235001_1, .int .i64 x235002_1, .int .i64 x235003_1, .int .i64 x235004_1]) ?_ 0 _ rfl; (with_reducible repeat (first | refine blk_drewN ?_ _ | refine blk_drew ?_ | refine blk_alloc ?_ _)); exact BK234.out⟩, ⟨by (with_reducible repeat (first | refine blk_drewN ?_ _ | refine blk_drew ?_ | refine blk_alloc ?_ _)); refine blk_far ?_ NB238_234.out _; (with_reducible repeat (first | refine blk_drewN ?_ _ | refine blk_drew ?_ | refine blk_alloc ?_ _)); refine blk_far ?_ NB238_234.out _; (with_reducible repeat (first | refine blk_drewN ?_ _ | refine blk_drew ?_ | refine blk_alloc ?_ _)); refine blk_far ?_ NB238_234.out _; (with_reducible repeat (first | refine blk_drewN ?_ _ | refine blk_drew ?_ | refine blk_alloc ?_ _)); refine blk_far ?_ NB238_234.out _; (with_reducible repeat (first | refine blk_drewN ?_ _ | refine blk_drew ?_ | refine blk_alloc ?_ _)); refine blk_far ?_ NB238_234.out _; (with_reducible repeat (first | refine blk_drewN ?_ _ | refine blk_drew ?_ | refine blk_alloc ?_ _)); exact BK238.out⟩, ⟨by repeat (first | (with_reducible first | exact HB.out | apply below_alloc | apply pw_below_drewN | apply below_drew1 | refine below_set ?_ GE234.out | refine below_set ?_ GE238.out) | exact HB.out)⟩⟩
                              · rw [if_neg c35] at H
                                have c35b0 : (((rd_T36 l2 x11_1).f0) == 1) = false := beq_eq_false_iff_ne.mpr c35
                                have c35b1 : (((rd_T36 l2 x11_1).f0) != 1) = true := bne_iff_ne.mpr c35
                                by_cases c45 : ((rd_T36 l2 x11_1).f0) = 2
                                · rw [if_pos c45] at H
                                  have c45b0 : (((rd_T36 l2 x11_1).f0) == 2) = true := beq_iff_eq.mpr c45
                                  have c45b1 : (((rd_T36 l2 x11_1).f0) != 2) = false := bne_eq_false_iff_eq.mpr c45
                                  clear c45
                                  replace H := Option.bind_eq_some_iff.mp H
                                  obtain ⟨⟨t253, t254, t255, t256, t257, t258⟩, A460, H⟩ := H
                                  replace H : (beadlelaw12_CbsWindows.j3 kj17 a0 a1 l2 x9_17 x10_1 x11_1 t253 t254 t255 t256 t257 x235000_1 x235001_1 x235002_1 x235003_1 x235004_1) = some r := H
                                  have A46 := Aside0.mk A460
                                  clear A460
                                  have H' := Aside0.mk H
                                  clear H
                                  have hnb47 := NB234_238.out
                                  have hnc47 := NB238_234.out
                                  have hcz48_0 : w26.cell? ⟨gb234, 0, none⟩ = some (.int .i64 x235000_1) := (blk_cell BK234.out 0).trans rfl
                                  have hcz48_1 : w26.cell? ⟨gb234, 1, none⟩ = some (.int .i64 x235001_1) := (blk_cell BK234.out 1).trans rfl
                                  have hcz48_2 : w26.cell? ⟨gb234, 2, none⟩ = some (.int .i64 x235002_1) := (blk_cell BK234.out 2).trans rfl
                                  have hcz48_3 : w26.cell? ⟨gb234, 3, none⟩ = some (.int .i64 x235003_1) := (blk_cell BK234.out 3).trans rfl
                                  have hcz48_4 : w26.cell? ⟨gb234, 4, none⟩ = some (.int .i64 x235004_1) := (blk_cell BK234.out 4).trans rfl
                                  have hfz48_0 := blk_frozen BK234.out 0
                                  have hfz48_1 := blk_frozen BK234.out 1
                                  have hfz48_2 := blk_frozen BK234.out 2
                                  have hfz48_3 := blk_frozen BK234.out 3
                                  have hfz48_4 := blk_frozen BK234.out 4
                                  go_wp2_with (first | ((with_reducible refine gate_callee (f := 15) rfl ?_); refine goesL_ (some 104) rfl rfl Try.func15 (by kernel_rfl) rfl #[.agg #[.int .i64 x235000_1, .int .i64 x235001_1, .int .i64 x235002_1, .int .i64 x235003_1, .int .i64 x235004_1]] rfl (by (try simp only [List.map_toArray, List.map_cons, List.map_nil]); first | done | rfl | (simp only [List.length_drop, List.length_take]; rfl)) ?_; (with_reducible refine (cbs_Idle.calls x235000_1 x235001_1 x235002_1 x235003_1 x235004_1 t253 t254 t255 t256 t257 t258 _ A46.out).mono ?_); rintro e w49 ⟨rfl, hb⟩; refine ⟨_, rfl, ?_⟩; have n0_ := Aside0.mk (blk_below (g := gb234) (o := .cells #[.int .i64 x235000_1, .int .i64 x235001_1, .int .i64 x235002_1, .int .i64 x235003_1, .int .i64 x235004_1] 23 (0, 0)) (by (with_reducible repeat (first | refine blk_drewN ?_ _ | refine blk_drew ?_ | refine blk_alloc ?_ _)); refine blk_far ?_ NB234_238.out _; (with_reducible repeat (first | refine blk_drewN ?_ _ | refine blk_drew ?_ | refine blk_alloc ?_ _)); refine blk_far ?_ NB234_238.out _; (with_reducible repeat (first | refine blk_drewN ?_ _ | refine blk_drew ?_ | refine blk_alloc ?_ _)); refine blk_far ?_ NB234_238.out _; (with_reducible repeat (first | refine blk_drewN ?_ _ | refine blk_drew ?_ | refine blk_alloc ?_ _)); refine blk_far ?_ NB234_238.out _; (with_reducible repeat (first | refine blk_drewN ?_ _ | refine blk_drew ?_ | refine blk_alloc ?_ _)); refine blk_far ?_ NB234_238.out _; (with_reducible repeat (first | refine blk_drewN ?_ _ | refine blk_drew ?_ | refine blk_alloc ?_ _)); exact BK234.out) hb); have n1_ := Aside0.mk (blk_below (g := gb238) (o := .cells #[.int .i64 x235000_1, .int .i64 x235001_1, .int .i64 x235002_1, .int .i64 x235003_1, .int .i64 x235004_1] 23 (0, 0)) (by (with_reducible repeat (first | refine blk_drewN ?_ _ | refine blk_drew ?_ | refine blk_alloc ?_ _)); refine blk_put (cs := #[.int .i64 x235000_1, .int .i64 x235001_1, .int .i64 x235002_1, .int .i64 x235003_1, .int .i64 0]) ?_ 4 _ rfl; (with_reducible repeat (first | refine blk_drewN ?_ _ | refine blk_drew ?_ | refine blk_alloc ?_ _)); refine blk_put (cs := #[.int .i64 x235000_1, .int .i64 x235001_1, .int .i64 x235002_1, .int .i64 0, .int .i64 0]) ?_ 3 _ rfl; (with_reducible repeat (first | refine blk_drewN ?_ _ | refine blk_drew ?_ | refine blk_alloc ?_ _)); refine blk_put (cs := #[.int .i64 x235000_1, .int .i64 x235001_1, .int .i64 0, .int .i64 0, .int .i64 0]) ?_ 2 _ rfl; (with_reducible repeat (first | refine blk_drewN ?_ _ | refine blk_drew ?_ | refine blk_alloc ?_ _)); refine blk_put (cs := #[.int .i64 x235000_1, .int .i64 0, .int .i64 0, .int .i64 0, .int .i64 0]) ?_ 1 _ rfl; (with_reducible repeat (first | refine blk_drewN ?_ _ | refine blk_drew ?_ | refine blk_alloc ?_ _)); refine blk_put (cs := #[.int .i64 0, .int .i64 0, .int .i64 0, .int .i64 0, .int .i64 0]) ?_ 0 _ rfl; (with_reducible repeat (first | refine blk_drewN ?_ _ | refine blk_drew ?_ | refine blk_alloc ?_ _)); exact BK238.out) hb); have n2_ := Aside0.mk (below_step (by repeat (first | (with_reducible first | exact HB.out | apply below_alloc | apply pw_below_drewN | apply below_drew1 | refine below_set ?_ GE234.out | refine below_set ?_ GE238.out) | exact HB.out)) hb); clear BK234; clear BK238; clear HB; have BK234 := n0_; have BK238 := n1_; have HB := n2_; clear n0_ n1_ n2_; (try clear hb); (try clear hb2); (try clear hk); (try clear hi); have hcz50_0 : w49.cell? ⟨gb234, 0, none⟩ = some (.int .i64 x235000_1) := (blk_cell BK234.out 0).trans rfl; have hcz50_1 : w49.cell? ⟨gb234, 1, none⟩ = some (.int .i64 x235001_1) := (blk_cell BK234.out 1).trans rfl; have hcz50_2 : w49.cell? ⟨gb234, 2, none⟩ = some (.int .i64 x235002_1) := (blk_cell BK234.out 2).trans rfl; have hcz50_3 : w49.cell? ⟨gb234, 3, none⟩ = some (.int .i64 x235003_1) := (blk_cell BK234.out 3).trans rfl; have hcz50_4 : w49.cell? ⟨gb234, 4, none⟩ = some (.int .i64 x235004_1) := (blk_cell BK234.out 4).trans rfl; have hfz50_0 := blk_frozen BK234.out 0; have hfz50_1 := blk_frozen BK234.out 1; have hfz50_2 := blk_frozen BK234.out 2; have hfz50_3 := blk_frozen BK234.out 3; have hfz50_4 := blk_frozen BK234.out 4))
                                  go_meet
                                  case rel => exact ⟨_, (t253), (t254), (t255), (t256), (t257), H', ⟨by have := HK1.out; have := HJ14.out; have := HJ17.out; first | omega | exact Nat.le_refl _⟩, ⟨by (with_reducible repeat (first | refine blk_drewN ?_ _ | refine blk_drew ?_ | refine blk_alloc ?_ _)); refine blk_put (cs := #[.int .i64 t253, .int .i64 t254, .int .i64 t255, .int .i64 t256, .int .i64 x235004_1]) ?_ 4 _ rfl; (with_reducible repeat (first | refine blk_drewN ?_ _ | refine blk_drew ?_ | refine blk_alloc ?_ _)); refine blk_put (cs := #[.int .i64 t253, .int .i64 t254, .int .i64 t255, .int .i64 x235003_1, .int .i64 x235004_1]) ?_ 3 _ rfl; (with_reducible repeat (first | refine blk_drewN ?_ _ | refine blk_drew ?_ | refine blk_alloc ?_ _)); refine blk_put (cs := #[.int .i64 t253, .int .i64 t254, .int .i64 x235002_1, .int .i64 x235003_1, .int .i64 x235004_1]) ?_ 2 _ rfl; (with_reducible repeat (first | refine blk_drewN ?_ _ | refine blk_drew ?_ | refine blk_alloc ?_ _)); refine blk_put (cs := #[.int .i64 t253, .int .i64 x235001_1, .int .i64 x235002_1, .int .i64 x235003_1, .int .i64 x235004_1]) ?_ 1 _ rfl; (with_reducible repeat (first | refine blk_drewN ?_ _ | refine blk_drew ?_ | refine blk_alloc ?_ _)); refine blk_put (cs := #[.int .i64 x235000_1, .int .i64 x235001_1, .int .i64 x235002_1, .int .i64 x235003_1, .int .i64 x235004_1]) ?_ 0 _ rfl; (with_reducible repeat (first | refine blk_drewN ?_ _ | refine blk_drew ?_ | refine blk_alloc ?_ _)); exact BK234.out⟩, ⟨by (with_reducible repeat (first | refine blk_drewN ?_ _ | refine blk_drew ?_ | refine blk_alloc ?_ _)); refine blk_far ?_ NB238_234.out _; (with_reducible repeat (first | refine blk_drewN ?_ _ | refine blk_drew ?_ | refine blk_alloc ?_ _)); refine blk_far ?_ NB238_234.out _; (with_reducible repeat (first | refine blk_drewN ?_ _ | refine blk_drew ?_ | refine blk_alloc ?_ _)); refine blk_far ?_ NB238_234.out _; (with_reducible repeat (first | refine blk_drewN ?_ _ | refine blk_drew ?_ | refine blk_alloc ?_ _)); refine blk_far ?_ NB238_234.out _; (with_reducible repeat (first | refine blk_drewN ?_ _ | refine blk_drew ?_ | refine blk_alloc ?_ _)); refine blk_far ?_ NB238_234.out _; (with_reducible repeat (first | refine blk_drewN ?_ _ | refine blk_drew ?_ | refine blk_alloc ?_ _)); exact BK238.out⟩, ⟨by repeat (first | (with_reducible first | exact HB.out | apply below_alloc | apply pw_below_drewN | apply below_drew1 | refine below_set ?_ GE234.out | refine below_set ?_ GE238.out) | exact HB.out)⟩⟩
                                · rw [if_neg c45] at H
                                  have c45b0 : (((rd_T36 l2 x11_1).f0) == 2) = false := beq_eq_false_iff_ne.mpr c45
                                  have c45b1 : (((rd_T36 l2 x11_1).f0) != 2) = true := bne_iff_ne.mpr c45
                                  by_cases c51 : ((rd_T36 l2 x11_1).f0) = 3
                                  · rw [if_pos c51] at H
                                    have c51b0 : (((rd_T36 l2 x11_1).f0) == 3) = true := beq_iff_eq.mpr c51
                                    have c51b1 : (((rd_T36 l2 x11_1).f0) != 3) = false := bne_eq_false_iff_eq.mpr c51
                                    clear c51
                                    replace H := Option.bind_eq_some_iff.mp H
                                    obtain ⟨⟨t259, t260, t261, t262, t263, t264⟩, A520, H⟩ := H
                                    replace H : (beadlelaw12_CbsWindows.j3 kj17 a0 a1 l2 x9_17 x10_1 x11_1 t259 t260 t261 t262 t263 x235000_1 x235001_1 x235002_1 x235003_1 x235004_1) = some r := H
                                    have A52 := Aside0.mk A520
                                    clear A520
                                    have H' := Aside0.mk H
                                    clear H
                                    have hnb53 := NB234_238.out
                                    have hnc53 := NB238_234.out
                                    have hcz54_0 : w26.cell? ⟨gb234, 0, none⟩ = some (.int .i64 x235000_1) := (blk_cell BK234.out 0).trans rfl
                                    have hcz54_1 : w26.cell? ⟨gb234, 1, none⟩ = some (.int .i64 x235001_1) := (blk_cell BK234.out 1).trans rfl
                                    have hcz54_2 : w26.cell? ⟨gb234, 2, none⟩ = some (.int .i64 x235002_1) := (blk_cell BK234.out 2).trans rfl
                                    have hcz54_3 : w26.cell? ⟨gb234, 3, none⟩ = some (.int .i64 x235003_1) := (blk_cell BK234.out 3).trans rfl
                                    have hcz54_4 : w26.cell? ⟨gb234, 4, none⟩ = some (.int .i64 x235004_1) := (blk_cell BK234.out 4).trans rfl
                                    have hfz54_0 := blk_frozen BK234.out 0
                                    have hfz54_1 := blk_frozen BK234.out 1
                                    have hfz54_2 := blk_frozen BK234.out 2
                                    have hfz54_3 := blk_frozen BK234.out 3
                                    have hfz54_4 := blk_frozen BK234.out 4
                                    go_wp2_with (first | ((with_reducible refine gate_callee (f := 16) rfl ?_); refine goesL_ (some 111) rfl rfl Try.func16 (by kernel_rfl) rfl #[.agg #[.int .i64 x235000_1, .int .i64 x235001_1, .int .i64 x235002_1, .int .i64 x235003_1, .int .i64 x235004_1]] rfl (by (try simp only [List.map_toArray, List.map_cons, List.map_nil]); first | done | rfl | (simp only [List.length_drop, List.length_take]; rfl)) ?_; (with_reducible refine (cbs_Wait.calls x235000_1 x235001_1 x235002_1 x235003_1 x235004_1 t259 t260 t261 t262 t263 t264 _ A52.out).mono ?_); rintro e w55 ⟨rfl, hb⟩; refine ⟨_, rfl, ?_⟩; have n0_ := Aside0.mk (blk_below (g := gb234) (o := .cells #[.int .i64 x235000_1, .int .i64 x235001_1, .int .i64 x235002_1, .int .i64 x235003_1, .int .i64 x235004_1] 23 (0, 0)) (by (with_reducible repeat (first | refine blk_drewN ?_ _ | refine blk_drew ?_ | refine blk_alloc ?_ _)); refine blk_far ?_ NB234_238.out _; (with_reducible repeat (first | refine blk_drewN ?_ _ | refine blk_drew ?_ | refine blk_alloc ?_ _)); refine blk_far ?_ NB234_238.out _; (with_reducible repeat (first | refine blk_drewN ?_ _ | refine blk_drew ?_ | refine blk_alloc ?_ _)); refine blk_far ?_ NB234_238.out _; (with_reducible repeat (first | refine blk_drewN ?_ _ | refine blk_drew ?_ | refine blk_alloc ?_ _)); refine blk_far ?_ NB234_238.out _; (with_reducible repeat (first | refine blk_drewN ?_ _ | refine blk_drew ?_ | refine blk_alloc ?_ _)); refine blk_far ?_ NB234_238.out _; (with_reducible repeat (first | refine blk_drewN ?_ _ | refine blk_drew ?_ | refine blk_alloc ?_ _)); exact BK234.out) hb); have n1_ := Aside0.mk (blk_below (g := gb238) (o := .cells #[.int .i64 x235000_1, .int .i64 x235001_1, .int .i64 x235002_1, .int .i64 x235003_1, .int .i64 x235004_1] 23 (0, 0)) (by (with_reducible repeat (first | refine blk_drewN ?_ _ | refine blk_drew ?_ | refine blk_alloc ?_ _)); refine blk_put (cs := #[.int .i64 x235000_1, .int .i64 x235001_1, .int .i64 x235002_1, .int .i64 x235003_1, .int .i64 0]) ?_ 4 _ rfl; (with_reducible repeat (first | refine blk_drewN ?_ _ | refine blk_drew ?_ | refine blk_alloc ?_ _)); refine blk_put (cs := #[.int .i64 x235000_1, .int .i64 x235001_1, .int .i64 x235002_1, .int .i64 0, .int .i64 0]) ?_ 3 _ rfl; (with_reducible repeat (first | refine blk_drewN ?_ _ | refine blk_drew ?_ | refine blk_alloc ?_ _)); refine blk_put (cs := #[.int .i64 x235000_1, .int .i64 x235001_1, .int .i64 0, .int .i64 0, .int .i64 0]) ?_ 2 _ rfl; (with_reducible repeat (first | refine blk_drewN ?_ _ | refine blk_drew ?_ | refine blk_alloc ?_ _)); refine blk_put (cs := #[.int .i64 x235000_1, .int .i64 0, .int .i64 0, .int .i64 0, .int .i64 0]) ?_ 1 _ rfl; (with_reducible repeat (first | refine blk_drewN ?_ _ | refine blk_drew ?_ | refine blk_alloc ?_ _)); refine blk_put (cs := #[.int .i64 0, .int .i64 0, .int .i64 0, .int .i64 0, .int .i64 0]) ?_ 0 _ rfl; (with_reducible repeat (first | refine blk_drewN ?_ _ | refine blk_drew ?_ | refine blk_alloc ?_ _)); exact BK238.out) hb); have n2_ := Aside0.mk (below_step (by repeat (first | (with_reducible first | exact HB.out | apply below_alloc | apply pw_below_drewN | apply below_drew1 | refine below_set ?_ GE234.out | refine below_set ?_ GE238.out) | exact HB.out)) hb); clear BK234; clear BK238; clear HB; have BK234 := n0_; have BK238 := n1_; have HB := n2_; clear n0_ n1_ n2_; (try clear hb); (try clear hb2); (try clear hk); (try clear hi); have hcz56_0 : w55.cell? ⟨gb234, 0, none⟩ = some (.int .i64 x235000_1) := (blk_cell BK234.out 0).trans rfl; have hcz56_1 : w55.cell? ⟨gb234, 1, none⟩ = some (.int .i64 x235001_1) := (blk_cell BK234.out 1).trans rfl; have hcz56_2 : w55.cell? ⟨gb234, 2, none⟩ = some (.int .i64 x235002_1) := (blk_cell BK234.out 2).trans rfl; have hcz56_3 : w55.cell? ⟨gb234, 3, none⟩ = some (.int .i64 x235003_1) := (blk_cell BK234.out 3).trans rfl; have hcz56_4 : w55.cell? ⟨gb234, 4, none⟩ = some (.int .i64 x235004_1) := (blk_cell BK234.out 4).trans rfl; have hfz56_0 := blk_frozen BK234.out 0; have hfz56_1 := blk_frozen BK234.out 1; have hfz56_2 := blk_frozen BK234.out 2; have hfz56_3 := blk_frozen BK234.out 3; have hfz56_4 := blk_frozen BK234.out 4))
                                    go_meet
                                    case rel => exact ⟨_, (t259), (t260), (t261), (t262), (t263), H', ⟨by have := HK1.out; have := HJ14.out; have := HJ17.out; first | omega | exact Nat.le_refl _⟩, ⟨by (with_reducible repeat (first | refine blk_drewN ?_ _ | refine blk_drew ?_ | refine blk_alloc ?_ _)); refine blk_put (cs := #[.int .i64 t259, .int .i64 t260, .int .i64 t261, .int .i64 t262, .int .i64 x235004_1]) ?_ 4 _ rfl; (with_reducible repeat (first | refine blk_drewN ?_ _ | refine blk_drew ?_ | refine blk_alloc ?_ _)); refine blk_put (cs := #[.int .i64 t259, .int .i64 t260, .int .i64 t261, .int .i64 x235003_1, .int .i64 x235004_1]) ?_ 3 _ rfl; (with_reducible repeat (first | refine blk_drewN ?_ _ | refine blk_drew ?_ | refine blk_alloc ?_ _)); refine blk_put (cs := #[.int .i64 t259, .int .i64 t260, .int .i64 x235002_1, .int .i64 x235003_1, .int .i64 x235004_1]) ?_ 2 _ rfl; (with_reducible repeat (first | refine blk_drewN ?_ _ | refine blk_drew ?_ | refine blk_alloc ?_ _)); refine blk_put (cs := #[.int .i64 t259, .int .i64 x235001_1, .int .i64 x235002_1, .int .i64 x235003_1, .int .i64 x235004_1]) ?_ 1 _ rfl; (with_reducible repeat (first | refine blk_drewN ?_ _ | refine blk_drew ?_ | refine blk_alloc ?_ _)); refine blk_put (cs := #[.int .i64 x235000_1, .int .i64 x235001_1, .int .i64 x235002_1, .int .i64 x235003_1, .int .i64 x235004_1]) ?_ 0 _ rfl; (with_reducible repeat (first | refine blk_drewN ?_ _ | refine blk_drew ?_ | refine blk_alloc ?_ _)); exact BK234.out⟩, ⟨by (with_reducible repeat (first | refine blk_drewN ?_ _ | refine blk_drew ?_ | refine blk_alloc ?_ _)); refine blk_far ?_ NB238_234.out _; (with_reducible repeat (first | refine blk_drewN ?_ _ | refine blk_drew ?_ | refine blk_alloc ?_ _)); refine blk_far ?_ NB238_234.out _; (with_reducible repeat (first | refine blk_drewN ?_ _ | refine blk_drew ?_ | refine blk_alloc ?_ _)); refine blk_far ?_ NB238_234.out _; (with_reducible repeat (first | refine blk_drewN ?_ _ | refine blk_drew ?_ | refine blk_alloc ?_ _)); refine blk_far ?_ NB238_234.out _; (with_reducible repeat (first | refine blk_drewN ?_ _ | refine blk_drew ?_ | refine blk_alloc ?_ _)); refine blk_far ?_ NB238_234.out _; (with_reducible repeat (first | refine blk_drewN ?_ _ | refine blk_drew ?_ | refine blk_alloc ?_ _)); exact BK238.out⟩, ⟨by repeat (first | (with_reducible first | exact HB.out | apply below_alloc | apply pw_below_drewN | apply below_drew1 | refine below_set ?_ GE234.out | refine below_set ?_ GE238.out) | exact HB.out)⟩⟩
                                  · rw [if_neg c51] at H
                                    have c51b0 : (((rd_T36 l2 x11_1).f0) == 3) = false := beq_eq_false_iff_ne.mpr c51
                                    have c51b1 : (((rd_T36 l2 x11_1).f0) != 3) = true := bne_iff_ne.mpr c51
                                    replace H := Option.bind_eq_some_iff.mp H
                                    obtain ⟨⟨t265, t266, t267, t268, t269, t270⟩, A570, H⟩ := H
                                    replace H : (beadlelaw12_CbsWindows.j3 kj17 a0 a1 l2 x9_17 x10_1 x11_1 t265 t266 t267 t268 t269 x235000_1 x235001_1 x235002_1 x235003_1 x235004_1) = some r := H
                                    have A57 := Aside0.mk A570
                                    clear A570
                                    have H' := Aside0.mk H
                                    clear H
                                    have hnb58 := NB234_238.out
                                    have hnc58 := NB238_234.out
                                    have hcz59_0 : w26.cell? ⟨gb234, 0, none⟩ = some (.int .i64 x235000_1) := (blk_cell BK234.out 0).trans rfl
                                    have hcz59_1 : w26.cell? ⟨gb234, 1, none⟩ = some (.int .i64 x235001_1) := (blk_cell BK234.out 1).trans rfl
                                    have hcz59_2 : w26.cell? ⟨gb234, 2, none⟩ = some (.int .i64 x235002_1) := (blk_cell BK234.out 2).trans rfl
                                    have hcz59_3 : w26.cell? ⟨gb234, 3, none⟩ = some (.int .i64 x235003_1) := (blk_cell BK234.out 3).trans rfl
                                    have hcz59_4 : w26.cell? ⟨gb234, 4, none⟩ = some (.int .i64 x235004_1) := (blk_cell BK234.out 4).trans rfl
                                    have hfz59_0 := blk_frozen BK234.out 0
                                    have hfz59_1 := blk_frozen BK234.out 1
                                    have hfz59_2 := blk_frozen BK234.out 2
                                    have hfz59_3 := blk_frozen BK234.out 3
                                    have hfz59_4 := blk_frozen BK234.out 4
                                    go_wp2_with (first | ((with_reducible refine gate_callee (f := 13) rfl ?_); refine goesL_ (some 77) rfl rfl Try.func13 (by kernel_rfl) rfl #[.agg #[.int .i64 x235000_1, .int .i64 x235001_1, .int .i64 x235002_1, .int .i64 x235003_1, .int .i64 x235004_1], .int .i64 x9_17] rfl (by (try simp only [List.map_toArray, List.map_cons, List.map_nil]); first | done | rfl | (simp only [List.length_drop, List.length_take]; rfl)) ?_; (with_reducible refine (cbs_Turn.calls kj17 x235000_1 x235001_1 x235002_1 x235003_1 x235004_1 x9_17 t265 t266 t267 t268 t269 t270 _ A57.out).mono ?_); rintro e w60 ⟨rfl, hb⟩; refine ⟨_, rfl, ?_⟩; have n0_ := Aside0.mk (blk_below (g := gb234) (o := .cells #[.int .i64 x235000_1, .int .i64 x235001_1, .int .i64 x235002_1, .int .i64 x235003_1, .int .i64 x235004_1] 23 (0, 0)) (by (with_reducible repeat (first | refine blk_drewN ?_ _ | refine blk_drew ?_ | refine blk_alloc ?_ _)); refine blk_far ?_ NB234_238.out _; (with_reducible repeat (first | refine blk_drewN ?_ _ | refine blk_drew ?_ | refine blk_alloc ?_ _)); refine blk_far ?_ NB234_238.out _; (with_reducible repeat (first | refine blk_drewN ?_ _ | refine blk_drew ?_ | refine blk_alloc ?_ _)); refine blk_far ?_ NB234_238.out _; (with_reducible repeat (first | refine blk_drewN ?_ _ | refine blk_drew ?_ | refine blk_alloc ?_ _)); refine blk_far ?_ NB234_238.out _; (with_reducible repeat (first | refine blk_drewN ?_ _ | refine blk_drew ?_ | refine blk_alloc ?_ _)); refine blk_far ?_ NB234_238.out _; (with_reducible repeat (first | refine blk_drewN ?_ _ | refine blk_drew ?_ | refine blk_alloc ?_ _)); exact BK234.out) hb); have n1_ := Aside0.mk (blk_below (g := gb238) (o := .cells #[.int .i64 x235000_1, .int .i64 x235001_1, .int .i64 x235002_1, .int .i64 x235003_1, .int .i64 x235004_1] 23 (0, 0)) (by (with_reducible repeat (first | refine blk_drewN ?_ _ | refine blk_drew ?_ | refine blk_alloc ?_ _)); refine blk_put (cs := #[.int .i64 x235000_1, .int .i64 x235001_1, .int .i64 x235002_1, .int .i64 x235003_1, .int .i64 0]) ?_ 4 _ rfl; (with_reducible repeat (first | refine blk_drewN ?_ _ | refine blk_drew ?_ | refine blk_alloc ?_ _)); refine blk_put (cs := #[.int .i64 x235000_1, .int .i64 x235001_1, .int .i64 x235002_1, .int .i64 0, .int .i64 0]) ?_ 3 _ rfl; (with_reducible repeat (first | refine blk_drewN ?_ _ | refine blk_drew ?_ | refine blk_alloc ?_ _)); refine blk_put (cs := #[.int .i64 x235000_1, .int .i64 x235001_1, .int .i64 0, .int .i64 0, .int .i64 0]) ?_ 2 _ rfl; (with_reducible repeat (first | refine blk_drewN ?_ _ | refine blk_drew ?_ | refine blk_alloc ?_ _)); refine blk_put (cs := #[.int .i64 x235000_1, .int .i64 0, .int .i64 0, .int .i64 0, .int .i64 0]) ?_ 1 _ rfl; (with_reducible repeat (first | refine blk_drewN ?_ _ | refine blk_drew ?_ | refine blk_alloc ?_ _)); refine blk_put (cs := #[.int .i64 0, .int .i64 0, .int .i64 0, .int .i64 0, .int .i64 0]) ?_ 0 _ rfl; (with_reducible repeat (first | refine blk_drewN ?_ _ | refine blk_drew ?_ | refine blk_alloc ?_ _)); exact BK238.out) hb); have n2_ := Aside0.mk (below_step (by repeat (first | (with_reducible first | exact HB.out | apply below_alloc | apply pw_below_drewN | apply below_drew1 | refine below_set ?_ GE234.out | refine below_set ?_ GE238.out) | exact HB.out)) hb); clear BK234; clear BK238; clear HB; have BK234 := n0_; have BK238 := n1_; have HB := n2_; clear n0_ n1_ n2_; (try clear hb); (try clear hb2); (try clear hk); (try clear hi); have hcz61_0 : w60.cell? ⟨gb234, 0, none⟩ = some (.int .i64 x235000_1) := (blk_cell BK234.out 0).trans rfl; have hcz61_1 : w60.cell? ⟨gb234, 1, none⟩ = some (.int .i64 x235001_1) := (blk_cell BK234.out 1).trans rfl; have hcz61_2 : w60.cell? ⟨gb234, 2, none⟩ = some (.int .i64 x235002_1) := (blk_cell BK234.out 2).trans rfl; have hcz61_3 : w60.cell? ⟨gb234, 3, none⟩ = some (.int .i64 x235003_1) := (blk_cell BK234.out 3).trans rfl; have hcz61_4 : w60.cell? ⟨gb234, 4, none⟩ = some (.int .i64 x235004_1) := (blk_cell BK234.out 4).trans rfl; have hfz61_0 := blk_frozen BK234.out 0; have hfz61_1 := blk_frozen BK234.out 1; have hfz61_2 := blk_frozen BK234.out 2; have hfz61_3 := blk_frozen BK234.out 3; have hfz61_4 := blk_frozen BK234.out 4))
                                    go_meet
                                    case rel => exact ⟨_, (t265), (t266), (t267), (t268), (t269), H', ⟨by have := HK1.out; have := HJ14.out; have := HJ17.out; first | omega | exact Nat.le_refl _⟩, ⟨by (with_reducible repeat (first | refine blk_drewN ?_ _ | refine blk_drew ?_ | refine blk_alloc ?_ _)); refine blk_put (cs := #[.int .i64 t265, .int .i64 t266, .int .i64 t267, .int .i64 t268, .int .i64 x235004_1]) ?_ 4 _ rfl; (with_reducible repeat (first | refine blk_drewN ?_ _ | refine blk_drew ?_ | refine blk_alloc ?_ _)); refine blk_put (cs := #[.int .i64 t265, .int .i64 t266, .int .i64 t267, .int .i64 x235003_1, .int .i64 x235004_1]) ?_ 3 _ rfl; (with_reducible repeat (first | refine blk_drewN ?_ _ | refine blk_drew ?_ | refine blk_alloc ?_ _)); refine blk_put (cs := #[.int .i64 t265, .int .i64 t266, .int .i64 x235002_1, .int .i64 x235003_1, .int .i64 x235004_1]) ?_ 2 _ rfl; (with_reducible repeat (first | refine blk_drewN ?_ _ | refine blk_drew ?_ | refine blk_alloc ?_ _)); refine blk_put (cs := #[.int .i64 t265, .int .i64 x235001_1, .int .i64 x235002_1, .int .i64 x235003_1, .int .i64 x235004_1]) ?_ 1 _ rfl; (with_reducible repeat (first | refine blk_drewN ?_ _ | refine blk_drew ?_ | refine blk_alloc ?_ _)); refine blk_put (cs := #[.int .i64 x235000_1, .int .i64 x235001_1, .int .i64 x235002_1, .int .i64 x235003_1, .int .i64 x235004_1]) ?_ 0 _ rfl; (with_reducible repeat (first | refine blk_drewN ?_ _ | refine blk_drew ?_ | refine blk_alloc ?_ _)); exact BK234.out⟩, ⟨by (with_reducible repeat (first | refine blk_drewN ?_ _ | refine blk_drew ?_ | refine blk_alloc ?_ _)); refine blk_far ?_ NB238_234.out _; (with_reducible repeat (first | refine blk_drewN ?_ _ | refine blk_drew ?_ | refine blk_alloc ?_ _)); refine blk_far ?_ NB238_234.out _; (with_reducible repeat (first | refine blk_drewN ?_ _ | refine blk_drew ?_ | refine blk_alloc ?_ _)); refine blk_far ?_ NB238_234.out _; (with_reducible repeat (first | refine blk_drewN ?_ _ | refine blk_drew ?_ | refine blk_alloc ?_ _)); refine blk_far ?_ NB238_234.out _; (with_reducible repeat (first | refine blk_drewN ?_ _ | refine blk_drew ?_ | refine blk_alloc ?_ _)); refine blk_far ?_ NB238_234.out _; (with_reducible repeat (first | refine blk_drewN ?_ _ | refine blk_drew ?_ | refine blk_alloc ?_ _)); exact BK238.out⟩, ⟨by repeat (first | (with_reducible first | exact HB.out | apply below_alloc | apply pw_below_drewN | apply below_drew1 | refine below_set ?_ GE234.out | refine below_set ?_ GE238.out) | exact HB.out)⟩⟩
                          case rest =>
                            clear HC24
                            try clear c1
                            try clear c2
                            try clear p2
                            try clear q2
                            try clear hx2
                            try clear c3
                            try clear c4
                            try clear c5
                            try clear c6
                            try clear c6b0
                            try clear c6b1
                            try clear p6
                            try clear c9
                            try clear c9b0
                            try clear c9b1
                            try clear c11
                            try clear c12
                            try clear c13
                            try clear c14
                            try clear c14b0
                            try clear c15
                            try clear c16
                            try clear c16b0
                            try clear c17
                            try clear c17b0
                            try clear c19
                            try clear c20
                            try clear c20b0
                            try clear c21
                            try clear c21b0
                            try clear c22
                            try clear c22b0
                            try clear c23
                            try clear c23b0
                            try clear p23
                            try clear q23
                            try clear hx23
                            try clear p24
                            try clear q24
                            try clear hx24
                            try clear c27
                            try clear c29
                            try clear c29b0
                            try clear c29b1
                            try clear c31
                            try clear c35
                            try clear c35b0
                            try clear c35b1
                            try clear c45
                            try clear c45b0
                            try clear c45b1
                            try clear c47
                            try clear c51
                            try clear c51b0
                            try clear c51b1
                            try clear c53
                            try clear c58
                            try clear hcz13_0
                            try clear hcz13_1
                            try clear hcz13_2
                            try clear hcz13_3
                            try clear hcz13_4
                            try clear hcz25_0
                            try clear hcz25_1
                            try clear hcz25_2
                            try clear hcz25_3
                            try clear hcz25_4
                            try clear hcz28_0
                            try clear hcz28_1
                            try clear hcz28_2
                            try clear hcz28_3
                            try clear hcz28_4
                            try clear hcz32_0
                            try clear hcz32_1
                            try clear hcz32_2
                            try clear hcz32_3
                            try clear hcz32_4
                            try clear hcz34_0
                            try clear hcz34_1
                            try clear hcz34_2
                            try clear hcz34_3
                            try clear hcz34_4
                            try clear hcz48_0
                            try clear hcz48_1
                            try clear hcz48_2
                            try clear hcz48_3
                            try clear hcz48_4
                            try clear hcz50_0
                            try clear hcz50_1
                            try clear hcz50_2
                            try clear hcz50_3
                            try clear hcz50_4
                            try clear hcz54_0
                            try clear hcz54_1
                            try clear hcz54_2
                            try clear hcz54_3
                            try clear hcz54_4
                            try clear hcz56_0
                            try clear hcz56_1
                            try clear hcz56_2
                            try clear hcz56_3
                            try clear hcz56_4
                            try clear hcz59_0
                            try clear hcz59_1
                            try clear hcz59_2
                            try clear hcz59_3
                            try clear hcz59_4
                            try clear hcz61_0
                            try clear hcz61_1
                            try clear hcz61_2
                            try clear hcz61_3
                            try clear hcz61_4
                            try clear hfz13_0
                            try clear hfz13_1
                            try clear hfz13_2
                            try clear hfz13_3
                            try clear hfz13_4
                            try clear hfz25_0
                            try clear hfz25_1
                            try clear hfz25_2
                            try clear hfz25_3
                            try clear hfz25_4
                            try clear hfz28_0
                            try clear hfz28_1
                            try clear hfz28_2
                            try clear hfz28_3
                            try clear hfz28_4
                            try clear hfz32_0
                            try clear hfz32_1
                            try clear hfz32_2
                            try clear hfz32_3
                            try clear hfz32_4
                            try clear hfz34_0
                            try clear hfz34_1
                            try clear hfz34_2
                            try clear hfz34_3
                            try clear hfz34_4
                            try clear hfz48_0
                            try clear hfz48_1
                            try clear hfz48_2
                            try clear hfz48_3
                            try clear hfz48_4
                            try clear hfz50_0
                            try clear hfz50_1
                            try clear hfz50_2
                            try clear hfz50_3
                            try clear hfz50_4
                            try clear hfz54_0
                            try clear hfz54_1
                            try clear hfz54_2
                            try clear hfz54_3
                            try clear hfz54_4
                            try clear hfz56_0
                            try clear hfz56_1
                            try clear hfz56_2
                            try clear hfz56_3
                            try clear hfz56_4
                            try clear hfz59_0
                            try clear hfz59_1
                            try clear hfz59_2
                            try clear hfz59_3
                            try clear hfz59_4
                            try clear hfz61_0
                            try clear hfz61_1
                            try clear hfz61_2
                            try clear hfz61_3
                            try clear hfz61_4
                            try clear hx235_0
                            try clear hx235_1
                            try clear hx235_2
                            try clear hx236_0
                            try clear hx236_1
                            try clear hx236_2
                            try clear hx237_0
                            try clear hx237_1
                            try clear hx237_2
                            try clear hx239_0
                            try clear hx239_1
                            try clear hx239_2
                            try clear hx246_0
                            try clear hx246_1
                            try clear hx246_2
                            try clear p2
                            try clear p235
                            try clear p236
                            try clear p237
                            try clear p239
                            try clear p246
                            try clear p6
                            try clear q2
                            try clear q235
                            try clear q236
                            try clear q237
                            try clear q239
                            try clear q246
                            obtain ⟨kq, x235000_23, x235001_23, x235002_23, x235003_23, x235004_23, HA, HJ23, BK234, BK238, HB⟩ := hcut
                            cases kq with
                            | zero => exact absurd HA.out (by simp [beadlelaw12_CbsWindows.j3])
                            | succ kj23 =>
                              have H := HA.out
                              clear HA
                              simp only [beadlelaw12_CbsWindows.j3] at H
                              have HC62 := Aside0.mk H
                              clear H
                              go_upto_region 25 with (fail)
                              go_cut [151] (fun v151 wc => ∃ (kq : Nat) (x151_61 : Bool), v151 = .bool x151_61 ∧ Aside0 (beadlelaw12_CbsWindows.j4 kq a0 a1 l2 x9_17 x10_1 x11_1 x151_61 x235000_23 x235001_23 x235002_23 x235003_23 x235004_23 x235000_1 x235001_1 x235002_1 x235003_1 x235004_1 = some r) ∧ Aside0 (kq ≤ kj23) ∧ Aside0 (wc.heap[gb234]? = some (.cells #[.int .i64 x235000_23, .int .i64 x235001_23, .int .i64 x235002_23, .int .i64 x235003_23, .int .i64 x235004_23] 23 (0, 0))) ∧ Aside0 (wc.heap[gb238]? = some (.cells #[.int .i64 x235000_1, .int .i64 x235001_1, .int .i64 x235002_1, .int .i64 x235003_1, .int .i64 x235004_1] 23 (0, 0))) ∧ Aside0 (Below w.heap.size w wc))
                              case first =>
                                have H := HC62.out
                                clear HC62
                                replace H := Option.bind_eq_some_iff.mp H
                                obtain ⟨t271, A630, H⟩ := H
                                replace H : (if t271 = true then (if x235003_23 < x235003_1 then (beadlelaw12_CbsWindows.j4 kj23 a0 a1 l2 x9_17 x10_1 x11_1 true x235000_23 x235001_23 x235002_23 x235003_23 x235004_23 x235000_1 x235001_1 x235002_1 x235003_1 x235004_1) else (if x235003_23 > x235003_1 then (if (wrap64 (x235003_23 - x235003_1)) < a1 then (beadlelaw12_CbsWindows.j4 kj23 a0 a1 l2 x9_17 x10_1 x11_1 true x235000_23 x235001_23 x235002_23 x235003_23 x235004_23 x235000_1 x235001_1 x235002_1 x235003_1 x235004_1) else (if x235000_23 = a0 then (beadlelaw12_CbsWindows.j4 kj23 a0 a1 l2 x9_17 x10_1 x11_1 (x235001_23 != a1) x235000_23 x235001_23 x235002_23 x235003_23 x235004_23 x235000_1 x235001_1 x235002_1 x235003_1 x235004_1) else (beadlelaw12_CbsWindows.j4 kj23 a0 a1 l2 x9_17 x10_1 x11_1 true x235000_23 x235001_23 x235002_23 x235003_23 x235004_23 x235000_1 x235001_1 x235002_1 x235003_1 x235004_1))) else (if x235000_23 = a0 then (beadlelaw12_CbsWindows.j4 kj23 a0 a1 l2 x9_17 x10_1 x11_1 (x235001_23 != a1) x235000_23 x235001_23 x235002_23 x235003_23 x235004_23 x235000_1 x235001_1 x235002_1 x235003_1 x235004_1) else (beadlelaw12_CbsWindows.j4 kj23 a0 a1 l2 x9_17 x10_1 x11_1 true x235000_23 x235001_23 x235002_23 x235003_23 x235004_23 x235000_1 x235001_1 x235002_1 x235003_1 x235004_1)))) else (beadlelaw12_CbsWindows.j4 kj23 a0 a1 l2 x9_17 x10_1 x11_1 true x235000_23 x235001_23 x235002_23 x235003_23 x235004_23 x235000_1 x235001_1 x235002_1 x235003_1 x235004_1)) = some r := H
                                have A63 := Aside0.mk A630
                                clear A630
                                by_cases c64 : t271 = true
                                · as_aux_lemma =>
                                  subst c64
                                  have H1 : (if x235003_23 < x235003_1 then (beadlelaw12_CbsWindows.j4 kj23 a0 a1 l2 x9_17 x10_1 x11_1 true x235000_23 x235001_23 x235002_23 x235003_23 x235004_23 x235000_1 x235001_1 x235002_1 x235003_1 x235004_1) else (if x235003_23 > x235003_1 then (if (wrap64 (x235003_23 - x235003_1)) < a1 then (beadlelaw12_CbsWindows.j4 kj23 a0 a1 l2 x9_17 x10_1 x11_1 true x235000_23 x235001_23 x235002_23 x235003_23 x235004_23 x235000_1 x235001_1 x235002_1 x235003_1 x235004_1) else (if x235000_23 = a0 then (beadlelaw12_CbsWindows.j4 kj23 a0 a1 l2 x9_17 x10_1 x11_1 (x235001_23 != a1) x235000_23 x235001_23 x235002_23 x235003_23 x235004_23 x235000_1 x235001_1 x235002_1 x235003_1 x235004_1) else (beadlelaw12_CbsWindows.j4 kj23 a0 a1 l2 x9_17 x10_1 x11_1 true x235000_23 x235001_23 x235002_23 x235003_23 x235004_23 x235000_1 x235001_1 x235002_1 x235003_1 x235004_1))) else (if x235000_23 = a0 then (beadlelaw12_CbsWindows.j4 kj23 a0 a1 l2 x9_17 x10_1 x11_1 (x235001_23 != a1) x235000_23 x235001_23 x235002_23 x235003_23 x235004_23 x235000_1 x235001_1 x235002_1 x235003_1 x235004_1) else (beadlelaw12_CbsWindows.j4 kj23 a0 a1 l2 x9_17 x10_1 x11_1 true x235000_23 x235001_23 x235002_23 x235003_23 x235004_23 x235000_1 x235001_1 x235002_1 x235003_1 x235004_1)))) = some r := by rw [if_pos rfl] at H; exact H
                                  clear H
                                  have H := H1
                                  clear H1
                                  by_cases c65 : x235003_23 < x235003_1
                                  · rw [if_pos c65] at H
                                    have c65b0 : decide (x235003_23 < x235003_1) = true := decide_eq_true c65
                                    clear c65
                                    (first | rw [c65b0] | (simp only [i64_w, i32_w]; rw [c65b0]) | skip)
                                    have H' := Aside0.mk H
                                    clear H
                                    have hnb66 := NB234_238.out
                                    have hnc66 := NB238_234.out
                                    have hcz67_0 : wc.cell? ⟨gb234, 0, none⟩ = some (.int .i64 x235000_23) := (blk_cell BK234.out 0).trans rfl
                                    have hcz67_1 : wc.cell? ⟨gb234, 1, none⟩ = some (.int .i64 x235001_23) := (blk_cell BK234.out 1).trans rfl
                                    have hcz67_2 : wc.cell? ⟨gb234, 2, none⟩ = some (.int .i64 x235002_23) := (blk_cell BK234.out 2).trans rfl
                                    have hcz67_3 : wc.cell? ⟨gb234, 3, none⟩ = some (.int .i64 x235003_23) := (blk_cell BK234.out 3).trans rfl
                                    have hcz67_4 : wc.cell? ⟨gb234, 4, none⟩ = some (.int .i64 x235004_23) := (blk_cell BK234.out 4).trans rfl
                                    have hfz67_0 := blk_frozen BK234.out 0
                                    have hfz67_1 := blk_frozen BK234.out 1
                                    have hfz67_2 := blk_frozen BK234.out 2
                                    have hfz67_3 := blk_frozen BK234.out 3
                                    have hfz67_4 := blk_frozen BK234.out 4
                                    go_wp2_with (first | ((with_reducible refine gate_callee (f := 10) rfl ?_); refine goesL_ (some 115) rfl rfl Try.func10 (by kernel_rfl) rfl #[.agg #[.int .i64 x235000_23, .int .i64 x235001_23, .int .i64 x235002_23, .int .i64 x235003_23, .int .i64 x235004_23]] rfl (by (try simp only [List.map_toArray, List.map_cons, List.map_nil]); first | done | rfl | (simp only [List.length_drop, List.length_take]; rfl)) ?_; (with_reducible refine (cbs_Good.calls x235000_23 x235001_23 x235002_23 x235003_23 x235004_23 true _ A63.out).mono ?_); rintro e w68 ⟨rfl, hb⟩; refine ⟨_, rfl, ?_⟩; have n0_ := Aside0.mk (blk_below (g := gb234) (o := .cells #[.int .i64 x235000_23, .int .i64 x235001_23, .int .i64 x235002_23, .int .i64 x235003_23, .int .i64 x235004_23] 23 (0, 0)) (by (with_reducible repeat (first | refine blk_drewN ?_ _ | refine blk_drew ?_ | refine blk_alloc ?_ _)); exact BK234.out) hb); have n1_ := Aside0.mk (blk_below (g := gb238) (o := .cells #[.int .i64 x235000_1, .int .i64 x235001_1, .int .i64 x235002_1, .int .i64 x235003_1, .int .i64 x235004_1] 23 (0, 0)) (by (with_reducible repeat (first | refine blk_drewN ?_ _ | refine blk_drew ?_ | refine blk_alloc ?_ _)); exact BK238.out) hb); have n2_ := Aside0.mk (below_step (by repeat (first | (with_reducible first | exact HB.out | apply below_alloc | apply pw_below_drewN | apply below_drew1 | refine below_set ?_ GE234.out | refine below_set ?_ GE238.out) | exact HB.out)) hb); clear BK234; clear BK238; clear HB; have BK234 := n0_; have BK238 := n1_; have HB := n2_; clear n0_ n1_ n2_; (try clear hb); (try clear hb2); (try clear hk); (try clear hi); have hcz69_0 : w68.cell? ⟨gb234, 0, none⟩ = some (.int .i64 x235000_23) := (blk_cell BK234.out 0).trans rfl; have hcz69_1 : w68.cell? ⟨gb234, 1, none⟩ = some (.int .i64 x235001_23) := (blk_cell BK234.out 1).trans rfl; have hcz69_2 : w68.cell? ⟨gb234, 2, none⟩ = some (.int .i64 x235002_23) := (blk_cell BK234.out 2).trans rfl; have hcz69_3 : w68.cell? ⟨gb234, 3, none⟩ = some (.int .i64 x235003_23) := (blk_cell BK234.out 3).trans rfl; have hcz69_4 : w68.cell? ⟨gb234, 4, none⟩ = some (.int .i64 x235004_23) := (blk_cell BK234.out 4).trans rfl; have hfz69_0 := blk_frozen BK234.out 0; have hfz69_1 := blk_frozen BK234.out 1; have hfz69_2 := blk_frozen BK234.out 2; have hfz69_3 := blk_frozen BK234.out 3; have hfz69_4 := blk_frozen BK234.out 4; have hcz70_0 : w68.cell? ⟨gb238, 0, none⟩ = some (.int .i64 x235000_1) := (blk_cell BK238.out 0).trans rfl; have hcz70_1 : w68.cell? ⟨gb238, 1, none⟩ = some (.int .i64 x235001_1) := (blk_cell BK238.out 1).trans rfl; have hcz70_2 : w68.cell? ⟨gb238, 2, none⟩ = some (.int .i64 x235002_1) := (blk_cell BK238.out 2).trans rfl; have hcz70_3 : w68.cell? ⟨gb238, 3, none⟩ = some (.int .i64 x235003_1) := (blk_cell BK238.out 3).trans rfl; have hcz70_4 : w68.cell? ⟨gb238, 4, none⟩ = some (.int .i64 x235004_1) := (blk_cell BK238.out 4).trans rfl; have hfz70_0 := blk_frozen BK238.out 0; have hfz70_1 := blk_frozen BK238.out 1; have hfz70_2 := blk_frozen BK238.out 2; have hfz70_3 := blk_frozen BK238.out 3; have hfz70_4 := blk_frozen BK238.out 4))
                                    go_meet
                                    case rel => exact ⟨_, (true), (by first | rfl | (simp; done) | (simp [*]; done)), H', ⟨by have := HK1.out; have := HJ14.out; have := HJ17.out; have := HJ23.out; first | omega | exact Nat.le_refl _⟩, ⟨by (with_reducible repeat (first | refine blk_drewN ?_ _ | refine blk_drew ?_ | refine blk_alloc ?_ _)); exact BK234.out⟩, ⟨by (with_reducible repeat (first | refine blk_drewN ?_ _ | refine blk_drew ?_ | refine blk_alloc ?_ _)); exact BK238.out⟩, ⟨by repeat (first | (with_reducible first | exact HB.out | apply below_alloc | apply pw_below_drewN | apply below_drew1 | refine below_set ?_ GE234.out | refine below_set ?_ GE238.out) | exact HB.out)⟩⟩
                                  · rw [if_neg c65] at H
                                    have c65b0 : decide (x235003_23 < x235003_1) = false := decide_eq_false c65
                                    clear c65
                                    (first | rw [c65b0] | (simp only [i64_w, i32_w]; rw [c65b0]) | skip)
                                    by_cases c71 : x235003_23 > x235003_1
                                    · rw [if_pos c71] at H
                                      have c71b0 : decide (x235003_1 < x235003_23) = true := decide_eq_true c71
                                      clear c71
                                      by_cases c72 : (wrap64 (x235003_23 - x235003_1)) < a1
                                      · rw [if_pos c72] at H
                                        have c72b0 : decide ((wrap64 (x235003_23 - x235003_1)) < a1) = true := decide_eq_true c72
                                        clear c72
                                        have H' := Aside0.mk H
                                        clear H
                                        have hnb73 := NB234_238.out
                                        have hnc73 := NB238_234.out
                                        have hcz74_0 : wc.cell? ⟨gb234, 0, none⟩ = some (.int .i64 x235000_23) := (blk_cell BK234.out 0).trans rfl
                                        have hcz74_1 : wc.cell? ⟨gb234, 1, none⟩ = some (.int .i64 x235001_23) := (blk_cell BK234.out 1).trans rfl
                                        have hcz74_2 : wc.cell? ⟨gb234, 2, none⟩ = some (.int .i64 x235002_23) := (blk_cell BK234.out 2).trans rfl
                                        have hcz74_3 : wc.cell? ⟨gb234, 3, none⟩ = some (.int .i64 x235003_23) := (blk_cell BK234.out 3).trans rfl
                                        have hcz74_4 : wc.cell? ⟨gb234, 4, none⟩ = some (.int .i64 x235004_23) := (blk_cell BK234.out 4).trans rfl
                                        have hfz74_0 := blk_frozen BK234.out 0
                                        have hfz74_1 := blk_frozen BK234.out 1
                                        have hfz74_2 := blk_frozen BK234.out 2
                                        have hfz74_3 := blk_frozen BK234.out 3
                                        have hfz74_4 := blk_frozen BK234.out 4
                                        go_wp2_with (first | ((with_reducible refine gate_callee (f := 10) rfl ?_); refine goesL_ (some 115) rfl rfl Try.func10 (by kernel_rfl) rfl #[.agg #[.int .i64 x235000_23, .int .i64 x235001_23, .int .i64 x235002_23, .int .i64 x235003_23, .int .i64 x235004_23]] rfl (by (try simp only [List.map_toArray, List.map_cons, List.map_nil]); first | done | rfl | (simp only [List.length_drop, List.length_take]; rfl)) ?_; (with_reducible refine (cbs_Good.calls x235000_23 x235001_23 x235002_23 x235003_23 x235004_23 true _ A63.out).mono ?_); rintro e w75 ⟨rfl, hb⟩; refine ⟨_, rfl, ?_⟩; have n0_ := Aside0.mk (blk_below (g := gb234) (o := .cells #[.int .i64 x235000_23, .int .i64 x235001_23, .int .i64 x235002_23, .int .i64 x235003_23, .int .i64 x235004_23] 23 (0, 0)) (by (with_reducible repeat (first | refine blk_drewN ?_ _ | refine blk_drew ?_ | refine blk_alloc ?_ _)); exact BK234.out) hb); have n1_ := Aside0.mk (blk_below (g := gb238) (o := .cells #[.int .i64 x235000_1, .int .i64 x235001_1, .int .i64 x235002_1, .int .i64 x235003_1, .int .i64 x235004_1] 23 (0, 0)) (by (with_reducible repeat (first | refine blk_drewN ?_ _ | refine blk_drew ?_ | refine blk_alloc ?_ _)); exact BK238.out) hb); have n2_ := Aside0.mk (below_step (by repeat (first | (with_reducible first | exact HB.out | apply below_alloc | apply pw_below_drewN | apply below_drew1 | refine below_set ?_ GE234.out | refine below_set ?_ GE238.out) | exact HB.out)) hb); clear BK234; clear BK238; clear HB; have BK234 := n0_; have BK238 := n1_; have HB := n2_; clear n0_ n1_ n2_; (try clear hb); (try clear hb2); (try clear hk); (try clear hi); have hcz76_0 : w75.cell? ⟨gb234, 0, none⟩ = some (.int .i64 x235000_23) := (blk_cell BK234.out 0).trans rfl; have hcz76_1 : w75.cell? ⟨gb234, 1, none⟩ = some (.int .i64 x235001_23) := (blk_cell BK234.out 1).trans rfl; have hcz76_2 : w75.cell? ⟨gb234, 2, none⟩ = some (.int .i64 x235002_23) := (blk_cell BK234.out 2).trans rfl; have hcz76_3 : w75.cell? ⟨gb234, 3, none⟩ = some (.int .i64 x235003_23) := (blk_cell BK234.out 3).trans rfl; have hcz76_4 : w75.cell? ⟨gb234, 4, none⟩ = some (.int .i64 x235004_23) := (blk_cell BK234.out 4).trans rfl; have hfz76_0 := blk_frozen BK234.out 0; have hfz76_1 := blk_frozen BK234.out 1; have hfz76_2 := blk_frozen BK234.out 2; have hfz76_3 := blk_frozen BK234.out 3; have hfz76_4 := blk_frozen BK234.out 4; have hcz77_0 : w75.cell? ⟨gb238, 0, none⟩ = some (.int .i64 x235000_1) := (blk_cell BK238.out 0).trans rfl; have hcz77_1 : w75.cell? ⟨gb238, 1, none⟩ = some (.int .i64 x235001_1) := (blk_cell BK238.out 1).trans rfl; have hcz77_2 : w75.cell? ⟨gb238, 2, none⟩ = some (.int .i64 x235002_1) := (blk_cell BK238.out 2).trans rfl; have hcz77_3 : w75.cell? ⟨gb238, 3, none⟩ = some (.int .i64 x235003_1) := (blk_cell BK238.out 3).trans rfl; have hcz77_4 : w75.cell? ⟨gb238, 4, none⟩ = some (.int .i64 x235004_1) := (blk_cell BK238.out 4).trans rfl; have hfz77_0 := blk_frozen BK238.out 0; have hfz77_1 := blk_frozen BK238.out 1; have hfz77_2 := blk_frozen BK238.out 2; have hfz77_3 := blk_frozen BK238.out 3; have hfz77_4 := blk_frozen BK238.out 4))
                                        go_meet
                                        case rel => exact ⟨_, (true), (by first | rfl | (simp; done) | (simp [*]; done)), H', ⟨by have := HK1.out; have := HJ14.out; have := HJ17.out; have := HJ23.out; first | omega | exact Nat.le_refl _⟩, ⟨by (with_reducible repeat (first | refine blk_drewN ?_ _ | refine blk_drew ?_ | refine blk_alloc ?_ _)); exact BK234.out⟩, ⟨by (with_reducible repeat (first | refine blk_drewN ?_ _ | refine blk_drew ?_ | refine blk_alloc ?_ _)); exact BK238.out⟩, ⟨by repeat (first | (with_reducible first | exact HB.out | apply below_alloc | apply pw_below_drewN | apply below_drew1 | refine below_set ?_ GE234.out | refine below_set ?_ GE238.out) | exact HB.out)⟩⟩
                                      · rw [if_neg c72] at H
                                        have c72b0 : decide ((wrap64 (x235003_23 - x235003_1)) < a1) = false := decide_eq_false c72
                                        clear c72
                                        by_cases c78 : x235000_23 = a0
                                        · rw [if_pos c78] at H
                                          have c78b0 : (x235000_23 == a0) = true := beq_iff_eq.mpr c78
                                          have c78b1 : (x235000_23 != a0) = false := bne_eq_false_iff_eq.mpr c78
                                          clear c78
                                          have H' := Aside0.mk H
                                          clear H
                                          have hnb79 := NB234_238.out
                                          have hnc79 := NB238_234.out
                                          have hcz80_0 : wc.cell? ⟨gb234, 0, none⟩ = some (.int .i64 x235000_23) := (blk_cell BK234.out 0).trans rfl
                                          have hcz80_1 : wc.cell? ⟨gb234, 1, none⟩ = some (.int .i64 x235001_23) := (blk_cell BK234.out 1).trans rfl
                                          have hcz80_2 : wc.cell? ⟨gb234, 2, none⟩ = some (.int .i64 x235002_23) := (blk_cell BK234.out 2).trans rfl
                                          have hcz80_3 : wc.cell? ⟨gb234, 3, none⟩ = some (.int .i64 x235003_23) := (blk_cell BK234.out 3).trans rfl
                                          have hcz80_4 : wc.cell? ⟨gb234, 4, none⟩ = some (.int .i64 x235004_23) := (blk_cell BK234.out 4).trans rfl
                                          have hfz80_0 := blk_frozen BK234.out 0
                                          have hfz80_1 := blk_frozen BK234.out 1
                                          have hfz80_2 := blk_frozen BK234.out 2
                                          have hfz80_3 := blk_frozen BK234.out 3
                                          have hfz80_4 := blk_frozen BK234.out 4
                                          go_wp2_with (first | ((with_reducible refine gate_callee (f := 10) rfl ?_); refine goesL_ (some 115) rfl rfl Try.func10 (by kernel_rfl) rfl #[.agg #[.int .i64 x235000_23, .int .i64 x235001_23, .int .i64 x235002_23, .int .i64 x235003_23, .int .i64 x235004_23]] rfl (by (try simp only [List.map_toArray, List.map_cons, List.map_nil]); first | done | rfl | (simp only [List.length_drop, List.length_take]; rfl)) ?_; (with_reducible refine (cbs_Good.calls x235000_23 x235001_23 x235002_23 x235003_23 x235004_23 true _ A63.out).mono ?_); rintro e w81 ⟨rfl, hb⟩; refine ⟨_, rfl, ?_⟩; have n0_ := Aside0.mk (blk_below (g := gb234) (o := .cells #[.int .i64 x235000_23, .int .i64 x235001_23, .int .i64 x235002_23, .int .i64 x235003_23, .int .i64 x235004_23] 23 (0, 0)) (by (with_reducible repeat (first | refine blk_drewN ?_ _ | refine blk_drew ?_ | refine blk_alloc ?_ _)); exact BK234.out) hb); have n1_ := Aside0.mk (blk_below (g := gb238) (o := .cells #[.int .i64 x235000_1, .int .i64 x235001_1, .int .i64 x235002_1, .int .i64 x235003_1, .int .i64 x235004_1] 23 (0, 0)) (by (with_reducible repeat (first | refine blk_drewN ?_ _ | refine blk_drew ?_ | refine blk_alloc ?_ _)); exact BK238.out) hb); have n2_ := Aside0.mk (below_step (by repeat (first | (with_reducible first | exact HB.out | apply below_alloc | apply pw_below_drewN | apply below_drew1 | refine below_set ?_ GE234.out | refine below_set ?_ GE238.out) | exact HB.out)) hb); clear BK234; clear BK238; clear HB; have BK234 := n0_; have BK238 := n1_; have HB := n2_; clear n0_ n1_ n2_; (try clear hb); (try clear hb2); (try clear hk); (try clear hi); have hcz82_0 : w81.cell? ⟨gb234, 0, none⟩ = some (.int .i64 x235000_23) := (blk_cell BK234.out 0).trans rfl; have hcz82_1 : w81.cell? ⟨gb234, 1, none⟩ = some (.int .i64 x235001_23) := (blk_cell BK234.out 1).trans rfl; have hcz82_2 : w81.cell? ⟨gb234, 2, none⟩ = some (.int .i64 x235002_23) := (blk_cell BK234.out 2).trans rfl; have hcz82_3 : w81.cell? ⟨gb234, 3, none⟩ = some (.int .i64 x235003_23) := (blk_cell BK234.out 3).trans rfl; have hcz82_4 : w81.cell? ⟨gb234, 4, none⟩ = some (.int .i64 x235004_23) := (blk_cell BK234.out 4).trans rfl; have hfz82_0 := blk_frozen BK234.out 0; have hfz82_1 := blk_frozen BK234.out 1; have hfz82_2 := blk_frozen BK234.out 2; have hfz82_3 := blk_frozen BK234.out 3; have hfz82_4 := blk_frozen BK234.out 4; have hcz83_0 : w81.cell? ⟨gb238, 0, none⟩ = some (.int .i64 x235000_1) := (blk_cell BK238.out 0).trans rfl; have hcz83_1 : w81.cell? ⟨gb238, 1, none⟩ = some (.int .i64 x235001_1) := (blk_cell BK238.out 1).trans rfl; have hcz83_2 : w81.cell? ⟨gb238, 2, none⟩ = some (.int .i64 x235002_1) := (blk_cell BK238.out 2).trans rfl; have hcz83_3 : w81.cell? ⟨gb238, 3, none⟩ = some (.int .i64 x235003_1) := (blk_cell BK238.out 3).trans rfl; have hcz83_4 : w81.cell? ⟨gb238, 4, none⟩ = some (.int .i64 x235004_1) := (blk_cell BK238.out 4).trans rfl; have hfz83_0 := blk_frozen BK238.out 0; have hfz83_1 := blk_frozen BK238.out 1; have hfz83_2 := blk_frozen BK238.out 2; have hfz83_3 := blk_frozen BK238.out 3; have hfz83_4 := blk_frozen BK238.out 4))
                                          go_meet
                                          case rel => exact ⟨_, ((x235001_23 != a1)), (by first | rfl | (simp; done) | (simp [*]; done)), H', ⟨by have := HK1.out; have := HJ14.out; have := HJ17.out; have := HJ23.out; first | omega | exact Nat.le_refl _⟩, ⟨by (with_reducible repeat (first | refine blk_drewN ?_ _ | refine blk_drew ?_ | refine blk_alloc ?_ _)); exact BK234.out⟩, ⟨by (with_reducible repeat (first | refine blk_drewN ?_ _ | refine blk_drew ?_ | refine blk_alloc ?_ _)); exact BK238.out⟩, ⟨by repeat (first | (with_reducible first | exact HB.out | apply below_alloc | apply pw_below_drewN | apply below_drew1 | refine below_set ?_ GE234.out | refine below_set ?_ GE238.out) | exact HB.out)⟩⟩
                                        · rw [if_neg c78] at H
                                          have c78b0 : (x235000_23 == a0) = false := beq_eq_false_iff_ne.mpr c78
                                          have c78b1 : (x235000_23 != a0) = true := bne_iff_ne.mpr c78
                                          have H' := Aside0.mk H
                                          clear H
                                          have hnb84 := NB234_238.out
                                          have hnc84 := NB238_234.out
                                          have hcz85_0 : wc.cell? ⟨gb234, 0, none⟩ = some (.int .i64 x235000_23) := (blk_cell BK234.out 0).trans rfl
                                          have hcz85_1 : wc.cell? ⟨gb234, 1, none⟩ = some (.int .i64 x235001_23) := (blk_cell BK234.out 1).trans rfl
                                          have hcz85_2 : wc.cell? ⟨gb234, 2, none⟩ = some (.int .i64 x235002_23) := (blk_cell BK234.out 2).trans rfl
                                          have hcz85_3 : wc.cell? ⟨gb234, 3, none⟩ = some (.int .i64 x235003_23) := (blk_cell BK234.out 3).trans rfl
                                          have hcz85_4 : wc.cell? ⟨gb234, 4, none⟩ = some (.int .i64 x235004_23) := (blk_cell BK234.out 4).trans rfl
                                          have hfz85_0 := blk_frozen BK234.out 0
                                          have hfz85_1 := blk_frozen BK234.out 1
                                          have hfz85_2 := blk_frozen BK234.out 2
                                          have hfz85_3 := blk_frozen BK234.out 3
                                          have hfz85_4 := blk_frozen BK234.out 4
                                          go_wp2_with (first | ((with_reducible refine gate_callee (f := 10) rfl ?_); refine goesL_ (some 115) rfl rfl Try.func10 (by kernel_rfl) rfl #[.agg #[.int .i64 x235000_23, .int .i64 x235001_23, .int .i64 x235002_23, .int .i64 x235003_23, .int .i64 x235004_23]] rfl (by (try simp only [List.map_toArray, List.map_cons, List.map_nil]); first | done | rfl | (simp only [List.length_drop, List.length_take]; rfl)) ?_; (with_reducible refine (cbs_Good.calls x235000_23 x235001_23 x235002_23 x235003_23 x235004_23 true _ A63.out).mono ?_); rintro e w86 ⟨rfl, hb⟩; refine ⟨_, rfl, ?_⟩; have n0_ := Aside0.mk (blk_below (g := gb234) (o := .cells #[.int .i64 x235000_23, .int .i64 x235001_23, .int .i64 x235002_23, .int .i64 x235003_23, .int .i64 x235004_23] 23 (0, 0)) (by (with_reducible repeat (first | refine blk_drewN ?_ _ | refine blk_drew ?_ | refine blk_alloc ?_ _)); exact BK234.out) hb); have n1_ := Aside0.mk (blk_below (g := gb238) (o := .cells #[.int .i64 x235000_1, .int .i64 x235001_1, .int .i64 x235002_1, .int .i64 x235003_1, .int .i64 x235004_1] 23 (0, 0)) (by (with_reducible repeat (first | refine blk_drewN ?_ _ | refine blk_drew ?_ | refine blk_alloc ?_ _)); exact BK238.out) hb); have n2_ := Aside0.mk (below_step (by repeat (first | (with_reducible first | exact HB.out | apply below_alloc | apply pw_below_drewN | apply below_drew1 | refine below_set ?_ GE234.out | refine below_set ?_ GE238.out) | exact HB.out)) hb); clear BK234; clear BK238; clear HB; have BK234 := n0_; have BK238 := n1_; have HB := n2_; clear n0_ n1_ n2_; (try clear hb); (try clear hb2); (try clear hk); (try clear hi); have hcz87_0 : w86.cell? ⟨gb234, 0, none⟩ = some (.int .i64 x235000_23) := (blk_cell BK234.out 0).trans rfl; have hcz87_1 : w86.cell? ⟨gb234, 1, none⟩ = some (.int .i64 x235001_23) := (blk_cell BK234.out 1).trans rfl; have hcz87_2 : w86.cell? ⟨gb234, 2, none⟩ = some (.int .i64 x235002_23) := (blk_cell BK234.out 2).trans rfl; have hcz87_3 : w86.cell? ⟨gb234, 3, none⟩ = some (.int .i64 x235003_23) := (blk_cell BK234.out 3).trans rfl; have hcz87_4 : w86.cell? ⟨gb234, 4, none⟩ = some (.int .i64 x235004_23) := (blk_cell BK234.out 4).trans rfl; have hfz87_0 := blk_frozen BK234.out 0; have hfz87_1 := blk_frozen BK234.out 1; have hfz87_2 := blk_frozen BK234.out 2; have hfz87_3 := blk_frozen BK234.out 3; have hfz87_4 := blk_frozen BK234.out 4; have hcz88_0 : w86.cell? ⟨gb238, 0, none⟩ = some (.int .i64 x235000_1) := (blk_cell BK238.out 0).trans rfl; have hcz88_1 : w86.cell? ⟨gb238, 1, none⟩ = some (.int .i64 x235001_1) := (blk_cell BK238.out 1).trans rfl; have hcz88_2 : w86.cell? ⟨gb238, 2, none⟩ = some (.int .i64 x235002_1) := (blk_cell BK238.out 2).trans rfl; have hcz88_3 : w86.cell? ⟨gb238, 3, none⟩ = some (.int .i64 x235003_1) := (blk_cell BK238.out 3).trans rfl; have hcz88_4 : w86.cell? ⟨gb238, 4, none⟩ = some (.int .i64 x235004_1) := (blk_cell BK238.out 4).trans rfl; have hfz88_0 := blk_frozen BK238.out 0; have hfz88_1 := blk_frozen BK238.out 1; have hfz88_2 := blk_frozen BK238.out 2; have hfz88_3 := blk_frozen BK238.out 3; have hfz88_4 := blk_frozen BK238.out 4))
                                          go_meet
                                          case rel => exact ⟨_, (true), (by first | rfl | (simp; done) | (simp [*]; done)), H', ⟨by have := HK1.out; have := HJ14.out; have := HJ17.out; have := HJ23.out; first | omega | exact Nat.le_refl _⟩, ⟨by (with_reducible repeat (first | refine blk_drewN ?_ _ | refine blk_drew ?_ | refine blk_alloc ?_ _)); exact BK234.out⟩, ⟨by (with_reducible repeat (first | refine blk_drewN ?_ _ | refine blk_drew ?_ | refine blk_alloc ?_ _)); exact BK238.out⟩, ⟨by repeat (first | (with_reducible first | exact HB.out | apply below_alloc | apply pw_below_drewN | apply below_drew1 | refine below_set ?_ GE234.out | refine below_set ?_ GE238.out) | exact HB.out)⟩⟩
                                    · rw [if_neg c71] at H
                                      have c71b0 : decide (x235003_1 < x235003_23) = false := decide_eq_false c71
                                      clear c71
                                      by_cases c89 : x235000_23 = a0
                                      · rw [if_pos c89] at H
                                        have c89b0 : (x235000_23 == a0) = true := beq_iff_eq.mpr c89
                                        have c89b1 : (x235000_23 != a0) = false := bne_eq_false_iff_eq.mpr c89
                                        clear c89
                                        have H' := Aside0.mk H
                                        clear H
                                        have hnb90 := NB234_238.out
                                        have hnc90 := NB238_234.out
                                        have hcz91_0 : wc.cell? ⟨gb234, 0, none⟩ = some (.int .i64 x235000_23) := (blk_cell BK234.out 0).trans rfl
                                        have hcz91_1 : wc.cell? ⟨gb234, 1, none⟩ = some (.int .i64 x235001_23) := (blk_cell BK234.out 1).trans rfl
                                        have hcz91_2 : wc.cell? ⟨gb234, 2, none⟩ = some (.int .i64 x235002_23) := (blk_cell BK234.out 2).trans rfl
                                        have hcz91_3 : wc.cell? ⟨gb234, 3, none⟩ = some (.int .i64 x235003_23) := (blk_cell BK234.out 3).trans rfl
                                        have hcz91_4 : wc.cell? ⟨gb234, 4, none⟩ = some (.int .i64 x235004_23) := (blk_cell BK234.out 4).trans rfl
                                        have hfz91_0 := blk_frozen BK234.out 0
                                        have hfz91_1 := blk_frozen BK234.out 1
                                        have hfz91_2 := blk_frozen BK234.out 2
                                        have hfz91_3 := blk_frozen BK234.out 3
                                        have hfz91_4 := blk_frozen BK234.out 4
                                        go_wp2_with (first | ((with_reducible refine gate_callee (f := 10) rfl ?_); refine goesL_ (some 115) rfl rfl Try.func10 (by kernel_rfl) rfl #[.agg #[.int .i64 x235000_23, .int .i64 x235001_23, .int .i64 x235002_23, .int .i64 x235003_23, .int .i64 x235004_23]] rfl (by (try simp only [List.map_toArray, List.map_cons, List.map_nil]); first | done | rfl | (simp only [List.length_drop, List.length_take]; rfl)) ?_; (with_reducible refine (cbs_Good.calls x235000_23 x235001_23 x235002_23 x235003_23 x235004_23 true _ A63.out).mono ?_); rintro e w92 ⟨rfl, hb⟩; refine ⟨_, rfl, ?_⟩; have n0_ := Aside0.mk (blk_below (g := gb234) (o := .cells #[.int .i64 x235000_23, .int .i64 x235001_23, .int .i64 x235002_23, .int .i64 x235003_23, .int .i64 x235004_23] 23 (0, 0)) (by (with_reducible repeat (first | refine blk_drewN ?_ _ | refine blk_drew ?_ | refine blk_alloc ?_ _)); exact BK234.out) hb); have n1_ := Aside0.mk (blk_below (g := gb238) (o := .cells #[.int .i64 x235000_1, .int .i64 x235001_1, .int .i64 x235002_1, .int .i64 x235003_1, .int .i64 x235004_1] 23 (0, 0)) (by (with_reducible repeat (first | refine blk_drewN ?_ _ | refine blk_drew ?_ | refine blk_alloc ?_ _)); exact BK238.out) hb); have n2_ := Aside0.mk (below_step (by repeat (first | (with_reducible first | exact HB.out | apply below_alloc | apply pw_below_drewN | apply below_drew1 | refine below_set ?_ GE234.out | refine below_set ?_ GE238.out) | exact HB.out)) hb); clear BK234; clear BK238; clear HB; have BK234 := n0_; have BK238 := n1_; have HB := n2_; clear n0_ n1_ n2_; (try clear hb); (try clear hb2); (try clear hk); (try clear hi); have hcz93_0 : w92.cell? ⟨gb234, 0, none⟩ = some (.int .i64 x235000_23) := (blk_cell BK234.out 0).trans rfl; have hcz93_1 : w92.cell? ⟨gb234, 1, none⟩ = some (.int .i64 x235001_23) := (blk_cell BK234.out 1).trans rfl; have hcz93_2 : w92.cell? ⟨gb234, 2, none⟩ = some (.int .i64 x235002_23) := (blk_cell BK234.out 2).trans rfl; have hcz93_3 : w92.cell? ⟨gb234, 3, none⟩ = some (.int .i64 x235003_23) := (blk_cell BK234.out 3).trans rfl; have hcz93_4 : w92.cell? ⟨gb234, 4, none⟩ = some (.int .i64 x235004_23) := (blk_cell BK234.out 4).trans rfl; have hfz93_0 := blk_frozen BK234.out 0; have hfz93_1 := blk_frozen BK234.out 1; have hfz93_2 := blk_frozen BK234.out 2; have hfz93_3 := blk_frozen BK234.out 3; have hfz93_4 := blk_frozen BK234.out 4; have hcz94_0 : w92.cell? ⟨gb238, 0, none⟩ = some (.int .i64 x235000_1) := (blk_cell BK238.out 0).trans rfl; have hcz94_1 : w92.cell? ⟨gb238, 1, none⟩ = some (.int .i64 x235001_1) := (blk_cell BK238.out 1).trans rfl; have hcz94_2 : w92.cell? ⟨gb238, 2, none⟩ = some (.int .i64 x235002_1) := (blk_cell BK238.out 2).trans rfl; have hcz94_3 : w92.cell? ⟨gb238, 3, none⟩ = some (.int .i64 x235003_1) := (blk_cell BK238.out 3).trans rfl; have hcz94_4 : w92.cell? ⟨gb238, 4, none⟩ = some (.int .i64 x235004_1) := (blk_cell BK238.out 4).trans rfl; have hfz94_0 := blk_frozen BK238.out 0; have hfz94_1 := blk_frozen BK238.out 1; have hfz94_2 := blk_frozen BK238.out 2; have hfz94_3 := blk_frozen BK238.out 3; have hfz94_4 := blk_frozen BK238.out 4))
                                        go_meet
                                        case rel => exact ⟨_, ((x235001_23 != a1)), (by first | rfl | (simp; done) | (simp [*]; done)), H', ⟨by have := HK1.out; have := HJ14.out; have := HJ17.out; have := HJ23.out; first | omega | exact Nat.le_refl _⟩, ⟨by (with_reducible repeat (first | refine blk_drewN ?_ _ | refine blk_drew ?_ | refine blk_alloc ?_ _)); exact BK234.out⟩, ⟨by (with_reducible repeat (first | refine blk_drewN ?_ _ | refine blk_drew ?_ | refine blk_alloc ?_ _)); exact BK238.out⟩, ⟨by repeat (first | (with_reducible first | exact HB.out | apply below_alloc | apply pw_below_drewN | apply below_drew1 | refine below_set ?_ GE234.out | refine below_set ?_ GE238.out) | exact HB.out)⟩⟩
                                      · rw [if_neg c89] at H
                                        have c89b0 : (x235000_23 == a0) = false := beq_eq_false_iff_ne.mpr c89
                                        have c89b1 : (x235000_23 != a0) = true := bne_iff_ne.mpr c89
                                        have H' := Aside0.mk H
                                        clear H
                                        have hnb95 := NB234_238.out
                                        have hnc95 := NB238_234.out
                                        have hcz96_0 : wc.cell? ⟨gb234, 0, none⟩ = some (.int .i64 x235000_23) := (blk_cell BK234.out 0).trans rfl
                                        have hcz96_1 : wc.cell? ⟨gb234, 1, none⟩ = some (.int .i64 x235001_23) := (blk_cell BK234.out 1).trans rfl
                                        have hcz96_2 : wc.cell? ⟨gb234, 2, none⟩ = some (.int .i64 x235002_23) := (blk_cell BK234.out 2).trans rfl
                                        have hcz96_3 : wc.cell? ⟨gb234, 3, none⟩ = some (.int .i64 x235003_23) := (blk_cell BK234.out 3).trans rfl
                                        have hcz96_4 : wc.cell? ⟨gb234, 4, none⟩ = some (.int .i64 x235004_23) := (blk_cell BK234.out 4).trans rfl
                                        have hfz96_0 := blk_frozen BK234.out 0
                                        have hfz96_1 := blk_frozen BK234.out 1
                                        have hfz96_2 := blk_frozen BK234.out 2
                                        have hfz96_3 := blk_frozen BK234.out 3
                                        have hfz96_4 := blk_frozen BK234.out 4
                                        go_wp2_with (first | ((with_reducible refine gate_callee (f := 10) rfl ?_); refine goesL_ (some 115) rfl rfl Try.func10 (by kernel_rfl) rfl #[.agg #[.int .i64 x235000_23, .int .i64 x235001_23, .int .i64 x235002_23, .int .i64 x235003_23, .int .i64 x235004_23]] rfl (by (try simp only [List.map_toArray, List.map_cons, List.map_nil]); first | done | rfl | (simp only [List.length_drop, List.length_take]; rfl)) ?_; (with_reducible refine (cbs_Good.calls x235000_23 x235001_23 x235002_23 x235003_23 x235004_23 true _ A63.out).mono ?_); rintro e w97 ⟨rfl, hb⟩; refine ⟨_, rfl, ?_⟩; have n0_ := Aside0.mk (blk_below (g := gb234) (o := .cells #[.int .i64 x235000_23, .int .i64 x235001_23, .int .i64 x235002_23, .int .i64 x235003_23, .int .i64 x235004_23] 23 (0, 0)) (by (with_reducible repeat (first | refine blk_drewN ?_ _ | refine blk_drew ?_ | refine blk_alloc ?_ _)); exact BK234.out) hb); have n1_ := Aside0.mk (blk_below (g := gb238) (o := .cells #[.int .i64 x235000_1, .int .i64 x235001_1, .int .i64 x235002_1, .int .i64 x235003_1, .int .i64 x235004_1] 23 (0, 0)) (by (with_reducible repeat (first | refine blk_drewN ?_ _ | refine blk_drew ?_ | refine blk_alloc ?_ _)); exact BK238.out) hb); have n2_ := Aside0.mk (below_step (by repeat (first | (with_reducible first | exact HB.out | apply below_alloc | apply pw_below_drewN | apply below_drew1 | refine below_set ?_ GE234.out | refine below_set ?_ GE238.out) | exact HB.out)) hb); clear BK234; clear BK238; clear HB; have BK234 := n0_; have BK238 := n1_; have HB := n2_; clear n0_ n1_ n2_; (try clear hb); (try clear hb2); (try clear hk); (try clear hi); have hcz98_0 : w97.cell? ⟨gb234, 0, none⟩ = some (.int .i64 x235000_23) := (blk_cell BK234.out 0).trans rfl; have hcz98_1 : w97.cell? ⟨gb234, 1, none⟩ = some (.int .i64 x235001_23) := (blk_cell BK234.out 1).trans rfl; have hcz98_2 : w97.cell? ⟨gb234, 2, none⟩ = some (.int .i64 x235002_23) := (blk_cell BK234.out 2).trans rfl; have hcz98_3 : w97.cell? ⟨gb234, 3, none⟩ = some (.int .i64 x235003_23) := (blk_cell BK234.out 3).trans rfl; have hcz98_4 : w97.cell? ⟨gb234, 4, none⟩ = some (.int .i64 x235004_23) := (blk_cell BK234.out 4).trans rfl; have hfz98_0 := blk_frozen BK234.out 0; have hfz98_1 := blk_frozen BK234.out 1; have hfz98_2 := blk_frozen BK234.out 2; have hfz98_3 := blk_frozen BK234.out 3; have hfz98_4 := blk_frozen BK234.out 4; have hcz99_0 : w97.cell? ⟨gb238, 0, none⟩ = some (.int .i64 x235000_1) := (blk_cell BK238.out 0).trans rfl; have hcz99_1 : w97.cell? ⟨gb238, 1, none⟩ = some (.int .i64 x235001_1) := (blk_cell BK238.out 1).trans rfl; have hcz99_2 : w97.cell? ⟨gb238, 2, none⟩ = some (.int .i64 x235002_1) := (blk_cell BK238.out 2).trans rfl; have hcz99_3 : w97.cell? ⟨gb238, 3, none⟩ = some (.int .i64 x235003_1) := (blk_cell BK238.out 3).trans rfl; have hcz99_4 : w97.cell? ⟨gb238, 4, none⟩ = some (.int .i64 x235004_1) := (blk_cell BK238.out 4).trans rfl; have hfz99_0 := blk_frozen BK238.out 0; have hfz99_1 := blk_frozen BK238.out 1; have hfz99_2 := blk_frozen BK238.out 2; have hfz99_3 := blk_frozen BK238.out 3; have hfz99_4 := blk_frozen BK238.out 4))
                                        go_meet
                                        case rel => exact ⟨_, (true), (by first | rfl | (simp; done) | (simp [*]; done)), H', ⟨by have := HK1.out; have := HJ14.out; have := HJ17.out; have := HJ23.out; first | omega | exact Nat.le_refl _⟩, ⟨by (with_reducible repeat (first | refine blk_drewN ?_ _ | refine blk_drew ?_ | refine blk_alloc ?_ _)); exact BK234.out⟩, ⟨by (with_reducible repeat (first | refine blk_drewN ?_ _ | refine blk_drew ?_ | refine blk_alloc ?_ _)); exact BK238.out⟩, ⟨by repeat (first | (with_reducible first | exact HB.out | apply below_alloc | apply pw_below_drewN | apply below_drew1 | refine below_set ?_ GE234.out | refine below_set ?_ GE238.out) | exact HB.out)⟩⟩
                                · as_aux_lemma =>
                                  replace c64 := Bool.eq_false_iff.mpr c64
                                  subst c64
                                  have H1 : (beadlelaw12_CbsWindows.j4 kj23 a0 a1 l2 x9_17 x10_1 x11_1 true x235000_23 x235001_23 x235002_23 x235003_23 x235004_23 x235000_1 x235001_1 x235002_1 x235003_1 x235004_1) = some r := by rw [if_neg (show ¬ (false = true) by decide)] at H; exact H
                                  clear H
                                  have H := H1
                                  clear H1
                                  have H' := Aside0.mk H
                                  clear H
                                  have hnb100 := NB234_238.out
                                  have hnc100 := NB238_234.out
                                  have hcz101_0 : wc.cell? ⟨gb234, 0, none⟩ = some (.int .i64 x235000_23) := (blk_cell BK234.out 0).trans rfl
                                  have hcz101_1 : wc.cell? ⟨gb234, 1, none⟩ = some (.int .i64 x235001_23) := (blk_cell BK234.out 1).trans rfl
                                  have hcz101_2 : wc.cell? ⟨gb234, 2, none⟩ = some (.int .i64 x235002_23) := (blk_cell BK234.out 2).trans rfl
                                  have hcz101_3 : wc.cell? ⟨gb234, 3, none⟩ = some (.int .i64 x235003_23) := (blk_cell BK234.out 3).trans rfl
                                  have hcz101_4 : wc.cell? ⟨gb234, 4, none⟩ = some (.int .i64 x235004_23) := (blk_cell BK234.out 4).trans rfl
                                  have hfz101_0 := blk_frozen BK234.out 0
                                  have hfz101_1 := blk_frozen BK234.out 1
                                  have hfz101_2 := blk_frozen BK234.out 2
                                  have hfz101_3 := blk_frozen BK234.out 3
                                  have hfz101_4 := blk_frozen BK234.out 4
                                  go_wp2_with (first | ((with_reducible refine gate_callee (f := 10) rfl ?_); refine goesL_ (some 115) rfl rfl Try.func10 (by kernel_rfl) rfl #[.agg #[.int .i64 x235000_23, .int .i64 x235001_23, .int .i64 x235002_23, .int .i64 x235003_23, .int .i64 x235004_23]] rfl (by (try simp only [List.map_toArray, List.map_cons, List.map_nil]); first | done | rfl | (simp only [List.length_drop, List.length_take]; rfl)) ?_; (with_reducible refine (cbs_Good.calls x235000_23 x235001_23 x235002_23 x235003_23 x235004_23 false _ A63.out).mono ?_); rintro e w102 ⟨rfl, hb⟩; refine ⟨_, rfl, ?_⟩; have n0_ := Aside0.mk (blk_below (g := gb234) (o := .cells #[.int .i64 x235000_23, .int .i64 x235001_23, .int .i64 x235002_23, .int .i64 x235003_23, .int .i64 x235004_23] 23 (0, 0)) (by (with_reducible repeat (first | refine blk_drewN ?_ _ | refine blk_drew ?_ | refine blk_alloc ?_ _)); exact BK234.out) hb); have n1_ := Aside0.mk (blk_below (g := gb238) (o := .cells #[.int .i64 x235000_1, .int .i64 x235001_1, .int .i64 x235002_1, .int .i64 x235003_1, .int .i64 x235004_1] 23 (0, 0)) (by (with_reducible repeat (first | refine blk_drewN ?_ _ | refine blk_drew ?_ | refine blk_alloc ?_ _)); exact BK238.out) hb); have n2_ := Aside0.mk (below_step (by repeat (first | (with_reducible first | exact HB.out | apply below_alloc | apply pw_below_drewN | apply below_drew1 | refine below_set ?_ GE234.out | refine below_set ?_ GE238.out) | exact HB.out)) hb); clear BK234; clear BK238; clear HB; have BK234 := n0_; have BK238 := n1_; have HB := n2_; clear n0_ n1_ n2_; (try clear hb); (try clear hb2); (try clear hk); (try clear hi)))
                                  go_meet
                                  case rel => exact ⟨_, (true), (by first | rfl | (simp; done) | (simp [*]; done)), H', ⟨by have := HK1.out; have := HJ14.out; have := HJ17.out; have := HJ23.out; first | omega | exact Nat.le_refl _⟩, ⟨by (with_reducible repeat (first | refine blk_drewN ?_ _ | refine blk_drew ?_ | refine blk_alloc ?_ _)); exact BK234.out⟩, ⟨by (with_reducible repeat (first | refine blk_drewN ?_ _ | refine blk_drew ?_ | refine blk_alloc ?_ _)); exact BK238.out⟩, ⟨by repeat (first | (with_reducible first | exact HB.out | apply below_alloc | apply pw_below_drewN | apply below_drew1 | refine below_set ?_ GE234.out | refine below_set ?_ GE238.out) | exact HB.out)⟩⟩
                              case rest =>
                                clear HC62
                                try clear c1
                                try clear c2
                                try clear p2
                                try clear q2
                                try clear hx2
                                try clear c3
                                try clear c4
                                try clear c5
                                try clear c6
                                try clear c6b0
                                try clear c6b1
                                try clear p6
                                try clear c7
                                try clear c8
                                try clear c9
                                try clear c9b0
                                try clear c9b1
                                try clear c10
                                try clear c11
                                try clear c12
                                try clear c13
                                try clear c14
                                try clear c14b0
                                try clear c15
                                try clear c16
                                try clear c16b0
                                try clear c17
                                try clear c17b0
                                try clear c19
                                try clear c20
                                try clear c20b0
                                try clear c21
                                try clear c21b0
                                try clear c22
                                try clear c22b0
                                try clear c23
                                try clear c23b0
                                try clear p23
                                try clear q23
                                try clear hx23
                                try clear p24
                                try clear q24
                                try clear hx24
                                try clear c27
                                try clear c29
                                try clear c29b0
                                try clear c29b1
                                try clear c31
                                try clear c35
                                try clear c35b0
                                try clear c35b1
                                try clear c45
                                try clear c45b0
                                try clear c45b1
                                try clear c47
                                try clear c51
                                try clear c51b0
                                try clear c51b1
                                try clear c53
                                try clear c58
                                try clear c64
                                try clear p64
                                try clear c65
                                try clear c65b0
                                try clear c66
                                try clear c71
                                try clear c71b0
                                try clear c72
                                try clear c72b0
                                try clear c73
                                try clear c78
                                try clear c78b0
                                try clear c78b1
                                try clear c79
                                try clear c84
                                try clear c89
                                try clear c89b0
                                try clear c89b1
                                try clear c90
                                try clear c95
                                try clear c100
                                try clear hcz101_0
                                try clear hcz101_1
                                try clear hcz101_2
                                try clear hcz101_3
                                try clear hcz101_4
                                try clear hcz13_0
                                try clear hcz13_1
                                try clear hcz13_2
                                try clear hcz13_3
                                try clear hcz13_4
                                try clear hcz25_0
                                try clear hcz25_1
                                try clear hcz25_2
                                try clear hcz25_3
                                try clear hcz25_4
                                try clear hcz28_0
                                try clear hcz28_1
                                try clear hcz28_2
                                try clear hcz28_3
                                try clear hcz28_4
                                try clear hcz32_0
                                try clear hcz32_1
                                try clear hcz32_2
                                try clear hcz32_3
                                try clear hcz32_4
                                try clear hcz34_0
                                try clear hcz34_1
                                try clear hcz34_2
                                try clear hcz34_3
                                try clear hcz34_4
                                try clear hcz48_0
                                try clear hcz48_1
                                try clear hcz48_2
                                try clear hcz48_3
                                try clear hcz48_4
                                try clear hcz50_0
                                try clear hcz50_1
                                try clear hcz50_2
                                try clear hcz50_3
                                try clear hcz50_4
                                try clear hcz54_0
                                try clear hcz54_1
                                try clear hcz54_2
                                try clear hcz54_3
                                try clear hcz54_4
                                try clear hcz56_0
                                try clear hcz56_1
                                try clear hcz56_2
                                try clear hcz56_3
                                try clear hcz56_4
                                try clear hcz59_0
                                try clear hcz59_1
                                try clear hcz59_2
                                try clear hcz59_3
                                try clear hcz59_4
                                try clear hcz61_0
                                try clear hcz61_1
                                try clear hcz61_2
                                try clear hcz61_3
                                try clear hcz61_4
                                try clear hcz67_0
                                try clear hcz67_1
                                try clear hcz67_2
                                try clear hcz67_3
                                try clear hcz67_4
                                try clear hcz69_0
                                try clear hcz69_1
                                try clear hcz69_2
                                try clear hcz69_3
                                try clear hcz69_4
                                try clear hcz70_0
                                try clear hcz70_1
                                try clear hcz70_2
                                try clear hcz70_3
                                try clear hcz70_4
                                try clear hcz74_0
                                try clear hcz74_1
                                try clear hcz74_2
                                try clear hcz74_3
                                try clear hcz74_4
                                try clear hcz76_0
                                try clear hcz76_1
                                try clear hcz76_2
                                try clear hcz76_3
                                try clear hcz76_4
                                try clear hcz77_0
                                try clear hcz77_1
                                try clear hcz77_2
                                try clear hcz77_3
                                try clear hcz77_4
                                try clear hcz80_0
                                try clear hcz80_1
                                try clear hcz80_2
                                try clear hcz80_3
                                try clear hcz80_4
                                try clear hcz82_0
                                try clear hcz82_1
                                try clear hcz82_2
                                try clear hcz82_3
                                try clear hcz82_4
                                try clear hcz83_0
                                try clear hcz83_1
                                try clear hcz83_2
                                try clear hcz83_3
                                try clear hcz83_4
                                try clear hcz85_0
                                try clear hcz85_1
                                try clear hcz85_2
                                try clear hcz85_3
                                try clear hcz85_4
                                try clear hcz87_0
                                try clear hcz87_1
                                try clear hcz87_2
                                try clear hcz87_3
                                try clear hcz87_4
                                try clear hcz88_0
                                try clear hcz88_1
                                try clear hcz88_2
                                try clear hcz88_3
                                try clear hcz88_4
                                try clear hcz91_0
                                try clear hcz91_1
                                try clear hcz91_2
                                try clear hcz91_3
                                try clear hcz91_4
                                try clear hcz93_0
                                try clear hcz93_1
                                try clear hcz93_2
                                try clear hcz93_3
                                try clear hcz93_4
                                try clear hcz94_0
                                try clear hcz94_1
                                try clear hcz94_2
                                try clear hcz94_3
                                try clear hcz94_4
                                try clear hcz96_0
                                try clear hcz96_1
                                try clear hcz96_2
                                try clear hcz96_3
                                try clear hcz96_4
                                try clear hcz98_0
                                try clear hcz98_1
                                try clear hcz98_2
                                try clear hcz98_3
                                try clear hcz98_4
                                try clear hcz99_0
                                try clear hcz99_1
                                try clear hcz99_2
                                try clear hcz99_3
                                try clear hcz99_4
                                try clear hfz101_0
                                try clear hfz101_1
                                try clear hfz101_2
                                try clear hfz101_3
                                try clear hfz101_4
                                try clear hfz13_0
                                try clear hfz13_1
                                try clear hfz13_2
                                try clear hfz13_3
                                try clear hfz13_4
                                try clear hfz25_0
                                try clear hfz25_1
                                try clear hfz25_2
                                try clear hfz25_3
                                try clear hfz25_4
                                try clear hfz28_0
                                try clear hfz28_1
                                try clear hfz28_2
                                try clear hfz28_3
                                try clear hfz28_4
                                try clear hfz32_0
                                try clear hfz32_1
                                try clear hfz32_2
                                try clear hfz32_3
                                try clear hfz32_4
                                try clear hfz34_0
                                try clear hfz34_1
                                try clear hfz34_2
                                try clear hfz34_3
                                try clear hfz34_4
                                try clear hfz48_0
                                try clear hfz48_1
                                try clear hfz48_2
                                try clear hfz48_3
                                try clear hfz48_4
                                try clear hfz50_0
                                try clear hfz50_1
                                try clear hfz50_2
                                try clear hfz50_3
                                try clear hfz50_4
                                try clear hfz54_0
                                try clear hfz54_1
                                try clear hfz54_2
                                try clear hfz54_3
                                try clear hfz54_4
                                try clear hfz56_0
                                try clear hfz56_1
                                try clear hfz56_2
                                try clear hfz56_3
                                try clear hfz56_4
                                try clear hfz59_0
                                try clear hfz59_1
                                try clear hfz59_2
                                try clear hfz59_3
                                try clear hfz59_4
                                try clear hfz61_0
                                try clear hfz61_1
                                try clear hfz61_2
                                try clear hfz61_3
                                try clear hfz61_4
                                try clear hfz67_0
                                try clear hfz67_1
                                try clear hfz67_2
                                try clear hfz67_3
                                try clear hfz67_4
                                try clear hfz69_0
                                try clear hfz69_1
                                try clear hfz69_2
                                try clear hfz69_3
                                try clear hfz69_4
                                try clear hfz70_0
                                try clear hfz70_1
                                try clear hfz70_2
                                try clear hfz70_3
                                try clear hfz70_4
                                try clear hfz74_0
                                try clear hfz74_1
                                try clear hfz74_2
                                try clear hfz74_3
                                try clear hfz74_4
                                try clear hfz76_0
                                try clear hfz76_1
                                try clear hfz76_2
                                try clear hfz76_3
                                try clear hfz76_4
                                try clear hfz77_0
                                try clear hfz77_1
                                try clear hfz77_2
                                try clear hfz77_3
                                try clear hfz77_4
                                try clear hfz80_0
                                try clear hfz80_1
                                try clear hfz80_2
                                try clear hfz80_3
                                try clear hfz80_4
                                try clear hfz82_0
                                try clear hfz82_1
                                try clear hfz82_2
                                try clear hfz82_3
                                try clear hfz82_4
                                try clear hfz83_0
                                try clear hfz83_1
                                try clear hfz83_2
                                try clear hfz83_3
                                try clear hfz83_4
                                try clear hfz85_0
                                try clear hfz85_1
                                try clear hfz85_2
                                try clear hfz85_3
                                try clear hfz85_4
                                try clear hfz87_0
                                try clear hfz87_1
                                try clear hfz87_2
                                try clear hfz87_3
                                try clear hfz87_4
                                try clear hfz88_0
                                try clear hfz88_1
                                try clear hfz88_2
                                try clear hfz88_3
                                try clear hfz88_4
                                try clear hfz91_0
                                try clear hfz91_1
                                try clear hfz91_2
                                try clear hfz91_3
                                try clear hfz91_4
                                try clear hfz93_0
                                try clear hfz93_1
                                try clear hfz93_2
                                try clear hfz93_3
                                try clear hfz93_4
                                try clear hfz94_0
                                try clear hfz94_1
                                try clear hfz94_2
                                try clear hfz94_3
                                try clear hfz94_4
                                try clear hfz96_0
                                try clear hfz96_1
                                try clear hfz96_2
                                try clear hfz96_3
                                try clear hfz96_4
                                try clear hfz98_0
                                try clear hfz98_1
                                try clear hfz98_2
                                try clear hfz98_3
                                try clear hfz98_4
                                try clear hfz99_0
                                try clear hfz99_1
                                try clear hfz99_2
                                try clear hfz99_3
                                try clear hfz99_4
                                try clear hx235_0
                                try clear hx235_1
                                try clear hx235_2
                                try clear hx236_0
                                try clear hx236_1
                                try clear hx236_2
                                try clear hx237_0
                                try clear hx237_1
                                try clear hx237_2
                                try clear hx239_0
                                try clear hx239_1
                                try clear hx239_2
                                try clear hx246_0
                                try clear hx246_1
                                try clear hx246_2
                                try clear p2
                                try clear p23
                                try clear p235
                                try clear p236
                                try clear p237
                                try clear p239
                                try clear p24
                                try clear p246
                                try clear p6
                                try clear q2
                                try clear q23
                                try clear q235
                                try clear q236
                                try clear q237
                                try clear q239
                                try clear q24
                                try clear q246
                                obtain ⟨kq, x151_61, rfl, HA, HJ61, BK234, BK238, HB⟩ := hcut
                                cases kq with
                                | zero => exact absurd HA.out (by simp [beadlelaw12_CbsWindows.j4])
                                | succ kj61 =>
                                  have H := HA.out
                                  clear HA
                                  simp only [beadlelaw12_CbsWindows.j4] at H
                                  by_cases c103 : x151_61 = true
                                  · subst c103
                                    have H1 : (some false) = some r := by rw [if_pos rfl] at H; exact H
                                    clear H
                                    have H := H1
                                    clear H1
                                    obtain rfl := Option.some.inj H
                                    go_wp2
                                    go_ret
                                    exact ⟨by first | rfl | (simp [errW_none, errW_some] <;> rfl) | (simp [*, errW_none, errW_some] <;> rfl), by repeat (first | (with_reducible first | exact HB.out | apply below_alloc | apply pw_below_drewN | apply below_drew1 | refine below_set ?_ GE234.out | refine below_set ?_ GE238.out) | exact HB.out)⟩
                                  · replace c103 := Bool.eq_false_iff.mpr c103
                                    subst c103
                                    have H1 : (if x235003_23 = x235003_1 then (if x235002_23 < x235002_1 then (if 0 ≤ x11_1 then (if x11_1 < (l2.length : Int) then (beadlelaw12_CbsWindows.j5 kj61 a0 a1 l2 x9_17 x10_1 x11_1 (((rd_T36 l2 x11_1).f0) == 1) x235000_23 x235001_23 x235002_23 x235003_23 x235004_23 x235000_1 x235001_1 x235002_1 x235003_1 x235004_1) else (none)) else (none)) else (beadlelaw12_CbsWindows.j5 kj61 a0 a1 l2 x9_17 x10_1 x11_1 false x235000_23 x235001_23 x235002_23 x235003_23 x235004_23 x235000_1 x235001_1 x235002_1 x235003_1 x235004_1)) else (if 0 > a0 then (some false) else (if (wrap64 (0 + x235002_23)) > a0 then (some false) else (beadlelaw12_CbsWindows.l0 kj61 a0 a1 l2 x9_17 0 (wrap64 (x11_1 + 1)) x235000_23 x235001_23 x235002_23 x235003_23 x235004_23)))) = some r := by rw [if_neg (show ¬ (false = true) by decide)] at H; exact H
                                    clear H
                                    have H := H1
                                    clear H1
                                    by_cases c104 : x235003_23 = x235003_1
                                    · rw [if_pos c104] at H
                                      have c104b0 : (x235003_23 == x235003_1) = true := beq_iff_eq.mpr c104
                                      have c104b1 : (x235003_23 != x235003_1) = false := bne_eq_false_iff_eq.mpr c104
                                      clear c104
                                      have HC105 := Aside0.mk H
                                      clear H
                                      have hnb106 := NB234_238.out
                                      have hnc106 := NB238_234.out
                                      have hcz107_0 : wc.cell? ⟨gb234, 0, none⟩ = some (.int .i64 x235000_23) := (blk_cell BK234.out 0).trans rfl
                                      have hcz107_1 : wc.cell? ⟨gb234, 1, none⟩ = some (.int .i64 x235001_23) := (blk_cell BK234.out 1).trans rfl
                                      have hcz107_2 : wc.cell? ⟨gb234, 2, none⟩ = some (.int .i64 x235002_23) := (blk_cell BK234.out 2).trans rfl
                                      have hcz107_3 : wc.cell? ⟨gb234, 3, none⟩ = some (.int .i64 x235003_23) := (blk_cell BK234.out 3).trans rfl
                                      have hcz107_4 : wc.cell? ⟨gb234, 4, none⟩ = some (.int .i64 x235004_23) := (blk_cell BK234.out 4).trans rfl
                                      have hfz107_0 := blk_frozen BK234.out 0
                                      have hfz107_1 := blk_frozen BK234.out 1
                                      have hfz107_2 := blk_frozen BK234.out 2
                                      have hfz107_3 := blk_frozen BK234.out 3
                                      have hfz107_4 := blk_frozen BK234.out 4
                                      have hcz108_0 : wc.cell? ⟨gb238, 0, none⟩ = some (.int .i64 x235000_1) := (blk_cell BK238.out 0).trans rfl
                                      have hcz108_1 : wc.cell? ⟨gb238, 1, none⟩ = some (.int .i64 x235001_1) := (blk_cell BK238.out 1).trans rfl
                                      have hcz108_2 : wc.cell? ⟨gb238, 2, none⟩ = some (.int .i64 x235002_1) := (blk_cell BK238.out 2).trans rfl
                                      have hcz108_3 : wc.cell? ⟨gb238, 3, none⟩ = some (.int .i64 x235003_1) := (blk_cell BK238.out 3).trans rfl
                                      have hcz108_4 : wc.cell? ⟨gb238, 4, none⟩ = some (.int .i64 x235004_1) := (blk_cell BK238.out 4).trans rfl
                                      have hfz108_0 := blk_frozen BK238.out 0
                                      have hfz108_1 := blk_frozen BK238.out 1
                                      have hfz108_2 := blk_frozen BK238.out 2
                                      have hfz108_3 := blk_frozen BK238.out 3
                                      have hfz108_4 := blk_frozen BK238.out 4
                                      go_upto_region 29 with (fail)
                                      go_cut [169] (fun v169 wc => ∃ (kq : Nat) (x169_104 : Bool), v169 = .bool x169_104 ∧ Aside0 (beadlelaw12_CbsWindows.j5 kq a0 a1 l2 x9_17 x10_1 x11_1 x169_104 x235000_23 x235001_23 x235002_23 x235003_23 x235004_23 x235000_1 x235001_1 x235002_1 x235003_1 x235004_1 = some r) ∧ Aside0 (kq ≤ kj61) ∧ Aside0 (wc.heap[gb234]? = some (.cells #[.int .i64 x235000_23, .int .i64 x235001_23, .int .i64 x235002_23, .int .i64 x235003_23, .int .i64 x235004_23] 23 (0, 0))) ∧ Aside0 (wc.heap[gb238]? = some (.cells #[.int .i64 x235000_1, .int .i64 x235001_1, .int .i64 x235002_1, .int .i64 x235003_1, .int .i64 x235004_1] 23 (0, 0))) ∧ Aside0 (Below w.heap.size w wc))
                                      case first =>
                                        have H := HC105.out
                                        clear HC105
                                        by_cases c109 : x235002_23 < x235002_1
                                        · as_aux_lemma =>
                                          rw [if_pos c109] at H
                                          have c109b0 : decide (x235002_23 < x235002_1) = true := decide_eq_true c109
                                          clear c109
                                          (first | rw [c109b0] | (simp only [i64_w, i32_w]; rw [c109b0]) | skip)
                                          by_cases c110 : 0 ≤ x11_1
                                          · rw [if_pos c110] at H
                                            have c110b0 : decide (0 ≤ x11_1) = true := decide_eq_true c110
                                            clear c110
                                            by_cases c111 : x11_1 < (l2.length : Int)
                                            · rw [if_pos c111] at H
                                              have c111b0 : decide (x11_1 < (l2.length : Int)) = true := decide_eq_true c111
                                              clear c111
                                              have H' := Aside0.mk H
                                              clear H
                                              have hnb112 := NB234_238.out
                                              have hnc112 := NB238_234.out
                                              have hcz113_0 : wc.cell? ⟨gb234, 0, none⟩ = some (.int .i64 x235000_23) := (blk_cell BK234.out 0).trans rfl
                                              have hcz113_1 : wc.cell? ⟨gb234, 1, none⟩ = some (.int .i64 x235001_23) := (blk_cell BK234.out 1).trans rfl
                                              have hcz113_2 : wc.cell? ⟨gb234, 2, none⟩ = some (.int .i64 x235002_23) := (blk_cell BK234.out 2).trans rfl
                                              have hcz113_3 : wc.cell? ⟨gb234, 3, none⟩ = some (.int .i64 x235003_23) := (blk_cell BK234.out 3).trans rfl
                                              have hcz113_4 : wc.cell? ⟨gb234, 4, none⟩ = some (.int .i64 x235004_23) := (blk_cell BK234.out 4).trans rfl
                                              have hfz113_0 := blk_frozen BK234.out 0
                                              have hfz113_1 := blk_frozen BK234.out 1
                                              have hfz113_2 := blk_frozen BK234.out 2
                                              have hfz113_3 := blk_frozen BK234.out 3
                                              have hfz113_4 := blk_frozen BK234.out 4
                                              have hcz114_0 : wc.cell? ⟨gb238, 0, none⟩ = some (.int .i64 x235000_1) := (blk_cell BK238.out 0).trans rfl
                                              have hcz114_1 : wc.cell? ⟨gb238, 1, none⟩ = some (.int .i64 x235001_1) := (blk_cell BK238.out 1).trans rfl
                                              have hcz114_2 : wc.cell? ⟨gb238, 2, none⟩ = some (.int .i64 x235002_1) := (blk_cell BK238.out 2).trans rfl
                                              have hcz114_3 : wc.cell? ⟨gb238, 3, none⟩ = some (.int .i64 x235003_1) := (blk_cell BK238.out 3).trans rfl
                                              have hcz114_4 : wc.cell? ⟨gb238, 4, none⟩ = some (.int .i64 x235004_1) := (blk_cell BK238.out 4).trans rfl
                                              have hfz114_0 := blk_frozen BK238.out 0
                                              have hfz114_1 := blk_frozen BK238.out 1
                                              have hfz114_2 := blk_frozen BK238.out 2
                                              have hfz114_3 := blk_frozen BK238.out 3
                                              have hfz114_4 := blk_frozen BK238.out 4
                                              have p272 : 0 ≤ (x11_1 : Int) := of_decide_eq_true (by first | (with_reducible assumption) | assumption)
                                              have q272 : x11_1 < (l2.length : Int) := of_decide_eq_true (by first | (with_reducible assumption) | assumption)
                                              obtain ⟨ad272, e272, hx272_0, hx272_1, hx272_2⟩ := at_T36 HR2.out x11_1 p272 q272
                                              obtain rfl : ad239 = ad272 := (by injection e272)
                                              replace hx272_0 := (HB.out.cell (World.block_lt_of_cell? w _ hx272_0)).trans hx272_0
                                              replace hx272_1 := (HB.out.cell (World.block_lt_of_cell? w _ hx272_1)).trans hx272_1
                                              replace hx272_2 := (HB.out.cell (World.block_lt_of_cell? w _ hx272_2)).trans hx272_2
                                              replace p272 := eq_true p272
                                              replace q272 := eq_true q272
                                              go_wp2
                                              go_meet
                                              case rel => exact ⟨_, ((((rd_T36 l2 x11_1).f0) == 1)), (by first | rfl | (simp; done) | (simp [*]; done)), H', ⟨by have := HK1.out; have := HJ14.out; have := HJ17.out; have := HJ23.out; have := HJ61.out; first | omega | exact Nat.le_refl _⟩, ⟨by (with_reducible repeat (first | refine blk_drewN ?_ _ | refine blk_drew ?_ | refine blk_alloc ?_ _)); exact BK234.out⟩, ⟨by (with_reducible repeat (first | refine blk_drewN ?_ _ | refine blk_drew ?_ | refine blk_alloc ?_ _)); exact BK238.out⟩, ⟨by repeat (first | (with_reducible first | exact HB.out | apply below_alloc | apply pw_below_drewN | apply below_drew1 | refine below_set ?_ GE234.out | refine below_set ?_ GE238.out) | exact HB.out)⟩⟩
                                            · rw [if_neg c111] at H
                                              exact absurd H (by simp)
                                          · rw [if_neg c110] at H
                                            exact absurd H (by simp)
                                        · as_aux_lemma =>
                                          rw [if_neg c109] at H
                                          have c109b0 : decide (x235002_23 < x235002_1) = false := decide_eq_false c109
                                          clear c109
                                          (first | rw [c109b0] | (simp only [i64_w, i32_w]; rw [c109b0]) | skip)
                                          have H' := Aside0.mk H
                                          clear H
                                          have hnb115 := NB234_238.out
                                          have hnc115 := NB238_234.out
                                          have hcz116_0 : wc.cell? ⟨gb234, 0, none⟩ = some (.int .i64 x235000_23) := (blk_cell BK234.out 0).trans rfl
                                          have hcz116_1 : wc.cell? ⟨gb234, 1, none⟩ = some (.int .i64 x235001_23) := (blk_cell BK234.out 1).trans rfl
                                          have hcz116_2 : wc.cell? ⟨gb234, 2, none⟩ = some (.int .i64 x235002_23) := (blk_cell BK234.out 2).trans rfl
                                          have hcz116_3 : wc.cell? ⟨gb234, 3, none⟩ = some (.int .i64 x235003_23) := (blk_cell BK234.out 3).trans rfl
                                          have hcz116_4 : wc.cell? ⟨gb234, 4, none⟩ = some (.int .i64 x235004_23) := (blk_cell BK234.out 4).trans rfl
                                          have hfz116_0 := blk_frozen BK234.out 0
                                          have hfz116_1 := blk_frozen BK234.out 1
                                          have hfz116_2 := blk_frozen BK234.out 2
                                          have hfz116_3 := blk_frozen BK234.out 3
                                          have hfz116_4 := blk_frozen BK234.out 4
                                          have hcz117_0 : wc.cell? ⟨gb238, 0, none⟩ = some (.int .i64 x235000_1) := (blk_cell BK238.out 0).trans rfl
                                          have hcz117_1 : wc.cell? ⟨gb238, 1, none⟩ = some (.int .i64 x235001_1) := (blk_cell BK238.out 1).trans rfl
                                          have hcz117_2 : wc.cell? ⟨gb238, 2, none⟩ = some (.int .i64 x235002_1) := (blk_cell BK238.out 2).trans rfl
                                          have hcz117_3 : wc.cell? ⟨gb238, 3, none⟩ = some (.int .i64 x235003_1) := (blk_cell BK238.out 3).trans rfl
                                          have hcz117_4 : wc.cell? ⟨gb238, 4, none⟩ = some (.int .i64 x235004_1) := (blk_cell BK238.out 4).trans rfl
                                          have hfz117_0 := blk_frozen BK238.out 0
                                          have hfz117_1 := blk_frozen BK238.out 1
                                          have hfz117_2 := blk_frozen BK238.out 2
                                          have hfz117_3 := blk_frozen BK238.out 3
                                          have hfz117_4 := blk_frozen BK238.out 4
                                          go_wp2
                                          go_meet
                                          case rel => exact ⟨_, (false), (by first | rfl | (simp; done) | (simp [*]; done)), H', ⟨by have := HK1.out; have := HJ14.out; have := HJ17.out; have := HJ23.out; have := HJ61.out; first | omega | exact Nat.le_refl _⟩, ⟨by (with_reducible repeat (first | refine blk_drewN ?_ _ | refine blk_drew ?_ | refine blk_alloc ?_ _)); exact BK234.out⟩, ⟨by (with_reducible repeat (first | refine blk_drewN ?_ _ | refine blk_drew ?_ | refine blk_alloc ?_ _)); exact BK238.out⟩, ⟨by repeat (first | (with_reducible first | exact HB.out | apply below_alloc | apply pw_below_drewN | apply below_drew1 | refine below_set ?_ GE234.out | refine below_set ?_ GE238.out) | exact HB.out)⟩⟩
                                      case rest =>
                                        clear HC105
                                        try clear c1
                                        try clear c2
                                        try clear p2
                                        try clear q2
                                        try clear hx2
                                        try clear c3
                                        try clear c4
                                        try clear c5
                                        try clear c6
                                        try clear c6b0
                                        try clear c6b1
                                        try clear p6
                                        try clear c7
                                        try clear c8
                                        try clear c9
                                        try clear c9b0
                                        try clear c9b1
                                        try clear c10
                                        try clear c11
                                        try clear c12
                                        try clear c13
                                        try clear c14
                                        try clear c14b0
                                        try clear c15
                                        try clear c16
                                        try clear c16b0
                                        try clear c17
                                        try clear c17b0
                                        try clear c19
                                        try clear c20
                                        try clear c20b0
                                        try clear c21
                                        try clear c21b0
                                        try clear c22
                                        try clear c22b0
                                        try clear c23
                                        try clear c23b0
                                        try clear p23
                                        try clear q23
                                        try clear hx23
                                        try clear p24
                                        try clear q24
                                        try clear hx24
                                        try clear c27
                                        try clear p27
                                        try clear q27
                                        try clear hx27
                                        try clear c29
                                        try clear c29b0
                                        try clear c29b1
                                        try clear c31
                                        try clear c35
                                        try clear c35b0
                                        try clear c35b1
                                        try clear c45
                                        try clear c45b0
                                        try clear c45b1
                                        try clear c47
                                        try clear c51
                                        try clear c51b0
                                        try clear c51b1
                                        try clear c53
                                        try clear c58
                                        try clear c64
                                        try clear p64
                                        try clear c65
                                        try clear c65b0
                                        try clear c66
                                        try clear c71
                                        try clear c71b0
                                        try clear c72
                                        try clear c72b0
                                        try clear c73
                                        try clear c78
                                        try clear c78b0
                                        try clear c78b1
                                        try clear c79
                                        try clear c84
                                        try clear c89
                                        try clear c89b0
                                        try clear c89b1
                                        try clear c90
                                        try clear c95
                                        try clear c100
                                        try clear c103
                                        try clear c104
                                        try clear c104b0
                                        try clear c104b1
                                        try clear c106
                                        try clear c109
                                        try clear c109b0
                                        try clear c110
                                        try clear c110b0
                                        try clear c111
                                        try clear c111b0
                                        try clear c112
                                        try clear c115
                                        try clear hcz101_0
                                        try clear hcz101_1
                                        try clear hcz101_2
                                        try clear hcz101_3
                                        try clear hcz101_4
                                        try clear hcz107_0
                                        try clear hcz107_1
                                        try clear hcz107_2
                                        try clear hcz107_3
                                        try clear hcz107_4
                                        try clear hcz108_0
                                        try clear hcz108_1
                                        try clear hcz108_2
                                        try clear hcz108_3
                                        try clear hcz108_4
                                        try clear hcz113_0
                                        try clear hcz113_1
                                        try clear hcz113_2
                                        try clear hcz113_3
                                        try clear hcz113_4
                                        try clear hcz114_0
                                        try clear hcz114_1
                                        try clear hcz114_2
                                        try clear hcz114_3
                                        try clear hcz114_4
                                        try clear hcz116_0
                                        try clear hcz116_1
                                        try clear hcz116_2
                                        try clear hcz116_3
                                        try clear hcz116_4
                                        try clear hcz117_0
                                        try clear hcz117_1
                                        try clear hcz117_2
                                        try clear hcz117_3
                                        try clear hcz117_4
                                        try clear hcz13_0
                                        try clear hcz13_1
                                        try clear hcz13_2
                                        try clear hcz13_3
                                        try clear hcz13_4
                                        try clear hcz25_0
                                        try clear hcz25_1
                                        try clear hcz25_2
                                        try clear hcz25_3
                                        try clear hcz25_4
                                        try clear hcz28_0
                                        try clear hcz28_1
                                        try clear hcz28_2
                                        try clear hcz28_3
                                        try clear hcz28_4
                                        try clear hcz32_0
                                        try clear hcz32_1
                                        try clear hcz32_2
                                        try clear hcz32_3
                                        try clear hcz32_4
                                        try clear hcz34_0
                                        try clear hcz34_1
                                        try clear hcz34_2
                                        try clear hcz34_3
                                        try clear hcz34_4
                                        try clear hcz48_0
                                        try clear hcz48_1
                                        try clear hcz48_2
                                        try clear hcz48_3
                                        try clear hcz48_4
                                        try clear hcz50_0
                                        try clear hcz50_1
                                        try clear hcz50_2
                                        try clear hcz50_3
                                        try clear hcz50_4
                                        try clear hcz54_0
                                        try clear hcz54_1
                                        try clear hcz54_2
                                        try clear hcz54_3
                                        try clear hcz54_4
                                        try clear hcz56_0
                                        try clear hcz56_1
                                        try clear hcz56_2
                                        try clear hcz56_3
                                        try clear hcz56_4
                                        try clear hcz59_0
                                        try clear hcz59_1
                                        try clear hcz59_2
                                        try clear hcz59_3
                                        try clear hcz59_4
                                        try clear hcz61_0
                                        try clear hcz61_1
                                        try clear hcz61_2
                                        try clear hcz61_3
                                        try clear hcz61_4
                                        try clear hcz67_0
                                        try clear hcz67_1
                                        try clear hcz67_2
                                        try clear hcz67_3
                                        try clear hcz67_4
                                        try clear hcz69_0
                                        try clear hcz69_1
                                        try clear hcz69_2
                                        try clear hcz69_3
                                        try clear hcz69_4
                                        try clear hcz70_0
                                        try clear hcz70_1
                                        try clear hcz70_2
                                        try clear hcz70_3
                                        try clear hcz70_4
                                        try clear hcz74_0
                                        try clear hcz74_1
                                        try clear hcz74_2
                                        try clear hcz74_3
                                        try clear hcz74_4
                                        try clear hcz76_0
                                        try clear hcz76_1
                                        try clear hcz76_2
                                        try clear hcz76_3
                                        try clear hcz76_4
                                        try clear hcz77_0
                                        try clear hcz77_1
                                        try clear hcz77_2
                                        try clear hcz77_3
                                        try clear hcz77_4
                                        try clear hcz80_0
                                        try clear hcz80_1
                                        try clear hcz80_2
                                        try clear hcz80_3
                                        try clear hcz80_4
                                        try clear hcz82_0
                                        try clear hcz82_1
                                        try clear hcz82_2
                                        try clear hcz82_3
                                        try clear hcz82_4
                                        try clear hcz83_0
                                        try clear hcz83_1
                                        try clear hcz83_2
                                        try clear hcz83_3
                                        try clear hcz83_4
                                        try clear hcz85_0
                                        try clear hcz85_1
                                        try clear hcz85_2
                                        try clear hcz85_3
                                        try clear hcz85_4
                                        try clear hcz87_0
                                        try clear hcz87_1
                                        try clear hcz87_2
                                        try clear hcz87_3
                                        try clear hcz87_4
                                        try clear hcz88_0
                                        try clear hcz88_1
                                        try clear hcz88_2
                                        try clear hcz88_3
                                        try clear hcz88_4
                                        try clear hcz91_0
                                        try clear hcz91_1
                                        try clear hcz91_2
                                        try clear hcz91_3
                                        try clear hcz91_4
                                        try clear hcz93_0
                                        try clear hcz93_1
                                        try clear hcz93_2
                                        try clear hcz93_3
                                        try clear hcz93_4
                                        try clear hcz94_0
                                        try clear hcz94_1
                                        try clear hcz94_2
                                        try clear hcz94_3
                                        try clear hcz94_4
                                        try clear hcz96_0
                                        try clear hcz96_1
                                        try clear hcz96_2
                                        try clear hcz96_3
                                        try clear hcz96_4
                                        try clear hcz98_0
                                        try clear hcz98_1
                                        try clear hcz98_2
                                        try clear hcz98_3
                                        try clear hcz98_4
                                        try clear hcz99_0
                                        try clear hcz99_1
                                        try clear hcz99_2
                                        try clear hcz99_3
                                        try clear hcz99_4
                                        try clear hfz101_0
                                        try clear hfz101_1
                                        try clear hfz101_2
                                        try clear hfz101_3
                                        try clear hfz101_4
                                        try clear hfz107_0
                                        try clear hfz107_1
                                        try clear hfz107_2
                                        try clear hfz107_3
                                        try clear hfz107_4
                                        try clear hfz108_0
                                        try clear hfz108_1
                                        try clear hfz108_2
                                        try clear hfz108_3
                                        try clear hfz108_4
                                        try clear hfz113_0
                                        try clear hfz113_1
                                        try clear hfz113_2
                                        try clear hfz113_3
                                        try clear hfz113_4
                                        try clear hfz114_0
                                        try clear hfz114_1
                                        try clear hfz114_2
                                        try clear hfz114_3
                                        try clear hfz114_4
                                        try clear hfz116_0
                                        try clear hfz116_1
                                        try clear hfz116_2
                                        try clear hfz116_3
                                        try clear hfz116_4
                                        try clear hfz117_0
                                        try clear hfz117_1
                                        try clear hfz117_2
                                        try clear hfz117_3
                                        try clear hfz117_4
                                        try clear hfz13_0
                                        try clear hfz13_1
                                        try clear hfz13_2
                                        try clear hfz13_3
                                        try clear hfz13_4
                                        try clear hfz25_0
                                        try clear hfz25_1
                                        try clear hfz25_2
                                        try clear hfz25_3
                                        try clear hfz25_4
                                        try clear hfz28_0
                                        try clear hfz28_1
                                        try clear hfz28_2
                                        try clear hfz28_3
                                        try clear hfz28_4
                                        try clear hfz32_0
                                        try clear hfz32_1
                                        try clear hfz32_2
                                        try clear hfz32_3
                                        try clear hfz32_4
                                        try clear hfz34_0
                                        try clear hfz34_1
                                        try clear hfz34_2
                                        try clear hfz34_3
                                        try clear hfz34_4
                                        try clear hfz48_0
                                        try clear hfz48_1
                                        try clear hfz48_2
                                        try clear hfz48_3
                                        try clear hfz48_4
                                        try clear hfz50_0
                                        try clear hfz50_1
                                        try clear hfz50_2
                                        try clear hfz50_3
                                        try clear hfz50_4
                                        try clear hfz54_0
                                        try clear hfz54_1
                                        try clear hfz54_2
                                        try clear hfz54_3
                                        try clear hfz54_4
                                        try clear hfz56_0
                                        try clear hfz56_1
                                        try clear hfz56_2
                                        try clear hfz56_3
                                        try clear hfz56_4
                                        try clear hfz59_0
                                        try clear hfz59_1
                                        try clear hfz59_2
                                        try clear hfz59_3
                                        try clear hfz59_4
                                        try clear hfz61_0
                                        try clear hfz61_1
                                        try clear hfz61_2
                                        try clear hfz61_3
                                        try clear hfz61_4
                                        try clear hfz67_0
                                        try clear hfz67_1
                                        try clear hfz67_2
                                        try clear hfz67_3
                                        try clear hfz67_4
                                        try clear hfz69_0
                                        try clear hfz69_1
                                        try clear hfz69_2
                                        try clear hfz69_3
                                        try clear hfz69_4
                                        try clear hfz70_0
                                        try clear hfz70_1
                                        try clear hfz70_2
                                        try clear hfz70_3
                                        try clear hfz70_4
                                        try clear hfz74_0
                                        try clear hfz74_1
                                        try clear hfz74_2
                                        try clear hfz74_3
                                        try clear hfz74_4
                                        try clear hfz76_0
                                        try clear hfz76_1
                                        try clear hfz76_2
                                        try clear hfz76_3
                                        try clear hfz76_4
                                        try clear hfz77_0
                                        try clear hfz77_1
                                        try clear hfz77_2
                                        try clear hfz77_3
                                        try clear hfz77_4
                                        try clear hfz80_0
                                        try clear hfz80_1
                                        try clear hfz80_2
                                        try clear hfz80_3
                                        try clear hfz80_4
                                        try clear hfz82_0
                                        try clear hfz82_1
                                        try clear hfz82_2
                                        try clear hfz82_3
                                        try clear hfz82_4
                                        try clear hfz83_0
                                        try clear hfz83_1
                                        try clear hfz83_2
                                        try clear hfz83_3
                                        try clear hfz83_4
                                        try clear hfz85_0
                                        try clear hfz85_1
                                        try clear hfz85_2
                                        try clear hfz85_3
                                        try clear hfz85_4
                                        try clear hfz87_0
                                        try clear hfz87_1
                                        try clear hfz87_2
                                        try clear hfz87_3
                                        try clear hfz87_4
                                        try clear hfz88_0
                                        try clear hfz88_1
                                        try clear hfz88_2
                                        try clear hfz88_3
                                        try clear hfz88_4
                                        try clear hfz91_0
                                        try clear hfz91_1
                                        try clear hfz91_2
                                        try clear hfz91_3
                                        try clear hfz91_4
                                        try clear hfz93_0
                                        try clear hfz93_1
                                        try clear hfz93_2
                                        try clear hfz93_3
                                        try clear hfz93_4
                                        try clear hfz94_0
                                        try clear hfz94_1
                                        try clear hfz94_2
                                        try clear hfz94_3
                                        try clear hfz94_4
                                        try clear hfz96_0
                                        try clear hfz96_1
                                        try clear hfz96_2
                                        try clear hfz96_3
                                        try clear hfz96_4
                                        try clear hfz98_0
                                        try clear hfz98_1
                                        try clear hfz98_2
                                        try clear hfz98_3
                                        try clear hfz98_4
                                        try clear hfz99_0
                                        try clear hfz99_1
                                        try clear hfz99_2
                                        try clear hfz99_3
                                        try clear hfz99_4
                                        try clear hx235_0
                                        try clear hx235_1
                                        try clear hx235_2
                                        try clear hx236_0
                                        try clear hx236_1
                                        try clear hx236_2
                                        try clear hx237_0
                                        try clear hx237_1
                                        try clear hx237_2
                                        try clear hx239_0
                                        try clear hx239_1
                                        try clear hx239_2
                                        try clear hx246_0
                                        try clear hx246_1
                                        try clear hx246_2
                                        try clear hx272_0
                                        try clear hx272_1
                                        try clear hx272_2
                                        try clear p2
                                        try clear p23
                                        try clear p235
                                        try clear p236
                                        try clear p237
                                        try clear p239
                                        try clear p24
                                        try clear p246
                                        try clear p272
                                        try clear p6
                                        try clear p64
                                        try clear q2
                                        try clear q23
                                        try clear q235
                                        try clear q236
                                        try clear q237
                                        try clear q239
                                        try clear q24
                                        try clear q246
                                        try clear q272
                                        obtain ⟨kq, x169_104, rfl, HA, HJ104, BK234, BK238, HB⟩ := hcut
                                        cases kq with
                                        | zero => exact absurd HA.out (by simp [beadlelaw12_CbsWindows.j5])
                                        | succ kj104 =>
                                          have H := HA.out
                                          clear HA
                                          simp only [beadlelaw12_CbsWindows.j5] at H
                                          by_cases c118 : x169_104 = true
                                          · as_aux_lemma =>
                                            subst c118
                                            have H1 : (if (wrap64 ((wrap64 (x10_1 + x235002_1)) - x235002_23)) > a0 then (some false) else (if (wrap64 ((wrap64 ((wrap64 (x10_1 + x235002_1)) - x235002_23)) + x235002_23)) > a0 then (some false) else (beadlelaw12_CbsWindows.l0 kj104 a0 a1 l2 x9_17 (wrap64 ((wrap64 (x10_1 + x235002_1)) - x235002_23)) (wrap64 (x11_1 + 1)) x235000_23 x235001_23 x235002_23 x235003_23 x235004_23))) = some r := by rw [if_pos rfl] at H; exact H
                                            clear H
                                            have H := H1
                                            clear H1
                                            by_cases c119 : (wrap64 ((wrap64 (x10_1 + x235002_1)) - x235002_23)) > a0
                                            · rw [if_pos c119] at H
                                              have c119b0 : decide (a0 < (wrap64 ((wrap64 (x10_1 + x235002_1)) - x235002_23))) = true := decide_eq_true c119
                                              clear c119
                                              obtain rfl := Option.some.inj H
                                              have hnb120 := NB238_234.out
                                              have hnc120 := NB234_238.out
                                              have hcz121_0 : wc.cell? ⟨gb238, 0, none⟩ = some (.int .i64 x235000_1) := (blk_cell BK238.out 0).trans rfl
                                              have hcz121_1 : wc.cell? ⟨gb238, 1, none⟩ = some (.int .i64 x235001_1) := (blk_cell BK238.out 1).trans rfl
                                              have hcz121_2 : wc.cell? ⟨gb238, 2, none⟩ = some (.int .i64 x235002_1) := (blk_cell BK238.out 2).trans rfl
                                              have hcz121_3 : wc.cell? ⟨gb238, 3, none⟩ = some (.int .i64 x235003_1) := (blk_cell BK238.out 3).trans rfl
                                              have hcz121_4 : wc.cell? ⟨gb238, 4, none⟩ = some (.int .i64 x235004_1) := (blk_cell BK238.out 4).trans rfl
                                              have hfz121_0 := blk_frozen BK238.out 0
                                              have hfz121_1 := blk_frozen BK238.out 1
                                              have hfz121_2 := blk_frozen BK238.out 2
                                              have hfz121_3 := blk_frozen BK238.out 3
                                              have hfz121_4 := blk_frozen BK238.out 4
                                              have hcz122_0 : wc.cell? ⟨gb234, 0, none⟩ = some (.int .i64 x235000_23) := (blk_cell BK234.out 0).trans rfl
                                              have hcz122_1 : wc.cell? ⟨gb234, 1, none⟩ = some (.int .i64 x235001_23) := (blk_cell BK234.out 1).trans rfl
                                              have hcz122_2 : wc.cell? ⟨gb234, 2, none⟩ = some (.int .i64 x235002_23) := (blk_cell BK234.out 2).trans rfl
                                              have hcz122_3 : wc.cell? ⟨gb234, 3, none⟩ = some (.int .i64 x235003_23) := (blk_cell BK234.out 3).trans rfl
                                              have hcz122_4 : wc.cell? ⟨gb234, 4, none⟩ = some (.int .i64 x235004_23) := (blk_cell BK234.out 4).trans rfl
                                              have hfz122_0 := blk_frozen BK234.out 0
                                              have hfz122_1 := blk_frozen BK234.out 1
                                              have hfz122_2 := blk_frozen BK234.out 2
                                              have hfz122_3 := blk_frozen BK234.out 3
                                              have hfz122_4 := blk_frozen BK234.out 4
                                              go_wp2
                                              go_ret
                                              exact ⟨by first | rfl | (simp [errW_none, errW_some] <;> rfl) | (simp [*, errW_none, errW_some] <;> rfl), by repeat (first | (with_reducible first | exact HB.out | apply below_alloc | apply pw_below_drewN | apply below_drew1 | refine below_set ?_ GE234.out | refine below_set ?_ GE238.out) | exact HB.out)⟩
                                            · rw [if_neg c119] at H
                                              have c119b0 : decide (a0 < (wrap64 ((wrap64 (x10_1 + x235002_1)) - x235002_23))) = false := decide_eq_false c119
                                              clear c119
                                              by_cases c123 : (wrap64 ((wrap64 ((wrap64 (x10_1 + x235002_1)) - x235002_23)) + x235002_23)) > a0
                                              · rw [if_pos c123] at H
                                                have c123b0 : decide (a0 < (wrap64 ((wrap64 ((wrap64 (x10_1 + x235002_1)) - x235002_23)) + x235002_23))) = true := decide_eq_true c123
                                                clear c123
                                                obtain rfl := Option.some.inj H
                                                have hnb124 := NB238_234.out
                                                have hnc124 := NB234_238.out
                                                have hcz125_0 : wc.cell? ⟨gb238, 0, none⟩ = some (.int .i64 x235000_1) := (blk_cell BK238.out 0).trans rfl
                                                have hcz125_1 : wc.cell? ⟨gb238, 1, none⟩ = some (.int .i64 x235001_1) := (blk_cell BK238.out 1).trans rfl
                                                have hcz125_2 : wc.cell? ⟨gb238, 2, none⟩ = some (.int .i64 x235002_1) := (blk_cell BK238.out 2).trans rfl
                                                have hcz125_3 : wc.cell? ⟨gb238, 3, none⟩ = some (.int .i64 x235003_1) := (blk_cell BK238.out 3).trans rfl
                                                have hcz125_4 : wc.cell? ⟨gb238, 4, none⟩ = some (.int .i64 x235004_1) := (blk_cell BK238.out 4).trans rfl
                                                have hfz125_0 := blk_frozen BK238.out 0
                                                have hfz125_1 := blk_frozen BK238.out 1
                                                have hfz125_2 := blk_frozen BK238.out 2
                                                have hfz125_3 := blk_frozen BK238.out 3
                                                have hfz125_4 := blk_frozen BK238.out 4
                                                have hcz126_0 : wc.cell? ⟨gb234, 0, none⟩ = some (.int .i64 x235000_23) := (blk_cell BK234.out 0).trans rfl
                                                have hcz126_1 : wc.cell? ⟨gb234, 1, none⟩ = some (.int .i64 x235001_23) := (blk_cell BK234.out 1).trans rfl
                                                have hcz126_2 : wc.cell? ⟨gb234, 2, none⟩ = some (.int .i64 x235002_23) := (blk_cell BK234.out 2).trans rfl
                                                have hcz126_3 : wc.cell? ⟨gb234, 3, none⟩ = some (.int .i64 x235003_23) := (blk_cell BK234.out 3).trans rfl
                                                have hcz126_4 : wc.cell? ⟨gb234, 4, none⟩ = some (.int .i64 x235004_23) := (blk_cell BK234.out 4).trans rfl
                                                have hfz126_0 := blk_frozen BK234.out 0
                                                have hfz126_1 := blk_frozen BK234.out 1
                                                have hfz126_2 := blk_frozen BK234.out 2
                                                have hfz126_3 := blk_frozen BK234.out 3
                                                have hfz126_4 := blk_frozen BK234.out 4
                                                go_wp2
                                                go_ret
                                                exact ⟨by first | rfl | (simp [errW_none, errW_some] <;> rfl) | (simp [*, errW_none, errW_some] <;> rfl), by repeat (first | (with_reducible first | exact HB.out | apply below_alloc | apply pw_below_drewN | apply below_drew1 | refine below_set ?_ GE234.out | refine below_set ?_ GE238.out) | exact HB.out)⟩
                                              · rw [if_neg c123] at H
                                                have c123b0 : decide (a0 < (wrap64 ((wrap64 ((wrap64 (x10_1 + x235002_1)) - x235002_23)) + x235002_23))) = false := decide_eq_false c123
                                                clear c123
                                                have H' := Aside0.mk H
                                                clear H
                                                have hnb127 := NB238_234.out
                                                have hnc127 := NB234_238.out
                                                have hcz128_0 : wc.cell? ⟨gb238, 0, none⟩ = some (.int .i64 x235000_1) := (blk_cell BK238.out 0).trans rfl
                                                have hcz128_1 : wc.cell? ⟨gb238, 1, none⟩ = some (.int .i64 x235001_1) := (blk_cell BK238.out 1).trans rfl
                                                have hcz128_2 : wc.cell? ⟨gb238, 2, none⟩ = some (.int .i64 x235002_1) := (blk_cell BK238.out 2).trans rfl
                                                have hcz128_3 : wc.cell? ⟨gb238, 3, none⟩ = some (.int .i64 x235003_1) := (blk_cell BK238.out 3).trans rfl
                                                have hcz128_4 : wc.cell? ⟨gb238, 4, none⟩ = some (.int .i64 x235004_1) := (blk_cell BK238.out 4).trans rfl
                                                have hfz128_0 := blk_frozen BK238.out 0
                                                have hfz128_1 := blk_frozen BK238.out 1
                                                have hfz128_2 := blk_frozen BK238.out 2
                                                have hfz128_3 := blk_frozen BK238.out 3
                                                have hfz128_4 := blk_frozen BK238.out 4
                                                have hcz129_0 : wc.cell? ⟨gb234, 0, none⟩ = some (.int .i64 x235000_23) := (blk_cell BK234.out 0).trans rfl
                                                have hcz129_1 : wc.cell? ⟨gb234, 1, none⟩ = some (.int .i64 x235001_23) := (blk_cell BK234.out 1).trans rfl
                                                have hcz129_2 : wc.cell? ⟨gb234, 2, none⟩ = some (.int .i64 x235002_23) := (blk_cell BK234.out 2).trans rfl
                                                have hcz129_3 : wc.cell? ⟨gb234, 3, none⟩ = some (.int .i64 x235003_23) := (blk_cell BK234.out 3).trans rfl
                                                have hcz129_4 : wc.cell? ⟨gb234, 4, none⟩ = some (.int .i64 x235004_23) := (blk_cell BK234.out 4).trans rfl
                                                have hfz129_0 := blk_frozen BK234.out 0
                                                have hfz129_1 := blk_frozen BK234.out 1
                                                have hfz129_2 := blk_frozen BK234.out 2
                                                have hfz129_3 := blk_frozen BK234.out 3
                                                have hfz129_4 := blk_frozen BK234.out 4
                                                go_wp2
                                                go_roundg kj104
                                                case measure => have := HK1.out; have := HJ14.out; have := HJ17.out; have := HJ23.out; have := HJ61.out; have := HJ104.out; omega
                                                case rel => exact ⟨(x9_17), (wrap64 ((wrap64 (x10_1 + x235002_1)) - x235002_23)), (wrap64 (x11_1 + 1)), (x235000_23), (x235001_23), (x235002_23), (x235003_23), (x235004_23), (by first | rfl | (simp; done) | (simp [*]; done)), (by first | rfl | (simp; done) | (simp [*]; done)), (by first | rfl | (simp; done) | (simp [*]; done)), H', ⟨by have := HK1.out; have := HJ14.out; have := HJ17.out; have := HJ23.out; have := HJ61.out; have := HJ104.out; omega⟩, ⟨by (with_reducible repeat (first | refine blk_drewN ?_ _ | refine blk_drew ?_ | refine blk_alloc ?_ _)); exact BK234.out⟩, ⟨by repeat (first | (with_reducible first | exact HB.out | apply below_alloc | apply pw_below_drewN | apply below_drew1 | refine below_set ?_ GE234.out | refine below_set ?_ GE238.out) | exact HB.out)⟩⟩
                                          · as_aux_lemma =>
                                            replace c118 := Bool.eq_false_iff.mpr c118
                                            subst c118
                                            have H1 : (if x235002_23 > x235002_1 then (some false) else (if x10_1 > a0 then (some false) else (if (wrap64 (x10_1 + x235002_23)) > a0 then (some false) else (beadlelaw12_CbsWindows.l0 kj104 a0 a1 l2 x9_17 x10_1 (wrap64 (x11_1 + 1)) x235000_23 x235001_23 x235002_23 x235003_23 x235004_23)))) = some r := by rw [if_neg (show ¬ (false = true) by decide)] at H; exact H
                                            clear H
                                            have H := H1
                                            clear H1
                                            by_cases c130 : x235002_23 > x235002_1
                                            · rw [if_pos c130] at H
                                              have c130b0 : decide (x235002_1 < x235002_23) = true := decide_eq_true c130
                                              clear c130
                                              obtain rfl := Option.some.inj H
                                              have hnb131 := NB234_238.out
                                              have hnc131 := NB238_234.out
                                              have hcz132_0 : wc.cell? ⟨gb234, 0, none⟩ = some (.int .i64 x235000_23) := (blk_cell BK234.out 0).trans rfl
                                              have hcz132_1 : wc.cell? ⟨gb234, 1, none⟩ = some (.int .i64 x235001_23) := (blk_cell BK234.out 1).trans rfl
                                              have hcz132_2 : wc.cell? ⟨gb234, 2, none⟩ = some (.int .i64 x235002_23) := (blk_cell BK234.out 2).trans rfl
                                              have hcz132_3 : wc.cell? ⟨gb234, 3, none⟩ = some (.int .i64 x235003_23) := (blk_cell BK234.out 3).trans rfl
                                              have hcz132_4 : wc.cell? ⟨gb234, 4, none⟩ = some (.int .i64 x235004_23) := (blk_cell BK234.out 4).trans rfl
                                              have hfz132_0 := blk_frozen BK234.out 0
                                              have hfz132_1 := blk_frozen BK234.out 1
                                              have hfz132_2 := blk_frozen BK234.out 2
                                              have hfz132_3 := blk_frozen BK234.out 3
                                              have hfz132_4 := blk_frozen BK234.out 4
                                              have hcz133_0 : wc.cell? ⟨gb238, 0, none⟩ = some (.int .i64 x235000_1) := (blk_cell BK238.out 0).trans rfl
                                              have hcz133_1 : wc.cell? ⟨gb238, 1, none⟩ = some (.int .i64 x235001_1) := (blk_cell BK238.out 1).trans rfl
                                              have hcz133_2 : wc.cell? ⟨gb238, 2, none⟩ = some (.int .i64 x235002_1) := (blk_cell BK238.out 2).trans rfl
                                              have hcz133_3 : wc.cell? ⟨gb238, 3, none⟩ = some (.int .i64 x235003_1) := (blk_cell BK238.out 3).trans rfl
                                              have hcz133_4 : wc.cell? ⟨gb238, 4, none⟩ = some (.int .i64 x235004_1) := (blk_cell BK238.out 4).trans rfl
                                              have hfz133_0 := blk_frozen BK238.out 0
                                              have hfz133_1 := blk_frozen BK238.out 1
                                              have hfz133_2 := blk_frozen BK238.out 2
                                              have hfz133_3 := blk_frozen BK238.out 3
                                              have hfz133_4 := blk_frozen BK238.out 4
                                              go_wp2
                                              go_ret
                                              exact ⟨by first | rfl | (simp [errW_none, errW_some] <;> rfl) | (simp [*, errW_none, errW_some] <;> rfl), by repeat (first | (with_reducible first | exact HB.out | apply below_alloc | apply pw_below_drewN | apply below_drew1 | refine below_set ?_ GE234.out | refine below_set ?_ GE238.out) | exact HB.out)⟩
                                            · rw [if_neg c130] at H
                                              have c130b0 : decide (x235002_1 < x235002_23) = false := decide_eq_false c130
                                              clear c130
                                              by_cases c134 : x10_1 > a0
                                              · rw [if_pos c134] at H
                                                have c134b0 : decide (a0 < x10_1) = true := decide_eq_true c134
                                                clear c134
                                                obtain rfl := Option.some.inj H
                                                have hnb135 := NB234_238.out
                                                have hnc135 := NB238_234.out
                                                have hcz136_0 : wc.cell? ⟨gb234, 0, none⟩ = some (.int .i64 x235000_23) := (blk_cell BK234.out 0).trans rfl
                                                have hcz136_1 : wc.cell? ⟨gb234, 1, none⟩ = some (.int .i64 x235001_23) := (blk_cell BK234.out 1).trans rfl
                                                have hcz136_2 : wc.cell? ⟨gb234, 2, none⟩ = some (.int .i64 x235002_23) := (blk_cell BK234.out 2).trans rfl
                                                have hcz136_3 : wc.cell? ⟨gb234, 3, none⟩ = some (.int .i64 x235003_23) := (blk_cell BK234.out 3).trans rfl
                                                have hcz136_4 : wc.cell? ⟨gb234, 4, none⟩ = some (.int .i64 x235004_23) := (blk_cell BK234.out 4).trans rfl
                                                have hfz136_0 := blk_frozen BK234.out 0
                                                have hfz136_1 := blk_frozen BK234.out 1
                                                have hfz136_2 := blk_frozen BK234.out 2
                                                have hfz136_3 := blk_frozen BK234.out 3
                                                have hfz136_4 := blk_frozen BK234.out 4
                                                have hcz137_0 : wc.cell? ⟨gb238, 0, none⟩ = some (.int .i64 x235000_1) := (blk_cell BK238.out 0).trans rfl
                                                have hcz137_1 : wc.cell? ⟨gb238, 1, none⟩ = some (.int .i64 x235001_1) := (blk_cell BK238.out 1).trans rfl
                                                have hcz137_2 : wc.cell? ⟨gb238, 2, none⟩ = some (.int .i64 x235002_1) := (blk_cell BK238.out 2).trans rfl
                                                have hcz137_3 : wc.cell? ⟨gb238, 3, none⟩ = some (.int .i64 x235003_1) := (blk_cell BK238.out 3).trans rfl
                                                have hcz137_4 : wc.cell? ⟨gb238, 4, none⟩ = some (.int .i64 x235004_1) := (blk_cell BK238.out 4).trans rfl
                                                have hfz137_0 := blk_frozen BK238.out 0
                                                have hfz137_1 := blk_frozen BK238.out 1
                                                have hfz137_2 := blk_frozen BK238.out 2
                                                have hfz137_3 := blk_frozen BK238.out 3
                                                have hfz137_4 := blk_frozen BK238.out 4
                                                go_wp2
                                                go_ret
                                                exact ⟨by first | rfl | (simp [errW_none, errW_some] <;> rfl) | (simp [*, errW_none, errW_some] <;> rfl), by repeat (first | (with_reducible first | exact HB.out | apply below_alloc | apply pw_below_drewN | apply below_drew1 | refine below_set ?_ GE234.out | refine below_set ?_ GE238.out) | exact HB.out)⟩
                                              · rw [if_neg c134] at H
                                                have c134b0 : decide (a0 < x10_1) = false := decide_eq_false c134
                                                clear c134
                                                by_cases c138 : (wrap64 (x10_1 + x235002_23)) > a0
                                                · rw [if_pos c138] at H
                                                  have c138b0 : decide (a0 < (wrap64 (x10_1 + x235002_23))) = true := decide_eq_true c138
                                                  clear c138
                                                  obtain rfl := Option.some.inj H
                                                  have hnb139 := NB234_238.out
                                                  have hnc139 := NB238_234.out
                                                  have hcz140_0 : wc.cell? ⟨gb234, 0, none⟩ = some (.int .i64 x235000_23) := (blk_cell BK234.out 0).trans rfl
                                                  have hcz140_1 : wc.cell? ⟨gb234, 1, none⟩ = some (.int .i64 x235001_23) := (blk_cell BK234.out 1).trans rfl
                                                  have hcz140_2 : wc.cell? ⟨gb234, 2, none⟩ = some (.int .i64 x235002_23) := (blk_cell BK234.out 2).trans rfl
                                                  have hcz140_3 : wc.cell? ⟨gb234, 3, none⟩ = some (.int .i64 x235003_23) := (blk_cell BK234.out 3).trans rfl
                                                  have hcz140_4 : wc.cell? ⟨gb234, 4, none⟩ = some (.int .i64 x235004_23) := (blk_cell BK234.out 4).trans rfl
                                                  have hfz140_0 := blk_frozen BK234.out 0
                                                  have hfz140_1 := blk_frozen BK234.out 1
                                                  have hfz140_2 := blk_frozen BK234.out 2
                                                  have hfz140_3 := blk_frozen BK234.out 3
                                                  have hfz140_4 := blk_frozen BK234.out 4
                                                  have hcz141_0 : wc.cell? ⟨gb238, 0, none⟩ = some (.int .i64 x235000_1) := (blk_cell BK238.out 0).trans rfl
                                                  have hcz141_1 : wc.cell? ⟨gb238, 1, none⟩ = some (.int .i64 x235001_1) := (blk_cell BK238.out 1).trans rfl
                                                  have hcz141_2 : wc.cell? ⟨gb238, 2, none⟩ = some (.int .i64 x235002_1) := (blk_cell BK238.out 2).trans rfl
                                                  have hcz141_3 : wc.cell? ⟨gb238, 3, none⟩ = some (.int .i64 x235003_1) := (blk_cell BK238.out 3).trans rfl
                                                  have hcz141_4 : wc.cell? ⟨gb238, 4, none⟩ = some (.int .i64 x235004_1) := (blk_cell BK238.out 4).trans rfl
                                                  have hfz141_0 := blk_frozen BK238.out 0
                                                  have hfz141_1 := blk_frozen BK238.out 1
                                                  have hfz141_2 := blk_frozen BK238.out 2
                                                  have hfz141_3 := blk_frozen BK238.out 3
                                                  have hfz141_4 := blk_frozen BK238.out 4
                                                  go_wp2
                                                  go_ret
                                                  exact ⟨by first | rfl | (simp [errW_none, errW_some] <;> rfl) | (simp [*, errW_none, errW_some] <;> rfl), by repeat (first | (with_reducible first | exact HB.out | apply below_alloc | apply pw_below_drewN | apply below_drew1 | refine below_set ?_ GE234.out | refine below_set ?_ GE238.out) | exact HB.out)⟩
                                                · rw [if_neg c138] at H
                                                  have c138b0 : decide (a0 < (wrap64 (x10_1 + x235002_23))) = false := decide_eq_false c138
                                                  clear c138
                                                  have H' := Aside0.mk H
                                                  clear H
                                                  have hnb142 := NB234_238.out
                                                  have hnc142 := NB238_234.out
                                                  have hcz143_0 : wc.cell? ⟨gb234, 0, none⟩ = some (.int .i64 x235000_23) := (blk_cell BK234.out 0).trans rfl
                                                  have hcz143_1 : wc.cell? ⟨gb234, 1, none⟩ = some (.int .i64 x235001_23) := (blk_cell BK234.out 1).trans rfl
                                                  have hcz143_2 : wc.cell? ⟨gb234, 2, none⟩ = some (.int .i64 x235002_23) := (blk_cell BK234.out 2).trans rfl
                                                  have hcz143_3 : wc.cell? ⟨gb234, 3, none⟩ = some (.int .i64 x235003_23) := (blk_cell BK234.out 3).trans rfl
                                                  have hcz143_4 : wc.cell? ⟨gb234, 4, none⟩ = some (.int .i64 x235004_23) := (blk_cell BK234.out 4).trans rfl
                                                  have hfz143_0 := blk_frozen BK234.out 0
                                                  have hfz143_1 := blk_frozen BK234.out 1
                                                  have hfz143_2 := blk_frozen BK234.out 2
                                                  have hfz143_3 := blk_frozen BK234.out 3
                                                  have hfz143_4 := blk_frozen BK234.out 4
                                                  have hcz144_0 : wc.cell? ⟨gb238, 0, none⟩ = some (.int .i64 x235000_1) := (blk_cell BK238.out 0).trans rfl
                                                  have hcz144_1 : wc.cell? ⟨gb238, 1, none⟩ = some (.int .i64 x235001_1) := (blk_cell BK238.out 1).trans rfl
                                                  have hcz144_2 : wc.cell? ⟨gb238, 2, none⟩ = some (.int .i64 x235002_1) := (blk_cell BK238.out 2).trans rfl
                                                  have hcz144_3 : wc.cell? ⟨gb238, 3, none⟩ = some (.int .i64 x235003_1) := (blk_cell BK238.out 3).trans rfl
                                                  have hcz144_4 : wc.cell? ⟨gb238, 4, none⟩ = some (.int .i64 x235004_1) := (blk_cell BK238.out 4).trans rfl
                                                  have hfz144_0 := blk_frozen BK238.out 0
                                                  have hfz144_1 := blk_frozen BK238.out 1
                                                  have hfz144_2 := blk_frozen BK238.out 2
                                                  have hfz144_3 := blk_frozen BK238.out 3
                                                  have hfz144_4 := blk_frozen BK238.out 4
                                                  go_wp2
                                                  go_roundg kj104
                                                  case measure => have := HK1.out; have := HJ14.out; have := HJ17.out; have := HJ23.out; have := HJ61.out; have := HJ104.out; omega
                                                  case rel => exact ⟨(x9_17), (x10_1), (wrap64 (x11_1 + 1)), (x235000_23), (x235001_23), (x235002_23), (x235003_23), (x235004_23), (by first | rfl | (simp; done) | (simp [*]; done)), (by first | rfl | (simp; done) | (simp [*]; done)), (by first | rfl | (simp; done) | (simp [*]; done)), H', ⟨by have := HK1.out; have := HJ14.out; have := HJ17.out; have := HJ23.out; have := HJ61.out; have := HJ104.out; omega⟩, ⟨by (with_reducible repeat (first | refine blk_drewN ?_ _ | refine blk_drew ?_ | refine blk_alloc ?_ _)); exact BK234.out⟩, ⟨by repeat (first | (with_reducible first | exact HB.out | apply below_alloc | apply pw_below_drewN | apply below_drew1 | refine below_set ?_ GE234.out | refine below_set ?_ GE238.out) | exact HB.out)⟩⟩
                                    · as_aux_lemma =>
                                      rw [if_neg c104] at H
                                      have c104b0 : (x235003_23 == x235003_1) = false := beq_eq_false_iff_ne.mpr c104
                                      have c104b1 : (x235003_23 != x235003_1) = true := bne_iff_ne.mpr c104
                                      by_cases c145 : 0 > a0
                                      · rw [if_pos c145] at H
                                        have c145b0 : decide (a0 < 0) = true := decide_eq_true c145
                                        clear c145
                                        obtain rfl := Option.some.inj H
                                        have hnb146 := NB234_238.out
                                        have hnc146 := NB238_234.out
                                        have hcz147_0 : wc.cell? ⟨gb234, 0, none⟩ = some (.int .i64 x235000_23) := (blk_cell BK234.out 0).trans rfl
                                        have hcz147_1 : wc.cell? ⟨gb234, 1, none⟩ = some (.int .i64 x235001_23) := (blk_cell BK234.out 1).trans rfl
                                        have hcz147_2 : wc.cell? ⟨gb234, 2, none⟩ = some (.int .i64 x235002_23) := (blk_cell BK234.out 2).trans rfl
                                        have hcz147_3 : wc.cell? ⟨gb234, 3, none⟩ = some (.int .i64 x235003_23) := (blk_cell BK234.out 3).trans rfl
                                        have hcz147_4 : wc.cell? ⟨gb234, 4, none⟩ = some (.int .i64 x235004_23) := (blk_cell BK234.out 4).trans rfl
                                        have hfz147_0 := blk_frozen BK234.out 0
                                        have hfz147_1 := blk_frozen BK234.out 1
                                        have hfz147_2 := blk_frozen BK234.out 2
                                        have hfz147_3 := blk_frozen BK234.out 3
                                        have hfz147_4 := blk_frozen BK234.out 4
                                        have hcz148_0 : wc.cell? ⟨gb238, 0, none⟩ = some (.int .i64 x235000_1) := (blk_cell BK238.out 0).trans rfl
                                        have hcz148_1 : wc.cell? ⟨gb238, 1, none⟩ = some (.int .i64 x235001_1) := (blk_cell BK238.out 1).trans rfl
                                        have hcz148_2 : wc.cell? ⟨gb238, 2, none⟩ = some (.int .i64 x235002_1) := (blk_cell BK238.out 2).trans rfl
                                        have hcz148_3 : wc.cell? ⟨gb238, 3, none⟩ = some (.int .i64 x235003_1) := (blk_cell BK238.out 3).trans rfl
                                        have hcz148_4 : wc.cell? ⟨gb238, 4, none⟩ = some (.int .i64 x235004_1) := (blk_cell BK238.out 4).trans rfl
                                        have hfz148_0 := blk_frozen BK238.out 0
                                        have hfz148_1 := blk_frozen BK238.out 1
                                        have hfz148_2 := blk_frozen BK238.out 2
                                        have hfz148_3 := blk_frozen BK238.out 3
                                        have hfz148_4 := blk_frozen BK238.out 4
                                        go_wp2
                                        go_ret
                                        exact ⟨by first | rfl | (simp [errW_none, errW_some] <;> rfl) | (simp [*, errW_none, errW_some] <;> rfl), by repeat (first | (with_reducible first | exact HB.out | apply below_alloc | apply pw_below_drewN | apply below_drew1 | refine below_set ?_ GE234.out | refine below_set ?_ GE238.out) | exact HB.out)⟩
                                      · rw [if_neg c145] at H
                                        have c145b0 : decide (a0 < 0) = false := decide_eq_false c145
                                        clear c145
                                        by_cases c149 : (wrap64 (0 + x235002_23)) > a0
                                        · rw [if_pos c149] at H
                                          have c149b0 : decide (a0 < (wrap64 (0 + x235002_23))) = true := decide_eq_true c149
                                          have c149b0z : decide (a0 < (wrap64 x235002_23)) = true := by have hz0 := c149b0; rwa [Int.zero_add] at hz0
                                          clear c149
                                          obtain rfl := Option.some.inj H
                                          have hnb150 := NB234_238.out
                                          have hnc150 := NB238_234.out
                                          have hcz151_0 : wc.cell? ⟨gb234, 0, none⟩ = some (.int .i64 x235000_23) := (blk_cell BK234.out 0).trans rfl
                                          have hcz151_1 : wc.cell? ⟨gb234, 1, none⟩ = some (.int .i64 x235001_23) := (blk_cell BK234.out 1).trans rfl
                                          have hcz151_2 : wc.cell? ⟨gb234, 2, none⟩ = some (.int .i64 x235002_23) := (blk_cell BK234.out 2).trans rfl
                                          have hcz151_3 : wc.cell? ⟨gb234, 3, none⟩ = some (.int .i64 x235003_23) := (blk_cell BK234.out 3).trans rfl
                                          have hcz151_4 : wc.cell? ⟨gb234, 4, none⟩ = some (.int .i64 x235004_23) := (blk_cell BK234.out 4).trans rfl
                                          have hfz151_0 := blk_frozen BK234.out 0
                                          have hfz151_1 := blk_frozen BK234.out 1
                                          have hfz151_2 := blk_frozen BK234.out 2
                                          have hfz151_3 := blk_frozen BK234.out 3
                                          have hfz151_4 := blk_frozen BK234.out 4
                                          have hcz152_0 : wc.cell? ⟨gb238, 0, none⟩ = some (.int .i64 x235000_1) := (blk_cell BK238.out 0).trans rfl
                                          have hcz152_1 : wc.cell? ⟨gb238, 1, none⟩ = some (.int .i64 x235001_1) := (blk_cell BK238.out 1).trans rfl
                                          have hcz152_2 : wc.cell? ⟨gb238, 2, none⟩ = some (.int .i64 x235002_1) := (blk_cell BK238.out 2).trans rfl
                                          have hcz152_3 : wc.cell? ⟨gb238, 3, none⟩ = some (.int .i64 x235003_1) := (blk_cell BK238.out 3).trans rfl
                                          have hcz152_4 : wc.cell? ⟨gb238, 4, none⟩ = some (.int .i64 x235004_1) := (blk_cell BK238.out 4).trans rfl
                                          have hfz152_0 := blk_frozen BK238.out 0
                                          have hfz152_1 := blk_frozen BK238.out 1
                                          have hfz152_2 := blk_frozen BK238.out 2
                                          have hfz152_3 := blk_frozen BK238.out 3
                                          have hfz152_4 := blk_frozen BK238.out 4
                                          go_wp2
                                          go_ret
                                          exact ⟨by first | rfl | (simp [errW_none, errW_some] <;> rfl) | (simp [*, errW_none, errW_some] <;> rfl), by repeat (first | (with_reducible first | exact HB.out | apply below_alloc | apply pw_below_drewN | apply below_drew1 | refine below_set ?_ GE234.out | refine below_set ?_ GE238.out) | exact HB.out)⟩
                                        · rw [if_neg c149] at H
                                          have c149b0 : decide (a0 < (wrap64 (0 + x235002_23))) = false := decide_eq_false c149
                                          have c149b0z : decide (a0 < (wrap64 x235002_23)) = false := by have hz0 := c149b0; rwa [Int.zero_add] at hz0
                                          clear c149
                                          have H' := Aside0.mk H
                                          clear H
                                          have hnb153 := NB234_238.out
                                          have hnc153 := NB238_234.out
                                          have hcz154_0 : wc.cell? ⟨gb234, 0, none⟩ = some (.int .i64 x235000_23) := (blk_cell BK234.out 0).trans rfl
                                          have hcz154_1 : wc.cell? ⟨gb234, 1, none⟩ = some (.int .i64 x235001_23) := (blk_cell BK234.out 1).trans rfl
                                          have hcz154_2 : wc.cell? ⟨gb234, 2, none⟩ = some (.int .i64 x235002_23) := (blk_cell BK234.out 2).trans rfl
                                          have hcz154_3 : wc.cell? ⟨gb234, 3, none⟩ = some (.int .i64 x235003_23) := (blk_cell BK234.out 3).trans rfl
                                          have hcz154_4 : wc.cell? ⟨gb234, 4, none⟩ = some (.int .i64 x235004_23) := (blk_cell BK234.out 4).trans rfl
                                          have hfz154_0 := blk_frozen BK234.out 0
                                          have hfz154_1 := blk_frozen BK234.out 1
                                          have hfz154_2 := blk_frozen BK234.out 2
                                          have hfz154_3 := blk_frozen BK234.out 3
                                          have hfz154_4 := blk_frozen BK234.out 4
                                          have hcz155_0 : wc.cell? ⟨gb238, 0, none⟩ = some (.int .i64 x235000_1) := (blk_cell BK238.out 0).trans rfl
                                          have hcz155_1 : wc.cell? ⟨gb238, 1, none⟩ = some (.int .i64 x235001_1) := (blk_cell BK238.out 1).trans rfl
                                          have hcz155_2 : wc.cell? ⟨gb238, 2, none⟩ = some (.int .i64 x235002_1) := (blk_cell BK238.out 2).trans rfl
                                          have hcz155_3 : wc.cell? ⟨gb238, 3, none⟩ = some (.int .i64 x235003_1) := (blk_cell BK238.out 3).trans rfl
                                          have hcz155_4 : wc.cell? ⟨gb238, 4, none⟩ = some (.int .i64 x235004_1) := (blk_cell BK238.out 4).trans rfl
                                          have hfz155_0 := blk_frozen BK238.out 0
                                          have hfz155_1 := blk_frozen BK238.out 1
                                          have hfz155_2 := blk_frozen BK238.out 2
                                          have hfz155_3 := blk_frozen BK238.out 3
                                          have hfz155_4 := blk_frozen BK238.out 4
                                          go_wp2
                                          go_roundg kj61
                                          case measure => have := HK1.out; have := HJ14.out; have := HJ17.out; have := HJ23.out; have := HJ61.out; omega
                                          case rel => exact ⟨(x9_17), (0), (wrap64 (x11_1 + 1)), (x235000_23), (x235001_23), (x235002_23), (x235003_23), (x235004_23), (by first | rfl | (simp; done) | (simp [*]; done)), (by first | rfl | (simp; done) | (simp [*]; done)), (by first | rfl | (simp; done) | (simp [*]; done)), H', ⟨by have := HK1.out; have := HJ14.out; have := HJ17.out; have := HJ23.out; have := HJ61.out; omega⟩, ⟨by (with_reducible repeat (first | refine blk_drewN ?_ _ | refine blk_drew ?_ | refine blk_alloc ?_ _)); exact BK234.out⟩, ⟨by repeat (first | (with_reducible first | exact HB.out | apply below_alloc | apply pw_below_drewN | apply below_drew1 | refine below_set ?_ GE234.out | refine below_set ?_ GE238.out) | exact HB.out)⟩⟩
                        · rw [if_neg c23] at H
                          exact absurd H (by simp)
                      · rw [if_neg c22] at H
                        exact absurd H (by simp)
            · rw [if_neg c14] at H
              have c14b0 : decide (x11_1 < (l2.length : Int)) = false := decide_eq_false c14
              clear c14
              obtain rfl := Option.some.inj H
              go_wp2
              go_ret
              exact ⟨by first | rfl | (simp [errW_none, errW_some] <;> rfl) | (simp [*, errW_none, errW_some] <;> rfl), by repeat (first | (with_reducible first | exact HB.out | apply below_alloc | apply pw_below_drewN | apply below_drew1 | refine below_set ?_ GE234.out) | exact HB.out)⟩
      · as_aux_lemma =>
        rw [if_neg c9] at H
        have c9b0 : (t233 == 0) = false := beq_eq_false_iff_ne.mpr c9
        have c9b1 : (t233 != 0) = true := bne_iff_ne.mpr c9
        by_cases c156 : a0 < 1
        · rw [if_pos c156] at H
          have c156b0 : decide (a0 < 1) = true := decide_eq_true c156
          clear c156
          obtain rfl := Option.some.inj H
          go_enter Try.func6, Try.ntmps6
          go_wp2_with (first | ((with_reducible refine gate_callee (f := 9) rfl ?_); refine goesL_ (some 13) rfl rfl Try.func9 (by kernel_rfl) rfl #[] rfl (by (try simp only [List.map_toArray, List.map_cons, List.map_nil]); first | done | rfl | (simp only [List.length_drop, List.length_take]; rfl)) ?_; (with_reducible refine (beadlelaw12_awake.calls k  true _ A4.out).mono ?_); rintro e w157 ⟨rfl, hb⟩; refine ⟨_, rfl, ?_⟩; have n0_ := Aside0.mk (below_step (by repeat (first | (with_reducible first | exact HB.out | apply below_alloc | apply pw_below_drewN | apply below_drew1) | exact HB.out)) hb); clear HB; have HB := n0_; clear n0_; (try clear hb); (try clear hb2); (try clear hk); (try clear hi)) | ((with_reducible refine gate_callee (f := 14) rfl ?_); refine goesL_ (some 21) rfl rfl Try.func14 (by kernel_rfl) rfl #[.int .i64 a0, .int .i64 a1] rfl (by (try simp only [List.map_toArray, List.map_cons, List.map_nil]); first | done | rfl | (simp only [List.length_drop, List.length_take]; rfl)) ?_; (with_reducible refine (cbs_New.calls a0 a1 t228 t229 t230 t231 t232 t233 _ A8.out).mono ?_); rintro e w158 ⟨rfl, hb⟩; refine ⟨_, rfl, ?_⟩; have n0_ := Aside0.mk (below_step (by repeat (first | (with_reducible first | exact HB.out | apply below_alloc | apply pw_below_drewN | apply below_drew1) | exact HB.out)) hb); clear HB; have HB := n0_; clear n0_; (try clear hb); (try clear hb2); (try clear hk); (try clear hi)) | ((with_reducible refine gate_dst (N := 7) rfl ?_); refine box_event ?hg (N := 7) ?hd (cs := #[.int .i64 0, .int .i64 0, .int .i64 0, .int .i64 0, .int .i64 0]) (t := 23) ?hr ?_; (case hd => rfl); (case hg => rfl); (case hr => first | (go_simp; done) | (go_simp; rfl)); intro gb234 hg w159 hbox hb; have n0_ := Aside0.mk (below_step (by repeat (first | (with_reducible first | exact HB.out | apply below_alloc | apply pw_below_drewN | apply below_drew1) | exact HB.out)) hb); have n1_ := Aside0.mk (hbox); have n2_ := Aside0.mk ((by rw [hg]; exact (below_size (by repeat (first | (with_reducible first | exact HB.out | apply below_alloc | apply pw_below_drewN | apply below_drew1) | exact HB.out))) : w.heap.size ≤ gb234)); have n3_ := Aside0.mk ((by rw [hg]; exact (below_size (by repeat (first | (with_reducible first | exact HB.out | apply below_alloc | apply pw_below_drewN | apply below_drew1) | exact HB.out))) : w.heap.size ≤ gb234)); clear HB; have HB := n0_; have BK234 := n1_; have GW234 := n2_; have GE234 := n3_; clear n0_ n1_ n2_ n3_; clear hb hbox hg; have hcz160_0 : w159.cell? ⟨gb234, 0, none⟩ = some (.int .i64 0) := (blk_cell BK234.out 0).trans rfl; have hcz160_1 : w159.cell? ⟨gb234, 1, none⟩ = some (.int .i64 0) := (blk_cell BK234.out 1).trans rfl; have hcz160_2 : w159.cell? ⟨gb234, 2, none⟩ = some (.int .i64 0) := (blk_cell BK234.out 2).trans rfl; have hcz160_3 : w159.cell? ⟨gb234, 3, none⟩ = some (.int .i64 0) := (blk_cell BK234.out 3).trans rfl; have hcz160_4 : w159.cell? ⟨gb234, 4, none⟩ = some (.int .i64 0) := (blk_cell BK234.out 4).trans rfl; have hfz160_0 := blk_frozen BK234.out 0; have hfz160_1 := blk_frozen BK234.out 1; have hfz160_2 := blk_frozen BK234.out 2; have hfz160_3 := blk_frozen BK234.out 3; have hfz160_4 := blk_frozen BK234.out 4))
          go_ret
          exact ⟨by first | rfl | (simp [errW_none, errW_some] <;> rfl) | (simp [*, errW_none, errW_some] <;> rfl), by repeat (first | (with_reducible first | exact HB.out | apply below_alloc | apply pw_below_drewN | apply below_drew1 | refine below_set ?_ GE234.out) | exact HB.out)⟩
        · rw [if_neg c156] at H
          have c156b0 : decide (a0 < 1) = false := decide_eq_false c156
          clear c156
          by_cases c161 : a1 < 1
          · rw [if_pos c161] at H
            have c161b0 : decide (a1 < 1) = true := decide_eq_true c161
            clear c161
            obtain rfl := Option.some.inj H
            go_enter Try.func6, Try.ntmps6
            go_wp2_with (first | ((with_reducible refine gate_callee (f := 9) rfl ?_); refine goesL_ (some 13) rfl rfl Try.func9 (by kernel_rfl) rfl #[] rfl (by (try simp only [List.map_toArray, List.map_cons, List.map_nil]); first | done | rfl | (simp only [List.length_drop, List.length_take]; rfl)) ?_; (with_reducible refine (beadlelaw12_awake.calls k  true _ A4.out).mono ?_); rintro e w162 ⟨rfl, hb⟩; refine ⟨_, rfl, ?_⟩; have n0_ := Aside0.mk (below_step (by repeat (first | (with_reducible first | exact HB.out | apply below_alloc | apply pw_below_drewN | apply below_drew1) | exact HB.out)) hb); clear HB; have HB := n0_; clear n0_; (try clear hb); (try clear hb2); (try clear hk); (try clear hi)) | ((with_reducible refine gate_callee (f := 14) rfl ?_); refine goesL_ (some 21) rfl rfl Try.func14 (by kernel_rfl) rfl #[.int .i64 a0, .int .i64 a1] rfl (by (try simp only [List.map_toArray, List.map_cons, List.map_nil]); first | done | rfl | (simp only [List.length_drop, List.length_take]; rfl)) ?_; (with_reducible refine (cbs_New.calls a0 a1 t228 t229 t230 t231 t232 t233 _ A8.out).mono ?_); rintro e w163 ⟨rfl, hb⟩; refine ⟨_, rfl, ?_⟩; have n0_ := Aside0.mk (below_step (by repeat (first | (with_reducible first | exact HB.out | apply below_alloc | apply pw_below_drewN | apply below_drew1) | exact HB.out)) hb); clear HB; have HB := n0_; clear n0_; (try clear hb); (try clear hb2); (try clear hk); (try clear hi)) | ((with_reducible refine gate_dst (N := 7) rfl ?_); refine box_event ?hg (N := 7) ?hd (cs := #[.int .i64 0, .int .i64 0, .int .i64 0, .int .i64 0, .int .i64 0]) (t := 23) ?hr ?_; (case hd => rfl); (case hg => rfl); (case hr => first | (go_simp; done) | (go_simp; rfl)); intro gb234 hg w164 hbox hb; have n0_ := Aside0.mk (below_step (by repeat (first | (with_reducible first | exact HB.out | apply below_alloc | apply pw_below_drewN | apply below_drew1) | exact HB.out)) hb); have n1_ := Aside0.mk (hbox); have n2_ := Aside0.mk ((by rw [hg]; exact (below_size (by repeat (first | (with_reducible first | exact HB.out | apply below_alloc | apply pw_below_drewN | apply below_drew1) | exact HB.out))) : w.heap.size ≤ gb234)); have n3_ := Aside0.mk ((by rw [hg]; exact (below_size (by repeat (first | (with_reducible first | exact HB.out | apply below_alloc | apply pw_below_drewN | apply below_drew1) | exact HB.out))) : w.heap.size ≤ gb234)); clear HB; have HB := n0_; have BK234 := n1_; have GW234 := n2_; have GE234 := n3_; clear n0_ n1_ n2_ n3_; clear hb hbox hg; have hcz165_0 : w164.cell? ⟨gb234, 0, none⟩ = some (.int .i64 0) := (blk_cell BK234.out 0).trans rfl; have hcz165_1 : w164.cell? ⟨gb234, 1, none⟩ = some (.int .i64 0) := (blk_cell BK234.out 1).trans rfl; have hcz165_2 : w164.cell? ⟨gb234, 2, none⟩ = some (.int .i64 0) := (blk_cell BK234.out 2).trans rfl; have hcz165_3 : w164.cell? ⟨gb234, 3, none⟩ = some (.int .i64 0) := (blk_cell BK234.out 3).trans rfl; have hcz165_4 : w164.cell? ⟨gb234, 4, none⟩ = some (.int .i64 0) := (blk_cell BK234.out 4).trans rfl; have hfz165_0 := blk_frozen BK234.out 0; have hfz165_1 := blk_frozen BK234.out 1; have hfz165_2 := blk_frozen BK234.out 2; have hfz165_3 := blk_frozen BK234.out 3; have hfz165_4 := blk_frozen BK234.out 4))
            go_ret
            exact ⟨by first | rfl | (simp [errW_none, errW_some] <;> rfl) | (simp [*, errW_none, errW_some] <;> rfl), by repeat (first | (with_reducible first | exact HB.out | apply below_alloc | apply pw_below_drewN | apply below_drew1 | refine below_set ?_ GE234.out) | exact HB.out)⟩
          · rw [if_neg c161] at H
            have c161b0 : decide (a1 < 1) = false := decide_eq_false c161
            clear c161
            by_cases c166 : a1 > 2147483648
            · rw [if_pos c166] at H
              have c166b0 : decide (2147483648 < a1) = true := decide_eq_true c166
              clear c166
              obtain rfl := Option.some.inj H
              go_enter Try.func6, Try.ntmps6
              go_wp2_with (first | ((with_reducible refine gate_callee (f := 9) rfl ?_); refine goesL_ (some 13) rfl rfl Try.func9 (by kernel_rfl) rfl #[] rfl (by (try simp only [List.map_toArray, List.map_cons, List.map_nil]); first | done | rfl | (simp only [List.length_drop, List.length_take]; rfl)) ?_; (with_reducible refine (beadlelaw12_awake.calls k  true _ A4.out).mono ?_); rintro e w167 ⟨rfl, hb⟩; refine ⟨_, rfl, ?_⟩; have n0_ := Aside0.mk (below_step (by repeat (first | (with_reducible first | exact HB.out | apply below_alloc | apply pw_below_drewN | apply below_drew1) | exact HB.out)) hb); clear HB; have HB := n0_; clear n0_; (try clear hb); (try clear hb2); (try clear hk); (try clear hi)) | ((with_reducible refine gate_callee (f := 14) rfl ?_); refine goesL_ (some 21) rfl rfl Try.func14 (by kernel_rfl) rfl #[.int .i64 a0, .int .i64 a1] rfl (by (try simp only [List.map_toArray, List.map_cons, List.map_nil]); first | done | rfl | (simp only [List.length_drop, List.length_take]; rfl)) ?_; (with_reducible refine (cbs_New.calls a0 a1 t228 t229 t230 t231 t232 t233 _ A8.out).mono ?_); rintro e w168 ⟨rfl, hb⟩; refine ⟨_, rfl, ?_⟩; have n0_ := Aside0.mk (below_step (by repeat (first | (with_reducible first | exact HB.out | apply below_alloc | apply pw_below_drewN | apply below_drew1) | exact HB.out)) hb); clear HB; have HB := n0_; clear n0_; (try clear hb); (try clear hb2); (try clear hk); (try clear hi)) | ((with_reducible refine gate_dst (N := 7) rfl ?_); refine box_event ?hg (N := 7) ?hd (cs := #[.int .i64 0, .int .i64 0, .int .i64 0, .int .i64 0, .int .i64 0]) (t := 23) ?hr ?_; (case hd => rfl); (case hg => rfl); (case hr => first | (go_simp; done) | (go_simp; rfl)); intro gb234 hg w169 hbox hb; have n0_ := Aside0.mk (below_step (by repeat (first | (with_reducible first | exact HB.out | apply below_alloc | apply pw_below_drewN | apply below_drew1) | exact HB.out)) hb); have n1_ := Aside0.mk (hbox); have n2_ := Aside0.mk ((by rw [hg]; exact (below_size (by repeat (first | (with_reducible first | exact HB.out | apply below_alloc | apply pw_below_drewN | apply below_drew1) | exact HB.out))) : w.heap.size ≤ gb234)); have n3_ := Aside0.mk ((by rw [hg]; exact (below_size (by repeat (first | (with_reducible first | exact HB.out | apply below_alloc | apply pw_below_drewN | apply below_drew1) | exact HB.out))) : w.heap.size ≤ gb234)); clear HB; have HB := n0_; have BK234 := n1_; have GW234 := n2_; have GE234 := n3_; clear n0_ n1_ n2_ n3_; clear hb hbox hg; have hcz170_0 : w169.cell? ⟨gb234, 0, none⟩ = some (.int .i64 0) := (blk_cell BK234.out 0).trans rfl; have hcz170_1 : w169.cell? ⟨gb234, 1, none⟩ = some (.int .i64 0) := (blk_cell BK234.out 1).trans rfl; have hcz170_2 : w169.cell? ⟨gb234, 2, none⟩ = some (.int .i64 0) := (blk_cell BK234.out 2).trans rfl; have hcz170_3 : w169.cell? ⟨gb234, 3, none⟩ = some (.int .i64 0) := (blk_cell BK234.out 3).trans rfl; have hcz170_4 : w169.cell? ⟨gb234, 4, none⟩ = some (.int .i64 0) := (blk_cell BK234.out 4).trans rfl; have hfz170_0 := blk_frozen BK234.out 0; have hfz170_1 := blk_frozen BK234.out 1; have hfz170_2 := blk_frozen BK234.out 2; have hfz170_3 := blk_frozen BK234.out 3; have hfz170_4 := blk_frozen BK234.out 4))
              go_ret
              exact ⟨by first | rfl | (simp [errW_none, errW_some] <;> rfl) | (simp [*, errW_none, errW_some] <;> rfl), by repeat (first | (with_reducible first | exact HB.out | apply below_alloc | apply pw_below_drewN | apply below_drew1 | refine below_set ?_ GE234.out) | exact HB.out)⟩
            · rw [if_neg c166] at H
              have c166b0 : decide (2147483648 < a1) = false := decide_eq_false c166
              clear c166
              obtain rfl := Option.some.inj H
              go_enter Try.func6, Try.ntmps6
              go_wp2_with (first | ((with_reducible refine gate_callee (f := 9) rfl ?_); refine goesL_ (some 13) rfl rfl Try.func9 (by kernel_rfl) rfl #[] rfl (by (try simp only [List.map_toArray, List.map_cons, List.map_nil]); first | done | rfl | (simp only [List.length_drop, List.length_take]; rfl)) ?_; (with_reducible refine (beadlelaw12_awake.calls k  true _ A4.out).mono ?_); rintro e w171 ⟨rfl, hb⟩; refine ⟨_, rfl, ?_⟩; have n0_ := Aside0.mk (below_step (by repeat (first | (with_reducible first | exact HB.out | apply below_alloc | apply pw_below_drewN | apply below_drew1) | exact HB.out)) hb); clear HB; have HB := n0_; clear n0_; (try clear hb); (try clear hb2); (try clear hk); (try clear hi)) | ((with_reducible refine gate_callee (f := 14) rfl ?_); refine goesL_ (some 21) rfl rfl Try.func14 (by kernel_rfl) rfl #[.int .i64 a0, .int .i64 a1] rfl (by (try simp only [List.map_toArray, List.map_cons, List.map_nil]); first | done | rfl | (simp only [List.length_drop, List.length_take]; rfl)) ?_; (with_reducible refine (cbs_New.calls a0 a1 t228 t229 t230 t231 t232 t233 _ A8.out).mono ?_); rintro e w172 ⟨rfl, hb⟩; refine ⟨_, rfl, ?_⟩; have n0_ := Aside0.mk (below_step (by repeat (first | (with_reducible first | exact HB.out | apply below_alloc | apply pw_below_drewN | apply below_drew1) | exact HB.out)) hb); clear HB; have HB := n0_; clear n0_; (try clear hb); (try clear hb2); (try clear hk); (try clear hi)) | ((with_reducible refine gate_dst (N := 7) rfl ?_); refine box_event ?hg (N := 7) ?hd (cs := #[.int .i64 0, .int .i64 0, .int .i64 0, .int .i64 0, .int .i64 0]) (t := 23) ?hr ?_; (case hd => rfl); (case hg => rfl); (case hr => first | (go_simp; done) | (go_simp; rfl)); intro gb234 hg w173 hbox hb; have n0_ := Aside0.mk (below_step (by repeat (first | (with_reducible first | exact HB.out | apply below_alloc | apply pw_below_drewN | apply below_drew1) | exact HB.out)) hb); have n1_ := Aside0.mk (hbox); have n2_ := Aside0.mk ((by rw [hg]; exact (below_size (by repeat (first | (with_reducible first | exact HB.out | apply below_alloc | apply pw_below_drewN | apply below_drew1) | exact HB.out))) : w.heap.size ≤ gb234)); have n3_ := Aside0.mk ((by rw [hg]; exact (below_size (by repeat (first | (with_reducible first | exact HB.out | apply below_alloc | apply pw_below_drewN | apply below_drew1) | exact HB.out))) : w.heap.size ≤ gb234)); clear HB; have HB := n0_; have BK234 := n1_; have GW234 := n2_; have GE234 := n3_; clear n0_ n1_ n2_ n3_; clear hb hbox hg; have hcz174_0 : w173.cell? ⟨gb234, 0, none⟩ = some (.int .i64 0) := (blk_cell BK234.out 0).trans rfl; have hcz174_1 : w173.cell? ⟨gb234, 1, none⟩ = some (.int .i64 0) := (blk_cell BK234.out 1).trans rfl; have hcz174_2 : w173.cell? ⟨gb234, 2, none⟩ = some (.int .i64 0) := (blk_cell BK234.out 2).trans rfl; have hcz174_3 : w173.cell? ⟨gb234, 3, none⟩ = some (.int .i64 0) := (blk_cell BK234.out 3).trans rfl; have hcz174_4 : w173.cell? ⟨gb234, 4, none⟩ = some (.int .i64 0) := (blk_cell BK234.out 4).trans rfl; have hfz174_0 := blk_frozen BK234.out 0; have hfz174_1 := blk_frozen BK234.out 1; have hfz174_2 := blk_frozen BK234.out 2; have hfz174_3 := blk_frozen BK234.out 3; have hfz174_4 := blk_frozen BK234.out 4))
              go_ret
              exact ⟨by first | rfl | (simp [errW_none, errW_some] <;> rfl) | (simp [*, errW_none, errW_some] <;> rfl), by repeat (first | (with_reducible first | exact HB.out | apply below_alloc | apply pw_below_drewN | apply below_drew1 | refine below_set ?_ GE234.out) | exact HB.out)⟩
  · replace c5 := Bool.eq_false_iff.mpr c5
    subst c5
    have H1 : (some false) = some r := by rw [if_neg (show ¬ (false = true) by decide)] at H; exact H
    clear H
    have H := H1
    clear H1
    obtain rfl := Option.some.inj H
    go_enter Try.func6, Try.ntmps6
    go_wp2_with (first | ((with_reducible refine gate_callee (f := 9) rfl ?_); refine goesL_ (some 13) rfl rfl Try.func9 (by kernel_rfl) rfl #[] rfl (by (try simp only [List.map_toArray, List.map_cons, List.map_nil]); first | done | rfl | (simp only [List.length_drop, List.length_take]; rfl)) ?_; (with_reducible refine (beadlelaw12_awake.calls k  false _ A4.out).mono ?_); rintro e w175 ⟨rfl, hb⟩; refine ⟨_, rfl, ?_⟩; have n0_ := Aside0.mk (below_step (by repeat (first | (with_reducible first | exact HB.out | apply below_alloc | apply pw_below_drewN | apply below_drew1) | exact HB.out)) hb); clear HB; have HB := n0_; clear n0_; (try clear hb); (try clear hb2); (try clear hk); (try clear hi)))
    go_ret
    exact ⟨by first | rfl | (simp [errW_none, errW_some] <;> rfl) | (simp [*, errW_none, errW_some] <;> rfl), by repeat (first | (with_reducible first | exact HB.out | apply below_alloc | apply pw_below_drewN | apply below_drew1) | exact HB.out)⟩

end Go.Proofs.Ytofbjgkoaiiagaa.Q
