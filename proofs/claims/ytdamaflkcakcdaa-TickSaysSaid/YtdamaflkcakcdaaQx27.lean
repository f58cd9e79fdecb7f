-- Written by myprint.py: the kit's print program with patches of this session; Lean checks it.
import Derived.Test.YtdamaflkcakcdaaQx0
import Derived.Test.YtdamaflkcakcdaaQx25
namespace Go.Proofs.Ytdamaflkcakcdaa.Q
open Go.RowKit Go.Proofs.YtdamaflkcakcdaaW.PrintWords Go.Proofs.YtdamaflkcakcdaaW.PrintLast Go.Proofs.YtdamaflkcakcdaaW.PrintMore
attribute [local go_sem] max2_int min2_int max_two min_two max_three min_three max_four min_four   -- for this text's walks alone
set_option linter.unusedVariables false
set_option linter.unusedSimpArgs false

/-! ### beadleref1_Cmp: function 23 -/
def beadleref1_Cmp.j0 : Nat → Int → Int → Int → Int → Bool → Option (Int × Bool)
  | 0, _, _, _, _, _ => none
  | k + 1, x0, x1, x2, x3, x35 => if x35 = true then (some (0, false)) else (if (wrap64 (x0 * x3)) < (wrap64 (x2 * x1)) then (some ((-1), true)) else (if (wrap64 (x0 * x3)) > (wrap64 (x2 * x1)) then (some (1, true)) else (some (0, true))))
def beadleref1_Cmp.f (k : Nat) (a0 : Int) (a1 : Int) (a2 : Int) (a3 : Int) : Option (Int × Bool) := if a0 < 0 then (beadleref1_Cmp.j0 k a0 a1 a2 a3 true) else (if a0 > 2147483648 then (beadleref1_Cmp.j0 k a0 a1 a2 a3 true) else (if a2 < 0 then (beadleref1_Cmp.j0 k a0 a1 a2 a3 true) else (if a2 > 2147483648 then (beadleref1_Cmp.j0 k a0 a1 a2 a3 true) else ((beadleref1_period.f a1).bind fun t233 => (if t233 = true then ((beadleref1_period.f a3).bind fun t234 => (beadleref1_Cmp.j0 k a0 a1 a2 a3 (!t234))) else (beadleref1_Cmp.j0 k a0 a1 a2 a3 true))))))
theorem beadleref1_Cmp.mono_l : ∀ k, (∀ y0 y1 y2 y3 y4, LeO (beadleref1_Cmp.j0 k y0 y1 y2 y3 y4) (beadleref1_Cmp.j0 (k + 1) y0 y1 y2 y3 y4))
  | 0 => fun _ _ _ _ _ r h => by simp [beadleref1_Cmp.j0] at h
  | k + 1 => by
    have ih0 := beadleref1_Cmp.mono_l k
    · intro y0 y1 y2 y3 y4
      unfold beadleref1_Cmp.j0
      repeat' first
      | (with_reducible exact ih0 _ _ _ _ _)
      | (with_reducible exact LeO.refl _)
      | (with_reducible exact LeO.none _)
      | (with_reducible refine LeO.ite ?_ ?_)
      | (with_reducible refine LeO.bind ?_ (fun _ => ?_))
      | exact ih0 _ _ _ _ _
      | exact LeO.none _
      | refine LeO.ite ?_ ?_
      | refine LeO.bind ?_ (fun _ => ?_)
theorem beadleref1_Cmp.mono : ∀ a0 a1 a2 a3 k, LeO (beadleref1_Cmp.f k a0 a1 a2 a3) (beadleref1_Cmp.f (k + 1) a0 a1 a2 a3) := by
  intro a0 a1 a2 a3 k
  have ih0 := beadleref1_Cmp.mono_l k
  unfold beadleref1_Cmp.f
  repeat' first
      | (with_reducible exact ih0 _ _ _ _ _)
      | (with_reducible exact LeO.refl _)
      | (with_reducible exact LeO.none _)
      | (with_reducible refine LeO.ite ?_ ?_)
      | (with_reducible refine LeO.bind ?_ (fun _ => ?_))
      | exact ih0 _ _ _ _ _
      | exact LeO.none _
      | refine LeO.ite ?_ ?_
      | refine LeO.bind ?_ (fun _ => ?_)
set_option maxHeartbeats 8000000 in
set_option maxRecDepth 100000 in
theorem beadleref1_Cmp.calls (k : Nat) (a0 : Int) (a1 : Int) (a2 : Int) (a3 : Int) (r1 : Int) (r2 : Bool) (w : World) (h : beadleref1_Cmp.f k a0 a1 a2 a3 = some (r1, r2)) :
    Calls Try.prog 23 #[.int .i64 a0, .int .i64 a1, .int .i64 a2, .int .i64 a3] w fun e w' => e = .returned (.tuple #[.int .i64 r1, .bool r2]) ∧ Drawn0 w w' := by
  have H : (if a0 < 0 then (beadleref1_Cmp.j0 k a0 a1 a2 a3 true) else (if a0 > 2147483648 then (beadleref1_Cmp.j0 k a0 a1 a2 a3 true) else (if a2 < 0 then (beadleref1_Cmp.j0 k a0 a1 a2 a3 true) else (if a2 > 2147483648 then (beadleref1_Cmp.j0 k a0 a1 a2 a3 true) else ((beadleref1_period.f a1).bind fun t233 => (if t233 = true then ((beadleref1_period.f a3).bind fun t234 => (beadleref1_Cmp.j0 k a0 a1 a2 a3 (!t234))) else (beadleref1_Cmp.j0 k a0 a1 a2 a3 true))))))) = some (r1, r2) := h
  clear h
  have HC5 := Aside0.mk H
  clear H
  go_enter Try.func23, Try.ntmps23
  go_upto_region 1 with (fail)
  go_cut [35] (fun v35 wc => ∃ (kq : Nat) (x35_4 : Bool), v35 = .bool x35_4 ∧ Aside0 (beadleref1_Cmp.j0 kq a0 a1 a2 a3 x35_4 = some (r1, r2)) ∧ Aside0 (kq ≤ k) ∧ Drawn0 w wc)
  case first =>
    have H := HC5.out
    clear HC5
    by_cases c6 : a0 < 0
    · rw [if_pos c6] at H
      have c6b0 : decide (a0 < 0) = true := decide_eq_true c6
      clear c6
      (first | rw [c6b0] | (simp only [i64_w, i32_w]; rw [c6b0]) | skip)
      have H' := Aside0.mk H
      clear H
      go_wp2
      go_meet
      case rel => exact ⟨_, (true), (by first | rfl | (simp; done) | (simp [*]; done)), H', ⟨by first | omega | exact Nat.le_refl _⟩, by repeat (first | exact Drawn0.refl _ | apply Drawn0.step)⟩
    · rw [if_neg c6] at H
      have c6b0 : decide (a0 < 0) = false := decide_eq_false c6
      clear c6
      (first | rw [c6b0] | (simp only [i64_w, i32_w]; rw [c6b0]) | skip)
      by_cases c7 : a0 > 2147483648
      · rw [if_pos c7] at H
        have c7b0 : decide (2147483648 < a0) = true := decide_eq_true c7
        clear c7
        have H' := Aside0.mk H
        clear H
        go_wp2
        go_meet
        case rel => exact ⟨_, (true), (by first | rfl | (simp; done) | (simp [*]; done)), H', ⟨by first | omega | exact Nat.le_refl _⟩, by repeat (first | exact Drawn0.refl _ | apply Drawn0.step)⟩
      · rw [if_neg c7] at H
        have c7b0 : decide (2147483648 < a0) = false := decide_eq_false c7
        clear c7
        by_cases c8 : a2 < 0
        · rw [if_pos c8] at H
          have c8b0 : decide (a2 < 0) = true := decide_eq_true c8
          clear c8
          have H' := Aside0.mk H
          clear H
          go_wp2
          go_meet
          case rel => exact ⟨_, (true), (by first | rfl | (simp; done) | (simp [*]; done)), H', ⟨by first | omega | exact Nat.le_refl _⟩, by repeat (first | exact Drawn0.refl _ | apply Drawn0.step)⟩
        · rw [if_neg c8] at H
          have c8b0 : decide (a2 < 0) = false := decide_eq_false c8
          clear c8
          by_cases c9 : a2 > 2147483648
          · rw [if_pos c9] at H
            have c9b0 : decide (2147483648 < a2) = true := decide_eq_true c9
            clear c9
            have H' := Aside0.mk H
            clear H
            go_wp2
            go_meet
            case rel => exact ⟨_, (true), (by first | rfl | (simp; done) | (simp [*]; done)), H', ⟨by first | omega | exact Nat.le_refl _⟩, by repeat (first | exact Drawn0.refl _ | apply Drawn0.step)⟩
          · rw [if_neg c9] at H
            have c9b0 : decide (2147483648 < a2) = false := decide_eq_false c9
            clear c9
            replace H := Option.bind_eq_some_iff.mp H
            obtain ⟨t233, A100, H⟩ := H
            replace H : (if t233 = true then ((beadleref1_period.f a3).bind fun t234 => (beadleref1_Cmp.j0 k a0 a1 a2 a3 (!t234))) else (beadleref1_Cmp.j0 k a0 a1 a2 a3 true)) = some (r1, r2) := H
            have A10 := Aside0.mk A100
            clear A100
            by_cases c11 : t233 = true
            · subst c11
              have H1 : ((beadleref1_period.f a3).bind fun t234 => (beadleref1_Cmp.j0 k a0 a1 a2 a3 (!t234))) = some (r1, r2) := by rw [if_pos rfl] at H; exact H
              clear H
              have H := H1
              clear H1
              replace H := Option.bind_eq_some_iff.mp H
              obtain ⟨t234, A120, H⟩ := H
              replace H : (beadleref1_Cmp.j0 k a0 a1 a2 a3 (!t234)) = some (r1, r2) := H
              have A12 := Aside0.mk A120
              clear A120
              have H' := Aside0.mk H
              clear H
              go_wp2_with (first | (go_at_call 31; (with_reducible refine (beadleref1_period.calls a1 true _ A10.out).mono ?_); rintro e w' ⟨rfl, ⟨nd, rfl⟩⟩) | (go_at_call 31; (with_reducible refine (beadleref1_period.calls a3 t234 _ A12.out).mono ?_); rintro e w' ⟨rfl, ⟨nd, rfl⟩⟩))
              go_meet
              case rel => exact ⟨_, (!t234), (by first | rfl | (simp; done) | (simp [*]; done)), H', ⟨by first | omega | exact Nat.le_refl _⟩, by repeat (first | exact Drawn0.refl _ | apply Drawn0.step)⟩
            · replace c11 := Bool.eq_false_iff.mpr c11
              subst c11
              have H1 : (beadleref1_Cmp.j0 k a0 a1 a2 a3 true) = some (r1, r2) := by rw [if_neg (show ¬ (false = true) by decide)] at H; exact H
              clear H
              have H := H1
              clear H1
              have H' := Aside0.mk H
              clear H
              go_wp2_with (first | (go_at_call 31; (with_reducible refine (beadleref1_period.calls a1 false _ A10.out).mono ?_); rintro e w' ⟨rfl, ⟨nd, rfl⟩⟩))
              go_meet
              case rel => exact ⟨_, (true), (by first | rfl | (simp; done) | (simp [*]; done)), H', ⟨by first | omega | exact Nat.le_refl _⟩, by repeat (first | exact Drawn0.refl _ | apply Drawn0.step)⟩
  case rest =>
    clear HC5
    try clear c1
    try clear c2
    try clear p2
    try clear c6
    try clear c6b0
    try clear c7
    try clear c7b0
    try clear c8
    try clear c8b0
    try clear c9
    try clear c9b0
    try clear c11
    obtain ⟨kq, x35_4, rfl, HA, HJ4, ⟨mc4, rfl⟩⟩ := hcut
    cases kq with
    | zero => exact absurd HA.out (by simp [beadleref1_Cmp.j0])
    | succ kj4 =>
      have H := HA.out
      clear HA
      simp only [beadleref1_Cmp.j0] at H
      by_cases c13 : x35_4 = true
      · subst c13
        have H1 : (some (0, false)) = some (r1, r2) := by rw [if_pos rfl] at H; exact H
        clear H
        have H := H1
        clear H1
        simp only [Option.some.injEq, Prod.mk.injEq] at H
        obtain ⟨rfl, rfl⟩ := H
        go_wp2
        go_ret2
        exact ⟨by first | rfl | (simp; done) | (simp [*]; done), by repeat (first | exact Drawn0.refl _ | apply Drawn0.step)⟩
      · replace c13 := Bool.eq_false_iff.mpr c13
        subst c13
        have H1 : (if (wrap64 (a0 * a3)) < (wrap64 (a2 * a1)) then (some ((-1), true)) else (if (wrap64 (a0 * a3)) > (wrap64 (a2 * a1)) then (some (1, true)) else (some (0, true)))) = some (r1, r2) := by rw [if_neg (show ¬ (false = true) by decide)] at H; exact H
        clear H
        have H := H1
        clear H1
        by_cases c14 : (wrap64 (a0 * a3)) < (wrap64 (a2 * a1))
        · rw [if_pos c14] at H
          have c14b0 : decide ((wrap64 (a0 * a3)) < (wrap64 (a2 * a1))) = true := decide_eq_true c14
          clear c14
          simp only [Option.some.injEq, Prod.mk.injEq] at H
          obtain ⟨rfl, rfl⟩ := H
          go_wp2
          go_ret2
          exact ⟨by first | rfl | (simp; done) | (simp [*]; done), by repeat (first | exact Drawn0.refl _ | apply Drawn0.step)⟩
        · rw [if_neg c14] at H
          have c14b0 : decide ((wrap64 (a0 * a3)) < (wrap64 (a2 * a1))) = false := decide_eq_false c14
          clear c14
          by_cases c15 : (wrap64 (a0 * a3)) > (wrap64 (a2 * a1))
          · rw [if_pos c15] at H
            have c15b0 : decide ((wrap64 (a2 * a1)) < (wrap64 (a0 * a3))) = true := decide_eq_true c15
            clear c15
            simp only [Option.some.injEq, Prod.mk.injEq] at H
            obtain ⟨rfl, rfl⟩ := H
            go_wp2
            go_ret2
            exact ⟨by first | rfl | (simp; done) | (simp [*]; done), by repeat (first | exact Drawn0.refl _ | apply Drawn0.step)⟩
          · rw [if_neg c15] at H
            have c15b0 : decide ((wrap64 (a2 * a1)) < (wrap64 (a0 * a3))) = false := decide_eq_false c15
            clear c15
            simp only [Option.some.injEq, Prod.mk.injEq] at H
            obtain ⟨rfl, rfl⟩ := H
            go_wp2
            go_ret2
            exact ⟨by first | rfl | (simp; done) | (simp [*]; done), by repeat (first | exact Drawn0.refl _ | apply Drawn0.step)⟩

end Go.Proofs.Ytdamaflkcakcdaa.Q
