-- Written by myprint.py: the kit's print program with patches of this session; Lean checks it.
import Derived.Test.YtofbjgkoaiiagaaQx0
import Derived.Test.YtofbjgkoaiiagaaQx8
namespace Go.Proofs.Ytofbjgkoaiiagaa.Q
open Go.RowKit Go.Proofs.YtofbjgkoaiiagaaW.PrintWords Go.Proofs.YtofbjgkoaiiagaaW.PrintLast Go.Proofs.YtofbjgkoaiiagaaW.PrintMore
attribute [local go_sem] max2_int min2_int max_two min_two max_three min_three max_four min_four   -- for this text's walks alone
set_option linter.unusedVariables false
set_option linter.unusedSimpArgs false

/-! ### tick_Share: function 30 -/
def tick_Share.f (a0 : Int) (a1 : Int) (a2 : Int) : Option (Int × Bool) := (tick_in.f a0 0 2147483648).bind fun t111 => (if t111 = true then ((tick_in.f a2 1 2147483648).bind fun t112 => (if t112 = true then ((tick_in.f a1 0 a2).bind fun t113 => (if t113 = true then (if a2 = 0 then (none) else (some (wrap64 (Int.tdiv (wrap64 (a0 * a1)) a2), true))) else (some (0, false)))) else (some (0, false)))) else (some (0, false)))
set_option maxHeartbeats 8000000 in
set_option maxRecDepth 100000 in
theorem tick_Share.calls (a0 : Int) (a1 : Int) (a2 : Int) (r1 : Int) (r2 : Bool) (w : World) (h : tick_Share.f a0 a1 a2 = some (r1, r2)) :
    Calls Try.prog 30 #[.int .i64 a0, .int .i64 a1, .int .i64 a2] w fun e w' => e = .returned (.tuple #[.int .i64 r1, .bool r2]) ∧ Drawn0 w w' := by
  have H : ((tick_in.f a0 0 2147483648).bind fun t111 => (if t111 = true then ((tick_in.f a2 1 2147483648).bind fun t112 => (if t112 = true then ((tick_in.f a1 0 a2).bind fun t113 => (if t113 = true then (if a2 = 0 then (none) else (some (wrap64 (Int.tdiv (wrap64 (a0 * a1)) a2), true))) else (some (0, false)))) else (some (0, false)))) else (some (0, false)))) = some (r1, r2) := h
  clear h
  replace H := Option.bind_eq_some_iff.mp H
  obtain ⟨t111, A40, H⟩ := H
  replace H : (if t111 = true then ((tick_in.f a2 1 2147483648).bind fun t112 => (if t112 = true then ((tick_in.f a1 0 a2).bind fun t113 => (if t113 = true then (if a2 = 0 then (none) else (some (wrap64 (Int.tdiv (wrap64 (a0 * a1)) a2), true))) else (some (0, false)))) else (some (0, false)))) else (some (0, false))) = some (r1, r2) := H
  have A4 := Aside0.mk A40
  clear A40
  by_cases c5 : t111 = true
  · subst c5
    have H1 : ((tick_in.f a2 1 2147483648).bind fun t112 => (if t112 = true then ((tick_in.f a1 0 a2).bind fun t113 => (if t113 = true then (if a2 = 0 then (none) else (some (wrap64 (Int.tdiv (wrap64 (a0 * a1)) a2), true))) else (some (0, false)))) else (some (0, false)))) = some (r1, r2) := by rw [if_pos rfl] at H; exact H
    clear H
    have H := H1
    clear H1
    replace H := Option.bind_eq_some_iff.mp H
    obtain ⟨t112, A60, H⟩ := H
    replace H : (if t112 = true then ((tick_in.f a1 0 a2).bind fun t113 => (if t113 = true then (if a2 = 0 then (none) else (some (wrap64 (Int.tdiv (wrap64 (a0 * a1)) a2), true))) else (some (0, false)))) else (some (0, false))) = some (r1, r2) := H
    have A6 := Aside0.mk A60
    clear A60
    by_cases c7 : t112 = true
    · subst c7
      have H1 : ((tick_in.f a1 0 a2).bind fun t113 => (if t113 = true then (if a2 = 0 then (none) else (some (wrap64 (Int.tdiv (wrap64 (a0 * a1)) a2), true))) else (some (0, false)))) = some (r1, r2) := by rw [if_pos rfl] at H; exact H
      clear H
      have H := H1
      clear H1
      replace H := Option.bind_eq_some_iff.mp H
      obtain ⟨t113, A80, H⟩ := H
      replace H : (if t113 = true then (if a2 = 0 then (none) else (some (wrap64 (Int.tdiv (wrap64 (a0 * a1)) a2), true))) else (some (0, false))) = some (r1, r2) := H
      have A8 := Aside0.mk A80
      clear A80
      by_cases c9 : t113 = true
      · subst c9
        have H1 : (if a2 = 0 then (none) else (some (wrap64 (Int.tdiv (wrap64 (a0 * a1)) a2), true))) = some (r1, r2) := by rw [if_pos rfl] at H; exact H
        clear H
        have H := H1
        clear H1
        by_cases c10 : a2 = 0
        · rw [if_pos c10] at H
          exact absurd H (by simp)
        · rw [if_neg c10] at H
          have c10b0 : (a2 == 0) = false := beq_eq_false_iff_ne.mpr c10
          have c10b1 : (a2 != 0) = true := bne_iff_ne.mpr c10
          simp only [Option.some.injEq, Prod.mk.injEq] at H
          obtain ⟨rfl, rfl⟩ := H
          go_enter Try.func30, Try.ntmps30
          go_wp2_with (first | ((with_reducible refine gate_callee (f := 37) rfl ?_); refine goesL_ (some 9) rfl rfl Try.func37 (by kernel_rfl) rfl #[.int .i64 a0, .int .i64 0, .int .i64 2147483648] rfl (by (try simp only [List.map_toArray, List.map_cons, List.map_nil]); first | done | rfl | (simp only [List.length_drop, List.length_take]; rfl)) ?_; (with_reducible refine (tick_in.calls a0 0 2147483648 true _ A4.out).mono ?_); rintro e w' ⟨rfl, ⟨nd, rfl⟩⟩; refine ⟨_, rfl, ?_⟩) | (go_at_call 37; (with_reducible refine (tick_in.calls a2 1 2147483648 true _ A6.out).mono ?_); rintro e w' ⟨rfl, ⟨nd, rfl⟩⟩) | (go_at_call 37; (with_reducible refine (tick_in.calls a1 0 a2 true _ A8.out).mono ?_); rintro e w' ⟨rfl, ⟨nd, rfl⟩⟩))
          go_ret2
          exact ⟨by first | rfl | (simp; done) | (simp [*]; done), by repeat (first | exact Drawn0.refl _ | apply Drawn0.step)⟩
      · replace c9 := Bool.eq_false_iff.mpr c9
        subst c9
        have H1 : (some (0, false)) = some (r1, r2) := by rw [if_neg (show ¬ (false = true) by decide)] at H; exact H
        clear H
        have H := H1
        clear H1
        simp only [Option.some.injEq, Prod.mk.injEq] at H
        obtain ⟨rfl, rfl⟩ := H
        go_enter Try.func30, Try.ntmps30
        go_wp2_with (first | ((with_reducible refine gate_callee (f := 37) rfl ?_); refine goesL_ (some 9) rfl rfl Try.func37 (by kernel_rfl) rfl #[.int .i64 a0, .int .i64 0, .int .i64 2147483648] rfl (by (try simp only [List.map_toArray, List.map_cons, List.map_nil]); first | done | rfl | (simp only [List.length_drop, List.length_take]; rfl)) ?_; (with_reducible refine (tick_in.calls a0 0 2147483648 true _ A4.out).mono ?_); rintro e w' ⟨rfl, ⟨nd, rfl⟩⟩; refine ⟨_, rfl, ?_⟩) | (go_at_call 37; (with_reducible refine (tick_in.calls a2 1 2147483648 true _ A6.out).mono ?_); rintro e w' ⟨rfl, ⟨nd, rfl⟩⟩) | (go_at_call 37; (with_reducible refine (tick_in.calls a1 0 a2 false _ A8.out).mono ?_); rintro e w' ⟨rfl, ⟨nd, rfl⟩⟩))
        go_ret2
        exact ⟨by first | rfl | (simp; done) | (simp [*]; done), by repeat (first | exact Drawn0.refl _ | apply Drawn0.step)⟩
    · replace c7 := Bool.eq_false_iff.mpr c7
      subst c7
      have H1 : (some (0, false)) = some (r1, r2) := by rw [if_neg (show ¬ (false = true) by decide)] at H; exact H
      clear H
      have H := H1
      clear H1
      simp only [Option.some.injEq, Prod.mk.injEq] at H
      obtain ⟨rfl, rfl⟩ := H
      go_enter Try.func30, Try.ntmps30
      go_wp2_with (first | ((with_reducible refine gate_callee (f := 37) rfl ?_); refine goesL_ (some 9) rfl rfl Try.func37 (by kernel_rfl) rfl #[.int .i64 a0, .int .i64 0, .int .i64 2147483648] rfl (by (try simp only [List.map_toArray, List.map_cons, List.map_nil]); first | done | rfl | (simp only [List.length_drop, List.length_take]; rfl)) ?_; (with_reducible refine (tick_in.calls a0 0 2147483648 true _ A4.out).mono ?_); rintro e w' ⟨rfl, ⟨nd, rfl⟩⟩; refine ⟨_, rfl, ?_⟩) | (go_at_call 37; (with_reducible refine (tick_in.calls a2 1 2147483648 false _ A6.out).mono ?_); rintro e w' ⟨rfl, ⟨nd, rfl⟩⟩))
      go_ret2
      exact ⟨by first | rfl | (simp; done) | (simp [*]; done), by repeat (first | exact Drawn0.refl _ | apply Drawn0.step)⟩
  · replace c5 := Bool.eq_false_iff.mpr c5
    subst c5
    have H1 : (some (0, false)) = some (r1, r2) := by rw [if_neg (show ¬ (false = true) by decide)] at H; exact H
    clear H
    have H := H1
    clear H1
    simp only [Option.some.injEq, Prod.mk.injEq] at H
    obtain ⟨rfl, rfl⟩ := H
    go_enter Try.func30, Try.ntmps30
    go_wp2_with (first | ((with_reducible refine gate_callee (f := 37) rfl ?_); refine goesL_ (some 9) rfl rfl Try.func37 (by kernel_rfl) rfl #[.int .i64 a0, .int .i64 0, .int .i64 2147483648] rfl (by (try simp only [List.map_toArray, List.map_cons, List.map_nil]); first | done | rfl | (simp only [List.length_drop, List.length_take]; rfl)) ?_; (with_reducible refine (tick_in.calls a0 0 2147483648 false _ A4.out).mono ?_); rintro e w' ⟨rfl, ⟨nd, rfl⟩⟩; refine ⟨_, rfl, ?_⟩))
    go_ret2
    exact ⟨by first | rfl | (simp; done) | (simp [*]; done), by repeat (first | exact Drawn0.refl _ | apply Drawn0.step)⟩

end Go.Proofs.Ytofbjgkoaiiagaa.Q
