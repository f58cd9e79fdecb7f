-- PRINTED BY print.sh 35421559b90ae4d0a3588c463048766b98c2df88dd9212a6774a882060cdf62d: not written by this session
import Derived.Test.YtdamaflkcakcdaaPTickSharesx0
import Derived.Test.YtdamaflkcakcdaaPTickSharesx1
namespace Go.Proofs.Ytdamaflkcakcdaa.PTickShares
open Go.RowKit Go.Proofs.YtdamaflkcakcdaaW.PrintWords Go.Proofs.YtdamaflkcakcdaaW.PrintLast Go.Proofs.YtdamaflkcakcdaaW.PrintMore
attribute [local go_sem] max2_int min2_int max_two min_two max_three min_three max_four min_four   -- for this text's walks alone
set_option linter.unusedVariables false
set_option linter.unusedSimpArgs false

/-! ### beadlelaw1_TickShares: function 6 -/
def beadlelaw1_TickShares.j0 : Nat → Int → Int → Int → Int → Int → Int → Bool → Option (Bool)
  | 0, _, _, _, _, _, _, _ => none
  | k + 1, x0, x1, x2, x3, x9, x11, x38 => if x38 = true then (some true) else ((tick_Share.f x0 x3 x3).bind fun bt127 => ((tick_Cmp.f x9 x0 x2 x3).bind fun bt129 => (if x9 ≥ 0 then (if x9 ≤ x0 then (if x0 > x1 then (if bt127.1 = x0 then (if x0 = 0 then (if (wrap64 (x9 * x3)) ≤ (wrap64 (x0 * x2)) then (some (decide ((wrap64 ((wrap64 (x9 + 1)) * x3)) > (wrap64 (x0 * x2))))) else (some false)) else (if bt129.2 = true then (if bt129.1 ≤ 0 then (if (wrap64 (x9 * x3)) ≤ (wrap64 (x0 * x2)) then (some (decide ((wrap64 ((wrap64 (x9 + 1)) * x3)) > (wrap64 (x0 * x2))))) else (some false)) else (some false)) else (some false))) else (some false)) else (if x9 ≤ x11 then (if bt127.1 = x0 then (if x0 = 0 then (if (wrap64 (x9 * x3)) ≤ (wrap64 (x0 * x2)) then (some (decide ((wrap64 ((wrap64 (x9 + 1)) * x3)) > (wrap64 (x0 * x2))))) else (some false)) else (if bt129.2 = true then (if bt129.1 ≤ 0 then (if (wrap64 (x9 * x3)) ≤ (wrap64 (x0 * x2)) then (some (decide ((wrap64 ((wrap64 (x9 + 1)) * x3)) > (wrap64 (x0 * x2))))) else (some false)) else (some false)) else (some false))) else (some false)) else (some false))) else (some false)) else (some false))))
def beadlelaw1_TickShares.f (k : Nat) (a0 : Int) (a1 : Int) (a2 : Int) (a3 : Int) : Option (Bool) := (beadlelaw1_awake.f k).bind fun t122 => (if t122 = true then ((tick_Share.f a0 a2 a3).bind fun bt123 => ((tick_Share.f a1 a2 a3).bind fun bt125 => (if bt123.2 = true then (beadlelaw1_TickShares.j0 k a0 a1 a2 a3 bt123.1 bt125.1 (!bt125.2)) else (beadlelaw1_TickShares.j0 k a0 a1 a2 a3 bt123.1 bt125.1 true)))) else (some false))
theorem beadlelaw1_TickShares.mono_l : ∀ k, (∀ y0 y1 y2 y3 y4 y5 y6, LeO (beadlelaw1_TickShares.j0 k y0 y1 y2 y3 y4 y5 y6) (beadlelaw1_TickShares.j0 (k + 1) y0 y1 y2 y3 y4 y5 y6))
  | 0 => fun _ _ _ _ _ _ _ r h => by simp [beadlelaw1_TickShares.j0] at h
  | k + 1 => by
    have ih0 := beadlelaw1_TickShares.mono_l k
    · intro y0 y1 y2 y3 y4 y5 y6
      unfold beadlelaw1_TickShares.j0
      repeat' first
      | (with_reducible exact ih0 _ _ _ _ _ _ _)
      | (with_reducible exact beadlelaw1_awake.mono _)
      | (with_reducible exact LeO.refl _)
      | (with_reducible exact LeO.none _)
      | (with_reducible refine LeO.ite ?_ ?_)
      | (with_reducible refine LeO.bind ?_ (fun _ => ?_))
      | exact ih0 _ _ _ _ _ _ _
      | exact beadlelaw1_awake.mono _
      | exact LeO.none _
      | refine LeO.ite ?_ ?_
      | refine LeO.bind ?_ (fun _ => ?_)
theorem beadlelaw1_TickShares.mono : ∀ a0 a1 a2 a3 k, LeO (beadlelaw1_TickShares.f k a0 a1 a2 a3) (beadlelaw1_TickShares.f (k + 1) a0 a1 a2 a3) := by
  intro a0 a1 a2 a3 k
  have ih0 := beadlelaw1_TickShares.mono_l k
  unfold beadlelaw1_TickShares.f
  repeat' first
      | (with_reducible exact ih0 _ _ _ _ _ _ _)
      | (with_reducible exact beadlelaw1_awake.mono _)
      | (with_reducible exact LeO.refl _)
      | (with_reducible exact LeO.none _)
      | (with_reducible refine LeO.ite ?_ ?_)
      | (with_reducible refine LeO.bind ?_ (fun _ => ?_))
      | exact ih0 _ _ _ _ _ _ _
      | exact beadlelaw1_awake.mono _
      | exact LeO.none _
      | refine LeO.ite ?_ ?_
      | refine LeO.bind ?_ (fun _ => ?_)
set_option maxHeartbeats 8000000 in
set_option maxRecDepth 100000 in
theorem beadlelaw1_TickShares.calls (k : Nat) (a0 : Int) (a1 : Int) (a2 : Int) (a3 : Int) (r : Bool) (w : World) (h : beadlelaw1_TickShares.f k a0 a1 a2 a3 = some r) :
    Calls Try.prog 6 #[.int .i64 a0, .int .i64 a1, .int .i64 a2, .int .i64 a3] w fun e w' => e = .returned (.bool r) ∧ Drawn0 w w' := by
  have H : ((beadlelaw1_awake.f k).bind fun t122 => (if t122 = true then ((tick_Share.f a0 a2 a3).bind fun bt123 => ((tick_Share.f a1 a2 a3).bind fun bt125 => (if bt123.2 = true then (beadlelaw1_TickShares.j0 k a0 a1 a2 a3 bt123.1 bt125.1 (!bt125.2)) else (beadlelaw1_TickShares.j0 k a0 a1 a2 a3 bt123.1 bt125.1 true)))) else (some false))) = some r := h
  clear h
  replace H := Option.bind_eq_some_iff.mp H
  obtain ⟨t122, A50, H⟩ := H
  replace H : (if t122 = true then ((tick_Share.f a0 a2 a3).bind fun bt123 => ((tick_Share.f a1 a2 a3).bind fun bt125 => (if bt123.2 = true then (beadlelaw1_TickShares.j0 k a0 a1 a2 a3 bt123.1 bt125.1 (!bt125.2)) else (beadlelaw1_TickShares.j0 k a0 a1 a2 a3 bt123.1 bt125.1 true)))) else (some false)) = some r := H
  have A5 := Aside0.mk A50
  clear A50
  by_cases c6 : t122 = true
  · subst c6
    have H1 : ((tick_Share.f a0 a2 a3).bind fun bt123 => ((tick_Share.f a1 a2 a3).bind fun bt125 => (if bt123.2 = true then (beadlelaw1_TickShares.j0 k a0 a1 a2 a3 bt123.1 bt125.1 (!bt125.2)) else (beadlelaw1_TickShares.j0 k a0 a1 a2 a3 bt123.1 bt125.1 true)))) = some r := by rw [if_pos rfl] at H; exact H
    clear H
    have H := H1
    clear H1
    replace H := Option.bind_eq_some_iff.mp H
    obtain ⟨⟨t123, t124⟩, A70, H⟩ := H
    replace H : ((tick_Share.f a1 a2 a3).bind fun bt125 => (if t124 = true then (beadlelaw1_TickShares.j0 k a0 a1 a2 a3 t123 bt125.1 (!bt125.2)) else (beadlelaw1_TickShares.j0 k a0 a1 a2 a3 t123 bt125.1 true))) = some r := H
    have A7 := Aside0.mk A70
    clear A70
    replace H := Option.bind_eq_some_iff.mp H
    obtain ⟨⟨t125, t126⟩, A80, H⟩ := H
    replace H : (if t124 = true then (beadlelaw1_TickShares.j0 k a0 a1 a2 a3 t123 t125 (!t126)) else (beadlelaw1_TickShares.j0 k a0 a1 a2 a3 t123 t125 true)) = some r := H
    have A8 := Aside0.mk A80
    clear A80
    have HC9 := Aside0.mk H
    clear H
    go_enter Try.func6, Try.ntmps6
    go_upto_region 5 with (first | ((with_reducible refine gate_callee (f := 10) rfl ?_); refine goesL_ (some 17) rfl rfl Try.func10 (by kernel_rfl) rfl #[] rfl (by (try simp only [List.map_toArray, List.map_cons, List.map_nil]); first | done | rfl | (simp only [List.length_drop, List.length_take]; rfl)) ?_; (with_reducible refine (beadlelaw1_awake.calls k  true _ A5.out).mono ?_); rintro e w' ⟨rfl, ⟨nd, rfl⟩⟩; refine ⟨_, rfl, ?_⟩) | ((with_reducible refine gate_callee (f := 17) rfl ?_); refine goesL_ (some 23) rfl rfl Try.func17 (by kernel_rfl) rfl #[.int .i64 a0, .int .i64 a2, .int .i64 a3] rfl (by (try simp only [List.map_toArray, List.map_cons, List.map_nil]); first | done | rfl | (simp only [List.length_drop, List.length_take]; rfl)) ?_; (with_reducible refine (tick_Share.calls a0 a2 a3 t123 t124 _ A7.out).mono ?_); rintro e w' ⟨rfl, ⟨nd, rfl⟩⟩; refine ⟨_, rfl, ?_⟩) | ((with_reducible refine gate_callee (f := 17) rfl ?_); refine goesL_ (some 30) rfl rfl Try.func17 (by kernel_rfl) rfl #[.int .i64 a1, .int .i64 a2, .int .i64 a3] rfl (by (try simp only [List.map_toArray, List.map_cons, List.map_nil]); first | done | rfl | (simp only [List.length_drop, List.length_take]; rfl)) ?_; (with_reducible refine (tick_Share.calls a1 a2 a3 t125 t126 _ A8.out).mono ?_); rintro e w' ⟨rfl, ⟨nd, rfl⟩⟩; refine ⟨_, rfl, ?_⟩))
    (try simp only [Act.put, List.setIfInBounds_toArray, List.set_cons_zero, List.set_cons_succ])
    go_cut [38] (fun v38 wc => ∃ (kq : Nat) (x38_8 : Bool), v38 = .bool x38_8 ∧ Aside0 (beadlelaw1_TickShares.j0 kq a0 a1 a2 a3 t123 t125 x38_8 = some r) ∧ Aside0 (kq ≤ k) ∧ Drawn0 w wc)
    case first =>
      have H := HC9.out
      clear HC9
      by_cases c10 : t124 = true
      · subst c10
        have H1 : (beadlelaw1_TickShares.j0 k a0 a1 a2 a3 t123 t125 (!t126)) = some r := by rw [if_pos rfl] at H; exact H
        clear H
        have H := H1
        clear H1
        have H' := Aside0.mk H
        clear H
        go_wp2
        go_meet
        case rel => exact ⟨_, (!t126), (by first | rfl | (simp; done) | (simp [*]; done)), H', ⟨by first | omega | exact Nat.le_refl _⟩, by repeat (first | exact Drawn0.refl _ | apply Drawn0.step)⟩
      · replace c10 := Bool.eq_false_iff.mpr c10
        subst c10
        have H1 : (beadlelaw1_TickShares.j0 k a0 a1 a2 a3 t123 t125 true) = some r := by rw [if_neg (show ¬ (false = true) by decide)] at H; exact H
        clear H
        have H := H1
        clear H1
        have H' := Aside0.mk H
        clear H
        go_wp2
        go_meet
        case rel => exact ⟨_, (true), (by first | rfl | (simp; done) | (simp [*]; done)), H', ⟨by first | omega | exact Nat.le_refl _⟩, by repeat (first | exact Drawn0.refl _ | apply Drawn0.step)⟩
    case rest =>
      clear HC9
      try clear c1
      try clear p2
      try clear c6
      try clear c10
      obtain ⟨kq, x38_8, rfl, HA, HJ8, ⟨mc8, rfl⟩⟩ := hcut
      cases kq with
      | zero => exact absurd HA.out (by simp [beadlelaw1_TickShares.j0])
      | succ kj8 =>
        have H := HA.out
        clear HA
        simp only [beadlelaw1_TickShares.j0] at H
        by_cases c11 : x38_8 = true
        · subst c11
          have H1 : (some true) = some r := by rw [if_pos rfl] at H; exact H
          clear H
          have H := H1
          clear H1
          obtain rfl := Option.some.inj H
          go_wp2
          go_ret
          exact ⟨by first | rfl | (simp; done) | (simp [*]; done), by repeat (first | exact Drawn0.refl _ | apply Drawn0.step)⟩
        · replace c11 := Bool.eq_false_iff.mpr c11
          subst c11
          have H1 : ((tick_Share.f a0 a3 a3).bind fun bt127 => ((tick_Cmp.f t123 a0 a2 a3).bind fun bt129 => (if t123 ≥ 0 then (if t123 ≤ a0 then (if a0 > a1 then (if bt127.1 = a0 then (if a0 = 0 then (if (wrap64 (t123 * a3)) ≤ (wrap64 (a0 * a2)) then (some (decide ((wrap64 ((wrap64 (t123 + 1)) * a3)) > (wrap64 (a0 * a2))))) else (some false)) else (if bt129.2 = true then (if bt129.1 ≤ 0 then (if (wrap64 (t123 * a3)) ≤ (wrap64 (a0 * a2)) then (some (decide ((wrap64 ((wrap64 (t123 + 1)) * a3)) > (wrap64 (a0 * a2))))) else (some false)) else (some false)) else (some false))) else (some false)) else (if t123 ≤ t125 then (if bt127.1 = a0 then (if a0 = 0 then (if (wrap64 (t123 * a3)) ≤ (wrap64 (a0 * a2)) then (some (decide ((wrap64 ((wrap64 (t123 + 1)) * a3)) > (wrap64 (a0 * a2))))) else (some false)) else (if bt129.2 = true then (if bt129.1 ≤ 0 then (if (wrap64 (t123 * a3)) ≤ (wrap64 (a0 * a2)) then (some (decide ((wrap64 ((wrap64 (t123 + 1)) * a3)) > (wrap64 (a0 * a2))))) else (some false)) else (some false)) else (some false))) else (some false)) else (some false))) else (some false)) else (some false)))) = some r := by rw [if_neg (show ¬ (false = true) by decide)] at H; exact H
          clear H
          have H := H1
          clear H1
          replace H := Option.bind_eq_some_iff.mp H
          obtain ⟨⟨t127, t128⟩, A120, H⟩ := H
          replace H : ((tick_Cmp.f t123 a0 a2 a3).bind fun bt129 => (if t123 ≥ 0 then (if t123 ≤ a0 then (if a0 > a1 then (if t127 = a0 then (if a0 = 0 then (if (wrap64 (t123 * a3)) ≤ (wrap64 (a0 * a2)) then (some (decide ((wrap64 ((wrap64 (t123 + 1)) * a3)) > (wrap64 (a0 * a2))))) else (some false)) else (if bt129.2 = true then (if bt129.1 ≤ 0 then (if (wrap64 (t123 * a3)) ≤ (wrap64 (a0 * a2)) then (some (decide ((wrap64 ((wrap64 (t123 + 1)) * a3)) > (wrap64 (a0 * a2))))) else (some false)) else (some false)) else (some false))) else (some false)) else (if t123 ≤ t125 then (if t127 = a0 then (if a0 = 0 then (if (wrap64 (t123 * a3)) ≤ (wrap64 (a0 * a2)) then (some (decide ((wrap64 ((wrap64 (t123 + 1)) * a3)) > (wrap64 (a0 * a2))))) else (some false)) else (if bt129.2 = true then (if bt129.1 ≤ 0 then (if (wrap64 (t123 * a3)) ≤ (wrap64 (a0 * a2)) then (some (decide ((wrap64 ((wrap64 (t123 + 1)) * a3)) > (wrap64 (a0 * a2))))) else (some false)) else (some false)) else (some false))) else (some false)) else (some false))) else (some false)) else (some false))) = some r := H
          have A12 := Aside0.mk A120
          clear A120
          replace H := Option.bind_eq_some_iff.mp H
          obtain ⟨⟨t129, t130⟩, A130, H⟩ := H
          replace H : (if t123 ≥ 0 then (if t123 ≤ a0 then (if a0 > a1 then (if t127 = a0 then (if a0 = 0 then (if (wrap64 (t123 * a3)) ≤ (wrap64 (a0 * a2)) then (some (decide ((wrap64 ((wrap64 (t123 + 1)) * a3)) > (wrap64 (a0 * a2))))) else (some false)) else (if t130 = true then (if t129 ≤ 0 then (if (wrap64 (t123 * a3)) ≤ (wrap64 (a0 * a2)) then (some (decide ((wrap64 ((wrap64 (t123 + 1)) * a3)) > (wrap64 (a0 * a2))))) else (some false)) else (some false)) else (some false))) else (some false)) else (if t123 ≤ t125 then (if t127 = a0 then (if a0 = 0 then (if (wrap64 (t123 * a3)) ≤ (wrap64 (a0 * a2)) then (some (decide ((wrap64 ((wrap64 (t123 + 1)) * a3)) > (wrap64 (a0 * a2))))) else (some false)) else (if t130 = true then (if t129 ≤ 0 then (if (wrap64 (t123 * a3)) ≤ (wrap64 (a0 * a2)) then (some (decide ((wrap64 ((wrap64 (t123 + 1)) * a3)) > (wrap64 (a0 * a2))))) else (some false)) else (some false)) else (some false))) else (some false)) else (some false))) else (some false)) else (some false)) = some r := H
          have A13 := Aside0.mk A130
          clear A130
          by_cases c14 : t123 ≥ 0
          · rw [if_pos c14] at H
            have c14b0 : decide (0 ≤ t123) = true := decide_eq_true c14
            clear c14
            by_cases c15 : t123 ≤ a0
            · rw [if_pos c15] at H
              have c15b0 : decide (t123 ≤ a0) = true := decide_eq_true c15
              clear c15
              by_cases c16 : a0 > a1
              · rw [if_pos c16] at H
                have c16b0 : decide (a1 < a0) = true := decide_eq_true c16
                clear c16
                by_cases c17 : t127 = a0
                · rw [if_pos c17] at H
                  have c17b0 : (t127 == a0) = true := beq_iff_eq.mpr c17
                  have c17b1 : (t127 != a0) = false := bne_eq_false_iff_eq.mpr c17
                  clear c17
                  by_cases c18 : a0 = 0
                  · rw [if_pos c18] at H
                    have c18b0 : (a0 == 0) = true := beq_iff_eq.mpr c18
                    have c18b1 : (a0 != 0) = false := bne_eq_false_iff_eq.mpr c18
                    clear c18
                    by_cases c19 : (wrap64 (t123 * a3)) ≤ (wrap64 (a0 * a2))
                    · rw [if_pos c19] at H
                      have c19b0 : decide ((wrap64 (t123 * a3)) ≤ (wrap64 (a0 * a2))) = true := decide_eq_true c19
                      clear c19
                      obtain rfl := Option.some.inj H
                      go_wp2_with (first | ((with_reducible refine gate_callee (f := 17) rfl ?_); refine goesL_ (some 43) rfl rfl Try.func17 (by kernel_rfl) rfl #[.int .i64 a0, .int .i64 a3, .int .i64 a3] rfl (by (try simp only [List.map_toArray, List.map_cons, List.map_nil]); first | done | rfl | (simp only [List.length_drop, List.length_take]; rfl)) ?_; (with_reducible refine (tick_Share.calls a0 a3 a3 t127 t128 _ A12.out).mono ?_); rintro e w' ⟨rfl, ⟨nd, rfl⟩⟩; refine ⟨_, rfl, ?_⟩) | ((with_reducible refine gate_callee (f := 18) rfl ?_); refine goesL_ (some 51) rfl rfl Try.func18 (by kernel_rfl) rfl #[.int .i64 t123, .int .i64 a0, .int .i64 a2, .int .i64 a3] rfl (by (try simp only [List.map_toArray, List.map_cons, List.map_nil]); first | done | rfl | (simp only [List.length_drop, List.length_take]; rfl)) ?_; (with_reducible refine (tick_Cmp.calls t123 a0 a2 a3 t129 t130 _ A13.out).mono ?_); rintro e w' ⟨rfl, ⟨nd, rfl⟩⟩; refine ⟨_, rfl, ?_⟩))
                      go_ret
                      exact ⟨by first | rfl | (simp; done) | (simp [*]; done), by repeat (first | exact Drawn0.refl _ | apply Drawn0.step)⟩
                    · rw [if_neg c19] at H
                      have c19b0 : decide ((wrap64 (t123 * a3)) ≤ (wrap64 (a0 * a2))) = false := decide_eq_false c19
                      clear c19
                      obtain rfl := Option.some.inj H
                      go_wp2_with (first | ((with_reducible refine gate_callee (f := 17) rfl ?_); refine goesL_ (some 43) rfl rfl Try.func17 (by kernel_rfl) rfl #[.int .i64 a0, .int .i64 a3, .int .i64 a3] rfl (by (try simp only [List.map_toArray, List.map_cons, List.map_nil]); first | done | rfl | (simp only [List.length_drop, List.length_take]; rfl)) ?_; (with_reducible refine (tick_Share.calls a0 a3 a3 t127 t128 _ A12.out).mono ?_); rintro e w' ⟨rfl, ⟨nd, rfl⟩⟩; refine ⟨_, rfl, ?_⟩) | ((with_reducible refine gate_callee (f := 18) rfl ?_); refine goesL_ (some 51) rfl rfl Try.func18 (by kernel_rfl) rfl #[.int .i64 t123, .int .i64 a0, .int .i64 a2, .int .i64 a3] rfl (by (try simp only [List.map_toArray, List.map_cons, List.map_nil]); first | done | rfl | (simp only [List.length_drop, List.length_take]; rfl)) ?_; (with_reducible refine (tick_Cmp.calls t123 a0 a2 a3 t129 t130 _ A13.out).mono ?_); rintro e w' ⟨rfl, ⟨nd, rfl⟩⟩; refine ⟨_, rfl, ?_⟩))
                      go_ret
                      exact ⟨by first | rfl | (simp; done) | (simp [*]; done), by repeat (first | exact Drawn0.refl _ | apply Drawn0.step)⟩
                  · rw [if_neg c18] at H
                    have c18b0 : (a0 == 0) = false := beq_eq_false_iff_ne.mpr c18
                    have c18b1 : (a0 != 0) = true := bne_iff_ne.mpr c18
                    by_cases c20 : t130 = true
                    · subst c20
                      have H1 : (if t129 ≤ 0 then (if (wrap64 (t123 * a3)) ≤ (wrap64 (a0 * a2)) then (some (decide ((wrap64 ((wrap64 (t123 + 1)) * a3)) > (wrap64 (a0 * a2))))) else (some false)) else (some false)) = some r := by rw [if_pos rfl] at H; exact H
                      clear H
                      have H := H1
                      clear H1
                      by_cases c21 : t129 ≤ 0
                      · rw [if_pos c21] at H
                        have c21b0 : decide (t129 ≤ 0) = true := decide_eq_true c21
                        clear c21
                        by_cases c22 : (wrap64 (t123 * a3)) ≤ (wrap64 (a0 * a2))
                        · rw [if_pos c22] at H
                          have c22b0 : decide ((wrap64 (t123 * a3)) ≤ (wrap64 (a0 * a2))) = true := decide_eq_true c22
                          clear c22
                          obtain rfl := Option.some.inj H
                          go_wp2_with (first | ((with_reducible refine gate_callee (f := 17) rfl ?_); refine goesL_ (some 43) rfl rfl Try.func17 (by kernel_rfl) rfl #[.int .i64 a0, .int .i64 a3, .int .i64 a3] rfl (by (try simp only [List.map_toArray, List.map_cons, List.map_nil]); first | done | rfl | (simp only [List.length_drop, List.length_take]; rfl)) ?_; (with_reducible refine (tick_Share.calls a0 a3 a3 t127 t128 _ A12.out).mono ?_); rintro e w' ⟨rfl, ⟨nd, rfl⟩⟩; refine ⟨_, rfl, ?_⟩) | ((with_reducible refine gate_callee (f := 18) rfl ?_); refine goesL_ (some 51) rfl rfl Try.func18 (by kernel_rfl) rfl #[.int .i64 t123, .int .i64 a0, .int .i64 a2, .int .i64 a3] rfl (by (try simp only [List.map_toArray, List.map_cons, List.map_nil]); first | done | rfl | (simp only [List.length_drop, List.length_take]; rfl)) ?_; (with_reducible refine (tick_Cmp.calls t123 a0 a2 a3 t129 true _ A13.out).mono ?_); rintro e w' ⟨rfl, ⟨nd, rfl⟩⟩; refine ⟨_, rfl, ?_⟩))
                          go_ret
                          exact ⟨by first | rfl | (simp; done) | (simp [*]; done), by repeat (first | exact Drawn0.refl _ | apply Drawn0.step)⟩
                        · rw [if_neg c22] at H
                          have c22b0 : decide ((wrap64 (t123 * a3)) ≤ (wrap64 (a0 * a2))) = false := decide_eq_false c22
                          clear c22
                          obtain rfl := Option.some.inj H
                          go_wp2_with (first | ((with_reducible refine gate_callee (f := 17) rfl ?_); refine goesL_ (some 43) rfl rfl Try.func17 (by kernel_rfl) rfl #[.int .i64 a0, .int .i64 a3, .int .i64 a3] rfl (by (try simp only [List.map_toArray, List.map_cons, List.map_nil]); first | done | rfl | (simp only [List.length_drop, List.length_take]; rfl)) ?_; (with_reducible refine (tick_Share.calls a0 a3 a3 t127 t128 _ A12.out).mono ?_); rintro e w' ⟨rfl, ⟨nd, rfl⟩⟩; refine ⟨_, rfl, ?_⟩) | ((with_reducible refine gate_callee (f := 18) rfl ?_); refine goesL_ (some 51) rfl rfl Try.func18 (by kernel_rfl) rfl #[.int .i64 t123, .int .i64 a0, .int .i64 a2, .int .i64 a3] rfl (by (try simp only [List.map_toArray, List.map_cons, List.map_nil]); first | done | rfl | (simp only [List.length_drop, List.length_take]; rfl)) ?_; (with_reducible refine (tick_Cmp.calls t123 a0 a2 a3 t129 true _ A13.out).mono ?_); rintro e w' ⟨rfl, ⟨nd, rfl⟩⟩; refine ⟨_, rfl, ?_⟩))
                          go_ret
                          exact ⟨by first | rfl | (simp; done) | (simp [*]; done), by repeat (first | exact Drawn0.refl _ | apply Drawn0.step)⟩
                      · rw [if_neg c21] at H
                        have c21b0 : decide (t129 ≤ 0) = false := decide_eq_false c21
                        clear c21
                        obtain rfl := Option.some.inj H
                        go_wp2_with (first | ((with_reducible refine gate_callee (f := 17) rfl ?_); refine goesL_ (some 43) rfl rfl Try.func17 (by kernel_rfl) rfl #[.int .i64 a0, .int .i64 a3, .int .i64 a3] rfl (by (try simp only [List.map_toArray, List.map_cons, List.map_nil]); first | done | rfl | (simp only [List.length_drop, List.length_take]; rfl)) ?_; (with_reducible refine (tick_Share.calls a0 a3 a3 t127 t128 _ A12.out).mono ?_); rintro e w' ⟨rfl, ⟨nd, rfl⟩⟩; refine ⟨_, rfl, ?_⟩) | ((with_reducible refine gate_callee (f := 18) rfl ?_); refine goesL_ (some 51) rfl rfl Try.func18 (by kernel_rfl) rfl #[.int .i64 t123, .int .i64 a0, .int .i64 a2, .int .i64 a3] rfl (by (try simp only [List.map_toArray, List.map_cons, List.map_nil]); first | done | rfl | (simp only [List.length_drop, List.length_take]; rfl)) ?_; (with_reducible refine (tick_Cmp.calls t123 a0 a2 a3 t129 true _ A13.out).mono ?_); rintro e w' ⟨rfl, ⟨nd, rfl⟩⟩; refine ⟨_, rfl, ?_⟩))
                        go_ret
                        exact ⟨by first | rfl | (simp; done) | (simp [*]; done), by repeat (first | exact Drawn0.refl _ | apply Drawn0.step)⟩
                    · replace c20 := Bool.eq_false_iff.mpr c20
                      subst c20
                      have H1 : (some false) = some r := by rw [if_neg (show ¬ (false = true) by decide)] at H; exact H
                      clear H
                      have H := H1
                      clear H1
                      obtain rfl := Option.some.inj H
                      go_wp2_with (first | ((with_reducible refine gate_callee (f := 17) rfl ?_); refine goesL_ (some 43) rfl rfl Try.func17 (by kernel_rfl) rfl #[.int .i64 a0, .int .i64 a3, .int .i64 a3] rfl (by (try simp only [List.map_toArray, List.map_cons, List.map_nil]); first | done | rfl | (simp only [List.length_drop, List.length_take]; rfl)) ?_; (with_reducible refine (tick_Share.calls a0 a3 a3 t127 t128 _ A12.out).mono ?_); rintro e w' ⟨rfl, ⟨nd, rfl⟩⟩; refine ⟨_, rfl, ?_⟩) | ((with_reducible refine gate_callee (f := 18) rfl ?_); refine goesL_ (some 51) rfl rfl Try.func18 (by kernel_rfl) rfl #[.int .i64 t123, .int .i64 a0, .int .i64 a2, .int .i64 a3] rfl (by (try simp only [List.map_toArray, List.map_cons, List.map_nil]); first | done | rfl | (simp only [List.length_drop, List.length_take]; rfl)) ?_; (with_reducible refine (tick_Cmp.calls t123 a0 a2 a3 t129 false _ A13.out).mono ?_); rintro e w' ⟨rfl, ⟨nd, rfl⟩⟩; refine ⟨_, rfl, ?_⟩))
                      go_ret
                      exact ⟨by first | rfl | (simp; done) | (simp [*]; done), by repeat (first | exact Drawn0.refl _ | apply Drawn0.step)⟩
                · rw [if_neg c17] at H
                  have c17b0 : (t127 == a0) = false := beq_eq_false_iff_ne.mpr c17
                  have c17b1 : (t127 != a0) = true := bne_iff_ne.mpr c17
                  obtain rfl := Option.some.inj H
                  go_wp2_with (first | ((with_reducible refine gate_callee (f := 17) rfl ?_); refine goesL_ (some 43) rfl rfl Try.func17 (by kernel_rfl) rfl #[.int .i64 a0, .int .i64 a3, .int .i64 a3] rfl (by (try simp only [List.map_toArray, List.map_cons, List.map_nil]); first | done | rfl | (simp only [List.length_drop, List.length_take]; rfl)) ?_; (with_reducible refine (tick_Share.calls a0 a3 a3 t127 t128 _ A12.out).mono ?_); rintro e w' ⟨rfl, ⟨nd, rfl⟩⟩; refine ⟨_, rfl, ?_⟩) | ((with_reducible refine gate_callee (f := 18) rfl ?_); refine goesL_ (some 51) rfl rfl Try.func18 (by kernel_rfl) rfl #[.int .i64 t123, .int .i64 a0, .int .i64 a2, .int .i64 a3] rfl (by (try simp only [List.map_toArray, List.map_cons, List.map_nil]); first | done | rfl | (simp only [List.length_drop, List.length_take]; rfl)) ?_; (with_reducible refine (tick_Cmp.calls t123 a0 a2 a3 t129 t130 _ A13.out).mono ?_); rintro e w' ⟨rfl, ⟨nd, rfl⟩⟩; refine ⟨_, rfl, ?_⟩))
                  go_ret
                  exact ⟨by first | rfl | (simp; done) | (simp [*]; done), by repeat (first | exact Drawn0.refl _ | apply Drawn0.step)⟩
              · rw [if_neg c16] at H
                have c16b0 : decide (a1 < a0) = false := decide_eq_false c16
                clear c16
                by_cases c23 : t123 ≤ t125
                · rw [if_pos c23] at H
                  have c23b0 : decide (t123 ≤ t125) = true := decide_eq_true c23
                  clear c23
                  by_cases c24 : t127 = a0
                  · rw [if_pos c24] at H
                    have c24b0 : (t127 == a0) = true := beq_iff_eq.mpr c24
                    have c24b1 : (t127 != a0) = false := bne_eq_false_iff_eq.mpr c24
                    clear c24
                    by_cases c25 : a0 = 0
                    · rw [if_pos c25] at H
                      have c25b0 : (a0 == 0) = true := beq_iff_eq.mpr c25
                      have c25b1 : (a0 != 0) = false := bne_eq_false_iff_eq.mpr c25
                      clear c25
                      by_cases c26 : (wrap64 (t123 * a3)) ≤ (wrap64 (a0 * a2))
                      · rw [if_pos c26] at H
                        have c26b0 : decide ((wrap64 (t123 * a3)) ≤ (wrap64 (a0 * a2))) = true := decide_eq_true c26
                        clear c26
                        obtain rfl := Option.some.inj H
                        go_wp2_with (first | ((with_reducible refine gate_callee (f := 17) rfl ?_); refine goesL_ (some 43) rfl rfl Try.func17 (by kernel_rfl) rfl #[.int .i64 a0, .int .i64 a3, .int .i64 a3] rfl (by (try simp only [List.map_toArray, List.map_cons, List.map_nil]); first | done | rfl | (simp only [List.length_drop, List.length_take]; rfl)) ?_; (with_reducible refine (tick_Share.calls a0 a3 a3 t127 t128 _ A12.out).mono ?_); rintro e w' ⟨rfl, ⟨nd, rfl⟩⟩; refine ⟨_, rfl, ?_⟩) | ((with_reducible refine gate_callee (f := 18) rfl ?_); refine goesL_ (some 51) rfl rfl Try.func18 (by kernel_rfl) rfl #[.int .i64 t123, .int .i64 a0, .int .i64 a2, .int .i64 a3] rfl (by (try simp only [List.map_toArray, List.map_cons, List.map_nil]); first | done | rfl | (simp only [List.length_drop, List.length_take]; rfl)) ?_; (with_reducible refine (tick_Cmp.calls t123 a0 a2 a3 t129 t130 _ A13.out).mono ?_); rintro e w' ⟨rfl, ⟨nd, rfl⟩⟩; refine ⟨_, rfl, ?_⟩))
                        go_ret
                        exact ⟨by first | rfl | (simp; done) | (simp [*]; done), by repeat (first | exact Drawn0.refl _ | apply Drawn0.step)⟩
                      · rw [if_neg c26] at H
                        have c26b0 : decide ((wrap64 (t123 * a3)) ≤ (wrap64 (a0 * a2))) = false := decide_eq_false c26
                        clear c26
                        obtain rfl := Option.some.inj H
                        go_wp2_with (first | ((with_reducible refine gate_callee (f := 17) rfl ?_); refine goesL_ (some 43) rfl rfl Try.func17 (by kernel_rfl) rfl #[.int .i64 a0, .int .i64 a3, .int .i64 a3] rfl (by (try simp only [List.map_toArray, List.map_cons, List.map_nil]); first | done | rfl | (simp only [List.length_drop, List.length_take]; rfl)) ?_; (with_reducible refine (tick_Share.calls a0 a3 a3 t127 t128 _ A12.out).mono ?_); rintro e w' ⟨rfl, ⟨nd, rfl⟩⟩; refine ⟨_, rfl, ?_⟩) | ((with_reducible refine gate_callee (f := 18) rfl ?_); refine goesL_ (some 51) rfl rfl Try.func18 (by kernel_rfl) rfl #[.int .i64 t123, .int .i64 a0, .int .i64 a2, .int .i64 a3] rfl (by (try simp only [List.map_toArray, List.map_cons, List.map_nil]); first | done | rfl | (simp only [List.length_drop, List.length_take]; rfl)) ?_; (with_reducible refine (tick_Cmp.calls t123 a0 a2 a3 t129 t130 _ A13.out).mono ?_); rintro e w' ⟨rfl, ⟨nd, rfl⟩⟩; refine ⟨_, rfl, ?_⟩))
                        go_ret
                        exact ⟨by first | rfl | (simp; done) | (simp [*]; done), by repeat (first | exact Drawn0.refl _ | apply Drawn0.step)⟩
                    · rw [if_neg c25] at H
                      have c25b0 : (a0 == 0) = false := beq_eq_false_iff_ne.mpr c25
                      have c25b1 : (a0 != 0) = true := bne_iff_ne.mpr c25
                      by_cases c27 : t130 = true
                      · subst c27
                        have H1 : (if t129 ≤ 0 then (if (wrap64 (t123 * a3)) ≤ (wrap64 (a0 * a2)) then (some (decide ((wrap64 ((wrap64 (t123 + 1)) * a3)) > (wrap64 (a0 * a2))))) else (some false)) else (some false)) = some r := by rw [if_pos rfl] at H; exact H
                        clear H
                        have H := H1
                        clear H1
                        by_cases c28 : t129 ≤ 0
                        · rw [if_pos c28] at H
                          have c28b0 : decide (t129 ≤ 0) = true := decide_eq_true c28
                          clear c28
                          by_cases c29 : (wrap64 (t123 * a3)) ≤ (wrap64 (a0 * a2))
                          · rw [if_pos c29] at H
                            have c29b0 : decide ((wrap64 (t123 * a3)) ≤ (wrap64 (a0 * a2))) = true := decide_eq_true c29
                            clear c29
                            obtain rfl := Option.some.inj H
                            go_wp2_with (first | ((with_reducible refine gate_callee (f := 17) rfl ?_); refine goesL_ (some 43) rfl rfl Try.func17 (by kernel_rfl) rfl #[.int .i64 a0, .int .i64 a3, .int .i64 a3] rfl (by (try simp only [List.map_toArray, List.map_cons, List.map_nil]); first | done | rfl | (simp only [List.length_drop, List.length_take]; rfl)) ?_; (with_reducible refine (tick_Share.calls a0 a3 a3 t127 t128 _ A12.out).mono ?_); rintro e w' ⟨rfl, ⟨nd, rfl⟩⟩; refine ⟨_, rfl, ?_⟩) | ((with_reducible refine gate_callee (f := 18) rfl ?_); refine goesL_ (some 51) rfl rfl Try.func18 (by kernel_rfl) rfl #[.int .i64 t123, .int .i64 a0, .int .i64 a2, .int .i64 a3] rfl (by (try simp only [List.map_toArray, List.map_cons, List.map_nil]); first | done | rfl | (simp only [List.length_drop, List.length_take]; rfl)) ?_; (with_reducible refine (tick_Cmp.calls t123 a0 a2 a3 t129 true _ A13.out).mono ?_); rintro e w' ⟨rfl, ⟨nd, rfl⟩⟩; refine ⟨_, rfl, ?_⟩))
                            go_ret
                            exact ⟨by first | rfl | (simp; done) | (simp [*]; done), by repeat (first | exact Drawn0.refl _ | apply Drawn0.step)⟩
                          · rw [if_neg c29] at H
                            have c29b0 : decide ((wrap64 (t123 * a3)) ≤ (wrap64 (a0 * a2))) = false := decide_eq_false c29
                            clear c29
                            obtain rfl := Option.some.inj H
                            go_wp2_with (first | ((with_reducible refine gate_callee (f := 17) rfl ?_); refine goesL_ (some 43) rfl rfl Try.func17 (by kernel_rfl) rfl #[.int .i64 a0, .int .i64 a3, .int .i64 a3] rfl (by (try simp only [List.map_toArray, List.map_cons, List.map_nil]); first | done | rfl | (simp only [List.length_drop, List.length_take]; rfl)) ?_; (with_reducible refine (tick_Share.calls a0 a3 a3 t127 t128 _ A12.out).mono ?_); rintro e w' ⟨rfl, ⟨nd, rfl⟩⟩; refine ⟨_, rfl, ?_⟩) | ((with_reducible refine gate_callee (f := 18) rfl ?_); refine goesL_ (some 51) rfl rfl Try.func18 (by kernel_rfl) rfl #[.int .i64 t123, .int .i64 a0, .int .i64 a2, .int .i64 a3] rfl (by (try simp only [List.map_toArray, List.map_cons, List.map_nil]); first | done | rfl | (simp only [List.length_drop, List.length_take]; rfl)) ?_; (with_reducible refine (tick_Cmp.calls t123 a0 a2 a3 t129 true _ A13.out).mono ?_); rintro e w' ⟨rfl, ⟨nd, rfl⟩⟩; refine ⟨_, rfl, ?_⟩))
                            go_ret
                            exact ⟨by first | rfl | (simp; done) | (simp [*]; done), by repeat (first | exact Drawn0.refl _ | apply Drawn0.step)⟩
                        · rw [if_neg c28] at H
                          have c28b0 : decide (t129 ≤ 0) = false := decide_eq_false c28
                          clear c28
                          obtain rfl := Option.some.inj H
                          go_wp2_with (first | ((with_reducible refine gate_callee (f := 17) rfl ?_); refine goesL_ (some 43) rfl rfl Try.func17 (by kernel_rfl) rfl #[.int .i64 a0, .int .i64 a3, .int .i64 a3] rfl (by (try simp only [List.map_toArray, List.map_cons, List.map_nil]); first | done | rfl | (simp only [List.length_drop, List.length_take]; rfl)) ?_; (with_reducible refine (tick_Share.calls a0 a3 a3 t127 t128 _ A12.out).mono ?_); rintro e w' ⟨rfl, ⟨nd, rfl⟩⟩; refine ⟨_, rfl, ?_⟩) | ((with_reducible refine gate_callee (f := 18) rfl ?_); refine goesL_ (some 51) rfl rfl Try.func18 (by kernel_rfl) rfl #[.int .i64 t123, .int .i64 a0, .int .i64 a2, .int .i64 a3] rfl (by (try simp only [List.map_toArray, List.map_cons, List.map_nil]); first | done | rfl | (simp only [List.length_drop, List.length_take]; rfl)) ?_; (with_reducible refine (tick_Cmp.calls t123 a0 a2 a3 t129 true _ A13.out).mono ?_); rintro e w' ⟨rfl, ⟨nd, rfl⟩⟩; refine ⟨_, rfl, ?_⟩))
                          go_ret
                          exact ⟨by first | rfl | (simp; done) | (simp [*]; done), by repeat (first | exact Drawn0.refl _ | apply Drawn0.step)⟩
                      · replace c27 := Bool.eq_false_iff.mpr c27
                        subst c27
                        have H1 : (some false) = some r := by rw [if_neg (show ¬ (false = true) by decide)] at H; exact H
                        clear H
                        have H := H1
                        clear H1
                        obtain rfl := Option.some.inj H
                        go_wp2_with (first | ((with_reducible refine gate_callee (f := 17) rfl ?_); refine goesL_ (some 43) rfl rfl Try.func17 (by kernel_rfl) rfl #[.int .i64 a0, .int .i64 a3, .int .i64 a3] rfl (by (try simp only [List.map_toArray, List.map_cons, List.map_nil]); first | done | rfl | (simp only [List.length_drop, List.length_take]; rfl)) ?_; (with_reducible refine (tick_Share.calls a0 a3 a3 t127 t128 _ A12.out).mono ?_); rintro e w' ⟨rfl, ⟨nd, rfl⟩⟩; refine ⟨_, rfl, ?_⟩) | ((with_reducible refine gate_callee (f := 18) rfl ?_); refine goesL_ (some 51) rfl rfl Try.func18 (by kernel_rfl) rfl #[.int .i64 t123, .int .i64 a0, .int .i64 a2, .int .i64 a3] rfl (by (try simp only [List.map_toArray, List.map_cons, List.map_nil]); first | done | rfl | (simp only [List.length_drop, List.length_take]; rfl)) ?_; (with_reducible refine (tick_Cmp.calls t123 a0 a2 a3 t129 false _ A13.out).mono ?_); rintro e w' ⟨rfl, ⟨nd, rfl⟩⟩; refine ⟨_, rfl, ?_⟩))
                        go_ret
                        exact ⟨by first | rfl | (simp; done) | (simp [*]; done), by repeat (first | exact Drawn0.refl _ | apply Drawn0.step)⟩
                  · rw [if_neg c24] at H
                    have c24b0 : (t127 == a0) = false := beq_eq_false_iff_ne.mpr c24
                    have c24b1 : (t127 != a0) = true := bne_iff_ne.mpr c24
                    obtain rfl := Option.some.inj H
                    go_wp2_with (first | ((with_reducible refine gate_callee (f := 17) rfl ?_); refine goesL_ (some 43) rfl rfl Try.func17 (by kernel_rfl) rfl #[.int .i64 a0, .int .i64 a3, .int .i64 a3] rfl (by (try simp only [List.map_toArray, List.map_cons, List.map_nil]); first | done | rfl | (simp only [List.length_drop, List.length_take]; rfl)) ?_; (with_reducible refine (tick_Share.calls a0 a3 a3 t127 t128 _ A12.out).mono ?_); rintro e w' ⟨rfl, ⟨nd, rfl⟩⟩; refine ⟨_, rfl, ?_⟩) | ((with_reducible refine gate_callee (f := 18) rfl ?_); refine goesL_ (some 51) rfl rfl Try.func18 (by kernel_rfl) rfl #[.int .i64 t123, .int .i64 a0, .int .i64 a2, .int .i64 a3] rfl (by (try simp only [List.map_toArray, List.map_cons, List.map_nil]); first | done | rfl | (simp only [List.length_drop, List.length_take]; rfl)) ?_; (with_reducible refine (tick_Cmp.calls t123 a0 a2 a3 t129 t130 _ A13.out).mono ?_); rintro e w' ⟨rfl, ⟨nd, rfl⟩⟩; refine ⟨_, rfl, ?_⟩))
                    go_ret
                    exact ⟨by first | rfl | (simp; done) | (simp [*]; done), by repeat (first | exact Drawn0.refl _ | apply Drawn0.step)⟩
                · rw [if_neg c23] at H
                  have c23b0 : decide (t123 ≤ t125) = false := decide_eq_false c23
                  clear c23
                  obtain rfl := Option.some.inj H
                  go_wp2_with (first | ((with_reducible refine gate_callee (f := 17) rfl ?_); refine goesL_ (some 43) rfl rfl Try.func17 (by kernel_rfl) rfl #[.int .i64 a0, .int .i64 a3, .int .i64 a3] rfl (by (try simp only [List.map_toArray, List.map_cons, List.map_nil]); first | done | rfl | (simp only [List.length_drop, List.length_take]; rfl)) ?_; (with_reducible refine (tick_Share.calls a0 a3 a3 t127 t128 _ A12.out).mono ?_); rintro e w' ⟨rfl, ⟨nd, rfl⟩⟩; refine ⟨_, rfl, ?_⟩) | ((with_reducible refine gate_callee (f := 18) rfl ?_); refine goesL_ (some 51) rfl rfl Try.func18 (by kernel_rfl) rfl #[.int .i64 t123, .int .i64 a0, .int .i64 a2, .int .i64 a3] rfl (by (try simp only [List.map_toArray, List.map_cons, List.map_nil]); first | done | rfl | (simp only [List.length_drop, List.length_take]; rfl)) ?_; (with_reducible refine (tick_Cmp.calls t123 a0 a2 a3 t129 t130 _ A13.out).mono ?_); rintro e w' ⟨rfl, ⟨nd, rfl⟩⟩; refine ⟨_, rfl, ?_⟩))
                  go_ret
                  exact ⟨by first | rfl | (simp; done) | (simp [*]; done), by repeat (first | exact Drawn0.refl _ | apply Drawn0.step)⟩
            · rw [if_neg c15] at H
              have c15b0 : decide (t123 ≤ a0) = false := decide_eq_false c15
              clear c15
              obtain rfl := Option.some.inj H
              go_wp2_with (first | ((with_reducible refine gate_callee (f := 17) rfl ?_); refine goesL_ (some 43) rfl rfl Try.func17 (by kernel_rfl) rfl #[.int .i64 a0, .int .i64 a3, .int .i64 a3] rfl (by (try simp only [List.map_toArray, List.map_cons, List.map_nil]); first | done | rfl | (simp only [List.length_drop, List.length_take]; rfl)) ?_; (with_reducible refine (tick_Share.calls a0 a3 a3 t127 t128 _ A12.out).mono ?_); rintro e w' ⟨rfl, ⟨nd, rfl⟩⟩; refine ⟨_, rfl, ?_⟩) | ((with_reducible refine gate_callee (f := 18) rfl ?_); refine goesL_ (some 51) rfl rfl Try.func18 (by kernel_rfl) rfl #[.int .i64 t123, .int .i64 a0, .int .i64 a2, .int .i64 a3] rfl (by (try simp only [List.map_toArray, List.map_cons, List.map_nil]); first | done | rfl | (simp only [List.length_drop, List.length_take]; rfl)) ?_; (with_reducible refine (tick_Cmp.calls t123 a0 a2 a3 t129 t130 _ A13.out).mono ?_); rintro e w' ⟨rfl, ⟨nd, rfl⟩⟩; refine ⟨_, rfl, ?_⟩))
              go_ret
              exact ⟨by first | rfl | (simp; done) | (simp [*]; done), by repeat (first | exact Drawn0.refl _ | apply Drawn0.step)⟩
          · rw [if_neg c14] at H
            have c14b0 : decide (0 ≤ t123) = false := decide_eq_false c14
            clear c14
            obtain rfl := Option.some.inj H
            go_wp2_with (first | ((with_reducible refine gate_callee (f := 17) rfl ?_); refine goesL_ (some 43) rfl rfl Try.func17 (by kernel_rfl) rfl #[.int .i64 a0, .int .i64 a3, .int .i64 a3] rfl (by (try simp only [List.map_toArray, List.map_cons, List.map_nil]); first | done | rfl | (simp only [List.length_drop, List.length_take]; rfl)) ?_; (with_reducible refine (tick_Share.calls a0 a3 a3 t127 t128 _ A12.out).mono ?_); rintro e w' ⟨rfl, ⟨nd, rfl⟩⟩; refine ⟨_, rfl, ?_⟩) | ((with_reducible refine gate_callee (f := 18) rfl ?_); refine goesL_ (some 51) rfl rfl Try.func18 (by kernel_rfl) rfl #[.int .i64 t123, .int .i64 a0, .int .i64 a2, .int .i64 a3] rfl (by (try simp only [List.map_toArray, List.map_cons, List.map_nil]); first | done | rfl | (simp only [List.length_drop, List.length_take]; rfl)) ?_; (with_reducible refine (tick_Cmp.calls t123 a0 a2 a3 t129 t130 _ A13.out).mono ?_); rintro e w' ⟨rfl, ⟨nd, rfl⟩⟩; refine ⟨_, rfl, ?_⟩))
            go_ret
            exact ⟨by first | rfl | (simp; done) | (simp [*]; done), by repeat (first | exact Drawn0.refl _ | apply Drawn0.step)⟩
  · replace c6 := Bool.eq_false_iff.mpr c6
    subst c6
    have H1 : (some false) = some r := by rw [if_neg (show ¬ (false = true) by decide)] at H; exact H
    clear H
    have H := H1
    clear H1
    obtain rfl := Option.some.inj H
    go_enter Try.func6, Try.ntmps6
    go_wp2_with (first | ((with_reducible refine gate_callee (f := 10) rfl ?_); refine goesL_ (some 17) rfl rfl Try.func10 (by kernel_rfl) rfl #[] rfl (by (try simp only [List.map_toArray, List.map_cons, List.map_nil]); first | done | rfl | (simp only [List.length_drop, List.length_take]; rfl)) ?_; (with_reducible refine (beadlelaw1_awake.calls k  false _ A5.out).mono ?_); rintro e w' ⟨rfl, ⟨nd, rfl⟩⟩; refine ⟨_, rfl, ?_⟩))
    go_ret
    exact ⟨by first | rfl | (simp; done) | (simp [*]; done), by repeat (first | exact Drawn0.refl _ | apply Drawn0.step)⟩

/-- THE ONE PURE STATEMENT of beadlelaw1_TickShares: yours. -/
def beadlelaw1_TickShares.Pure : Prop := ∀ (a0 : Int) (a1 : Int) (a2 : Int) (a3 : Int), (Lit.int .i64 a0).wf = true → (Lit.int .i64 a1).wf = true → (Lit.int .i64 a2).wf = true → (Lit.int .i64 a3).wf = true → ∃ k, beadlelaw1_TickShares.f k a0 a1 a2 a3 = some true
theorem beadlelaw1_TickShares.walk (P : beadlelaw1_TickShares.Pure) (a0 : Int) (a1 : Int) (a2 : Int) (a3 : Int) (w : World) (w0 : (Lit.int .i64 a0).wf = true) (w1 : (Lit.int .i64 a1).wf = true) (w2 : (Lit.int .i64 a2).wf = true) (w3 : (Lit.int .i64 a3).wf = true) :
    Calls Try.prog 6 #[.int .i64 a0, .int .i64 a1, .int .i64 a2, .int .i64 a3] w fun e w' => e = .returned (.bool true) ∧ Below w.heap.size w w' := by
  obtain ⟨k, h⟩ := P a0 a1 a2 a3 w0 w1 w2 w3
  refine (beadlelaw1_TickShares.calls k a0 a1 a2 a3 true w h).mono ?_
  rintro e w' ⟨rfl, hd⟩
  exact ⟨rfl, hd.below⟩

end Go.Proofs.Ytdamaflkcakcdaa.PTickShares
