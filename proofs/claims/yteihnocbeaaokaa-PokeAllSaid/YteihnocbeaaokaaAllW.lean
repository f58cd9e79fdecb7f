/- PokeAll: told to all, each other one is told, once; who tells is not (the walk; no condition). -/
import Derived.Test.YteihnocbeaaokaaAllP
namespace Go.Proofs.Yteihnocbeaaokaa.Poke
open Go.RowKit Go.Proofs.YteihnocbeaaokaaW.PrintWords Go.Proofs.YteihnocbeaaokaaW.PrintLast Go.Proofs.YteihnocbeaaokaaW.PrintMore Go.Proofs.Yteihnocbeaaokaa.St Go.Proofs.Yteihnocbeaaokaa.Q
set_option linter.unusedVariables false
set_option linter.unusedSimpArgs false
attribute [local go_sem] max2_int min2_int max_two min_two max_three min_three max_four min_four

def tS (n c what : Nat) : Nat → List S56
  | 0 => ln n (fun _ => z56)
  | _ + 1 => ln n (toldB c what)
def RelT (w : World) (n c what t : Nat) (v i : Value) (wr : World) : Prop := ∃ j : Nat, j ≤ t ∧ i = .int .i64 (j : Int) ∧ Own w wr (tS n c what j) v
def RelR (w : World) (n c what : Nat) (v i : Value) (wr : World) : Prop := ∃ j : Nat, j ≤ n ∧ i = .int .i64 (j : Int) ∧ Own w wr (ln n (midB c what j)) v
theorem wantv (n c : Nat) (hn : n ≤ 64) (hc : c < n) : ∃ m : Int, mask_Full.f (n : Int) = some m ∧ mask_Mask_Without.f m (c : Int) = some (maskS (c : Int) n) := by
  have h := mask_all n (by omega) c hc
  rcases hm : mask_Full.f ((n : Nat) : Int) with _ | m
  · rw [hm] at h
    exact absurd h (by intro h2; cases h2)
  · rw [hm, Option.bind_some] at h
    exact ⟨m, rfl, h⟩
theorem mayv_ln (n c what : Nat) (f : Nat → S56) (hc : c < n) (h1 : 1 ≤ what) (h2 : what ≤ 15) : mayv (ln n f) (c : Int) (what : Int) = true := by
  unfold mayv isv
  rw [ln_len, decide_eq_true (by omega), decide_eq_true (by omega), decide_eq_true (by omega), decide_eq_true (by omega)]
  rfl
theorem countv_ln (n j : Nat) (f : Nat → S56) (hj : j < n) : countv (ln n f) (j : Int) = (f j).f2 := by
  unfold countv isv
  rw [ln_len, decide_eq_true (by omega), decide_eq_true (by omega)]
  show (if (true && true) = true then _ else _) = _
  rw [if_pos (show (true && true) = true from rfl), Int.toNat_natCast, ln_get hj]
theorem of_one (c : Nat) (w : World) (hc : c < 64) : Calls Try.prog 13 #[.slice (some ⟨w.heap.size, 0, none⟩) 1 1] (w.alloc (.cells #[.int .i64 (c : Int)] 3)) fun e w' => e = .returned (.int .u64 (bitv (c : Int))) ∧ Below w.heap.size w w' :=
  (mask_Of.calls 8 (some ⟨w.heap.size, 0, none⟩) 1 [(c : Int)] (bitv (c : Int)) (w.alloc (.cells #[.int .i64 (c : Int)] 3)) (Kd.R_reads' (lit_R .i64 w 3 (Nat.le_refl _) [(c : Int)] (show (1 : Nat) ≤ 9223372036854775807 from by decide))).2.2 (Nat.le_refl 1) (bits_from c hc).2.2).mono (fun e w' ⟨h1, h2⟩ => ⟨h1, below_then _ h2⟩)
set_option maxHeartbeats 4000000 in
set_option maxRecDepth 100000 in
theorem all_walk (cpus : Int) (_ : (Lit.int .i64 cpus).wf = true) (c : Int) (_ : (Lit.int .i64 c).wf = true) (what : Int) (_ : (Lit.int .i64 what).wf = true) (times : Int) (_ : (Lit.int .i64 times).wf = true) (w : World) :
    Calls Try.prog 3 #[.int .i64 cpus, .int .i64 c, .int .i64 what, .int .i64 times] w fun e w' => e = .returned (.bool true) ∧ Below w.heap.size w w' := by
  by_cases q0 : cpus < 1
  · have p0 : decide (cpus < 1) = true := decide_eq_true q0
    clear q0
    go_enter Try.func3, Try.ntmps3
    go_wp2_with (first | (go_at_call 6; (with_reducible refine (awake_calls _).mono ?_); rintro e w1 ⟨rfl, hb1⟩; have HB1 := Aside0.mk hb1; clear hb1))
    go_ret
    exact ⟨rfl, HB1.out⟩
  by_cases q1 : 64 < cpus
  · have p0 : decide (cpus < 1) = false := decide_eq_false q0
    have p1 : decide (64 < cpus) = true := decide_eq_true q1
    clear q0 q1
    go_enter Try.func3, Try.ntmps3
    go_wp2_with (first | (go_at_call 6; (with_reducible refine (awake_calls _).mono ?_); rintro e w1 ⟨rfl, hb1⟩; have HB1 := Aside0.mk hb1; clear hb1))
    go_ret
    exact ⟨rfl, HB1.out⟩
  by_cases q2 : c < 0
  · have p0 : decide (cpus < 1) = false := decide_eq_false q0
    have p1 : decide (64 < cpus) = false := decide_eq_false q1
    have p2 : decide (c < 0) = true := decide_eq_true q2
    clear q0 q1 q2
    go_enter Try.func3, Try.ntmps3
    go_wp2_with (first | (go_at_call 6; (with_reducible refine (awake_calls _).mono ?_); rintro e w1 ⟨rfl, hb1⟩; have HB1 := Aside0.mk hb1; clear hb1))
    go_ret
    exact ⟨rfl, HB1.out⟩
  by_cases q3 : cpus ≤ c
  · have p0 : decide (cpus < 1) = false := decide_eq_false q0
    have p1 : decide (64 < cpus) = false := decide_eq_false q1
    have p2 : decide (c < 0) = false := decide_eq_false q2
    have p3 : decide (cpus ≤ c) = true := decide_eq_true q3
    clear q0 q1 q2 q3
    go_enter Try.func3, Try.ntmps3
    go_wp2_with (first | (go_at_call 6; (with_reducible refine (awake_calls _).mono ?_); rintro e w1 ⟨rfl, hb1⟩; have HB1 := Aside0.mk hb1; clear hb1))
    go_ret
    exact ⟨rfl, HB1.out⟩
  by_cases q4 : what < 1
  · have p0 : decide (cpus < 1) = false := decide_eq_false q0
    have p1 : decide (64 < cpus) = false := decide_eq_false q1
    have p2 : decide (c < 0) = false := decide_eq_false q2
    have p3 : decide (cpus ≤ c) = false := decide_eq_false q3
    have p4 : decide (what < 1) = true := decide_eq_true q4
    clear q0 q1 q2 q3 q4
    go_enter Try.func3, Try.ntmps3
    go_wp2_with (first | (go_at_call 6; (with_reducible refine (awake_calls _).mono ?_); rintro e w1 ⟨rfl, hb1⟩; have HB1 := Aside0.mk hb1; clear hb1))
    go_ret
    exact ⟨rfl, HB1.out⟩
  by_cases q5 : 15 < what
  · have p0 : decide (cpus < 1) = false := decide_eq_false q0
    have p1 : decide (64 < cpus) = false := decide_eq_false q1
    have p2 : decide (c < 0) = false := decide_eq_false q2
    have p3 : decide (cpus ≤ c) = false := decide_eq_false q3
    have p4 : decide (what < 1) = false := decide_eq_false q4
    have p5 : decide (15 < what) = true := decide_eq_true q5
    clear q0 q1 q2 q3 q4 q5
    go_enter Try.func3, Try.ntmps3
    go_wp2_with (first | (go_at_call 6; (with_reducible refine (awake_calls _).mono ?_); rintro e w1 ⟨rfl, hb1⟩; have HB1 := Aside0.mk hb1; clear hb1))
    go_ret
    exact ⟨rfl, HB1.out⟩
  by_cases q6 : times < 1
  · have p0 : decide (cpus < 1) = false := decide_eq_false q0
    have p1 : decide (64 < cpus) = false := decide_eq_false q1
    have p2 : decide (c < 0) = false := decide_eq_false q2
    have p3 : decide (cpus ≤ c) = false := decide_eq_false q3
    have p4 : decide (what < 1) = false := decide_eq_false q4
    have p5 : decide (15 < what) = false := decide_eq_false q5
    have p6 : decide (times < 1) = true := decide_eq_true q6
    clear q0 q1 q2 q3 q4 q5 q6
    go_enter Try.func3, Try.ntmps3
    go_wp2_with (first | (go_at_call 6; (with_reducible refine (awake_calls _).mono ?_); rintro e w1 ⟨rfl, hb1⟩; have HB1 := Aside0.mk hb1; clear hb1))
    go_ret
    exact ⟨rfl, HB1.out⟩
  by_cases q7 : 5 < times
  · have p0 : decide (cpus < 1) = false := decide_eq_false q0
    have p1 : decide (64 < cpus) = false := decide_eq_false q1
    have p2 : decide (c < 0) = false := decide_eq_false q2
    have p3 : decide (cpus ≤ c) = false := decide_eq_false q3
    have p4 : decide (what < 1) = false := decide_eq_false q4
    have p5 : decide (15 < what) = false := decide_eq_false q5
    have p6 : decide (times < 1) = false := decide_eq_false q6
    have p7 : decide (5 < times) = true := decide_eq_true q7
    clear q0 q1 q2 q3 q4 q5 q6 q7
    go_enter Try.func3, Try.ntmps3
    go_wp2_with (first | (go_at_call 6; (with_reducible refine (awake_calls _).mono ?_); rintro e w1 ⟨rfl, hb1⟩; have HB1 := Aside0.mk hb1; clear hb1))
    go_ret
    exact ⟨rfl, HB1.out⟩
  obtain ⟨n, rfl⟩ : ∃ n : Nat, cpus = (n : Int) := ⟨cpus.toNat, by omega⟩
  obtain ⟨c, rfl⟩ : ∃ k : Nat, c = (k : Int) := ⟨c.toNat, by omega⟩
  obtain ⟨what, rfl⟩ : ∃ k : Nat, what = (k : Int) := ⟨what.toNat, by omega⟩
  obtain ⟨t, rfl⟩ : ∃ k : Nat, times = (k : Int) := ⟨times.toNat, by omega⟩
  have p0 : decide ((n : Int) < 1) = false := decide_eq_false q0
  have p1 : decide (64 < (n : Int)) = false := decide_eq_false q1
  have p2 : decide ((c : Int) < 0) = false := decide_eq_false q2
  have p3 : decide ((n : Int) ≤ (c : Int)) = false := decide_eq_false q3
  have p4 : decide ((what : Int) < 1) = false := decide_eq_false q4
  have p5 : decide (15 < (what : Int)) = false := decide_eq_false q5
  have p6 : decide ((t : Int) < 1) = false := decide_eq_false q6
  have p7 : decide (5 < (t : Int)) = false := decide_eq_false q7
  have HF := Aside0.mk (show 1 ≤ n ∧ n ≤ 64 ∧ c < n ∧ 1 ≤ what ∧ what ≤ 15 ∧ 1 ≤ t ∧ t ≤ 5 from ⟨by omega, by omega, by omega, by omega, by omega, by omega, by omega⟩)
  have p3n : decide (n ≤ c) = false := decide_eq_false (by omega)
  clear q0 q1 q2 q3 q4 q5 q6 q7
  obtain ⟨m, hm1, hm2⟩ := wantv n c HF.out.2.1 HF.out.2.2.1
  have HM1 := Aside0.mk hm1
  have HM2 := Aside0.mk hm2
  clear hm1 hm2
  go_enter Try.func3, Try.ntmps3
  go_wp2_with (first | (go_at_call 6; (with_reducible refine (awake_calls _).mono ?_); rintro e w1 ⟨rfl, hb1⟩; have HB1 := Aside0.mk hb1; clear hb1) | (go_at_call 7; (with_reducible refine (newO (w0 := w) n HF.out.1 HF.out.2.1 HB1.out).mono ?_); rintro e w2 ⟨g2, rfl, h2⟩; rw [ln_z] at h2; have O2 := Aside0.mk h2; clear h2))
  generalize hv : (Value.pointer (some ⟨g2, 0, none⟩)) = v at O2 ⊢
  go_loopw [11] (fun i wr => RelT w n c what t v i wr) (fun i _ => t - (intOf i).toNat)
  case atStart => exact ⟨0, Nat.zero_le _, rfl, O2.out⟩
  case round =>
    obtain ⟨j, hj, rfl, hO⟩ := hrel
    have HO := Aside0.mk hO
    clear hO O2
    have hj5 : j ≤ 5 := by have := HF.out; omega
    by_cases hlt : j < t
    · have HMV := Aside0.mk (show mayv (tS n c what j) (c : Int) (what : Int) = true from by cases j <;> exact mayv_ln n c what _ HF.out.2.2.1 HF.out.2.2.2.1 HF.out.2.2.2.2.1)
      rcases Nat.eq_zero_or_pos j with rfl | hj0
      · have HA := Aside0.mk (show allS (c : Int) (what : Int) (tS n c what 0) (tS n c what 0).length = (ln n (toldB c what), maskS (c : Int) n) from by rw [show tS n c what 0 = ln n (fun _ => z56) from rfl, ln_len]; exact all_told (by have := HF.out; omega) (by have := HF.out; omega))
        go_wp2_with (first | (go_at_call 8; (with_reducible refine (ownC HO.out (all_ok (c : Int) (what : Int) HO.out.st HMV.out)).mono ?_); rintro e w3 ⟨rfl, h3⟩; rw [HA.out] at h3; rw [HA.out]; have O3 := Aside0.mk h3; clear h3) | (go_at_call 9; (with_reducible refine (mask_Full.calls (n : Int) m _ HM1.out).mono ?_); rintro e w4 ⟨rfl, d4⟩; have O4 := Aside0.mk (own_below O3.out d4); clear d4) | (go_at_call 10; (with_reducible refine (mask_Mask_Without.calls m (c : Int) (maskS (c : Int) n) _ HM2.out).mono ?_); rintro e w5 ⟨rfl, d5⟩; have O5 := Aside0.mk (own_below O4.out d5.below); clear d5))
        go_roundw
        case rel => exact ⟨0 + 1, by omega, by go_num, O5.out⟩
        case measure => simp [intOf]; omega
      · have HA := Aside0.mk (show allS (c : Int) (what : Int) (tS n c what j) (tS n c what j).length = (ln n (toldB c what), 0) from by rw [show tS n c what j = ln n (toldB c what) from by obtain ⟨k, rfl⟩ : ∃ k, j = k + 1 := ⟨j - 1, by omega⟩; rfl, ln_len]; exact all_again (by have := HF.out; omega) (by have := HF.out; omega) HF.out.2.2.2.1 n (Nat.le_refl n))
        have hp0 : decide (0 < j) = true := decide_eq_true hj0
        go_wp2_with (first | (go_at_call 8; (with_reducible refine (ownC HO.out (all_ok (c : Int) (what : Int) HO.out.st HMV.out)).mono ?_); rintro e w3 ⟨rfl, h3⟩; rw [HA.out] at h3; rw [HA.out]; have O3 := Aside0.mk h3; clear h3) | (go_at_call 9; (with_reducible refine (mask_Full.calls (n : Int) m _ HM1.out).mono ?_); rintro e w4 ⟨rfl, d4⟩; have O4 := Aside0.mk (own_below O3.out d4); clear d4) | (go_at_call 10; (with_reducible refine (mask_Mask_Without.calls m (c : Int) (maskS (c : Int) n) _ HM2.out).mono ?_); rintro e w5 ⟨rfl, d5⟩; have O5 := Aside0.mk (own_below O4.out d5.below); clear d5))
        go_roundw
        case rel => exact ⟨j + 1, by omega, by go_num, O5.out⟩
        case measure => simp [intOf]; omega
    · have HO2 := Aside0.mk (show Own w wr (ln n (midB c what 0)) v from by rw [← mid_start]; have := HO.out; rwa [show tS n c what j = ln n (toldB c what) from by obtain ⟨k, rfl⟩ : ∃ k, j = k + 1 := ⟨j - 1, by have := HF.out; omega⟩; rfl] at this)
      clear HO
      go_wp2
      clear hlt hj
      obtain ⟨wo, rfl⟩ : ∃ wo : World, wo = wr := ⟨_, rfl⟩
      go_loopw [15] (fun i wr => RelR w n c what v i wr) (fun i _ => n - (intOf i).toNat)
      case atStart => exact ⟨0, Nat.zero_le _, rfl, HO2.out⟩
      case round =>
        obtain ⟨k, hk, rfl, hO⟩ := hrel
        have HO := Aside0.mk hO
        clear hO HO2
        have hk64 : k ≤ 64 := by have := HF.out; omega
        by_cases hlt : k < n
        · have HLK := Aside0.mk (show k < (ln n (midB c what k)).length from by rw [ln_len]; exact hlt)
          have HGK := Aside0.mk (mid_get (c := c) (what := what) hlt)
          by_cases hkc : k = c
          · have hb : ((k : Int) == (c : Int)) = true := beq_iff_eq.mpr (by omega)
            have HB := Aside0.mk hb
            have HCV := Aside0.mk (show countv (ln n (midB c what k)) (k : Int) = 0 from by rw [countv_ln n k _ hlt]; unfold midB toldB; rw [if_neg (Nat.lt_irrefl k), if_pos hkc]; rfl)
            have HN := Aside0.mk (mid_none (n := n) (what := what) hkc)
            have HZ := Aside0.mk (show ((ln n (midB c what k)).getD k z56).f0 = 0 from by rw [HGK.out]; unfold toldB; rw [if_pos hkc]; rfl)
            clear hkc
            go_wp2_with (first | (go_at_call 11; (with_reducible refine (ownC HO.out (read_none k HO.out.st HLK.out HZ.out)).mono ?_); rintro e w3 ⟨rfl, h3⟩; have O3 := Aside0.mk h3; clear h3) | (go_at_call 12; (with_reducible refine (count_calls (k : Int) O3.out.st).mono ?_); rintro e wz ⟨rfl, hz⟩; subst hz; rw [HCV.out]))
            go_roundw
            case rel => exact ⟨k + 1, by omega, by go_num, by rw [HN.out]; exact O3.out⟩
            case measure => simp [intOf]; omega
          · have hb : ((k : Int) == (c : Int)) = false := beq_eq_false_iff_ne.mpr (by omega)
            have HT := Aside0.mk (show (ln n (midB c what k)).getD k z56 = ⟨(what : Int), bitv (c : Int), 1⟩ from by rw [HGK.out]; exact if_neg hkc)
            have HCV := Aside0.mk (show countv (ln n (midB c what (k + 1))) (k : Int) = 1 from by rw [countv_ln n k _ hlt]; unfold midB readB; rw [if_pos (Nat.lt_succ_self k), if_neg hkc])
            have HN := Aside0.mk (mid_set (c := c) (what := what) hlt hkc)
            have HZ := Aside0.mk (show ((ln n (midB c what k)).getD k z56).f0 ≠ 0 from by rw [HT.out]; show (what : Int) ≠ 0; have := HF.out; omega)
            have HF64 := Aside0.mk (show c < 64 from by have := HF.out; omega)
            clear hkc
            go_wp2_with (first | (go_at_call 11; (with_reducible refine (ownC HO.out (read_ok k HO.out.st HLK.out HZ.out)).mono ?_); rintro e w3 ⟨rfl, h3⟩; rw [HN.out] at h3; rw [HT.out]; have O3 := Aside0.mk h3; clear h3) | (go_at_call 13; (with_reducible refine (of_one c w3 HF64.out).mono ?_); rintro e w4 ⟨rfl, d4⟩; have O4 := Aside0.mk (own_below O3.out d4); clear d4) | (go_at_call 12; (with_reducible refine (count_calls (k : Int) O4.out.st).mono ?_); rintro e wz ⟨rfl, hz⟩; subst hz; rw [HCV.out]))
            go_roundw
            case rel => exact ⟨k + 1, by omega, by go_num, O4.out⟩
            case measure => simp [intOf]; omega
        · have hje : k = n := by omega
          subst hje
          have HO2 := Aside0.mk (show Own w wr (ln k (readB c)) v from by rw [← mid_end (what := what)]; exact HO.out)
          have HWS := Aside0.mk (show waitS (ln k (readB c)) (ln k (readB c)).length = 0 from by rw [ln_len]; exact waits_read k (Nat.le_refl k))
          clear HO hlt hk hk64
          go_wp2_with (first | (go_at_call 14; (with_reducible refine (waits_calls HO2.out.st).mono ?_); rintro e w3 ⟨rfl, b3⟩; rw [HWS.out]; have O3 := Aside0.mk (own_below HO2.out b3); clear b3))
          go_ret
          exact ⟨rfl, O3.out.far⟩
end Go.Proofs.Yteihnocbeaaokaa.Poke
