/- RobinFair: in many turns nobody is taken more than once more often than another one (the walk; no condition). -/
import Derived.Test.YtmjmfkbdnhdafaaSums
namespace Go.Proofs.Ytmjmfkbdnhdafaa.Robin
open Go.RowKit Go.Proofs.YtmjmfkbdnhdafaaW.PrintWords Go.Proofs.YtmjmfkbdnhdafaaW.PrintLast Go.Proofs.YtmjmfkbdnhdafaaW.PrintMore Go.Proofs.Ytmjmfkbdnhdafaa.St Go.Proofs.Ytmjmfkbdnhdafaa.Q Go.Proofs.Ytmjmfkbdnhdafaa.Fifo
set_option linter.unusedVariables false
set_option linter.unusedSimpArgs false
attribute [local go_sem] max2_int min2_int max_two min_two max_three min_three max_four min_four



def RelA (w : World) (m : Nat) (room : Int) (v i : Value) (wr : World) : Prop :=
  ∃ (j : Nat) (c : Nat → Nat), j ≤ m ∧ i = .int .i64 (j : Int) ∧ robin.M wr w.heap.size (fun k => c k = 0) (room, seqI 0 j) v ∧ Below w.heap.size w wr
def RelF (w5 : World) (m : Nat) (whole : Int) (rest : Nat) (sv av bv i : Value) (wr : World) : Prop :=
  wr = w5 ∧ ∃ (j : Nat) (a b : Int), j ≤ m ∧ i = .int .i64 (j : Int) ∧ sv = .int .i64 (sumv whole rest j) ∧ av = .int .i64 a ∧ bv = .int .i64 b ∧ (whole ≤ a ∧ a ≤ whole + 1 ∧ whole ≤ b ∧ b ≤ whole + 1)
set_option maxHeartbeats 4000000 in
set_option maxRecDepth 100000 in
theorem fair_walk (m1 : Int) (_ : (Lit.int .i64 m1).wf = true) (n : Int) (_ : (Lit.int .i64 n).wf = true) (t : Int) (_ : (Lit.int .i64 t).wf = true) (w : World) :
    Calls Try.prog 3 #[.int .i64 m1, .int .i64 n, .int .i64 t] w fun e w' => e = .returned (.bool true) ∧ Below w.heap.size w w' := by
  by_cases q0 : m1 < 1
  · have p0 : decide (m1 < 1) = true := decide_eq_true q0
    clear q0
    go_enter Try.func3, Try.ntmps3
    go_wp2_with (first | (go_at_call 7; (with_reducible refine (awake_calls _).mono ?_); rintro e w1 ⟨rfl, hb1⟩; have HB1 := Aside0.mk hb1; clear hb1))
    go_ret
    exact ⟨rfl, HB1.out⟩
  by_cases q1 : 100 < m1
  · have p0 : decide (m1 < 1) = false := decide_eq_false q0
    have p1 : decide (100 < m1) = true := decide_eq_true q1
    clear q0 q1
    go_enter Try.func3, Try.ntmps3
    go_wp2_with (first | (go_at_call 7; (with_reducible refine (awake_calls _).mono ?_); rintro e w1 ⟨rfl, hb1⟩; have HB1 := Aside0.mk hb1; clear hb1))
    go_ret
    exact ⟨rfl, HB1.out⟩
  by_cases q2 : n < 0
  · have p0 : decide (m1 < 1) = false := decide_eq_false q0
    have p1 : decide (100 < m1) = false := decide_eq_false q1
    have p2 : decide (n < 0) = true := decide_eq_true q2
    clear q0 q1 q2
    go_enter Try.func3, Try.ntmps3
    go_wp2_with (first | (go_at_call 7; (with_reducible refine (awake_calls _).mono ?_); rintro e w1 ⟨rfl, hb1⟩; have HB1 := Aside0.mk hb1; clear hb1))
    go_ret
    exact ⟨rfl, HB1.out⟩
  by_cases q3 : t < 0
  · have p0 : decide (m1 < 1) = false := decide_eq_false q0
    have p1 : decide (100 < m1) = false := decide_eq_false q1
    have p2 : decide (n < 0) = false := decide_eq_false q2
    have p3 : decide (t < 0) = true := decide_eq_true q3
    clear q0 q1 q2 q3
    go_enter Try.func3, Try.ntmps3
    go_wp2_with (first | (go_at_call 7; (with_reducible refine (awake_calls _).mono ?_); rintro e w1 ⟨rfl, hb1⟩; have HB1 := Aside0.mk hb1; clear hb1))
    go_ret
    exact ⟨rfl, HB1.out⟩
  by_cases q4 : 1099511627776 < t
  · have p0 : decide (m1 < 1) = false := decide_eq_false q0
    have p1 : decide (100 < m1) = false := decide_eq_false q1
    have p2 : decide (n < 0) = false := decide_eq_false q2
    have p3 : decide (t < 0) = false := decide_eq_false q3
    have p4 : decide (1099511627776 < t) = true := decide_eq_true q4
    clear q0 q1 q2 q3 q4
    go_enter Try.func3, Try.ntmps3
    go_wp2_with (first | (go_at_call 7; (with_reducible refine (awake_calls _).mono ?_); rintro e w1 ⟨rfl, hb1⟩; have HB1 := Aside0.mk hb1; clear hb1))
    go_ret
    exact ⟨rfl, HB1.out⟩
  obtain ⟨m, rfl⟩ : ∃ m : Nat, m1 = (m : Int) := ⟨m1.toNat, by omega⟩
  have hm1 : 1 ≤ m := by omega
  have hm2 : m ≤ 100 := by omega
  have p0 : decide ((m : Int) < 1) = false := decide_eq_false q0
  have p1 : decide (100 < (m : Int)) = false := decide_eq_false q1
  have p2 : decide (n < 0) = false := decide_eq_false q2
  have p3 : decide (t < 0) = false := decide_eq_false q3
  have p4 : decide (1099511627776 < t) = false := decide_eq_false q4
  have HQ := Aside0.mk (And.intro q2 (And.intro q3 q4))
  clear q0 q1 q2 q3 q4
  go_enter Try.func3, Try.ntmps3
  go_wp2_with (first | (go_at_call 7; (with_reducible refine (awake_calls _).mono ?_); rintro e w1 ⟨rfl, hb1⟩; have HB1 := Aside0.mk hb1; clear hb1) | (go_at_call 8; (with_reducible refine (newC (w0 := w) (fun _ => 9) 0 200 HB1.out).mono ?_); rintro e w2 ⟨g2, rfl, c2, h2, t2⟩; have H2 := Aside0.mk (show robin.M w2 w.heap.size (fun k => c2 k = 0) (200, []) (.pointer (some ⟨g2, 0, none⟩)) from h2); have HB2 := Aside0.mk (t2.far HB1.out); clear h2 t2))
  clear p0 p1 p2 p3 p4
  generalize hvs : (Value.pointer (some ⟨g2, 0, none⟩)) = vs at H2 ⊢
  go_loopw [8] (fun i wr => RelA w m 200 vs i wr) (fun i _ => m - (intOf i).toNat)
  case atStart => exact ⟨0, c2, Nat.zero_le _, rfl, H2.out, HB2.out⟩
  case round =>
    obtain ⟨j, c3, hj, rfl, hS, hB⟩ := hrel
    clear H2 HB2 HB1
    have HS := Aside0.mk hS
    have HB := Aside0.mk hB
    clear hS hB
    by_cases hlt : j < m
    · have HT := Aside0.mk (show seqI 0 j ++ [(j : Int)] = seqI 0 (j + 1) by have h := seq_snoc j 0; rw [Int.zero_add] at h; exact h)
      go_wp2_with (first | (go_at_call 9; (with_reducible refine (toC HS.out (add_ok (j : Int) (St.mine (s := robin) HS.out) (by omega) (by rw [seq_mem]; omega) (by rw [seq_len]; omega))).mono ?_); rintro e w3 ⟨rfl, c4, h3, t3⟩; rw [HT.out] at h3; have HS3 := Aside0.mk h3; have HB3 := Aside0.mk (t3.far HB.out); clear h3 t3))
      exact ⟨⟨j + 1, c4, by omega, by go_num, HS3.out, HB3.out⟩, by simp [intOf]; omega⟩
    · have hje : j = m := by omega
      subst hje
      have hl : (seqI 0 j).length = j := seq_len j 0
      have HLN := Aside0.mk hl
      have h0 : 0 < (seqI 0 j).length := by omega
      have HWB := Aside0.mk (whole_bd n t (seqI 0 j) h0)
      have HSUM := Aside0.mk (show sumv (wholeOf n t (seqI 0 j)) (restOf n t (seqI 0 j)) j = (heldN n (seqI 0 j) : Int) * t from by
        have h := many_sum n t (seqI 0 j) h0
        rw [hl] at h
        rw [h]
        have hq := HQ.out
        unfold clampT
        rw [if_neg (by omega : ¬ t < 0), if_neg (by omega)])
      have HHN := Aside0.mk (show (heldN n (seqI 0 j) : Int) = if (j : Int) < n then (j : Int) else n from by
        have hq := HQ.out
        unfold heldN
        rw [if_neg (by omega), hl]
        split <;> omega)
      have HR := Aside0.mk (show restOf n t (seqI 0 j) ≤ (seqI 0 j).length from by
        have e3 := Int.emod_lt_of_pos ((heldN n (seqI 0 j) : Int) * clampT t) (show (0 : Int) < ((seqI 0 j).length : Int) by omega)
        unfold restOf
        omega)
      have HP := Aside0.mk h0
      clear hl h0
      by_cases cn : (j : Int) < n
      · have dn : decide ((j : Int) < n) = true := decide_eq_true cn
        have HNF := Aside0.mk (show (if (j : Int) < n then (j : Int) else n) = (j : Int) from if_pos cn)
        have hnf : (j : Int) ≤ 100 := by omega
        clear cn
        go_wp2_with (first | (go_at_call 10; (with_reducible refine (many_calls (p := 1) (q := 2) (r := 3) n t HS.out HB.out HP.out (by decide) (by decide) (by decide) (by decide) (by decide) (by decide)).mono ?_); rintro e w5 ⟨v1, v2, rfl, c5, xs, hxl, hxc, hM5, hO5, hR5, hT5⟩; have hnl : (List.drop (restOf n t (seqI 0 j)) (seqI 0 j) ++ List.take (restOf n t (seqI 0 j)) (seqI 0 j)).length = j := (by have := HLN.out; have := HR.out; rw [List.length_append, List.length_drop, List.length_take]; omega); obtain ⟨now, hnow⟩ : ∃ now, List.drop (restOf n t (seqI 0 j)) (seqI 0 j) ++ List.take (restOf n t (seqI 0 j)) (seqI 0 j) = now := ⟨_, rfl⟩; rw [hnow] at hM5 hR5 hnl; have HNL := Aside0.mk hnl; rw [HLN.out] at hxl hxc; obtain ⟨g5, k1, hv5, _⟩ := Kd.R_form hO5 (by rw [hxl]; have := HP.out; have := HLN.out; omega); subst hv5; obtain ⟨A2, k2, rfl⟩ := Kd.R_slice hR5; rw [hxl] at hO5; rw [hnl] at hR5; have HM5 := Aside0.mk hM5; have HO5 := Aside0.mk hO5; have HR5 := Aside0.mk hR5; have HB5 := Aside0.mk (hT5.far HB.out); have HXC := Aside0.mk hxc; have HXL := Aside0.mk hxl; rw [hxl, hnl]; clear hxl hxc hM5 hO5 hR5 hT5 hnow hnl))
        have hc0 := (Mine.row_get HO5.out (j := 0) (by omega)).1
        have HX0 := Aside0.mk (show wholeOf n t (seqI 0 j) ≤ xs.getD 0 0 ∧ xs.getD 0 0 ≤ wholeOf n t (seqI 0 j) + 1 by rw [HXC.out 0 (by omega)]; split <;> omega)
        generalize xs.getD 0 0 = x0 at hc0 HX0
        have g0 : (0 : Int) < (j : Int) := by omega
        go_quiet (fail)
        obtain ⟨w6, hw6⟩ : ∃ w6, w6 = w5.drewN nq := ⟨_, rfl⟩
        rw [← hw6]
        have HM6 := Aside0.mk (show robin.M w6 w.heap.size (fun k => c5 k = 0) (200, now) vs from by rw [hw6]; exact St.drewN (s := robin) HM5.out nq)
        have HO6 := Aside0.mk (show (row 2 (Kd.int .i64)).M w6 w.heap.size (fun k => c5 k = 2) xs (.slice (some ⟨g5, 0, none⟩) j k1) from by rw [hw6]; exact St.drewN (s := row 2 (Kd.int .i64)) HO5.out nq)
        have HR6 := Aside0.mk (show (row 3 (Kd.int .i64)).M w6 w.heap.size (fun k => c5 k = 3) now (.slice A2 j k2) from by rw [hw6]; exact St.drewN (s := row 3 (Kd.int .i64)) HR5.out nq)
        have HB6 := Aside0.mk (show Below w.heap.size w w6 from by rw [hw6]; exact pw_below_drewN HB5.out nq)
        clear hw6 HM5 HO5 HR5 HB5 hc0 g0
        have HEND := Aside0.mk (show wrap64 (t * (j : Int)) = sumv (wholeOf n t (seqI 0 j)) (restOf n t (seqI 0 j)) j by
          rw [HSUM.out, HHN.out, HNF.out, Int.mul_comm]
          have hq := HQ.out
          have e1 : (0 : Int) ≤ (j : Int) * t := Int.mul_nonneg (by omega) (by omega)
          have e2 : (j : Int) * t ≤ 100 * 1099511627776 := Int.mul_le_mul (by omega) (by omega) (by omega) (by decide)
          unfold wrap64
          omega)
        have hwb := HWB.out
        generalize wholeOf n t (seqI 0 j) = whole at HX0 HXC HEND hwb
        generalize restOf n t (seqI 0 j) = rest at HXC HEND
        go_wp2
        go_loopw [11, 12, 13, 14] (fun sv av bv i wr => RelF w6 j whole rest sv av bv i wr) (fun _ _ _ i _ => j - (intOf i).toNat)
        case atStart => exact ⟨rfl, 0, x0, x0, Nat.zero_le _, rfl, rfl, rfl, rfl, by have := HX0.out; omega⟩
        case round =>
          obtain ⟨rfl, i, a, b, hi, rfl, rfl, rfl, rfl, hab⟩ := hrel
          by_cases hil : i < j
          · have hci := (Mine.row_get HO6.out (j := i) hil).1
            have HXI := Aside0.mk (HXC.out i hil)
            generalize xs.getD i 0 = x at hci HXI
            have hxb : whole ≤ x ∧ x ≤ whole + 1 := by have h := HXI.out; split at h <;> omega
            have hws : wrap64 (sumv whole rest i + x) = sumv whole rest (i + 1) := by
              have h1 := sumv_bd (rest := rest) hwb.1 (by omega : whole ≤ 281474976710656) i
              rw [sumv, ← HXI.out]
              unfold wrap64
              omega
            by_cases ca : x < a
            · have e1 : decide (x < a) = true := decide_eq_true ca
              by_cases cb : b < x
              · have e2 : decide (b < x) = true := decide_eq_true cb
                go_wp2
                exact ⟨⟨rfl, i + 1, x, x, by omega, by go_num, by first | rfl | rw [hws] | rw [sumv, ← HXI.out], rfl, rfl, by omega⟩, by simp [intOf]; omega⟩
              · have e2 : decide (b < x) = false := decide_eq_false cb
                go_wp2
                exact ⟨⟨rfl, i + 1, x, b, by omega, by go_num, by first | rfl | rw [hws] | rw [sumv, ← HXI.out], rfl, rfl, by omega⟩, by simp [intOf]; omega⟩
            · have e1 : decide (x < a) = false := decide_eq_false ca
              by_cases cb : b < x
              · have e2 : decide (b < x) = true := decide_eq_true cb
                go_wp2
                exact ⟨⟨rfl, i + 1, a, x, by omega, by go_num, by first | rfl | rw [hws] | rw [sumv, ← HXI.out], rfl, rfl, by omega⟩, by simp [intOf]; omega⟩
              · have e2 : decide (b < x) = false := decide_eq_false cb
                go_wp2
                exact ⟨⟨rfl, i + 1, a, b, by omega, by go_num, by first | rfl | rw [hws] | rw [sumv, ← HXI.out], rfl, rfl, by omega⟩, by simp [intOf]; omega⟩
          · have hie : i = j := by omega
            subst hie
            have k1' : wrap64 (t * (i : Int)) = sumv whole rest i := HEND.out
            have k2' : (sumv whole rest i == sumv whole rest i) = true := by simp
            have k3' : decide (b - a ≤ 1) = true := decide_eq_true (by omega)
            have k4' : decide (wrap64 (b - a) ≤ 1) = true := decide_eq_true (by unfold wrap64; omega)
            have HNI := Aside0.mk (show now.take (heldN (i : Int) now) = now by
              have h : heldN (i : Int) now = now.length := by
                have := HNL.out
                unfold heldN
                rw [if_neg (by omega), if_neg (by omega)]
                omega
              rw [h, List.take_length])
            have HII := Aside0.mk (ints_f now now (by have := HNL.out; omega) (by have := HNL.out; omega))
            rw [decide_eq_true rfl] at HII
            have HNN := Aside0.mk HNL.out
            generalize sumv whole rest i = S at k1' k2' ⊢
            clear hwb hab
            go_wp2_with (first | (go_at_call 12; (with_reducible refine (see_calls (i : Int) HM6.out).mono ?_); rintro e w7 ⟨v7, rfl, h7, b7⟩; rw [HNI.out] at h7; obtain ⟨A7, k7, hv7, j7, C7⟩ := crow_reads h7; rw [HNN.out] at hv7; subst hv7; have HJ7 := Aside0.mk j7; have HC7 := Aside0.mk C7; have HR7 := Aside0.mk (Kd.R_reads' (show (Kd.int .i64).R 3 w7 w.heap.size (fun k => c5 k = 3) (.slice A2 i k2) now from St.below (s := row 3 (Kd.int .i64)) HR6.out b7)); have B7 := Aside0.mk (HB6.out.trans (b7.mono HB6.out.size)); clear h7 b7 j7 C7) | (go_at_call 11; (with_reducible refine (show Calls Try.prog 11 #[.slice A7 i k7, .slice A2 i k2] w7 _ from (by have h := beadlelaw17_ints.calls (now.length + 1) A7 k7 now A2 k2 now true w7 HC7.out HJ7.out HR7.out.2.2 (by rw [HNN.out]; exact HR7.out.2.1) HII.out; rw [HNN.out] at h; exact h)).mono ?_); rintro e w8 ⟨rfl, ⟨nd8, rfl⟩⟩))
            go_ret
            exact ⟨rfl, pw_below_drewN B7.out nd8⟩
      · have dn : decide ((j : Int) < n) = false := decide_eq_false cn
        have HNF := Aside0.mk (show (if (j : Int) < n then (j : Int) else n) = n from if_neg cn)
        have hnf : n ≤ (j : Int) := by omega
        clear cn
        go_wp2_with (first | (go_at_call 10; (with_reducible refine (many_calls (p := 1) (q := 2) (r := 3) n t HS.out HB.out HP.out (by decide) (by decide) (by decide) (by decide) (by decide) (by decide)).mono ?_); rintro e w5 ⟨v1, v2, rfl, c5, xs, hxl, hxc, hM5, hO5, hR5, hT5⟩; have hnl : (List.drop (restOf n t (seqI 0 j)) (seqI 0 j) ++ List.take (restOf n t (seqI 0 j)) (seqI 0 j)).length = j := (by have := HLN.out; have := HR.out; rw [List.length_append, List.length_drop, List.length_take]; omega); obtain ⟨now, hnow⟩ : ∃ now, List.drop (restOf n t (seqI 0 j)) (seqI 0 j) ++ List.take (restOf n t (seqI 0 j)) (seqI 0 j) = now := ⟨_, rfl⟩; rw [hnow] at hM5 hR5 hnl; have HNL := Aside0.mk hnl; rw [HLN.out] at hxl hxc; obtain ⟨g5, k1, hv5, _⟩ := Kd.R_form hO5 (by rw [hxl]; have := HP.out; have := HLN.out; omega); subst hv5; obtain ⟨A2, k2, rfl⟩ := Kd.R_slice hR5; rw [hxl] at hO5; rw [hnl] at hR5; have HM5 := Aside0.mk hM5; have HO5 := Aside0.mk hO5; have HR5 := Aside0.mk hR5; have HB5 := Aside0.mk (hT5.far HB.out); have HXC := Aside0.mk hxc; have HXL := Aside0.mk hxl; rw [hxl, hnl]; clear hxl hxc hM5 hO5 hR5 hT5 hnow hnl))
        have hc0 := (Mine.row_get HO5.out (j := 0) (by omega)).1
        have HX0 := Aside0.mk (show wholeOf n t (seqI 0 j) ≤ xs.getD 0 0 ∧ xs.getD 0 0 ≤ wholeOf n t (seqI 0 j) + 1 by rw [HXC.out 0 (by omega)]; split <;> omega)
        generalize xs.getD 0 0 = x0 at hc0 HX0
        have g0 : (0 : Int) < (j : Int) := by omega
        go_quiet (fail)
        obtain ⟨w6, hw6⟩ : ∃ w6, w6 = w5.drewN nq := ⟨_, rfl⟩
        rw [← hw6]
        have HM6 := Aside0.mk (show robin.M w6 w.heap.size (fun k => c5 k = 0) (200, now) vs from by rw [hw6]; exact St.drewN (s := robin) HM5.out nq)
        have HO6 := Aside0.mk (show (row 2 (Kd.int .i64)).M w6 w.heap.size (fun k => c5 k = 2) xs (.slice (some ⟨g5, 0, none⟩) j k1) from by rw [hw6]; exact St.drewN (s := row 2 (Kd.int .i64)) HO5.out nq)
        have HR6 := Aside0.mk (show (row 3 (Kd.int .i64)).M w6 w.heap.size (fun k => c5 k = 3) now (.slice A2 j k2) from by rw [hw6]; exact St.drewN (s := row 3 (Kd.int .i64)) HR5.out nq)
        have HB6 := Aside0.mk (show Below w.heap.size w w6 from by rw [hw6]; exact pw_below_drewN HB5.out nq)
        clear hw6 HM5 HO5 HR5 HB5 hc0 g0
        have HEND := Aside0.mk (show wrap64 (t * n) = sumv (wholeOf n t (seqI 0 j)) (restOf n t (seqI 0 j)) j by
          rw [HSUM.out, HHN.out, HNF.out, Int.mul_comm]
          have hq := HQ.out
          have e1 : (0 : Int) ≤ n * t := Int.mul_nonneg (by omega) (by omega)
          have e2 : n * t ≤ 100 * 1099511627776 := Int.mul_le_mul (by omega) (by omega) (by omega) (by decide)
          unfold wrap64
          omega)
        have hwb := HWB.out
        generalize wholeOf n t (seqI 0 j) = whole at HX0 HXC HEND hwb
        generalize restOf n t (seqI 0 j) = rest at HXC HEND
        go_wp2
        go_loopw [11, 12, 13, 14] (fun sv av bv i wr => RelF w6 j whole rest sv av bv i wr) (fun _ _ _ i _ => j - (intOf i).toNat)
        case atStart => exact ⟨rfl, 0, x0, x0, Nat.zero_le _, rfl, rfl, rfl, rfl, by have := HX0.out; omega⟩
        case round =>
          obtain ⟨rfl, i, a, b, hi, rfl, rfl, rfl, rfl, hab⟩ := hrel
          by_cases hil : i < j
          · have hci := (Mine.row_get HO6.out (j := i) hil).1
            have HXI := Aside0.mk (HXC.out i hil)
            generalize xs.getD i 0 = x at hci HXI
            have hxb : whole ≤ x ∧ x ≤ whole + 1 := by have h := HXI.out; split at h <;> omega
            have hws : wrap64 (sumv whole rest i + x) = sumv whole rest (i + 1) := by
              have h1 := sumv_bd (rest := rest) hwb.1 (by omega : whole ≤ 281474976710656) i
              rw [sumv, ← HXI.out]
              unfold wrap64
              omega
            by_cases ca : x < a
            · have e1 : decide (x < a) = true := decide_eq_true ca
              by_cases cb : b < x
              · have e2 : decide (b < x) = true := decide_eq_true cb
                go_wp2
                exact ⟨⟨rfl, i + 1, x, x, by omega, by go_num, by first | rfl | rw [hws] | rw [sumv, ← HXI.out], rfl, rfl, by omega⟩, by simp [intOf]; omega⟩
              · have e2 : decide (b < x) = false := decide_eq_false cb
                go_wp2
                exact ⟨⟨rfl, i + 1, x, b, by omega, by go_num, by first | rfl | rw [hws] | rw [sumv, ← HXI.out], rfl, rfl, by omega⟩, by simp [intOf]; omega⟩
            · have e1 : decide (x < a) = false := decide_eq_false ca
              by_cases cb : b < x
              · have e2 : decide (b < x) = true := decide_eq_true cb
                go_wp2
                exact ⟨⟨rfl, i + 1, a, x, by omega, by go_num, by first | rfl | rw [hws] | rw [sumv, ← HXI.out], rfl, rfl, by omega⟩, by simp [intOf]; omega⟩
              · have e2 : decide (b < x) = false := decide_eq_false cb
                go_wp2
                exact ⟨⟨rfl, i + 1, a, b, by omega, by go_num, by first | rfl | rw [hws] | rw [sumv, ← HXI.out], rfl, rfl, by omega⟩, by simp [intOf]; omega⟩
          · have hie : i = j := by omega
            subst hie
            have k1' : wrap64 (t * n) = sumv whole rest i := HEND.out
            have k2' : (sumv whole rest i == sumv whole rest i) = true := by simp
            have k3' : decide (b - a ≤ 1) = true := decide_eq_true (by omega)
            have k4' : decide (wrap64 (b - a) ≤ 1) = true := decide_eq_true (by unfold wrap64; omega)
            have HNI := Aside0.mk (show now.take (heldN (i : Int) now) = now by
              have h : heldN (i : Int) now = now.length := by
                have := HNL.out
                unfold heldN
                rw [if_neg (by omega), if_neg (by omega)]
                omega
              rw [h, List.take_length])
            have HII := Aside0.mk (ints_f now now (by have := HNL.out; omega) (by have := HNL.out; omega))
            rw [decide_eq_true rfl] at HII
            have HNN := Aside0.mk HNL.out
            generalize sumv whole rest i = S at k1' k2' ⊢
            clear hwb hab
            go_wp2_with (first | (go_at_call 12; (with_reducible refine (see_calls (i : Int) HM6.out).mono ?_); rintro e w7 ⟨v7, rfl, h7, b7⟩; rw [HNI.out] at h7; obtain ⟨A7, k7, hv7, j7, C7⟩ := crow_reads h7; rw [HNN.out] at hv7; subst hv7; have HJ7 := Aside0.mk j7; have HC7 := Aside0.mk C7; have HR7 := Aside0.mk (Kd.R_reads' (show (Kd.int .i64).R 3 w7 w.heap.size (fun k => c5 k = 3) (.slice A2 i k2) now from St.below (s := row 3 (Kd.int .i64)) HR6.out b7)); have B7 := Aside0.mk (HB6.out.trans (b7.mono HB6.out.size)); clear h7 b7 j7 C7) | (go_at_call 11; (with_reducible refine (show Calls Try.prog 11 #[.slice A7 i k7, .slice A2 i k2] w7 _ from (by have h := beadlelaw17_ints.calls (now.length + 1) A7 k7 now A2 k2 now true w7 HC7.out HJ7.out HR7.out.2.2 (by rw [HNN.out]; exact HR7.out.2.1) HII.out; rw [HNN.out] at h; exact h)).mono ?_); rintro e w8 ⟨rfl, ⟨nd8, rfl⟩⟩))
            go_ret
            exact ⟨rfl, pw_below_drewN B7.out nd8⟩
end Go.Proofs.Ytmjmfkbdnhdafaa.Robin
