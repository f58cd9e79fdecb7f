/- SemTurns: whoever asks holds it behind all that asked ahead, each once (the walk; no condition). -/
import Derived.Test.YtnfpgdcnihbokaaAwakeS
namespace Go.Proofs.Ytnfpgdcnihbokaa.Sem
open Go.RowKit Go.Proofs.YtnfpgdcnihbokaaW.PrintWords Go.Proofs.YtnfpgdcnihbokaaW.PrintLast Go.Proofs.YtnfpgdcnihbokaaW.PrintMore Go.Proofs.Ytnfpgdcnihbokaa.St Go.Proofs.Ytnfpgdcnihbokaa.Q Go.Proofs.Ytnfpgdcnihbokaa.Fifo
set_option linter.unusedVariables false
set_option linter.unusedSimpArgs false
attribute [local go_sem] max2_int min2_int max_two min_two max_three min_three max_four min_four




theorem read_bool {w : World} {A : Option Addr} {l : List Bool} (h : Kd.bool.C w A l.length l) {j : Nat} (hj : j < l.length) : ∃ ad, A = some ad ∧ w.cell? (ad.add j) = some (.bool (l.getD j false)) := by
  obtain ⟨ad, hA, hc⟩ := Kd.at_bool h (j : Int) (by omega) (by omega)
  exact ⟨ad, hA, by simpa [rdOf] using hc⟩
/-- Who holds it behind j that asked. -/
def held (j : Nat) : Int := if j = 0 then -1 else 0
def hold2 (m j : Nat) : Int := if j < m then (j : Int) else -1
def RelT (w : World) (m : Nat) (vs i : Value) (wr : World) : Prop :=
  ∃ (j : Nat) (c : Nat → Nat), j ≤ m ∧ i = .int .i64 (j : Int) ∧ sem.M wr w.heap.size (fun k => c k = 0) (7, held j, false, seqI 1 (j - 1)) vs ∧ Below w.heap.size w wr
def RelU (w : World) (m : Nat) (vs i : Value) (wr : World) : Prop :=
  ∃ (j : Nat) (c : Nat → Nat) (d : Bool), j ≤ m ∧ i = .int .i64 (j : Int) ∧ sem.M wr w.heap.size (fun k => c k = 0) (7, hold2 m j, d, seqI ((j : Int) + 1) (m - 1 - j)) vs ∧ Below w.heap.size w wr
set_option maxHeartbeats 2000000 in
set_option maxRecDepth 100000 in
theorem turns_walk (n : Int) (hn : (Lit.int .i64 n).wf = true) (A : Option Addr) (cap : Nat) (l : List Bool) {w : World} (hr : Kd.bool.C w A l.length l) (hc : l.length ≤ cap) (hg : ∀ a ∈ l, True) (_ : World) :
    Calls Try.prog 3 #[.int .i64 n, .slice A l.length cap] w fun e w' => e = .returned (.bool true) ∧ Below w.heap.size w w' := by
  have HC := Aside0.mk hr
  clear hr hg hn
  by_cases h1 : n < 1
  · have d1 : decide (n < 1) = true := decide_eq_true h1
    clear h1
    go_enter Try.func3, Try.ntmps3
    go_wp2_with (first | (go_at_call 7; (with_reducible refine (awake_calls _).mono ?_); rintro e w1 ⟨rfl, hb1⟩; have HB1 := Aside0.mk hb1; clear hb1))
    go_ret
    exact ⟨rfl, HB1.out⟩
  by_cases h2 : 60 < n
  · have d1 : decide (n < 1) = false := decide_eq_false h1
    have d2 : decide (60 < n) = true := decide_eq_true h2
    clear h1 h2
    go_enter Try.func3, Try.ntmps3
    go_wp2_with (first | (go_at_call 7; (with_reducible refine (awake_calls _).mono ?_); rintro e w1 ⟨rfl, hb1⟩; have HB1 := Aside0.mk hb1; clear hb1))
    go_ret
    exact ⟨rfl, HB1.out⟩
  obtain ⟨m, rfl⟩ : ∃ m : Nat, n = (m : Int) := ⟨n.toNat, by omega⟩
  have hm1 : 1 ≤ m := by omega
  have hm2 : m ≤ 60 := by omega
  have d1 : decide ((m : Int) < 1) = false := decide_eq_false h1
  have d2 : decide (60 < (m : Int)) = false := decide_eq_false h2
  clear h1 h2
  go_enter Try.func3, Try.ntmps3
  go_wp2_with (first | (go_at_call 7; (with_reducible refine (awake_calls _).mono ?_); rintro e w1 ⟨rfl, hb1⟩; have HB1 := Aside0.mk hb1; clear hb1) | (go_at_call 8; (with_reducible refine (newC (w0 := w) (fun _ => 9) 0 7 (by decide) (by decide) HB1.out).mono ?_); rintro e w2 ⟨g2, rfl, c2, h2, t2⟩; have H2 := Aside0.mk h2; have HB2 := Aside0.mk (t2.far HB1.out); clear h2 t2))
  generalize hvs : (Value.pointer (some ⟨g2, 0, none⟩)) = vs at H2 ⊢
  clear d1 d2
  go_loopw [7] (fun i wr => RelT w m vs i wr) (fun i _ => m - (intOf i).toNat)
  case atStart => exact ⟨0, c2, Nat.zero_le _, rfl, H2.out, HB2.out⟩
  case round =>
    obtain ⟨j, c3, hj, rfl, hS, hB⟩ := hrel
    have HS := Aside0.mk hS
    have HB := Aside0.mk hB
    clear hS hB H2 HB1 HB2
    by_cases hlt : j < m
    · by_cases h0 : j = 0
      · subst h0
        have HE := Aside0.mk (show aheadOf (held 0) (seqI 1 (0 - 1)) ((0 : Nat) : Int) = -1 from by decide)
        go_wp2_with (first | (go_at_call 9; (with_reducible refine (toC HS.out (fun _ hk => hk) (ask_take ((0 : Nat) : Int) (St.mine (s := sem) HS.out) (by decide) HE.out rfl)).mono ?_); rintro e w3 ⟨rfl, c4, h3, t3⟩; have HS3 := Aside0.mk h3; have HB3 := Aside0.mk (t3.far HB.out); clear h3 t3))
        exact ⟨⟨1, c4, by omega, by go_num, HS3.out, HB3.out⟩, by simp [intOf]; omega⟩
      · have hH : held j = 0 := if_neg h0
        have hq : (((j : Int)) == 0) = false := beq_eq_false_iff_ne.mpr (by omega)
        have HE := Aside0.mk (show aheadOf (held j) (seqI 1 (j - 1)) (j : Int) = -1 from by rw [hH]; exact ahead_out (by omega) (by omega) (by rw [seq_mem]; omega))
        have HL := Aside0.mk (show ¬ ((seqI 1 (j - 1)).length : Int) = 63 by rw [seq_len]; omega)
        have HT := Aside0.mk (show seqI 1 (j - 1) ++ [(j : Int)] = seqI 1 j by obtain ⟨k, rfl⟩ : ∃ k, j = k + 1 := ⟨j - 1, by omega⟩; rw [Nat.add_sub_cancel, ← seq_snoc]; congr 2; omega)
        have HN := Aside0.mk (show held (j + 1) = held j by rw [hH]; rfl)
        have HM1 := Aside0.mk (show ¬ held j = -1 by rw [hH]; decide)
        clear hH
        go_wp2_with (first | (go_at_call 9; (with_reducible refine (toC HS.out (fun _ hk => hk) (ask_wait (j : Int) (St.mine (s := sem) HS.out) (by omega) HE.out HM1.out HL.out)).mono ?_); rintro e w3 ⟨rfl, c4, h3, t3⟩; have HS3 := Aside0.mk h3; have HB3 := Aside0.mk (t3.far HB.out); clear h3 t3))
        exact ⟨⟨j + 1, c4, by omega, by go_num, by rw [HN.out, Nat.add_sub_cancel, ← HT.out]; exact HS3.out, HB3.out⟩, by simp [intOf]; omega⟩
    · have hje : j = m := by omega
      subst hje
      have HS2 := Aside0.mk (show sem.M wr w.heap.size (fun k => c3 k = 0) (7, hold2 j 0, false, seqI (((0 : Nat) : Int) + 1) (j - 1 - 0)) vs by
        have h := HS.out
        have e1 : held j = 0 := if_neg (by omega)
        have e2 : hold2 j 0 = 0 := if_pos (by omega)
        rw [e1] at h
        rw [e2]
        exact h)
      clear HS hlt hj
      go_wp2
      obtain ⟨wo, rfl⟩ : ∃ wo : World, wo = wr := ⟨_, rfl⟩
      obtain ⟨m, rfl⟩ : ∃ m : Nat, m = j := ⟨_, rfl⟩
      go_loopw [10] (fun i wr => RelU w m vs i wr) (fun i _ => m - (intOf i).toNat)
      case atStart => exact ⟨0, c3, false, Nat.zero_le _, rfl, HS2.out, HB.out⟩
      case round =>
        clear HS2 HB
        obtain ⟨j, c3, d, hj, rfl, hS, hB⟩ := hrel
        have HB := Aside0.mk hB
        by_cases hlt : j < m
        · have HS := Aside0.mk (show sem.M wr w.heap.size (fun k => c3 k = 0) (7, (j : Int), d, seqI ((j : Int) + 1) (m - 1 - j)) vs by have h := hS; rw [show hold2 m j = (j : Int) from if_pos hlt] at h; exact h)
          have HA := Aside0.mk (show aheadOf (j : Int) (seqI ((j : Int) + 1) (m - 1 - j)) (j : Int) = 0 from ahead_held (by omega) rfl)
          have hne : ((j : Int) != (j : Int)) = false := by simp
          clear hS hB
          by_cases hz : j + 1 < m
          · have HX := Aside0.mk (show nxt (seqI ((j : Int) + 1) (m - 1 - j)) = (j : Int) + 1 ∧ (seqI ((j : Int) + 1) (m - 1 - j)).tail = seqI ((j : Int) + 1 + 1) (m - 2 - j) by
              obtain ⟨k, hk⟩ : ∃ k, m - 1 - j = k + 1 := ⟨m - 2 - j, by omega⟩
              rw [hk, show m - 2 - j = k by omega]
              exact ⟨rfl, rfl⟩)
            have HZ := Aside0.mk (show hold2 m (j + 1) = (j : Int) + 1 ∧ seqI (((j + 1 : Nat) : Int) + 1) (m - 1 - (j + 1)) = seqI ((j : Int) + 1 + 1) (m - 2 - j) by
              refine ⟨by rw [hold2, if_pos hz]; omega, ?_⟩
              rw [show m - 1 - (j + 1) = m - 2 - j by omega, show (((j + 1 : Nat) : Int) + 1) = (j : Int) + 1 + 1 by omega])
            have q1 : (((j : Int) + 1) == -1) = false := beq_eq_false_iff_ne.mpr (by omega)
            have q2 : (((j : Int) + 1) == (m : Int)) = false := beq_eq_false_iff_ne.mpr (by omega)
            have q3 : decide ((j : Int) + 1 < (m : Int)) = true := decide_eq_true (by omega)
            have q4 : (((j : Int) + 1) != ((j : Int) + 1)) = false := by simp
            by_cases ht : j < l.length ∧ l.getD j false = true
            · have hl := ht.1
              obtain ⟨ad, hA, hcell⟩ := read_bool (Kd.C_below HC.out HB.out) hl
              rw [ht.2] at hcell
              subst hA
              have hcell3 : ∀ {w3 : World}, Below w.heap.size w w3 → w3.cell? (ad.add j) = some (.bool true) := fun hb => by
                obtain ⟨ad', e, hc⟩ := read_bool (Kd.C_below HC.out hb) hl
                cases e
                rw [hc, ht.2]
              clear ht
              go_wp2_with (first | (go_at_call 10; (with_reducible refine (holder_calls HS.out).mono ?_); rintro e wz ⟨rfl, rfl⟩) | (go_at_call 11; (with_reducible refine (ahead_calls (j : Int) HS.out).mono ?_); rintro e w3 ⟨rfl, nd3, hw3⟩; rw [HA.out]; have HS3 := Aside0.mk (show sem.M w3 w.heap.size (fun k => c3 k = 0) (7, (j : Int), d, seqI ((j : Int) + 1) (m - 1 - j)) vs from by rw [hw3]; exact St.drewN (s := sem) HS.out nd3); have HB3 := Aside0.mk (show Below w.heap.size w w3 from by rw [hw3]; exact pw_below_drewN HB.out nd3); clear hw3; have hcell4 := hcell3 HB3.out) | (go_at_call 12; (with_reducible refine (toC HS3.out (fun _ hk => Or.inl hk) (throw_ok (j : Int) (St.mine (s := sem) HS3.out) (by omega) rfl)).mono ?_); rintro e w4 ⟨rfl, c4, h4, t4⟩; rw [HX.out.1, HX.out.2] at h4; rw [HX.out.1]; have HS4 := Aside0.mk h4; have HB4 := Aside0.mk (t4.far HB3.out); clear h4 t4))
              exact ⟨⟨j + 1, c4, false, by omega, by go_num, by rw [HZ.out.1, HZ.out.2]; exact HS4.out, HB4.out⟩, by simp [intOf]; omega⟩
            · by_cases hl : j < l.length
              · obtain ⟨ad, hA, hcell⟩ := read_bool (Kd.C_below HC.out HB.out) hl
                have hfl : l.getD j false = false := by cases h : l.getD j false <;> simp_all
                subst hA
                have hcell3 : ∀ {w3 : World}, Below w.heap.size w w3 → w3.cell? (ad.add j) = some (.bool false) := fun hb => by
                  obtain ⟨ad', e, hc⟩ := read_bool (Kd.C_below HC.out hb) hl
                  cases e
                  rw [hc, hfl]
                rw [hfl] at hcell
                clear ht hfl
                go_wp2_with (first | (go_at_call 10; (with_reducible refine (holder_calls HS.out).mono ?_); rintro e wz ⟨rfl, rfl⟩) | (go_at_call 11; (with_reducible refine (ahead_calls (j : Int) HS.out).mono ?_); rintro e w3 ⟨rfl, nd3, hw3⟩; rw [HA.out]; have HS3 := Aside0.mk (show sem.M w3 w.heap.size (fun k => c3 k = 0) (7, (j : Int), d, seqI ((j : Int) + 1) (m - 1 - j)) vs from by rw [hw3]; exact St.drewN (s := sem) HS.out nd3); have HB3 := Aside0.mk (show Below w.heap.size w w3 from by rw [hw3]; exact pw_below_drewN HB.out nd3); clear hw3; have hcell4 := hcell3 HB3.out) | (go_at_call 13; (with_reducible refine (toC HS3.out (fun _ hk => Or.inl hk) (free_ok (j : Int) (St.mine (s := sem) HS3.out) (by omega) rfl)).mono ?_); rintro e w4 ⟨rfl, c4, h4, t4⟩; rw [HX.out.1, HX.out.2] at h4; rw [HX.out.1]; have HS4 := Aside0.mk h4; have HB4 := Aside0.mk (t4.far HB3.out); clear h4 t4))
                exact ⟨⟨j + 1, c4, d, by omega, by go_num, by rw [HZ.out.1, HZ.out.2]; exact HS4.out, HB4.out⟩, by simp [intOf]; omega⟩
              · clear ht
                go_wp2_with (first | (go_at_call 10; (with_reducible refine (holder_calls HS.out).mono ?_); rintro e wz ⟨rfl, rfl⟩) | (go_at_call 11; (with_reducible refine (ahead_calls (j : Int) HS.out).mono ?_); rintro e w3 ⟨rfl, nd3, hw3⟩; rw [HA.out]; have HS3 := Aside0.mk (show sem.M w3 w.heap.size (fun k => c3 k = 0) (7, (j : Int), d, seqI ((j : Int) + 1) (m - 1 - j)) vs from by rw [hw3]; exact St.drewN (s := sem) HS.out nd3); have HB3 := Aside0.mk (show Below w.heap.size w w3 from by rw [hw3]; exact pw_below_drewN HB.out nd3); clear hw3) | (go_at_call 13; (with_reducible refine (toC HS3.out (fun _ hk => Or.inl hk) (free_ok (j : Int) (St.mine (s := sem) HS3.out) (by omega) rfl)).mono ?_); rintro e w4 ⟨rfl, c4, h4, t4⟩; rw [HX.out.1, HX.out.2] at h4; rw [HX.out.1]; have HS4 := Aside0.mk h4; have HB4 := Aside0.mk (t4.far HB3.out); clear h4 t4))
                exact ⟨⟨j + 1, c4, d, by omega, by go_num, by rw [HZ.out.1, HZ.out.2]; exact HS4.out, HB4.out⟩, by simp [intOf]; omega⟩
          · have hjm : j + 1 = m := by omega
            have HX := Aside0.mk (show nxt (seqI ((j : Int) + 1) (m - 1 - j)) = -1 ∧ (seqI ((j : Int) + 1) (m - 1 - j)).tail = [] by
              rw [show m - 1 - j = 0 by omega]
              exact ⟨rfl, rfl⟩)
            have HZ := Aside0.mk (show hold2 m (j + 1) = -1 ∧ seqI (((j + 1 : Nat) : Int) + 1) (m - 1 - (j + 1)) = [] by
              refine ⟨if_neg hz, ?_⟩
              rw [show m - 1 - (j + 1) = 0 by omega]
              rfl)
            have q1 : ((-1 : Int) == -1) = true := rfl
            have q2 : (((j : Int) + 1) == (m : Int)) = true := beq_iff_eq.mpr (by omega)
            have q3 : decide ((j : Int) + 1 < (m : Int)) = false := decide_eq_false (by omega)
            by_cases ht : j < l.length ∧ l.getD j false = true
            · have hl := ht.1
              obtain ⟨ad, hA, hcell⟩ := read_bool (Kd.C_below HC.out HB.out) hl
              rw [ht.2] at hcell
              subst hA
              have hcell3 : ∀ {w3 : World}, Below w.heap.size w w3 → w3.cell? (ad.add j) = some (.bool true) := fun hb => by
                obtain ⟨ad', e, hc⟩ := read_bool (Kd.C_below HC.out hb) hl
                cases e
                rw [hc, ht.2]
              clear ht
              go_wp2_with (first | (go_at_call 10; (with_reducible refine (holder_calls HS.out).mono ?_); rintro e wz ⟨rfl, rfl⟩) | (go_at_call 11; (with_reducible refine (ahead_calls (j : Int) HS.out).mono ?_); rintro e w3 ⟨rfl, nd3, hw3⟩; rw [HA.out]; have HS3 := Aside0.mk (show sem.M w3 w.heap.size (fun k => c3 k = 0) (7, (j : Int), d, seqI ((j : Int) + 1) (m - 1 - j)) vs from by rw [hw3]; exact St.drewN (s := sem) HS.out nd3); have HB3 := Aside0.mk (show Below w.heap.size w w3 from by rw [hw3]; exact pw_below_drewN HB.out nd3); clear hw3; have hcell4 := hcell3 HB3.out) | (go_at_call 12; (with_reducible refine (toC HS3.out (fun _ hk => Or.inl hk) (throw_ok (j : Int) (St.mine (s := sem) HS3.out) (by omega) rfl)).mono ?_); rintro e w4 ⟨rfl, c4, h4, t4⟩; rw [HX.out.1, HX.out.2] at h4; rw [HX.out.1]; have HS4 := Aside0.mk h4; have HB4 := Aside0.mk (t4.far HB3.out); clear h4 t4))
              exact ⟨⟨j + 1, c4, true, by omega, by go_num, by rw [HZ.out.1, HZ.out.2]; exact HS4.out, HB4.out⟩, by simp [intOf]; omega⟩
            · by_cases hl : j < l.length
              · obtain ⟨ad, hA, hcell⟩ := read_bool (Kd.C_below HC.out HB.out) hl
                have hfl : l.getD j false = false := by cases h : l.getD j false <;> simp_all
                subst hA
                have hcell3 : ∀ {w3 : World}, Below w.heap.size w w3 → w3.cell? (ad.add j) = some (.bool false) := fun hb => by
                  obtain ⟨ad', e, hc⟩ := read_bool (Kd.C_below HC.out hb) hl
                  cases e
                  rw [hc, hfl]
                rw [hfl] at hcell
                clear ht hfl
                go_wp2_with (first | (go_at_call 10; (with_reducible refine (holder_calls HS.out).mono ?_); rintro e wz ⟨rfl, rfl⟩) | (go_at_call 11; (with_reducible refine (ahead_calls (j : Int) HS.out).mono ?_); rintro e w3 ⟨rfl, nd3, hw3⟩; rw [HA.out]; have HS3 := Aside0.mk (show sem.M w3 w.heap.size (fun k => c3 k = 0) (7, (j : Int), d, seqI ((j : Int) + 1) (m - 1 - j)) vs from by rw [hw3]; exact St.drewN (s := sem) HS.out nd3); have HB3 := Aside0.mk (show Below w.heap.size w w3 from by rw [hw3]; exact pw_below_drewN HB.out nd3); clear hw3; have hcell4 := hcell3 HB3.out) | (go_at_call 13; (with_reducible refine (toC HS3.out (fun _ hk => Or.inl hk) (free_ok (j : Int) (St.mine (s := sem) HS3.out) (by omega) rfl)).mono ?_); rintro e w4 ⟨rfl, c4, h4, t4⟩; rw [HX.out.1, HX.out.2] at h4; rw [HX.out.1]; have HS4 := Aside0.mk h4; have HB4 := Aside0.mk (t4.far HB3.out); clear h4 t4))
                exact ⟨⟨j + 1, c4, d, by omega, by go_num, by rw [HZ.out.1, HZ.out.2]; exact HS4.out, HB4.out⟩, by simp [intOf]; omega⟩
              · clear ht
                go_wp2_with (first | (go_at_call 10; (with_reducible refine (holder_calls HS.out).mono ?_); rintro e wz ⟨rfl, rfl⟩) | (go_at_call 11; (with_reducible refine (ahead_calls (j : Int) HS.out).mono ?_); rintro e w3 ⟨rfl, nd3, hw3⟩; rw [HA.out]; have HS3 := Aside0.mk (show sem.M w3 w.heap.size (fun k => c3 k = 0) (7, (j : Int), d, seqI ((j : Int) + 1) (m - 1 - j)) vs from by rw [hw3]; exact St.drewN (s := sem) HS.out nd3); have HB3 := Aside0.mk (show Below w.heap.size w w3 from by rw [hw3]; exact pw_below_drewN HB.out nd3); clear hw3) | (go_at_call 13; (with_reducible refine (toC HS3.out (fun _ hk => Or.inl hk) (free_ok (j : Int) (St.mine (s := sem) HS3.out) (by omega) rfl)).mono ?_); rintro e w4 ⟨rfl, c4, h4, t4⟩; rw [HX.out.1, HX.out.2] at h4; rw [HX.out.1]; have HS4 := Aside0.mk h4; have HB4 := Aside0.mk (t4.far HB3.out); clear h4 t4))
                exact ⟨⟨j + 1, c4, d, by omega, by go_num, by rw [HZ.out.1, HZ.out.2]; exact HS4.out, HB4.out⟩, by simp [intOf]; omega⟩
        · have hje : j = m := by omega
          subst hje
          have HS := Aside0.mk (show sem.M wr w.heap.size (fun k => c3 k = 0) (7, -1, d, []) vs by
            have h := hS
            rw [show hold2 j j = -1 from if_neg (Nat.lt_irrefl _), show j - 1 - j = 0 by omega] at h
            exact h)
          clear hS hB hlt hj
          go_wp2_with (first | (go_at_call 10; (with_reducible refine (holder_calls HS.out).mono ?_); rintro e wz ⟨rfl, rfl⟩) | (go_at_call 14; (with_reducible refine (waits_calls HS.out).mono ?_); rintro e w90 ⟨v90, rfl, hR, hb⟩; obtain ⟨A9, k9, rfl⟩ := Kd.R_slice hR; have HB9 := Aside0.mk (HB.out.trans (hb.mono HB.out.size)); clear hR hb))
          go_ret
          exact ⟨rfl, HB9.out⟩
end Go.Proofs.Ytnfpgdcnihbokaa.Sem
