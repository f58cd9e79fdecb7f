/- RobinMany: so many times, and then so many, are both together (the walk; no condition). -/
import Derived.Test.YtmjmfkbdnhdafaaSums
namespace Go.Proofs.Ytmjmfkbdnhdafaa.Robin
open Go.RowKit Go.Proofs.YtmjmfkbdnhdafaaW.PrintWords Go.Proofs.YtmjmfkbdnhdafaaW.PrintLast Go.Proofs.YtmjmfkbdnhdafaaW.PrintMore Go.Proofs.Ytmjmfkbdnhdafaa.St Go.Proofs.Ytmjmfkbdnhdafaa.Q Go.Proofs.Ytmjmfkbdnhdafaa.Fifo
set_option linter.unusedVariables false
set_option linter.unusedSimpArgs false
attribute [local go_sem] max2_int min2_int max_two min_two max_three min_three max_four min_four



theorem list_eq {xs ys : List Int} (hl : xs.length = ys.length) (h : ∀ j, j < ys.length → xs.getD j 0 = ys.getD j 0) : xs = ys := by
  apply List.ext_getElem hl
  intro i h1 h2
  have := h i h2
  rwa [List.getD_eq_getElem?_getD, List.getD_eq_getElem?_getD, List.getElem?_eq_getElem h1, List.getElem?_eq_getElem h2] at this
theorem seq_get : ∀ (m k : Nat) (a : Int), k < m → (seqI a m).getD k 0 = a + k
  | 0, _, _, h => absurd h (Nat.not_lt_zero _)
  | m + 1, 0, a, _ => by simp [seqI]
  | m + 1, k + 1, a, h => by
    have h2 := seq_get m k (a + 1) (by omega)
    rw [seqI, List.getD_cons_succ, h2]
    omega
theorem rot_get {l : List Int} {m r k : Nat} (hl : l.length = m) (hr : r < m) (hk : k < m) : (l.drop r ++ l.take r).getD k 0 = if k + r < m then l.getD (k + r) 0 else l.getD (k + r - m) 0 := by
  rw [List.getD_eq_getElem?_getD]
  by_cases h : k + r < m
  · rw [if_pos h, List.getElem?_append_left (by rw [List.length_drop]; omega), List.getElem?_drop, Nat.add_comm r k, List.getD_eq_getElem?_getD]
  · rw [if_neg h, List.getElem?_append_right (by rw [List.length_drop]; omega), List.length_drop, List.getElem?_take, if_pos (by omega), List.getD_eq_getElem?_getD]
    congr 2
    omega
theorem held_len (n : Int) {l l' : List Int} (h : l.length = l'.length) : heldN n l = heldN n l' := by unfold heldN; rw [h]
theorem rest_len (n t : Int) {l l' : List Int} (h : l.length = l'.length) : restOf n t l = restOf n t l' ∧ wholeOf n t l = wholeOf n t l' := by unfold restOf wholeOf; rw [held_len n h, h]; exact ⟨rfl, rfl⟩
theorem div_of {X q r m : Int} (h : X = q * m + r) (h0 : 0 ≤ r) (h1 : r < m) : X / m = q ∧ X % m = r := by
  subst h
  have hm : 0 < m := by omega
  constructor
  · rw [Int.add_comm, Int.add_mul_ediv_right _ _ (by omega), Int.ediv_eq_zero_of_lt h0 h1, Int.zero_add]
  · rw [Int.add_comm, Int.add_mul_emod_self_right, Int.emod_eq_of_lt h0 h1]
/-- So many times, and so many: what is left over. -/
theorem three (n a b : Int) (l : List Int) (h0 : 0 < l.length) (ha : 0 ≤ a ∧ a ≤ 549755813888) (hb : 0 ≤ b ∧ b ≤ 549755813888) :
    restOf n a l < l.length ∧ restOf n b l < l.length ∧ restOf n (a + b) l < l.length ∧
    (restOf n a l + restOf n b l < l.length → restOf n (a + b) l = restOf n a l + restOf n b l ∧ wholeOf n (a + b) l = wholeOf n a l + wholeOf n b l) ∧
    (l.length ≤ restOf n a l + restOf n b l → restOf n (a + b) l + l.length = restOf n a l + restOf n b l ∧ wholeOf n (a + b) l = wholeOf n a l + wholeOf n b l + 1) := by
  have ca : clampT a = a := by unfold clampT; rw [if_neg (by omega : ¬ a < 0), if_neg (by omega)]
  have cb : clampT b = b := by unfold clampT; rw [if_neg (by omega : ¬ b < 0), if_neg (by omega)]
  have cc : clampT (a + b) = a + b := by unfold clampT; rw [if_neg (by omega : ¬ a + b < 0), if_neg (by omega)]
  unfold restOf wholeOf
  rw [ca, cb, cc, Int.mul_add]
  have hp : (0 : Int) < (l.length : Int) := by omega
  generalize (heldN n l : Int) * a = A
  generalize (heldN n l : Int) * b = B
  have a1 := Int.emod_nonneg A (show (l.length : Int) ≠ 0 by omega)
  have a2 := Int.emod_lt_of_pos A hp
  have b1 := Int.emod_nonneg B (show (l.length : Int) ≠ 0 by omega)
  have b2 := Int.emod_lt_of_pos B hp
  have c1 := Int.emod_nonneg (A + B) (show (l.length : Int) ≠ 0 by omega)
  have c2 := Int.emod_lt_of_pos (A + B) hp
  have a3 := Int.emod_add_mul_ediv A (l.length : Int)
  have b3 := Int.emod_add_mul_ediv B (l.length : Int)
  rw [Int.mul_comm] at a3 b3
  generalize hL : (l.length : Int) = L at *
  generalize A % L = r1 at *
  generalize B % L = r2 at *
  generalize A / L = w1 at *
  generalize B / L = w2 at *
  refine ⟨by omega, by omega, by omega, fun h => ?_, fun h => ?_⟩
  · have h3 := div_of (X := A + B) (q := w1 + w2) (r := r1 + r2) (m := L) (by rw [Int.add_mul]; omega) (by omega) (by omega)
    rw [h3.1, h3.2]
    exact ⟨by omega, rfl⟩
  · have h3 := div_of (X := A + B) (q := w1 + w2 + 1) (r := r1 + r2 - L) (m := L) (by rw [Int.add_mul, Int.add_mul]; omega) (by omega) (by omega)
    rw [h3.1, h3.2]
    exact ⟨by omega, rfl⟩
theorem rot_rot {l : List Int} {j r1 r2 r3 : Nat} {z1 z2 z3 : Int} (hl : l.length = j) (h : r1 < l.length ∧ r2 < l.length ∧ r3 < l.length ∧ (r1 + r2 < l.length → r3 = r1 + r2 ∧ z3 = z1 + z2) ∧ (l.length ≤ r1 + r2 → r3 + l.length = r1 + r2 ∧ z3 = z1 + z2 + 1)) (hg : ∀ k, k < j → l.getD k 0 = 0 + (k : Int)) :
    (l.drop r1 ++ l.take r1).drop r2 ++ (l.drop r1 ++ l.take r1).take r2 = l.drop r3 ++ l.take r3 := by
  have ho : (l.drop r1 ++ l.take r1).length = j := by rw [List.length_append, List.length_drop, List.length_take]; omega
  have hq : (l.drop r3 ++ l.take r3).length = j := by rw [List.length_append, List.length_drop, List.length_take]; omega
  have hp : ((l.drop r1 ++ l.take r1).drop r2 ++ (l.drop r1 ++ l.take r1).take r2).length = j := by rw [List.length_append, List.length_drop, List.length_take]; omega
  rw [hl] at h
  refine list_eq (by rw [hp, hq]) (fun k hk => ?_)
  rw [hq] at hk
  have h3 : (r1 + r2 < j ∧ r3 = r1 + r2) ∨ (j ≤ r1 + r2 ∧ r3 + j = r1 + r2) := by
    rcases Nat.lt_or_ge (r1 + r2) j with h1 | h1
    · exact Or.inl ⟨h1, (h.2.2.2.1 h1).1⟩
    · exact Or.inr ⟨h1, (h.2.2.2.2 h1).1⟩
  rw [rot_get ho h.2.1 hk, rot_get hl h.2.2.1 hk]
  by_cases a1 : k + r2 < j
  · rw [if_pos a1, rot_get hl h.1 a1]
    split <;> split <;> rw [hg _ (by omega), hg _ (by omega)] <;> omega
  · rw [if_neg a1, rot_get hl h.1 (by omega)]
    split <;> split <;> rw [hg _ (by omega), hg _ (by omega)] <;> omega
def RelA (w : World) (m : Nat) (x y i : Value) (wr : World) : Prop :=
  ∃ (j : Nat) (c : Nat → Nat), j ≤ m ∧ i = .int .i64 (j : Int) ∧ robin.M wr w.heap.size (fun k => c k = 0) (60, seqI 0 j) x ∧ robin.M wr w.heap.size (fun k => c k = 1) (60, seqI 0 j) y ∧ Below w.heap.size w wr
def RelI (P : World → Prop) (m : Nat) (i : Value) (wr : World) : Prop := P wr ∧ ∃ j : Nat, j ≤ m ∧ i = .int .i64 (j : Int)
def kv (pos i : Nat) : Int := if pos < i then (pos : Int) else -1
theorem kv_t {pos i : Nat} (h : pos < i) : kv pos i = (pos : Int) := if_pos h
theorem kv_same {pos i : Nat} (h : ¬ i = pos) : kv pos (i + 1) = kv pos i := by
  unfold kv
  by_cases c : pos < i
  · rw [if_pos c, if_pos (by omega)]
  · rw [if_neg c, if_neg (by omega)]
def RelJ (w5 : World) (m pos : Nat) (j k : Value) (wr : World) : Prop := wr = w5 ∧ ∃ i : Nat, i ≤ m ∧ j = .int .i64 (i : Int) ∧ k = .int .i64 (kv pos i)
set_option maxHeartbeats 4000000 in
set_option maxRecDepth 100000 in
theorem many_walk (m1 : Int) (_ : (Lit.int .i64 m1).wf = true) (n : Int) (_ : (Lit.int .i64 n).wf = true) (a : Int) (_ : (Lit.int .i64 a).wf = true) (b : Int) (_ : (Lit.int .i64 b).wf = true) (w : World) :
    Calls Try.prog 4 #[.int .i64 m1, .int .i64 n, .int .i64 a, .int .i64 b] w fun e w' => e = .returned (.bool true) ∧ Below w.heap.size w w' := by
  by_cases q0 : m1 < 1
  · have p0 : decide (m1 < 1) = true := decide_eq_true q0
    clear q0
    go_enter Try.func4, Try.ntmps4
    go_wp2_with (first | (go_at_call 7; (with_reducible refine (awake_calls _).mono ?_); rintro e w1 ⟨rfl, hb1⟩; have HB1 := Aside0.mk hb1; clear hb1))
    go_ret
    exact ⟨rfl, HB1.out⟩
  by_cases q1 : 50 < m1
  · have p0 : decide (m1 < 1) = false := decide_eq_false q0
    have p1 : decide (50 < m1) = true := decide_eq_true q1
    clear q0 q1
    go_enter Try.func4, Try.ntmps4
    go_wp2_with (first | (go_at_call 7; (with_reducible refine (awake_calls _).mono ?_); rintro e w1 ⟨rfl, hb1⟩; have HB1 := Aside0.mk hb1; clear hb1))
    go_ret
    exact ⟨rfl, HB1.out⟩
  by_cases q2 : a < 0
  · have p0 : decide (m1 < 1) = false := decide_eq_false q0
    have p1 : decide (50 < m1) = false := decide_eq_false q1
    have p2 : decide (a < 0) = true := decide_eq_true q2
    clear q0 q1 q2
    go_enter Try.func4, Try.ntmps4
    go_wp2_with (first | (go_at_call 7; (with_reducible refine (awake_calls _).mono ?_); rintro e w1 ⟨rfl, hb1⟩; have HB1 := Aside0.mk hb1; clear hb1))
    go_ret
    exact ⟨rfl, HB1.out⟩
  by_cases q3 : b < 0
  · have p0 : decide (m1 < 1) = false := decide_eq_false q0
    have p1 : decide (50 < m1) = false := decide_eq_false q1
    have p2 : decide (a < 0) = false := decide_eq_false q2
    have p3 : decide (b < 0) = true := decide_eq_true q3
    clear q0 q1 q2 q3
    go_enter Try.func4, Try.ntmps4
    go_wp2_with (first | (go_at_call 7; (with_reducible refine (awake_calls _).mono ?_); rintro e w1 ⟨rfl, hb1⟩; have HB1 := Aside0.mk hb1; clear hb1))
    go_ret
    exact ⟨rfl, HB1.out⟩
  by_cases q4 : 549755813888 < a
  · have p0 : decide (m1 < 1) = false := decide_eq_false q0
    have p1 : decide (50 < m1) = false := decide_eq_false q1
    have p2 : decide (a < 0) = false := decide_eq_false q2
    have p3 : decide (b < 0) = false := decide_eq_false q3
    have p4 : decide (549755813888 < a) = true := decide_eq_true q4
    clear q0 q1 q2 q3 q4
    go_enter Try.func4, Try.ntmps4
    go_wp2_with (first | (go_at_call 7; (with_reducible refine (awake_calls _).mono ?_); rintro e w1 ⟨rfl, hb1⟩; have HB1 := Aside0.mk hb1; clear hb1))
    go_ret
    exact ⟨rfl, HB1.out⟩
  by_cases q5 : 549755813888 < b
  · have p0 : decide (m1 < 1) = false := decide_eq_false q0
    have p1 : decide (50 < m1) = false := decide_eq_false q1
    have p2 : decide (a < 0) = false := decide_eq_false q2
    have p3 : decide (b < 0) = false := decide_eq_false q3
    have p4 : decide (549755813888 < a) = false := decide_eq_false q4
    have p5 : decide (549755813888 < b) = true := decide_eq_true q5
    clear q0 q1 q2 q3 q4 q5
    go_enter Try.func4, Try.ntmps4
    go_wp2_with (first | (go_at_call 7; (with_reducible refine (awake_calls _).mono ?_); rintro e w1 ⟨rfl, hb1⟩; have HB1 := Aside0.mk hb1; clear hb1))
    go_ret
    exact ⟨rfl, HB1.out⟩
  obtain ⟨m, rfl⟩ : ∃ m : Nat, m1 = (m : Int) := ⟨m1.toNat, by omega⟩
  have hm1 : 1 ≤ m := by omega
  have hm2 : m ≤ 50 := by omega
  have p0 : decide ((m : Int) < 1) = false := decide_eq_false q0
  have p1 : decide (50 < (m : Int)) = false := decide_eq_false q1
  have p2 : decide (a < 0) = false := decide_eq_false q2
  have p3 : decide (b < 0) = false := decide_eq_false q3
  have p4 : decide (549755813888 < a) = false := decide_eq_false q4
  have p5 : decide (549755813888 < b) = false := decide_eq_false q5
  have hab : (0 ≤ a ∧ a ≤ 549755813888) ∧ (0 ≤ b ∧ b ≤ 549755813888) := by omega
  have HAB := Aside0.mk hab
  have hsum : wrap64 (a + b) = a + b := by unfold wrap64; omega
  clear q0 q1 q2 q3 q4 q5 hab
  go_enter Try.func4, Try.ntmps4
  go_wp2_with (first | (go_at_call 7; (with_reducible refine (awake_calls _).mono ?_); rintro e w1 ⟨rfl, hb1⟩; have HB1 := Aside0.mk hb1; clear hb1) | (go_at_call 8; (with_reducible refine (newC (w0 := w) (fun _ => 99) 0 60 HB1.out).mono ?_); rintro e w2 ⟨g2, rfl, c2, h2, t2⟩; have H2 := Aside0.mk (show robin.M w2 w.heap.size (fun k => c2 k = 0) (60, []) (.pointer (some ⟨g2, 0, none⟩)) from h2); have HB2 := Aside0.mk (t2.far HB1.out); clear h2 t2) | (go_at_call 8; (with_reducible refine (newC (w0 := w) c2 1 60 HB2.out).mono ?_); rintro e w3 ⟨g3, rfl, c3, h3, t3⟩; have H3 := Aside0.mk (show robin.M w3 w.heap.size (fun k => c3 k = 1) (60, []) (.pointer (some ⟨g3, 0, none⟩)) from h3); have HX3 := Aside0.mk (t3.keep _ robin 0 _ _ (by decide) H2.out); have HB3 := Aside0.mk (t3.far HB2.out); clear h3 t3))
  clear p0 p1 p2 p3 p4 p5
  generalize hvx : (Value.pointer (some ⟨g2, 0, none⟩)) = vx at HX3 ⊢
  generalize hvy : (Value.pointer (some ⟨g3, 0, none⟩)) = vy at H3 ⊢
  go_loopw [11] (fun i wr => RelA w m vx vy i wr) (fun i _ => m - (intOf i).toNat)
  case atStart => exact ⟨0, c3, Nat.zero_le _, rfl, HX3.out, H3.out, HB3.out⟩
  case round =>
    obtain ⟨j, c4, hj, rfl, hX, hY, hB⟩ := hrel
    clear H2 HB2 HB1 HX3 H3 HB3
    have HX := Aside0.mk hX
    have HY := Aside0.mk hY
    have HB := Aside0.mk hB
    clear hX hY hB
    by_cases hlt : j < m
    · have HT := Aside0.mk (show seqI 0 j ++ [(j : Int)] = seqI 0 (j + 1) by have h := seq_snoc j 0; rw [Int.zero_add] at h; exact h)
      go_wp2_with (first | (go_at_call 9; (with_reducible refine (toC HX.out (add_ok (j : Int) (St.mine (s := robin) HX.out) (by omega) (by rw [seq_mem]; omega) (by rw [seq_len]; omega))).mono ?_); rintro e w5 ⟨rfl, c5, h5, t5⟩; rw [HT.out] at h5; have HX5 := Aside0.mk h5; have HY5 := Aside0.mk (t5.keep _ robin 1 _ _ (by decide) HY.out); have HB5 := Aside0.mk (t5.far HB.out); clear h5 t5) | (go_at_call 9; (with_reducible refine (toC HY5.out (add_ok (j : Int) (St.mine (s := robin) HY5.out) (by omega) (by rw [seq_mem]; omega) (by rw [seq_len]; omega))).mono ?_); rintro e w6 ⟨rfl, c6, h6, t6⟩; rw [HT.out] at h6; have HY6 := Aside0.mk h6; have HX6 := Aside0.mk (t6.keep _ robin 0 _ _ (by decide) HX5.out); have HB6 := Aside0.mk (t6.far HB5.out); clear h6 t6))
      go_roundw
      case rel => exact ⟨j + 1, c6, by omega, by go_num, HX6.out, HY6.out, HB6.out⟩
      case measure => simp [intOf]; omega
    · have hje : j = m := by omega
      subst hje
      have hl : (seqI 0 j).length = j := seq_len j 0
      have h0 : 0 < (seqI 0 j).length := by omega
      have H3 := Aside0.mk (three n a b (seqI 0 j) h0 HAB.out.1 HAB.out.2)
      have HWA := Aside0.mk (whole_bd n a (seqI 0 j) h0)
      have HWB := Aside0.mk (whole_bd n b (seqI 0 j) h0)
      have HWC := Aside0.mk (whole_bd n (a + b) (seqI 0 j) h0)
      have HGET := Aside0.mk (fun k (hk : k < j) => seq_get j k 0 hk)
      have HLR := Aside0.mk (fun t => (rest_len n t (l := (seqI 0 j).drop (restOf n a (seqI 0 j)) ++ (seqI 0 j).take (restOf n a (seqI 0 j))) (l' := seqI 0 j) (by have := H3.out.1; rw [List.length_append, List.length_drop, List.length_take]; omega)))
      have HLN := Aside0.mk hl
      have HP := Aside0.mk h0
      clear h0 hl
      generalize hsq : seqI 0 j = l at *
      generalize hr1 : restOf n a l = r1 at *
      generalize hr2 : restOf n b l = r2 at *
      generalize hr3 : restOf n (a + b) l = r3 at *
      generalize hw1 : wholeOf n a l = z1 at *
      generalize hw2 : wholeOf n b l = z2 at *
      generalize hw3 : wholeOf n (a + b) l = z3 at *
      have HOL := Aside0.mk (show (l.drop r1 ++ l.take r1).length = j by have := H3.out.1; have := HLN.out; rw [List.length_append, List.length_drop, List.length_take]; omega)
      have HR2 := Aside0.mk (show restOf n b (l.drop r1 ++ l.take r1) = r2 from (HLR.out b).1.trans hr2)
      have HW2 := Aside0.mk (show wholeOf n b (l.drop r1 ++ l.take r1) = z2 from (HLR.out b).2.trans hw2)
      have HE1 := Aside0.mk (And.intro hr1 hw1)
      have HE3 := Aside0.mk (And.intro hr3 hw3)
      clear HLR hr1 hr2 hr3 hw1 hw2 hw3
      go_wp2_with (first | (go_at_call 10; (with_reducible refine (many_calls (p := 2) (q := 3) (r := 4) n a HX.out HB.out HP.out (by decide) (by decide) (by decide) (by decide) (by decide) (by decide)).mono ?_); rintro e w5 ⟨v1, v2, rfl, c5, xs1, hxl, hxc, hM, hO, hR, hT⟩; rw [HE1.out.1] at hxc hM hR; rw [HE1.out.2] at hxc; obtain ⟨g5, k5, hv5, _⟩ := Kd.R_form hO (by rw [hxl]; exact HP.out); subst hv5; obtain ⟨A5, m5, rfl⟩ := Kd.R_slice hR; rw [HOL.out] at hR; rw [hxl, HLN.out] at hO; rw [HLN.out] at hxc; have HL1 := Aside0.mk (hxl.trans HLN.out); have HC1 := Aside0.mk hxc; have HX5 := Aside0.mk hM; have HO5 := Aside0.mk hO; have HR5 := Aside0.mk hR; have HY5 := Aside0.mk (hT.keep _ robin 1 _ _ (by decide) HY.out); have HB5 := Aside0.mk (hT.far HB.out); rw [HOL.out, hxl, HLN.out]; clear hxl hxc hM hO hR hT) | (go_at_call 10; (with_reducible refine (many_calls (p := 5) (q := 6) (r := 7) n b HX5.out HB5.out (by rw [HOL.out]; exact Nat.lt_of_lt_of_le Nat.zero_lt_one hm1) (by decide) (by decide) (by decide) (by decide) (by decide) (by decide)).mono ?_); rintro e w6 ⟨v1, v2, rfl, c6, xs2, hxl, hxc, hM, hO, hR, hT⟩; rw [HR2.out] at hxc hM hR; rw [HW2.out] at hxc; obtain ⟨g6, k6, hv6, _⟩ := Kd.R_form hO (by rw [hxl, HOL.out]; exact Nat.lt_of_lt_of_le Nat.zero_lt_one hm1); subst hv6; obtain ⟨A6, m6, rfl⟩ := Kd.R_slice hR; have hpl : ((l.drop r1 ++ l.take r1).drop r2 ++ (l.drop r1 ++ l.take r1).take r2).length = j := (by have := H3.out.2.1; have := HOL.out; have := HLN.out; rw [List.length_append, List.length_drop, List.length_take]; omega); rw [hpl] at hR; rw [hxl, HOL.out] at hO; rw [HOL.out] at hxc; have HPL := Aside0.mk hpl; have HL2 := Aside0.mk (hxl.trans HOL.out); have HC2 := Aside0.mk hxc; have HO6 := Aside0.mk hO; have HR6 := Aside0.mk hR; have HY6 := Aside0.mk (hT.keep _ robin 1 _ _ (by decide) HY5.out); have HA6 := Aside0.mk (hT.keep _ (row 2 (Kd.int .i64)) 3 _ _ (by decide) HO5.out); have HD6 := Aside0.mk (hT.keep _ (row 3 (Kd.int .i64)) 4 _ _ (by decide) HR5.out); have HB6 := Aside0.mk (hT.far HB5.out); rw [hpl, hxl, HOL.out]; clear hxl hxc hM hO hR hT hpl) | (go_at_call 10; (with_reducible refine (many_calls (p := 8) (q := 9) (r := 10) n (a + b) HY6.out HB6.out HP.out (by decide) (by decide) (by decide) (by decide) (by decide) (by decide)).mono ?_); rintro e w7 ⟨v1, v2, rfl, c7, xs3, hxl, hxc, hM, hO, hR, hT⟩; rw [HE3.out.1] at hxc hM hR; rw [HE3.out.2] at hxc; obtain ⟨g7, k7, hv7, _⟩ := Kd.R_form hO (by rw [hxl]; exact HP.out); subst hv7; obtain ⟨A7, m7, rfl⟩ := Kd.R_slice hR; have hql : (l.drop r3 ++ l.take r3).length = j := (by have := H3.out.2.2.1; have := HLN.out; rw [List.length_append, List.length_drop, List.length_take]; omega); rw [hql] at hR; rw [hxl, HLN.out] at hO; rw [HLN.out] at hxc; have HQL := Aside0.mk hql; have HL3 := Aside0.mk (hxl.trans HLN.out); have HC3 := Aside0.mk hxc; have HO7 := Aside0.mk hO; have HR7 := Aside0.mk (Kd.R_reads' hR); have HA7 := Aside0.mk (hT.keep _ (row 2 (Kd.int .i64)) 3 _ _ (by decide) HA6.out); have HD7 := Aside0.mk (hT.keep _ (row 3 (Kd.int .i64)) 4 _ _ (by decide) HD6.out); have HE7 := Aside0.mk (hT.keep _ (row 2 (Kd.int .i64)) 6 _ _ (by decide) HO6.out); have HF7 := Aside0.mk (Kd.R_reads' (show (Kd.int .i64).R 3 w7 w.heap.size _ (.slice A6 j m6) _ from hT.keep _ (row 3 (Kd.int .i64)) 7 _ _ (by decide) HR6.out)); have HB7 := Aside0.mk (hT.far HB6.out); rw [hql, hxl, HLN.out]; have HPQ := Aside0.mk (rot_rot HLN.out H3.out HGET.out); have HII := Aside0.mk (show beadlelaw17_ints.f (j + 1) ((l.drop r1 ++ l.take r1).drop r2 ++ (l.drop r1 ++ l.take r1).take r2) (l.drop r3 ++ l.take r3) = some true from by rw [rot_rot HLN.out H3.out HGET.out]; have h := ints_f (l.drop r3 ++ l.take r3) (l.drop r3 ++ l.take r3) (by rw [hql]; omega) (by rw [hql]; omega); rw [hql, decide_eq_true rfl] at h; exact h); clear hxl hxc hM hO hR hT hql) | (go_at_call 11; (with_reducible refine (show Calls Try.prog 11 #[.slice A6 j m6, .slice A7 j m7] w7 _ from (by have h := beadlelaw17_ints.calls (j + 1) A6 m6 _ A7 m7 _ true w7 HF7.out.2.2 (by rw [HPL.out]; exact HF7.out.2.1) HR7.out.2.2 (by rw [HQL.out]; exact HR7.out.2.1) HII.out; rw [HPL.out, HQL.out] at h; exact h)).mono ?_); rintro e w8 ⟨rfl, ⟨nd8, hw8⟩⟩; have HA8 := Aside0.mk (show (row 2 (Kd.int .i64)).M w8 w.heap.size (fun k => c7 k = 3) xs1 (.slice (some ⟨g5, 0, none⟩) j k5) from by rw [hw8]; exact St.drewN (s := row 2 (Kd.int .i64)) HA7.out nd8); have HD8 := Aside0.mk (show (row 3 (Kd.int .i64)).M w8 w.heap.size (fun k => c7 k = 4) (l.drop r1 ++ l.take r1) (.slice A5 j m5) from by rw [hw8]; exact St.drewN (s := row 3 (Kd.int .i64)) HD7.out nd8); have HE8 := Aside0.mk (show (row 2 (Kd.int .i64)).M w8 w.heap.size (fun k => c7 k = 6) xs2 (.slice (some ⟨g6, 0, none⟩) j k6) from by rw [hw8]; exact St.drewN (s := row 2 (Kd.int .i64)) HE7.out nd8); have HO8 := Aside0.mk (show (row 2 (Kd.int .i64)).M w8 w.heap.size (fun k => c7 k = 9) xs3 (.slice (some ⟨g7, 0, none⟩) j k7) from by rw [hw8]; exact St.drewN (s := row 2 (Kd.int .i64)) HO7.out nd8); have HB8 := Aside0.mk (show Below w.heap.size w w8 from by rw [hw8]; exact pw_below_drewN HB7.out nd8); clear hw8))
      go_loopw [18] (fun i wr => RelI (fun W => (row 2 (Kd.int .i64)).M W w.heap.size (fun k => c7 k = 3) xs1 (.slice (some ⟨g5, 0, none⟩) j k5) ∧ (row 3 (Kd.int .i64)).M W w.heap.size (fun k => c7 k = 4) (l.drop r1 ++ l.take r1) (.slice A5 j m5) ∧ (row 2 (Kd.int .i64)).M W w.heap.size (fun k => c7 k = 6) xs2 (.slice (some ⟨g6, 0, none⟩) j k6) ∧ (row 2 (Kd.int .i64)).M W w.heap.size (fun k => c7 k = 9) xs3 (.slice (some ⟨g7, 0, none⟩) j k7) ∧ Below w.heap.size w W) j i wr) (fun i _ => j - (intOf i).toNat)
      case atStart => exact ⟨⟨HA8.out, HD8.out, HE8.out, HO8.out, HB8.out⟩, 0, Nat.zero_le _, rfl⟩
      case round =>
        clear HA8 HD8 HE8 HO8 HB8
        obtain ⟨⟨hA, hD, hE, hO, hB⟩, i, hi, rfl⟩ := hrel
        have HA8 := Aside0.mk hA
        have HD8 := Aside0.mk hD
        have HE8 := Aside0.mk hE
        have HO8 := Aside0.mk hO
        have HB8 := Aside0.mk hB
        clear hA hD hE hO hB
        by_cases hil : i < j
        · obtain ⟨pos, hpos⟩ : ∃ pos : Nat, pos = if r1 ≤ i then i - r1 else i + j - r1 := ⟨_, rfl⟩
          have hr1 := H3.out.1
          have hln := HLN.out
          have hpj : pos < j := by rw [hpos]; split <;> omega
          have HG := Aside0.mk (show ∀ k, k < j → ((l.drop r1 ++ l.take r1).getD k 0 = (i : Int) ↔ k = pos) from fun k hk => by
            rw [rot_get hln (by omega) hk]
            by_cases hkr : k + r1 < j
            · rw [if_pos hkr, HGET.out _ (by omega), hpos]
              split <;> omega
            · rw [if_neg hkr, HGET.out _ (by omega), hpos]
              split <;> omega)
          have HC := Aside0.mk (show xs1.getD i 0 + xs2.getD pos 0 = xs3.getD i 0 ∧ 0 ≤ xs1.getD i 0 ∧ xs1.getD i 0 ≤ 1099511627777 ∧ 0 ≤ xs2.getD pos 0 ∧ xs2.getD pos 0 ≤ 1099511627777 from by
            rw [HC1.out i hil, HC2.out pos hpj, HC3.out i hil, hpos]
            have h3 := H3.out
            have ha := HWA.out
            have hb := HWB.out
            rw [hln] at h3
            rcases Nat.lt_or_ge (r1 + r2) j with hlt2 | hge2
            · have h4 := h3.2.2.2.1 hlt2
              rw [h4.1, h4.2]
              split <;> split <;> split <;> split <;> omega
            · have h4 := h3.2.2.2.2 hge2
              rw [h4.2]
              split <;> split <;> split <;> split <;> omega)
          clear hpos hr1 hln
          go_wp2
          go_loopw [20, 19] (fun jv kw wz => RelJ wr j pos jv kw wz) (fun jv _ _ => j - (intOf jv).toNat)
          case atStart => exact ⟨rfl, 0, Nat.zero_le _, rfl, rfl⟩
          case round =>
            obtain ⟨rfl, i2, hi2, rfl, rfl⟩ := hrel
            by_cases hl2 : i2 < j
            · obtain ⟨ad, hAd, hcell⟩ := Mine.read_at (Kd.R_reads' (show (Kd.int .i64).R 3 wr w.heap.size (fun k => c7 k = 4) (.slice A5 j m5) (l.drop r1 ++ l.take r1) from HD8.out)).2.2 (j := i2) (by rw [HOL.out]; exact hl2)
              subst hAd
              have hgy := HG.out i2 hl2
              generalize (l.drop r1 ++ l.take r1).getD i2 0 = y at hcell hgy
              by_cases hy : i2 = pos
              · have e1 : (y == (i : Int)) = true := beq_iff_eq.mpr (hgy.2 hy)
                have HK := Aside0.mk (show kv pos (i2 + 1) = (i2 : Int) by rw [kv_t (by omega), hy])
                clear hgy hy
                go_wp2
                exact ⟨⟨rfl, i2 + 1, by omega, by go_num, by rw [HK.out]⟩, by simp [intOf]; omega⟩
              · have e1 : (y == (i : Int)) = false := beq_eq_false_iff_ne.mpr (fun e => hy (hgy.1 e))
                have HK := Aside0.mk (kv_same hy)
                clear hgy hy
                go_wp2
                exact ⟨⟨rfl, i2 + 1, by omega, by go_num, by rw [HK.out]⟩, by simp [intOf]; omega⟩
            · have h2e : i2 = j := by omega
              subst h2e
              rw [kv_t hpj]
              obtain ⟨hc, h1a, h1b, h2a, h2b⟩ := HC.out
              have cA := (Mine.row_get HA8.out (j := i) hil).1
              have cE := (Mine.row_get HE8.out (j := pos) hpj).1
              have cO := (Mine.row_get HO8.out (j := i) hil).1
              rw [← hc] at cO
              generalize xs1.getD i 0 = x1 at cA cO h1a h1b
              generalize xs2.getD pos 0 = x2 at cE cO h2a h2b
              clear hc
              have f1 : decide ((pos : Int) < 0) = false := decide_eq_false (by omega)
              have f2 : ((x1 + x2) != (x1 + x2)) = false := by simp
              have f3 : (wrap64 (x1 + x2) != (x1 + x2)) = false := by rw [show wrap64 (x1 + x2) = x1 + x2 by unfold wrap64; omega]; simp
              have b1 : (i : Int) < (i2 : Int) := by omega
              have b2 : (pos : Int) < (i2 : Int) := by omega
              go_wp2
              go_quiet (fail)
              go_wp2
              exact ⟨⟨⟨St.drewN (s := row 2 (Kd.int .i64)) HA8.out _, St.drewN (s := row 3 (Kd.int .i64)) HD8.out _, St.drewN (s := row 2 (Kd.int .i64)) HE8.out _, St.drewN (s := row 2 (Kd.int .i64)) HO8.out _, pw_below_drewN HB8.out _⟩, i + 1, by omega, by go_num⟩, by simp [intOf]; omega⟩
        · go_wp2
          go_ret
          exact ⟨rfl, HB8.out⟩
end Go.Proofs.Ytmjmfkbdnhdafaa.Robin
