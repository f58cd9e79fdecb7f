/- slices.Grow and slices.Concat of two rows of numbers (no law is stated here; each says its conditions). -/
import Derived.Test.YtmjmfkbdnhdafaaFifo5
namespace Go.Proofs.Ytmjmfkbdnhdafaa.Robin
open Go.RowKit Go.Proofs.YtmjmfkbdnhdafaaW.PrintWords Go.Proofs.YtmjmfkbdnhdafaaW.PrintLast Go.Proofs.YtmjmfkbdnhdafaaW.PrintMore Go.Proofs.Ytmjmfkbdnhdafaa.St Go.Proofs.Ytmjmfkbdnhdafaa.Q Go.Proofs.Ytmjmfkbdnhdafaa.Fifo
set_option linter.unusedVariables false
set_option linter.unusedSimpArgs false
attribute [local go_sem] max2_int min2_int max_two min_two max_three min_three max_four min_four



set_option maxHeartbeats 1000000 in
set_option maxRecDepth 100000 in
theorem grow_calls {w : World} (n : Nat) (h0 : 0 < n) (h1 : n ≤ 1000) :
    Calls Try.prog 27 #[.slice none 0 0, .int .i64 (n : Int)] w fun e w' => ∃ v1, e = .returned v1 ∧ (Kd.int .i64).R 3 w' w.heap.size (fun k => w.heap.size ≤ k) v1 [] ∧ Below w.heap.size w w' := by
  have d1 : decide ((n : Int) < 0) = false := decide_eq_false (by omega)
  have d2 : decide (0 < (n : Int)) = true := decide_eq_true (by omega)
  go_enter Try.func27, Try.ntmps27
  go_wp2_with (first | ((with_reducible refine gate_builtin (b := .append) (xs := #[.tmp 20, .tmp 21]) rfl ?_); at_builtin; refine Kd.R_append_zeros (Kd.int .i64) (w0 := w) w.heap.size rfl (.tmp 20) (.tmp 21) 28 3 3 (.int .i64 0) 8 rfl Try.underlying28 (k := .i64) Try.underlying3 info_int rfl (by decide) (by decide) (.slice none 0 0) [] 0 (n : Int) (fun k => w.heap.size ≤ k) rfl rfl ?hz (fun k hk => hk) (Kd.R_nil _ _ _ _ _) (by omega) (Below.refl _ _) (Nat.le_refl _) (by simp; omega) ?_; (case hz => rfl); intro v1 w1 hO hB hG hat; obtain ⟨A1, c1, rfl⟩ := Kd.R_slice hO; have HO := Aside0.mk (Kd.R_take hO (Nat.zero_le _)); have HB := Aside0.mk hB; clear hO hB hG hat))
  go_ret
  exact ⟨_, rfl, HO.out, HB.out⟩

/-- Two rows, one behind the other. -/
def RelC1 (n1 n2 : Nat) (w : World) (i sz : Value) (wr : World) : Prop :=
  wr = w ∧ ((i = .int .i64 0 ∧ sz = .int .i64 0) ∨ (i = .int .i64 1 ∧ sz = .int .i64 (n1 : Int)) ∨ (i = .int .i64 2 ∧ sz = .int .i64 ((n1 : Int) + n2)))
def RelC2 (l1 l2 : List Int) (w : World) (i v : Value) (wr : World) : Prop :=
  ∃ j : Nat, j ≤ 2 ∧ i = .int .i64 (j : Int) ∧ (Kd.int .i64).R 3 wr w.heap.size (fun k => w.heap.size ≤ k) v (if j = 0 then [] else if j = 1 then l1 else l1 ++ l2) ∧ Below w.heap.size w wr
set_option maxHeartbeats 1000000 in
set_option maxRecDepth 100000 in
theorem concat_calls {w : World} {gp t n1 n2 c1 c2 : Nat} {A1 A2 : Option Addr} (l1 l2 : List Int) (hb : w.heap[gp]? = some (.cells #[.slice A1 n1 c1, .slice A2 n2 c2] t (0, 0))) (e1 : n1 = l1.length) (e2 : n2 = l2.length)
    (h1 : (Kd.int .i64).C w A1 l1.length l1) (h2 : (Kd.int .i64).C w A2 l2.length l2) (hn : 0 < l1.length + l2.length) (hm : l1.length + l2.length ≤ 1000) :
    Calls Try.prog 21 #[.slice (some ⟨gp, 0, none⟩) 2 2] w fun e w' => ∃ v1, e = .returned v1 ∧ (Kd.int .i64).R 3 w' w.heap.size (fun k => w.heap.size ≤ k) v1 (l1 ++ l2) ∧ Below w.heap.size w w' := by
  subst e1 e2
  have H1 := Aside0.mk h1
  have H2 := Aside0.mk h2
  have HBK := Aside0.mk hb
  have k0 : w.cell? ⟨gp, 0, none⟩ = some (.slice A1 l1.length c1) := blk_cell hb 0
  have k1 : w.cell? ⟨gp, 1, none⟩ = some (.slice A2 l2.length c2) := blk_cell hb 1
  clear h1 h2 hb
  go_enter Try.func21, Try.ntmps21
  go_wp2
  go_loopw [11, 3] (fun i sz wr => RelC1 l1.length l2.length w i sz wr) (fun i _ _ => 2 - (intOf i).toNat)
  case atStart => exact ⟨rfl, Or.inl ⟨rfl, rfl⟩⟩
  case round =>
    obtain ⟨rfl, h⟩ := hrel
    rcases h with ⟨rfl, rfl⟩ | ⟨rfl, rfl⟩ | ⟨rfl, rfl⟩
    · have d1 : decide ((l1.length : Int) < 0) = false := decide_eq_false (by omega)
      go_wp2
      exact ⟨⟨rfl, Or.inr (Or.inl ⟨by go_num, by go_num⟩)⟩, by simp [intOf]⟩
    · have d1 : decide ((l1.length : Int) + (l2.length : Int) < 0) = false := decide_eq_false (by omega)
      go_wp2
      exact ⟨⟨rfl, Or.inr (Or.inr ⟨by go_num, by go_num⟩)⟩, by simp [intOf]⟩
    · go_wp2_with (first | (go_at_call 27; (with_reducible refine (show Calls Try.prog 27 #[.slice none 0 0, .int .i64 ((l1.length : Int) + (l2.length : Int))] _ _ from by have h := @grow_calls wr (l1.length + l2.length) hn hm; rw [show (((l1.length + l2.length : Nat)) : Int) = (l1.length : Int) + (l2.length : Int) by omega] at h; exact h).mono ?_); rintro e w3 ⟨v3, rfl, hO, hb3⟩; have HO := Aside0.mk hO; have HB := Aside0.mk hb3; clear hO hb3))
      clear k0 k1
      obtain ⟨w, hw⟩ : ∃ w : World, w = wr := ⟨_, rfl⟩
      subst hw
      go_loopw [27, 6] (fun i v wr => RelC2 l1 l2 w i v wr) (fun i _ _ => 2 - (intOf i).toNat)
      case atStart => exact ⟨0, by decide, rfl, HO.out, HB.out⟩
      case round =>
        obtain ⟨j, hj, rfl, hO2, hB2⟩ := hrel
        clear HO HB
        have HB := Aside0.mk hB2
        have k0 : wr.cell? ⟨gp, 0, none⟩ = some (.slice A1 l1.length c1) := blk_cell (blk_below HBK.out hB2) 0
        have k1 : wr.cell? ⟨gp, 1, none⟩ = some (.slice A2 l2.length c2) := blk_cell (blk_below HBK.out hB2) 1
        have hj3 : j = 0 ∨ j = 1 ∨ j = 2 := by omega
        rcases hj3 with rfl | rfl | rfl
        · have HO := Aside0.mk (show (Kd.int .i64).R 3 wr w.heap.size (fun k => w.heap.size ≤ k) _ [] from hO2)
          clear hO2 hB2
          go_wp2_with (first | ((with_reducible refine gate_builtin (b := .append) (xs := #[.tmp 31, .tmp 32]) rfl ?_); at_builtin; refine Kd.R_append_row (Value.int .i64) (0 : Int) (h1 := fun _ => rfl) (w0 := w) w.heap.size rfl (.tmp 31) (.tmp 32) 28 3 (.int .i64 0) 8 rfl Try.underlying28 info_int rfl (by decide) _ [] l1 A1 l1.length c1 (fun k => w.heap.size ≤ k) rfl rfl (fun k hk => Nat.le_trans HB.out.size hk) HO.out (Kd.C_below H1.out HB.out) HB.out HB.out.size (by simp; omega) ?_; intro v4 w4 hO4 hB4 hG4 hat4; have HO4 := Aside0.mk hO4; have HB4 := Aside0.mk hB4; clear hO4 hB4 hG4 hat4))
          exact ⟨⟨1, by decide, by go_num, HO4.out, HB4.out⟩, by simp [intOf]⟩
        · have HO := Aside0.mk (show (Kd.int .i64).R 3 wr w.heap.size (fun k => w.heap.size ≤ k) _ l1 from hO2)
          clear hO2 hB2
          go_wp2_with (first | ((with_reducible refine gate_builtin (b := .append) (xs := #[.tmp 31, .tmp 32]) rfl ?_); at_builtin; refine Kd.R_append_row (Value.int .i64) (0 : Int) (h1 := fun _ => rfl) (w0 := w) w.heap.size rfl (.tmp 31) (.tmp 32) 28 3 (.int .i64 0) 8 rfl Try.underlying28 info_int rfl (by decide) _ l1 l2 A2 l2.length c2 (fun k => w.heap.size ≤ k) rfl rfl (fun k hk => Nat.le_trans HB.out.size hk) HO.out (Kd.C_below H2.out HB.out) HB.out HB.out.size (by omega) ?_; intro v4 w4 hO4 hB4 hG4 hat4; have HO4 := Aside0.mk hO4; have HB4 := Aside0.mk hB4; clear hO4 hB4 hG4 hat4))
          exact ⟨⟨2, by decide, by go_num, HO4.out, HB4.out⟩, by simp [intOf]⟩
        · have HO := Aside0.mk (show (Kd.int .i64).R 3 wr w.heap.size (fun k => w.heap.size ≤ k) _ (l1 ++ l2) from hO2)
          clear hO2 hB2
          go_wp2
          go_ret
          exact ⟨_, rfl, HO.out, HB.out⟩
end Go.Proofs.Ytmjmfkbdnhdafaa.Robin
