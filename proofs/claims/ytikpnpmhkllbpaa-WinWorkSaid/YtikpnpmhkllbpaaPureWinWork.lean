/- The statement WinWork of the program, over numbers and lists alone: for every input (of the bounds that it names) the printed function of the law answers true. No further condition. -/
import Derived.Test.YtikpnpmhkllbpaaQx24
namespace Go.Proofs.Ytikpnpmhkllbpaa.Pure
open Go.RowKit Go.Proofs.Ytikpnpmhkllbpaa.Q Go.Proofs.YtikpnpmhkllbpaaW.PrintWords Go.Proofs.YtikpnpmhkllbpaaW.PrintLast Go.Proofs.YtikpnpmhkllbpaaW.PrintMore

set_option linter.unusedSimpArgs false
set_option linter.unusedVariables false

theorem wrap_id {n : Int} (h0 : -9223372036854775808 ≤ n) (h1 : n ≤ 9223372036854775807) : wrap64 n = n := by unfold wrap64; omega
theorem wf64 {a : Int} (h : (Lit.int .i64 a).wf = true) : -9223372036854775808 ≤ a ∧ a ≤ 9223372036854775807 := by
  simp only [Lit.wf, Bool.and_eq_true, decide_eq_true_eq] at h; exact h

theorem good_t {a : Int} (h0 : 0 ≤ a) (h1 : a ≤ 4611686018427387904) : tick_Good.f a = some true := by
  unfold tick_Good.f; rw [if_pos h0, decide_eq_true h1]
theorem good_n {a : Int} (h : ¬ (0 ≤ a ∧ a ≤ 4611686018427387904)) : tick_Good.f a = some false := by
  unfold tick_Good.f
  by_cases h0 : a ≥ 0
  · rw [if_pos h0, decide_eq_false (by omega)]
  · rw [if_neg h0]
theorem in_t {a b c : Int} (h0 : b ≤ a) (h1 : a ≤ c) : tick_in.f a b c = some true := by
  unfold tick_in.f; rw [if_pos h0, decide_eq_true h1]
theorem in_n {a b c : Int} (h : ¬ (b ≤ a ∧ a ≤ c)) : tick_in.f a b c = some false := by
  unfold tick_in.f
  by_cases h0 : a ≥ b
  · rw [if_pos h0, decide_eq_false (by omega)]
  · rw [if_neg h0]

/-- What Windows answers, in plain numbers. -/
def winv (x p : Int) : Int × Bool := if (0 ≤ x ∧ x ≤ 4611686018427387904) ∧ (1 ≤ p ∧ p ≤ 2147483648) then (x / p, true) else (0, false)
theorem winv_t {x p : Int} (h : (0 ≤ x ∧ x ≤ 4611686018427387904) ∧ (1 ≤ p ∧ p ≤ 2147483648)) : winv x p = (x / p, true) := if_pos h
theorem winv_n {x p : Int} (h : ¬ ((0 ≤ x ∧ x ≤ 4611686018427387904) ∧ (1 ≤ p ∧ p ≤ 2147483648))) : winv x p = (0, false) := if_neg h
theorem win_f (x p : Int) : tick_Windows.f x p = some (winv x p) := by
  unfold tick_Windows.f winv
  by_cases hx : 0 ≤ x ∧ x ≤ 4611686018427387904
  · rw [good_t hx.1 hx.2]; simp only [Option.bind_some, if_true]
    by_cases hp : 1 ≤ p ∧ p ≤ 2147483648
    · rw [in_t hp.1 hp.2]; simp only [Option.bind_some, if_true]
      rw [if_pos (show (0 ≤ x ∧ x ≤ 4611686018427387904) ∧ (1 ≤ p ∧ p ≤ 2147483648) from ⟨hx, hp⟩)]
      have h1 : 0 ≤ x / p := Int.ediv_nonneg (by omega) (by omega)
      have h2 : x / p ≤ x := Int.ediv_le_self _ (by omega)
      rw [if_neg (by omega), Int.tdiv_eq_ediv_of_nonneg (by omega), wrap_id (by omega) (by omega)]
    · rw [in_n hp]; simp only [Option.bind_some, Bool.false_eq_true, if_false]; rw [if_neg (by omega)]
  · rw [good_n hx]; simp only [Option.bind_some, Bool.false_eq_true, if_false]; rw [if_neg (by omega)]

/-- A pair that may be. -/
def okv (q p : Int) : Prop := (1 ≤ p ∧ p ≤ 2147483648) ∧ 1 ≤ q ∧ q ≤ p
theorem wgood_t {q p : Int} (h : okv q p) : win_Good.f q p = some true := by
  obtain ⟨h1, h2⟩ := h
  unfold win_Good.f
  rw [if_pos (by omega), if_pos (by omega), if_pos (by omega), decide_eq_true h2.2]
theorem wgood_n {q p : Int} (h : ¬ okv q p) : win_Good.f q p = some false := by
  unfold okv at h
  unfold win_Good.f
  by_cases h1 : p ≥ 1
  · by_cases h2 : p ≤ 2147483648
    · by_cases h3 : q ≥ 1
      · rw [if_pos h1, if_pos h2, if_pos h3, decide_eq_false (by omega)]
      · rw [if_pos h1, if_pos h2, if_neg h3]
    · rw [if_pos h1, if_neg h2]
  · rw [if_neg h1]
/-- So many whole windows, and of the rest at most a budget. -/
def gv (q p r : Int) : Int := (r / p) * q + mn q (r - (r / p) * p)
def workv (q p n : Int) : Int := mn n (gv q p (n + p - q))
theorem mn_def (a b : Int) : mn a b = if b < a then b else a := rfl
theorem mn_le (a b : Int) : mn a b ≤ a ∧ mn a b ≤ b := by rw [mn_def]; split <;> omega
theorem mn_or (a b : Int) : mn a b = a ∨ mn a b = b := by rw [mn_def]; split <;> omega
theorem dv {w s p : Int} (h0 : 0 ≤ s) (h1 : s < p) : (w * p + s) / p = w := by
  rw [Int.add_comm, Int.add_mul_ediv_right _ _ (by omega), Int.ediv_eq_zero_of_lt h0 h1, Int.zero_add]
theorem gv_eq {q p w s : Int} (h0 : 0 ≤ s) (h1 : s < p) : gv q p (w * p + s) = w * q + mn q s := by
  unfold gv
  rw [dv h0 h1, show w * p + s - w * p = s by omega]
theorem split_r {r p : Int} (hp : 1 ≤ p) (hr : 0 ≤ r) : ∃ w s : Int, r = w * p + s ∧ 0 ≤ s ∧ s < p ∧ 0 ≤ w := by
  refine ⟨r / p, r % p, ?_, Int.emod_nonneg _ (by omega), Int.emod_lt_of_pos _ (by omega), Int.ediv_nonneg hr (by omega)⟩
  have h1 := Int.emod_add_mul_ediv r p
  have h2 : p * (r / p) = r / p * p := Int.mul_comm _ _
  omega
theorem gv_bd {q p r : Int} (hk : okv q p) (hr : 0 ≤ r) : 0 ≤ gv q p r ∧ gv q p r ≤ r := by
  obtain ⟨⟨h1, h2⟩, h3, h4⟩ := hk
  obtain ⟨w, s, rfl, s0, s1, w0⟩ := split_r h1 hr
  rw [gv_eq s0 s1]
  have a1 : 0 ≤ w * q := Int.mul_nonneg w0 (by omega)
  have a2 : w * q ≤ w * p := Int.mul_le_mul_of_nonneg_left h4 w0
  have a3 := mn_le q s
  have a4 := mn_or q s
  omega
theorem gv_next {q p r : Int} (hk : okv q p) (hr : 0 ≤ r) : gv q p r ≤ gv q p (r + 1) ∧ gv q p (r + 1) ≤ gv q p r + 1 := by
  obtain ⟨⟨h1, h2⟩, h3, h4⟩ := hk
  obtain ⟨w, s, rfl, s0, s1, w0⟩ := split_r h1 hr
  rw [gv_eq s0 s1]
  by_cases c : s + 1 < p
  · rw [show w * p + s + 1 = w * p + (s + 1) by omega, gv_eq (by omega) c]
    rw [mn_def, mn_def]
    split <;> split <;> omega
  · have e : w * p + s + 1 = (w + 1) * p + 0 := by rw [Int.add_mul]; omega
    rw [e, gv_eq (by omega) (by omega), Int.add_mul, mn_def, mn_def]
    split <;> split <;> omega
theorem gv_turn {q p r : Int} (hk : okv q p) (hr : 0 ≤ r) : gv q p (r + p) = gv q p r + q := by
  obtain ⟨⟨h1, h2⟩, h3, h4⟩ := hk
  obtain ⟨w, s, rfl, s0, s1, w0⟩ := split_r h1 hr
  have e : w * p + s + p = (w + 1) * p + s := by rw [Int.add_mul]; omega
  rw [gv_eq s0 s1, e, gv_eq s0 s1, Int.add_mul]
  omega
theorem work_t {q p n : Int} (hk : okv q p) (hn : 0 ≤ n ∧ n ≤ 2147483648) : win_Work.f q p n = some (workv q p n, true) := by
  unfold win_Work.f
  rw [wgood_t hk]; simp only [Option.bind_some, if_true]
  have hk' := hk
  obtain ⟨⟨h1, h2⟩, h3, h4⟩ := hk'
  rw [if_neg (by omega), if_neg (by omega), wrap_id (n := n + p) (by omega) (by omega), wrap_id (n := n + p - q) (by omega) (by omega), win_f, winv_t ⟨⟨by omega, by omega⟩, h1, h2⟩]
  simp only [Option.bind_some]
  obtain ⟨w, s, hr, s0, s1, w0⟩ := split_r (r := n + p - q) h1 (by omega)
  have e : (n + p - q) / p = w := by rw [hr]; exact dv s0 s1
  have a1 : 0 ≤ w * q := Int.mul_nonneg w0 (by omega)
  have a2 : w * q ≤ w * p := Int.mul_le_mul_of_nonneg_left h4 w0
  have a3 := mn_le q s
  have a4 := mn_or q s
  have es : n + p - q - w * p = s := by omega
  rw [e, wrap_id (n := w * q) (by omega) (by omega), wrap_id (n := w * p) (by omega) (by omega), es, wrap_id (n := s) (by omega) (by omega), wrap_id (n := w * q + mn q s) (by omega) (by omega)]
  unfold workv
  rw [hr, gv_eq s0 s1]
theorem work_n {q p n : Int} (h : ¬ (okv q p ∧ 0 ≤ n ∧ n ≤ 2147483648)) : win_Work.f q p n = some (0, false) := by
  unfold win_Work.f
  by_cases hk : okv q p
  · rw [wgood_t hk]; simp only [Option.bind_some, if_true]
    by_cases h1 : n < 0
    · rw [if_pos h1]
    · have : n > 2147483648 := by
        apply Classical.byContradiction
        intro hc
        exact h ⟨hk, by omega, by omega⟩
      rw [if_neg h1, if_pos this]
  · rw [wgood_n hk]; simp only [Option.bind_some, Bool.false_eq_true, if_false]
theorem work_bd {q p n : Int} (hk : okv q p) (hn : 0 ≤ n) : 0 ≤ workv q p n ∧ workv q p n ≤ n := by
  have hk' := hk
  obtain ⟨⟨h1, h2⟩, h3, h4⟩ := hk'
  have h := gv_bd hk (r := n + p - q) (by omega)
  unfold workv
  have a3 := mn_le n (gv q p (n + p - q))
  have a4 := mn_or n (gv q p (n + p - q))
  omega
theorem work_next {q p n : Int} (hk : okv q p) (hn : 0 ≤ n) : workv q p n ≤ workv q p (n + 1) ∧ workv q p (n + 1) ≤ workv q p n + 1 := by
  have hk' := hk
  obtain ⟨⟨h1, h2⟩, h3, h4⟩ := hk'
  have h := gv_next hk (r := n + p - q) (by omega)
  unfold workv
  rw [show n + 1 + p - q = n + p - q + 1 by omega, mn_def, mn_def]
  split <;> split <;> omega
theorem work_turn {q p n : Int} (hk : okv q p) (hn : 0 ≤ n) : workv q p (n + p) ≤ workv q p n + q + p ∧ (workv q p n = n ∨ workv q p (n + p) = workv q p n + q) := by
  have hk' := hk
  obtain ⟨⟨h1, h2⟩, h3, h4⟩ := hk'
  have h := gv_turn hk (r := n + p - q) (by omega)
  unfold workv
  rw [show n + p + p - q = n + p - q + p by omega, h, mn_def, mn_def]
  split <;> split <;> omega

theorem awake_f : beadlelaw13_awake.f 10 = some true := by decide +kernel
theorem awake_k {k : Nat} (h : 10 ≤ k) : beadlelaw13_awake.f k = some true := at_rounds (fun k => beadlelaw13_awake.mono k) h awake_f

theorem work_no {k : Nat} {a b c : Int} : beadlelaw13_WinWork.j0 (k + 1) a true b c = some true := by
  rw [beadlelaw13_WinWork.j0.eq_2, if_pos rfl]
theorem WinWork : ∀ (q p n : Int), ((Lit.int .i64 q).wf = true ∧ (Lit.int .i64 p).wf = true) → (Lit.int .i64 n).wf = true → ∃ k, beadlelaw13_WinWork.f k q p n = some true := by
  intro q p n _ _
  refine ⟨10, ?_⟩
  unfold beadlelaw13_WinWork.f
  rw [awake_f]; simp only [Option.bind_some, if_true]
  by_cases hk : okv q p
  · rw [wgood_t hk]; simp only [Option.bind_some, if_true]
    by_cases h1 : n < 0
    · rw [if_pos h1]; exact work_no
    · rw [if_neg h1]
      by_cases h2 : n > 1073741824
      · rw [if_pos h2]; exact work_no
      · rw [if_neg h2]
        by_cases h3 : p > 1073741824
        · rw [decide_eq_true h3]; exact work_no
        · rw [decide_eq_false h3, beadlelaw13_WinWork.j0.eq_2]; simp only [Bool.false_eq_true, if_false]
          have hk' := hk
          obtain ⟨⟨g1, g2⟩, g3, g4⟩ := hk'
          have b1 := work_bd (n := n) hk (by omega)
          have b2 := work_next (n := n) hk (by omega)
          have b3 := work_turn (n := n) hk (by omega)
          rw [wrap_id (n := n + 1) (by omega) (by omega), wrap_id (n := n + p) (by omega) (by omega), work_t hk ⟨by omega, by omega⟩, work_t hk ⟨by omega, by omega⟩, work_t hk ⟨by omega, by omega⟩]
          simp only [Option.bind_some, if_true]
          generalize workv q p n = a at *
          generalize workv q p (n + 1) = b at *
          generalize workv q p (n + p) = c at *
          rw [if_pos (by omega), if_pos (by omega), if_pos (by omega), wrap_id (n := a + 1) (by omega) (by omega), if_pos (by omega), wrap_id (n := a + q) (by omega) (by omega), wrap_id (n := a + q + p) (by omega) (by omega), if_pos (by omega)]
          by_cases e : a = n
          · rw [if_pos e]
          · rw [if_neg e]
            rcases b3.2 with h | h
            · exact absurd h e
            · rw [h, beq_self_eq_true]
  · rw [wgood_n hk]; simp only [Option.bind_some, Bool.false_eq_true, if_false]; exact work_no

end Go.Proofs.Ytikpnpmhkllbpaa.Pure
