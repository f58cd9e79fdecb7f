/- The statement TickShares of the program, over numbers and lists alone: for every input (of the bounds that it names) the printed function of the law answers true. No further condition. -/
import Derived.Test.YtdamaflkcakcdaaPTickSharesx2
namespace Go.Proofs.Ytdamaflkcakcdaa.Pure
open Go.RowKit Go.Proofs.Ytdamaflkcakcdaa.PTickShares Go.Proofs.YtdamaflkcakcdaaW.PrintWords Go.Proofs.YtdamaflkcakcdaaW.PrintLast

set_option linter.unusedSimpArgs false
set_option linter.unusedVariables false

theorem wrap_id {n : Int} (h0 : -9223372036854775808 ≤ n) (h1 : n ≤ 9223372036854775807) : wrap64 n = n := by unfold wrap64; omega
theorem wf64 {a : Int} (h : (Lit.int .i64 a).wf = true) : -9223372036854775808 ≤ a ∧ a ≤ 9223372036854775807 := by
  simp only [Lit.wf, Bool.and_eq_true, decide_eq_true_eq] at h; exact h

theorem good_t {a : Int} (h0 : 0 ≤ a) (h1 : a ≤ 4611686018427387904) : tick_Good.f a = some true := by
  unfold tick_Good.f; rw [if_pos h0, decide_eq_true h1]
theorem good_n {a : Int} (h : ¬ (0 ≤ a ∧ a ≤ 4611686018427387904)) : tick_Good.f a = some false := by
  unfold tick_Good.f
  by_cases h0 : a ≥ 0
  · rw [if_pos h0, decide_eq_false (by omega)]
  · rw [if_neg h0]
theorem in_t {a b c : Int} (h0 : b ≤ a) (h1 : a ≤ c) : tick_in.f a b c = some true := by
  unfold tick_in.f; rw [if_pos h0, decide_eq_true h1]
theorem in_n {a b c : Int} (h : ¬ (b ≤ a ∧ a ≤ c)) : tick_in.f a b c = some false := by
  unfold tick_in.f
  by_cases h0 : a ≥ b
  · rw [if_pos h0, decide_eq_false (by omega)]
  · rw [if_neg h0]
theorem tgood_f (a : Int) : tick_good.f a = some (if 0 ≤ a ∧ a ≤ 4611686018427387904 then (a, true) else (0, false)) := by
  unfold tick_good.f
  by_cases h : 0 ≤ a ∧ a ≤ 4611686018427387904
  · rw [good_t h.1 h.2, if_pos h]; rfl
  · rw [good_n h, if_neg h]; rfl

theorem mul_cap {a b A B : Int} (ha : 0 ≤ a) (hb : 0 ≤ b) (hA : a ≤ A) (hB : b ≤ B) : 0 ≤ a * b ∧ a * b ≤ A * B :=
  ⟨Int.mul_nonneg ha hb, Int.le_trans (Int.mul_le_mul_of_nonneg_right hA hb) (Int.mul_le_mul_of_nonneg_left hB (by omega))⟩
/-- What Share answers, in plain numbers. -/
def sharev (x q p : Int) : Int × Bool := if (0 ≤ x ∧ x ≤ 2147483648) ∧ (1 ≤ p ∧ p ≤ 2147483648) ∧ (0 ≤ q ∧ q ≤ p) then (x * q / p, true) else (0, false)
theorem sharev_t {x q p : Int} (h : (0 ≤ x ∧ x ≤ 2147483648) ∧ (1 ≤ p ∧ p ≤ 2147483648) ∧ (0 ≤ q ∧ q ≤ p)) : sharev x q p = (x * q / p, true) := if_pos h
theorem sharev_n {x q p : Int} (h : ¬ ((0 ≤ x ∧ x ≤ 2147483648) ∧ (1 ≤ p ∧ p ≤ 2147483648) ∧ (0 ≤ q ∧ q ≤ p))) : sharev x q p = (0, false) := if_neg h
theorem share_f (x q p : Int) : tick_Share.f x q p = some (sharev x q p) := by
  unfold tick_Share.f sharev
  by_cases hx : 0 ≤ x ∧ x ≤ 2147483648
  · rw [in_t hx.1 hx.2]; simp only [Option.bind_some, if_true]
    by_cases hp : 1 ≤ p ∧ p ≤ 2147483648
    · rw [in_t hp.1 hp.2]; simp only [Option.bind_some, if_true]
      by_cases hq : 0 ≤ q ∧ q ≤ p
      · rw [in_t hq.1 hq.2]; simp only [Option.bind_some, if_true]
        rw [if_pos (show (0 ≤ x ∧ x ≤ 2147483648) ∧ (1 ≤ p ∧ p ≤ 2147483648) ∧ (0 ≤ q ∧ q ≤ p) from ⟨hx, hp, hq⟩)]
        have h0 := mul_cap hx.1 hq.1 hx.2 (show q ≤ 2147483648 by omega)
        have h1 : 0 ≤ x * q / p := Int.ediv_nonneg h0.1 (by omega)
        have h2 : x * q / p ≤ x * q := Int.ediv_le_self _ h0.1
        rw [if_neg (by omega), wrap_id (n := x * q) (by omega) (by omega), Int.tdiv_eq_ediv_of_nonneg h0.1, wrap_id (by omega) (by omega)]
      · rw [in_n hq]; simp only [Option.bind_some, Bool.false_eq_true, if_false]; rw [if_neg (by omega)]
    · rw [in_n hp]; simp only [Option.bind_some, Bool.false_eq_true, if_false]; rw [if_neg (by omega)]
  · rw [in_n hx]; simp only [Option.bind_some, Bool.false_eq_true, if_false]; rw [if_neg (by omega)]

/-- What Up answers, in plain numbers. -/
def upv (t d p : Int) : Int × Bool :=
  if (0 ≤ t ∧ t ≤ 4611686018427387904) ∧ (0 ≤ d ∧ d ≤ 4611686018427387904) ∧ (1 ≤ p ∧ p ≤ 2147483648) then
    (if d > t then (d, true) else if d + ((t - d) / p + 1) * p ≤ 4611686018427387904 then (d + ((t - d) / p + 1) * p, true) else (0, false))
  else (0, false)
theorem upv_a {t d p : Int} (h : (0 ≤ t ∧ t ≤ 4611686018427387904) ∧ (0 ≤ d ∧ d ≤ 4611686018427387904) ∧ (1 ≤ p ∧ p ≤ 2147483648)) (c : d > t) : upv t d p = (d, true) := by unfold upv; rw [if_pos h, if_pos c]
theorem upv_b {t d p : Int} (h : (0 ≤ t ∧ t ≤ 4611686018427387904) ∧ (0 ≤ d ∧ d ≤ 4611686018427387904) ∧ (1 ≤ p ∧ p ≤ 2147483648)) (c : ¬ d > t) (e : d + ((t - d) / p + 1) * p ≤ 4611686018427387904) : upv t d p = (d + ((t - d) / p + 1) * p, true) := by unfold upv; rw [if_pos h, if_neg c, if_pos e]
theorem upv_c {t d p : Int} (c : ¬ d > t) (e : ¬ d + ((t - d) / p + 1) * p ≤ 4611686018427387904) : upv t d p = (0, false) := by
  unfold upv
  rw [if_neg c, if_neg e]
  simp
theorem upv_n {t d p : Int} (h : ¬ ((0 ≤ t ∧ t ≤ 4611686018427387904) ∧ (0 ≤ d ∧ d ≤ 4611686018427387904) ∧ (1 ≤ p ∧ p ≤ 2147483648))) : upv t d p = (0, false) := if_neg h
theorem up_no {t d p : Int} {k : Nat} : tick_Up.j0 (k + 1) t d p true = some (0, false) := by
  simp only [tick_Up.j0]; rfl
theorem up_q {t d p : Int} (h : d ≤ t) (hp : 1 ≤ p) : 0 ≤ (t - d) / p ∧ (t - d) / p ≤ t - d ∧ (t - d) / p * p ≤ t - d ∧ t - d < ((t - d) / p + 1) * p ∧ ((t - d) / p + 1) * p = (t - d) / p * p + p :=
  ⟨Int.ediv_nonneg (by omega) (by omega), Int.ediv_le_self _ (by omega), Int.ediv_mul_le _ (by omega), Int.lt_ediv_add_one_mul_self _ (by omega), by rw [Int.add_mul, Int.one_mul]⟩
theorem up_f (k : Nat) (t d p : Int) : tick_Up.f (k + 1) t d p = some (upv t d p) := by
  unfold tick_Up.f upv
  by_cases ht : 0 ≤ t ∧ t ≤ 4611686018427387904
  · rw [good_t ht.1 ht.2]; simp only [Option.bind_some, if_true]
    by_cases hd : 0 ≤ d ∧ d ≤ 4611686018427387904
    · rw [good_t hd.1 hd.2]; simp only [Option.bind_some, if_true]
      by_cases hp : 1 ≤ p ∧ p ≤ 2147483648
      · rw [in_t hp.1 hp.2]; simp only [Option.bind_some, Bool.not_true, tick_Up.j0, Bool.false_eq_true, if_false]
        rw [if_pos (show (0 ≤ t ∧ t ≤ 4611686018427387904) ∧ (0 ≤ d ∧ d ≤ 4611686018427387904) ∧ (1 ≤ p ∧ p ≤ 2147483648) from ⟨ht, hd, hp⟩)]
        by_cases c : d > t
        · rw [if_pos c, if_pos c]
        · have hq := up_q (t := t) (d := d) (p := p) (by omega) (by omega)
          rw [if_neg c, if_neg c, if_neg (by omega), wrap_id (n := t - d) (by omega) (by omega), Int.tdiv_eq_ediv_of_nonneg (by omega)]
          revert hq
          generalize (t - d) / p = q
          intro hq
          rw [wrap_id (n := q) (by omega) (by omega), wrap_id (n := q + 1) (by omega) (by omega)]
          revert hq
          generalize hm : (q + 1) * p = m
          generalize q * p = m'
          intro hq
          rw [wrap_id (n := m) (by omega) (by omega), wrap_id (n := d + m) (by omega) (by omega), tgood_f]
          simp only [Option.bind_some]
          by_cases h : d + m ≤ 4611686018427387904
          · rw [if_pos ⟨by omega, h⟩, if_pos h]
          · rw [if_neg (by omega), if_neg h]
      · rw [in_n hp]; simp only [Option.bind_some, Bool.not_false, Bool.false_eq_true, if_false]; rw [up_no, if_neg (by omega)]
    · rw [good_n hd]; simp only [Option.bind_some, Bool.not_false, Bool.false_eq_true, if_false]; rw [up_no, if_neg (by omega)]
  · rw [good_n ht]; simp only [Option.bind_some, Bool.not_false, Bool.false_eq_true, if_false]; rw [up_no, if_neg (by omega)]

theorem awake_f : beadlelaw1_awake.f 1 = some true := by decide +kernel

/-- How two numbers compare. -/
def cmpv (x y : Int) : Int := if x < y then -1 else if x > y then 1 else 0
theorem compare_f (a b : Int) : cmp_Compare_int64.f a b = some (cmpv a b) := by
  unfold cmp_Compare_int64.f cmp_isNaN_int64.f cmpv
  simp only [Option.bind_some, bne_self_eq_false, Bool.false_eq_true, if_false]
  split
  · rfl
  · split <;> rfl
/-- What Cmp answers, in plain numbers. -/
def cmw (a b c d : Int) : Int × Bool := if (0 ≤ a ∧ a ≤ 2147483648) ∧ (0 ≤ c ∧ c ≤ 2147483648) ∧ (1 ≤ b ∧ b ≤ 2147483648) ∧ (1 ≤ d ∧ d ≤ 2147483648) then (cmpv (a * d) (c * b), true) else (0, false)
theorem cmw_t {a b c d : Int} (h : (0 ≤ a ∧ a ≤ 2147483648) ∧ (0 ≤ c ∧ c ≤ 2147483648) ∧ (1 ≤ b ∧ b ≤ 2147483648) ∧ (1 ≤ d ∧ d ≤ 2147483648)) : cmw a b c d = (cmpv (a * d) (c * b), true) := if_pos h
theorem cmw_n {a b c d : Int} (h : ¬ ((0 ≤ a ∧ a ≤ 2147483648) ∧ (0 ≤ c ∧ c ≤ 2147483648) ∧ (1 ≤ b ∧ b ≤ 2147483648) ∧ (1 ≤ d ∧ d ≤ 2147483648))) : cmw a b c d = (0, false) := if_neg h
theorem cmp_f (a b c d : Int) : tick_Cmp.f a b c d = some (cmw a b c d) := by
  unfold tick_Cmp.f cmw
  by_cases ha : 0 ≤ a ∧ a ≤ 2147483648
  · rw [in_t ha.1 ha.2]; simp only [Option.bind_some, if_true]
    by_cases hc : 0 ≤ c ∧ c ≤ 2147483648
    · rw [in_t hc.1 hc.2]; simp only [Option.bind_some, if_true]
      by_cases hb : 1 ≤ b ∧ b ≤ 2147483648
      · rw [in_t hb.1 hb.2]; simp only [Option.bind_some, if_true]
        by_cases hd : 1 ≤ d ∧ d ≤ 2147483648
        · rw [in_t hd.1 hd.2]; simp only [Option.bind_some, if_true]
          rw [if_pos (show (0 ≤ a ∧ a ≤ 2147483648) ∧ (0 ≤ c ∧ c ≤ 2147483648) ∧ (1 ≤ b ∧ b ≤ 2147483648) ∧ (1 ≤ d ∧ d ≤ 2147483648) from ⟨ha, hc, hb, hd⟩)]
          have h0 := mul_cap ha.1 (show 0 ≤ d by omega) ha.2 hd.2
          have h1 := mul_cap hc.1 (show 0 ≤ b by omega) hc.2 hb.2
          rw [wrap_id (n := a * d) (by omega) (by omega), wrap_id (n := c * b) (by omega) (by omega), compare_f]; rfl
        · rw [in_n hd]; simp only [Option.bind_some, Bool.false_eq_true, if_false]; rw [if_neg (by omega)]
      · rw [in_n hb]; simp only [Option.bind_some, Bool.false_eq_true, if_false]; rw [if_neg (by omega)]
    · rw [in_n hc]; simp only [Option.bind_some, Bool.false_eq_true, if_false]; rw [if_neg (by omega)]
  · rw [in_n ha]; simp only [Option.bind_some, Bool.false_eq_true, if_false]; rw [if_neg (by omega)]

theorem shares_no {a b c d e f : Int} : beadlelaw1_TickShares.j0 1 a b c d e f true = some true := by
  simp only [beadlelaw1_TickShares.j0]; rfl
theorem cmpv_le {x y : Int} (h : x ≤ y) : cmpv x y ≤ 0 := by
  unfold cmpv; split
  · omega
  · rw [if_neg (by omega)]; omega
theorem TickShares : beadlelaw1_TickShares.Pure := by
  intro x y q p _ _ _ _
  refine ⟨1, ?_⟩
  unfold beadlelaw1_TickShares.f
  rw [awake_f]; simp only [Option.bind_some, if_true]
  rw [share_f, share_f]; simp only [Option.bind_some]
  by_cases h : (0 ≤ x ∧ x ≤ 2147483648) ∧ (1 ≤ p ∧ p ≤ 2147483648) ∧ (0 ≤ q ∧ q ≤ p)
  · rw [sharev_t h]; simp only [if_true]
    obtain ⟨hx, hp, hq⟩ := h
    by_cases hy : 0 ≤ y ∧ y ≤ 2147483648
    · rw [sharev_t (x := y) ⟨hy, hp, hq⟩]; simp only [Bool.not_true]
      simp only [beadlelaw1_TickShares.j0, Bool.false_eq_true, if_false]
      have hxq := mul_cap hx.1 hq.1 hx.2 (show q ≤ 2147483648 by omega)
      have a0 : 0 ≤ x * q / p := Int.ediv_nonneg hxq.1 (by omega)
      have a1 : x * q / p * p ≤ x * q := Int.ediv_mul_le _ (by omega)
      have a2 : x * q < (x * q / p + 1) * p := Int.lt_ediv_add_one_mul_self _ (by omega)
      have a3 : (x * q / p + 1) * p = x * q / p * p + p := by rw [Int.add_mul, Int.one_mul]
      have a4 : x * q / p ≤ x := by
        apply Int.ediv_le_of_le_mul (by omega)
        exact Int.mul_le_mul_of_nonneg_left hq.2 hx.1
      have a5 : x ≤ y → x * q / p ≤ y * q / p := fun h => Int.ediv_le_ediv (by omega) (Int.mul_le_mul_of_nonneg_right h hq.1)
      have a6 : q * x = x * q := Int.mul_comm _ _
      have c1 := cmpv_le (show x * q / p * p ≤ q * x by omega)
      have e : decide ((x * q / p + 1) * p > x * q) = true := decide_eq_true a2
      rw [share_f, sharev_t (q := p) ⟨hx, hp, ⟨by omega, by omega⟩⟩, cmp_f, Int.mul_ediv_cancel _ (by omega)]
      simp only [Option.bind_some]
      rw [wrap_id (n := x * q / p * p) (by omega) (by omega), wrap_id (n := x * q) (by omega) (by omega), wrap_id (n := x * q / p + 1) (by omega) (by omega), wrap_id (n := (x * q / p + 1) * p) (by omega) (by omega)]
      rw [e]
      by_cases hz : x = 0
      · simp only [if_pos a1, if_pos a0, if_pos a4, if_pos hz, if_true]
        by_cases hxy : x > y
        · rw [if_pos hxy]
        · rw [if_neg hxy, if_pos (a5 (by omega))]
      · rw [cmw_t (a := x * q / p) (b := x) (c := q) (d := p) ⟨⟨a0, by omega⟩, ⟨hq.1, by omega⟩, ⟨by omega, hx.2⟩, hp⟩]
        simp only [if_pos a1, if_pos a0, if_pos a4, if_neg hz, if_pos c1, if_true]
        by_cases hxy : x > y
        · rw [if_pos hxy]
        · rw [if_neg hxy, if_pos (a5 (by omega))]
    · rw [sharev_n (x := y) (fun z => hy z.1)]; exact shares_no
  · rw [sharev_n h]; simp only [Bool.false_eq_true, if_false]; exact shares_no

end Go.Proofs.Ytdamaflkcakcdaa.Pure
