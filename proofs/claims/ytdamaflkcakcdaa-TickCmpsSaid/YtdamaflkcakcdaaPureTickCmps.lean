/- The statement TickCmps of the program, over numbers and lists alone: for every input (of the bounds that it names) the printed function of the law answers true. No further condition. -/
import Derived.Test.YtdamaflkcakcdaaPTickCmpsx2
namespace Go.Proofs.Ytdamaflkcakcdaa.Pure
open Go.RowKit Go.Proofs.Ytdamaflkcakcdaa.PTickCmps Go.Proofs.YtdamaflkcakcdaaW.PrintWords Go.Proofs.YtdamaflkcakcdaaW.PrintLast

set_option linter.unusedSimpArgs false
set_option linter.unusedVariables false

theorem wrap_id {n : Int} (h0 : -9223372036854775808 ≤ n) (h1 : n ≤ 9223372036854775807) : wrap64 n = n := by unfold wrap64; omega
theorem wf64 {a : Int} (h : (Lit.int .i64 a).wf = true) : -9223372036854775808 ≤ a ∧ a ≤ 9223372036854775807 := by
  simp only [Lit.wf, Bool.and_eq_true, decide_eq_true_eq] at h; exact h

theorem good_t {a : Int} (h0 : 0 ≤ a) (h1 : a ≤ 4611686018427387904) : tick_Good.f a = some true := by
  unfold tick_Good.f; rw [if_pos h0, decide_eq_true h1]
theorem good_n {a : Int} (h : ¬ (0 ≤ a ∧ a ≤ 4611686018427387904)) : tick_Good.f a = some false := by
  unfold tick_Good.f
  by_cases h0 : a ≥ 0
  · rw [if_pos h0, decide_eq_false (by omega)]
  · rw [if_neg h0]
theorem in_t {a b c : Int} (h0 : b ≤ a) (h1 : a ≤ c) : tick_in.f a b c = some true := by
  unfold tick_in.f; rw [if_pos h0, decide_eq_true h1]
theorem in_n {a b c : Int} (h : ¬ (b ≤ a ∧ a ≤ c)) : tick_in.f a b c = some false := by
  unfold tick_in.f
  by_cases h0 : a ≥ b
  · rw [if_pos h0, decide_eq_false (by omega)]
  · rw [if_neg h0]
theorem tgood_f (a : Int) : tick_good.f a = some (if 0 ≤ a ∧ a ≤ 4611686018427387904 then (a, true) else (0, false)) := by
  unfold tick_good.f
  by_cases h : 0 ≤ a ∧ a ≤ 4611686018427387904
  · rw [good_t h.1 h.2, if_pos h]; rfl
  · rw [good_n h, if_neg h]; rfl

theorem mul_cap {a b A B : Int} (ha : 0 ≤ a) (hb : 0 ≤ b) (hA : a ≤ A) (hB : b ≤ B) : 0 ≤ a * b ∧ a * b ≤ A * B :=
  ⟨Int.mul_nonneg ha hb, Int.le_trans (Int.mul_le_mul_of_nonneg_right hA hb) (Int.mul_le_mul_of_nonneg_left hB (by omega))⟩
/-- What Share answers, in plain numbers. -/
def sharev (x q p : Int) : Int × Bool := if (0 ≤ x ∧ x ≤ 2147483648) ∧ (1 ≤ p ∧ p ≤ 2147483648) ∧ (0 ≤ q ∧ q ≤ p) then (x * q / p, true) else (0, false)
theorem sharev_t {x q p : Int} (h : (0 ≤ x ∧ x ≤ 2147483648) ∧ (1 ≤ p ∧ p ≤ 2147483648) ∧ (0 ≤ q ∧ q ≤ p)) : sharev x q p = (x * q / p, true) := if_pos h
theorem sharev_n {x q p : Int} (h : ¬ ((0 ≤ x ∧ x ≤ 2147483648) ∧ (1 ≤ p ∧ p ≤ 2147483648) ∧ (0 ≤ q ∧ q ≤ p))) : sharev x q p = (0, false) := if_neg h
theorem share_f (x q p : Int) : tick_Share.f x q p = some (sharev x q p) := by
  unfold tick_Share.f sharev
  by_cases hx : 0 ≤ x ∧ x ≤ 2147483648
  · rw [in_t hx.1 hx.2]; simp only [Option.bind_some, if_true]
    by_cases hp : 1 ≤ p ∧ p ≤ 2147483648
    · rw [in_t hp.1 hp.2]; simp only [Option.bind_some, if_true]
      by_cases hq : 0 ≤ q ∧ q ≤ p
      · rw [in_t hq.1 hq.2]; simp only [Option.bind_some, if_true]
        rw [if_pos (show (0 ≤ x ∧ x ≤ 2147483648) ∧ (1 ≤ p ∧ p ≤ 2147483648) ∧ (0 ≤ q ∧ q ≤ p) from ⟨hx, hp, hq⟩)]
        have h0 := mul_cap hx.1 hq.1 hx.2 (show q ≤ 2147483648 by omega)
        have h1 : 0 ≤ x * q / p := Int.ediv_nonneg h0.1 (by omega)
        have h2 : x * q / p ≤ x * q := Int.ediv_le_self _ h0.1
        rw [if_neg (by omega), wrap_id (n := x * q) (by omega) (by omega), Int.tdiv_eq_ediv_of_nonneg h0.1, wrap_id (by omega) (by omega)]
      · rw [in_n hq]; simp only [Option.bind_some, Bool.false_eq_true, if_false]; rw [if_neg (by omega)]
    · rw [in_n hp]; simp only [Option.bind_some, Bool.false_eq_true, if_false]; rw [if_neg (by omega)]
  · rw [in_n hx]; simp only [Option.bind_some, Bool.false_eq_true, if_false]; rw [if_neg (by omega)]

/-- What Up answers, in plain numbers. -/
def upv (t d p : Int) : Int × Bool :=
  if (0 ≤ t ∧ t ≤ 4611686018427387904) ∧ (0 ≤ d ∧ d ≤ 4611686018427387904) ∧ (1 ≤ p ∧ p ≤ 2147483648) then
    (if d > t then (d, true) else if d + ((t - d) / p + 1) * p ≤ 4611686018427387904 then (d + ((t - d) / p + 1) * p, true) else (0, false))
  else (0, false)
theorem upv_a {t d p : Int} (h : (0 ≤ t ∧ t ≤ 4611686018427387904) ∧ (0 ≤ d ∧ d ≤ 4611686018427387904) ∧ (1 ≤ p ∧ p ≤ 2147483648)) (c : d > t) : upv t d p = (d, true) := by unfold upv; rw [if_pos h, if_pos c]
theorem upv_b {t d p : Int} (h : (0 ≤ t ∧ t ≤ 4611686018427387904) ∧ (0 ≤ d ∧ d ≤ 4611686018427387904) ∧ (1 ≤ p ∧ p ≤ 2147483648)) (c : ¬ d > t) (e : d + ((t - d) / p + 1) * p ≤ 4611686018427387904) : upv t d p = (d + ((t - d) / p + 1) * p, true) := by unfold upv; rw [if_pos h, if_neg c, if_pos e]
theorem upv_c {t d p : Int} (c : ¬ d > t) (e : ¬ d + ((t - d) / p + 1) * p ≤ 4611686018427387904) : upv t d p = (0, false) := by
  unfold upv
  rw [if_neg c, if_neg e]
  simp
theorem upv_n {t d p : Int} (h : ¬ ((0 ≤ t ∧ t ≤ 4611686018427387904) ∧ (0 ≤ d ∧ d ≤ 4611686018427387904) ∧ (1 ≤ p ∧ p ≤ 2147483648))) : upv t d p = (0, false) := if_neg h
theorem up_no {t d p : Int} {k : Nat} : tick_Up.j0 (k + 1) t d p true = some (0, false) := by
  simp only [tick_Up.j0]; rfl
theorem up_q {t d p : Int} (h : d ≤ t) (hp : 1 ≤ p) : 0 ≤ (t - d) / p ∧ (t - d) / p ≤ t - d ∧ (t - d) / p * p ≤ t - d ∧ t - d < ((t - d) / p + 1) * p ∧ ((t - d) / p + 1) * p = (t - d) / p * p + p :=
  ⟨Int.ediv_nonneg (by omega) (by omega), Int.ediv_le_self _ (by omega), Int.ediv_mul_le _ (by omega), Int.lt_ediv_add_one_mul_self _ (by omega), by rw [Int.add_mul, Int.one_mul]⟩
theorem up_f (k : Nat) (t d p : Int) : tick_Up.f (k + 1) t d p = some (upv t d p) := by
  unfold tick_Up.f upv
  by_cases ht : 0 ≤ t ∧ t ≤ 4611686018427387904
  · rw [good_t ht.1 ht.2]; simp only [Option.bind_some, if_true]
    by_cases hd : 0 ≤ d ∧ d ≤ 4611686018427387904
    · rw [good_t hd.1 hd.2]; simp only [Option.bind_some, if_true]
      by_cases hp : 1 ≤ p ∧ p ≤ 2147483648
      · rw [in_t hp.1 hp.2]; simp only [Option.bind_some, Bool.not_true, tick_Up.j0, Bool.false_eq_true, if_false]
        rw [if_pos (show (0 ≤ t ∧ t ≤ 4611686018427387904) ∧ (0 ≤ d ∧ d ≤ 4611686018427387904) ∧ (1 ≤ p ∧ p ≤ 2147483648) from ⟨ht, hd, hp⟩)]
        by_cases c : d > t
        · rw [if_pos c, if_pos c]
        · have hq := up_q (t := t) (d := d) (p := p) (by omega) (by omega)
          rw [if_neg c, if_neg c, if_neg (by omega), wrap_id (n := t - d) (by omega) (by omega), Int.tdiv_eq_ediv_of_nonneg (by omega)]
          revert hq
          generalize (t - d) / p = q
          intro hq
          rw [wrap_id (n := q) (by omega) (by omega), wrap_id (n := q + 1) (by omega) (by omega)]
          revert hq
          generalize hm : (q + 1) * p = m
          generalize q * p = m'
          intro hq
          rw [wrap_id (n := m) (by omega) (by omega), wrap_id (n := d + m) (by omega) (by omega), tgood_f]
          simp only [Option.bind_some]
          by_cases h : d + m ≤ 4611686018427387904
          · rw [if_pos ⟨by omega, h⟩, if_pos h]
          · rw [if_neg (by omega), if_neg h]
      · rw [in_n hp]; simp only [Option.bind_some, Bool.not_false, Bool.false_eq_true, if_false]; rw [up_no, if_neg (by omega)]
    · rw [good_n hd]; simp only [Option.bind_some, Bool.not_false, Bool.false_eq_true, if_false]; rw [up_no, if_neg (by omega)]
  · rw [good_n ht]; simp only [Option.bind_some, Bool.not_false, Bool.false_eq_true, if_false]; rw [up_no, if_neg (by omega)]

theorem awake_f : beadlelaw1_awake.f 1 = some true := by decide +kernel

/-- How two numbers compare. -/
def cmpv (x y : Int) : Int := if x < y then -1 else if x > y then 1 else 0
theorem compare_f (a b : Int) : cmp_Compare_int64.f a b = some (cmpv a b) := by
  unfold cmp_Compare_int64.f cmp_isNaN_int64.f cmpv
  simp only [Option.bind_some, bne_self_eq_false, Bool.false_eq_true, if_false]
  split
  · rfl
  · split <;> rfl
/-- What Cmp answers, in plain numbers. -/
def cmw (a b c d : Int) : Int × Bool := if (0 ≤ a ∧ a ≤ 2147483648) ∧ (0 ≤ c ∧ c ≤ 2147483648) ∧ (1 ≤ b ∧ b ≤ 2147483648) ∧ (1 ≤ d ∧ d ≤ 2147483648) then (cmpv (a * d) (c * b), true) else (0, false)
theorem cmw_t {a b c d : Int} (h : (0 ≤ a ∧ a ≤ 2147483648) ∧ (0 ≤ c ∧ c ≤ 2147483648) ∧ (1 ≤ b ∧ b ≤ 2147483648) ∧ (1 ≤ d ∧ d ≤ 2147483648)) : cmw a b c d = (cmpv (a * d) (c * b), true) := if_pos h
theorem cmw_n {a b c d : Int} (h : ¬ ((0 ≤ a ∧ a ≤ 2147483648) ∧ (0 ≤ c ∧ c ≤ 2147483648) ∧ (1 ≤ b ∧ b ≤ 2147483648) ∧ (1 ≤ d ∧ d ≤ 2147483648))) : cmw a b c d = (0, false) := if_neg h
theorem cmp_f (a b c d : Int) : tick_Cmp.f a b c d = some (cmw a b c d) := by
  unfold tick_Cmp.f cmw
  by_cases ha : 0 ≤ a ∧ a ≤ 2147483648
  · rw [in_t ha.1 ha.2]; simp only [Option.bind_some, if_true]
    by_cases hc : 0 ≤ c ∧ c ≤ 2147483648
    · rw [in_t hc.1 hc.2]; simp only [Option.bind_some, if_true]
      by_cases hb : 1 ≤ b ∧ b ≤ 2147483648
      · rw [in_t hb.1 hb.2]; simp only [Option.bind_some, if_true]
        by_cases hd : 1 ≤ d ∧ d ≤ 2147483648
        · rw [in_t hd.1 hd.2]; simp only [Option.bind_some, if_true]
          rw [if_pos (show (0 ≤ a ∧ a ≤ 2147483648) ∧ (0 ≤ c ∧ c ≤ 2147483648) ∧ (1 ≤ b ∧ b ≤ 2147483648) ∧ (1 ≤ d ∧ d ≤ 2147483648) from ⟨ha, hc, hb, hd⟩)]
          have h0 := mul_cap ha.1 (show 0 ≤ d by omega) ha.2 hd.2
          have h1 := mul_cap hc.1 (show 0 ≤ b by omega) hc.2 hb.2
          rw [wrap_id (n := a * d) (by omega) (by omega), wrap_id (n := c * b) (by omega) (by omega), compare_f]; rfl
        · rw [in_n hd]; simp only [Option.bind_some, Bool.false_eq_true, if_false]; rw [if_neg (by omega)]
      · rw [in_n hb]; simp only [Option.bind_some, Bool.false_eq_true, if_false]; rw [if_neg (by omega)]
    · rw [in_n hc]; simp only [Option.bind_some, Bool.false_eq_true, if_false]; rw [if_neg (by omega)]
  · rw [in_n ha]; simp only [Option.bind_some, Bool.false_eq_true, if_false]; rw [if_neg (by omega)]

theorem cmpv_neg (x y : Int) : cmpv x y = - cmpv y x := by
  unfold cmpv
  rcases Int.lt_trichotomy x y with h | h | h
  · rw [if_pos h, if_neg (by omega), if_pos h]
  · subst h; simp
  · rw [if_neg (by omega), if_pos h, if_pos h]; rfl
theorem cmpv_bd (x y : Int) : -1 ≤ cmpv x y ∧ cmpv x y ≤ 1 := by
  unfold cmpv; split
  · omega
  · split <;> omega
theorem cmpv_pos {x y : Int} : cmpv x y > 0 ↔ y < x := by
  unfold cmpv; split
  · omega
  · split <;> omega
theorem cmpv_zero {x y : Int} : cmpv x y = 0 ↔ x = y := by
  unfold cmpv; split
  · omega
  · split <;> omega
theorem cmpv_le {x y : Int} : cmpv x y ≤ 0 ↔ x ≤ y := by
  unfold cmpv; split
  · omega
  · split <;> omega
/-- Fractions: from a/b ≤ c/d and c/d ≤ e/f to a/b ≤ e/f. -/
theorem frac_le {a b c d e f : Int} (hb : 1 ≤ b) (hd : 1 ≤ d) (hf : 1 ≤ f) (h1 : a * d ≤ c * b) (h2 : c * f ≤ e * d) : a * f ≤ e * b := by
  have k1 : a * d * f ≤ c * b * f := Int.mul_le_mul_of_nonneg_right h1 (by omega)
  have k2 : c * f * b ≤ e * d * b := Int.mul_le_mul_of_nonneg_right h2 (by omega)
  have e1 : c * b * f = c * f * b := Int.mul_right_comm ..
  have e2 : a * d * f = (a * f) * d := Int.mul_right_comm ..
  have e3 : e * d * b = (e * b) * d := Int.mul_right_comm ..
  exact Int.le_of_mul_le_mul_right (by omega) (show 0 < d by omega)
theorem frac_eq {a b c d e f : Int} (hb : 1 ≤ b) (hd : 1 ≤ d) (hf : 1 ≤ f) (h1 : a * d = c * b) (h2 : c * f = e * d) : a * f = e * b := by
  refine Int.le_antisymm (frac_le (c := c) hb hd hf (by omega) (by omega)) (frac_le (a := e) (c := c) (e := a) hf hd hb (by omega) (by omega))
theorem TickCmps : beadlelaw1_TickCmps.Pure := by
  intro a b c d e f _ _ _ _ _ _
  refine ⟨1, ?_⟩
  unfold beadlelaw1_TickCmps.f
  rw [awake_f]; simp only [Option.bind_some, if_true]
  rw [cmp_f, cmp_f, cmp_f, cmp_f]; simp only [Option.bind_some]
  by_cases h : (0 ≤ a ∧ a ≤ 2147483648) ∧ (0 ≤ c ∧ c ≤ 2147483648) ∧ (1 ≤ b ∧ b ≤ 2147483648) ∧ (1 ≤ d ∧ d ≤ 2147483648)
  · obtain ⟨ha, hc, hb, hd⟩ := h
    rw [cmw_t (a := a) (b := b) (c := c) (d := d) ⟨ha, hc, hb, hd⟩, cmw_t (a := c) (b := d) (c := a) (d := b) ⟨hc, ha, hd, hb⟩]
    simp only [bne_self_eq_false, Bool.false_eq_true, if_false, if_true]
    have hb1 := cmpv_bd (c * b) (a * d)
    rw [wrap_id (n := - cmpv (c * b) (a * d)) (by omega) (by omega), if_pos (cmpv_neg _ _)]
    by_cases h2 : (0 ≤ e ∧ e ≤ 2147483648) ∧ (1 ≤ f ∧ f ≤ 2147483648)
    · obtain ⟨he, hf⟩ := h2
      rw [cmw_t (a := c) (b := d) (c := e) (d := f) ⟨hc, he, hd, hf⟩, cmw_t (a := a) (b := b) (c := e) (d := f) ⟨ha, he, hb, hf⟩]
      simp only [if_true]
      have last : (if cmpv (a * d) (c * b) = 0 then (if cmpv (c * f) (e * d) = 0 then some (cmpv (a * f) (e * b) == 0) else some true) else some true) = some true := by
        by_cases z1 : cmpv (a * d) (c * b) = 0
        · rw [if_pos z1]
          by_cases z2 : cmpv (c * f) (e * d) = 0
          · rw [if_pos z2, beq_iff_eq.2 (cmpv_zero.2 (frac_eq hb.1 hd.1 hf.1 (cmpv_zero.1 z1) (cmpv_zero.1 z2)))]
          · rw [if_neg z2]
        · rw [if_neg z1]
      rw [last]
      by_cases p1 : cmpv (a * d) (c * b) > 0
      · rw [if_pos p1]
      · rw [if_neg p1]
        by_cases p2 : cmpv (c * f) (e * d) > 0
        · rw [if_pos p2]
        · rw [if_neg p2, if_pos (cmpv_le.2 (frac_le hb.1 hd.1 hf.1 (cmpv_le.1 (Int.not_lt.1 p1)) (cmpv_le.1 (Int.not_lt.1 p2))))]
    · rw [cmw_n (a := c) (b := d) (c := e) (d := f) (fun z => h2 ⟨z.2.1, z.2.2.2⟩)]
      simp only [Bool.false_eq_true, if_false]
  · rw [cmw_n (a := a) (b := b) (c := c) (d := d) h, cmw_n (a := c) (b := d) (c := a) (d := b) (fun z => h ⟨z.2.1, z.1, z.2.2.2, z.2.2.1⟩)]
    simp only [bne_self_eq_false, Bool.false_eq_true, if_false]

end Go.Proofs.Ytdamaflkcakcdaa.Pure
