/- The statement TickMuls of the program, over numbers and lists alone: for every input (of the bounds that it names) the printed function of the law answers true. No further condition. -/
import Derived.Test.YtdamaflkcakcdaaQTickMulsx2
namespace Go.Proofs.Ytdamaflkcakcdaa.Pure
open Go.RowKit Go.Proofs.Ytdamaflkcakcdaa.QTickMuls Go.Proofs.YtdamaflkcakcdaaW.PrintWords Go.Proofs.YtdamaflkcakcdaaW.PrintLast

set_option linter.unusedSimpArgs false
set_option linter.unusedVariables false

theorem wrap_id {n : Int} (h0 : -9223372036854775808 ≤ n) (h1 : n ≤ 9223372036854775807) : wrap64 n = n := by unfold wrap64; omega
theorem wf64 {a : Int} (h : (Lit.int .i64 a).wf = true) : -9223372036854775808 ≤ a ∧ a ≤ 9223372036854775807 := by
  simp only [Lit.wf, Bool.and_eq_true, decide_eq_true_eq] at h; exact h

theorem good_t {a : Int} (h0 : 0 ≤ a) (h1 : a ≤ 4611686018427387904) : tick_Good.f a = some true := by
  unfold tick_Good.f; rw [if_pos h0, decide_eq_true h1]
theorem good_n {a : Int} (h : ¬ (0 ≤ a ∧ a ≤ 4611686018427387904)) : tick_Good.f a = some false := by
  unfold tick_Good.f
  by_cases h0 : a ≥ 0
  · rw [if_pos h0, decide_eq_false (by omega)]
  · rw [if_neg h0]
theorem in_t {a b c : Int} (h0 : b ≤ a) (h1 : a ≤ c) : tick_in.f a b c = some true := by
  unfold tick_in.f; rw [if_pos h0, decide_eq_true h1]
theorem in_n {a b c : Int} (h : ¬ (b ≤ a ∧ a ≤ c)) : tick_in.f a b c = some false := by
  unfold tick_in.f
  by_cases h0 : a ≥ b
  · rw [if_pos h0, decide_eq_false (by omega)]
  · rw [if_neg h0]
theorem tgood_f (a : Int) : tick_good.f a = some (if 0 ≤ a ∧ a ≤ 4611686018427387904 then (a, true) else (0, false)) := by
  unfold tick_good.f
  by_cases h : 0 ≤ a ∧ a ≤ 4611686018427387904
  · rw [good_t h.1 h.2, if_pos h]; rfl
  · rw [good_n h, if_neg h]; rfl

theorem mul_cap {a b A B : Int} (ha : 0 ≤ a) (hb : 0 ≤ b) (hA : a ≤ A) (hB : b ≤ B) : 0 ≤ a * b ∧ a * b ≤ A * B :=
  ⟨Int.mul_nonneg ha hb, Int.le_trans (Int.mul_le_mul_of_nonneg_right hA hb) (Int.mul_le_mul_of_nonneg_left hB (by omega))⟩
/-- What Share answers, in plain numbers. -/
def sharev (x q p : Int) : Int × Bool := if (0 ≤ x ∧ x ≤ 2147483648) ∧ (1 ≤ p ∧ p ≤ 2147483648) ∧ (0 ≤ q ∧ q ≤ p) then (x * q / p, true) else (0, false)
theorem sharev_t {x q p : Int} (h : (0 ≤ x ∧ x ≤ 2147483648) ∧ (1 ≤ p ∧ p ≤ 2147483648) ∧ (0 ≤ q ∧ q ≤ p)) : sharev x q p = (x * q / p, true) := if_pos h
theorem sharev_n {x q p : Int} (h : ¬ ((0 ≤ x ∧ x ≤ 2147483648) ∧ (1 ≤ p ∧ p ≤ 2147483648) ∧ (0 ≤ q ∧ q ≤ p))) : sharev x q p = (0, false) := if_neg h
theorem share_f (x q p : Int) : tick_Share.f x q p = some (sharev x q p) := by
  unfold tick_Share.f sharev
  by_cases hx : 0 ≤ x ∧ x ≤ 2147483648
  · rw [in_t hx.1 hx.2]; simp only [Option.bind_some, if_true]
    by_cases hp : 1 ≤ p ∧ p ≤ 2147483648
    · rw [in_t hp.1 hp.2]; simp only [Option.bind_some, if_true]
      by_cases hq : 0 ≤ q ∧ q ≤ p
      · rw [in_t hq.1 hq.2]; simp only [Option.bind_some, if_true]
        rw [if_pos (show (0 ≤ x ∧ x ≤ 2147483648) ∧ (1 ≤ p ∧ p ≤ 2147483648) ∧ (0 ≤ q ∧ q ≤ p) from ⟨hx, hp, hq⟩)]
        have h0 := mul_cap hx.1 hq.1 hx.2 (show q ≤ 2147483648 by omega)
        have h1 : 0 ≤ x * q / p := Int.ediv_nonneg h0.1 (by omega)
        have h2 : x * q / p ≤ x * q := Int.ediv_le_self _ h0.1
        rw [if_neg (by omega), wrap_id (n := x * q) (by omega) (by omega), Int.tdiv_eq_ediv_of_nonneg h0.1, wrap_id (by omega) (by omega)]
      · rw [in_n hq]; simp only [Option.bind_some, Bool.false_eq_true, if_false]; rw [if_neg (by omega)]
    · rw [in_n hp]; simp only [Option.bind_some, Bool.false_eq_true, if_false]; rw [if_neg (by omega)]
  · rw [in_n hx]; simp only [Option.bind_some, Bool.false_eq_true, if_false]; rw [if_neg (by omega)]

/-- What Up answers, in plain numbers. -/
def upv (t d p : Int) : Int × Bool :=
  if (0 ≤ t ∧ t ≤ 4611686018427387904) ∧ (0 ≤ d ∧ d ≤ 4611686018427387904) ∧ (1 ≤ p ∧ p ≤ 2147483648) then
    (if d > t then (d, true) else if d + ((t - d) / p + 1) * p ≤ 4611686018427387904 then (d + ((t - d) / p + 1) * p, true) else (0, false))
  else (0, false)
theorem upv_a {t d p : Int} (h : (0 ≤ t ∧ t ≤ 4611686018427387904) ∧ (0 ≤ d ∧ d ≤ 4611686018427387904) ∧ (1 ≤ p ∧ p ≤ 2147483648)) (c : d > t) : upv t d p = (d, true) := by unfold upv; rw [if_pos h, if_pos c]
theorem upv_b {t d p : Int} (h : (0 ≤ t ∧ t ≤ 4611686018427387904) ∧ (0 ≤ d ∧ d ≤ 4611686018427387904) ∧ (1 ≤ p ∧ p ≤ 2147483648)) (c : ¬ d > t) (e : d + ((t - d) / p + 1) * p ≤ 4611686018427387904) : upv t d p = (d + ((t - d) / p + 1) * p, true) := by unfold upv; rw [if_pos h, if_neg c, if_pos e]
theorem upv_c {t d p : Int} (c : ¬ d > t) (e : ¬ d + ((t - d) / p + 1) * p ≤ 4611686018427387904) : upv t d p = (0, false) := by
  unfold upv
  rw [if_neg c, if_neg e]
  simp
theorem upv_n {t d p : Int} (h : ¬ ((0 ≤ t ∧ t ≤ 4611686018427387904) ∧ (0 ≤ d ∧ d ≤ 4611686018427387904) ∧ (1 ≤ p ∧ p ≤ 2147483648))) : upv t d p = (0, false) := if_neg h
theorem up_no {t d p : Int} {k : Nat} : tick_Up.j0 (k + 1) t d p true = some (0, false) := by
  simp only [tick_Up.j0]; rfl
theorem up_q {t d p : Int} (h : d ≤ t) (hp : 1 ≤ p) : 0 ≤ (t - d) / p ∧ (t - d) / p ≤ t - d ∧ (t - d) / p * p ≤ t - d ∧ t - d < ((t - d) / p + 1) * p ∧ ((t - d) / p + 1) * p = (t - d) / p * p + p :=
  ⟨Int.ediv_nonneg (by omega) (by omega), Int.ediv_le_self _ (by omega), Int.ediv_mul_le _ (by omega), Int.lt_ediv_add_one_mul_self _ (by omega), by rw [Int.add_mul, Int.one_mul]⟩
theorem up_f (k : Nat) (t d p : Int) : tick_Up.f (k + 1) t d p = some (upv t d p) := by
  unfold tick_Up.f upv
  by_cases ht : 0 ≤ t ∧ t ≤ 4611686018427387904
  · rw [good_t ht.1 ht.2]; simp only [Option.bind_some, if_true]
    by_cases hd : 0 ≤ d ∧ d ≤ 4611686018427387904
    · rw [good_t hd.1 hd.2]; simp only [Option.bind_some, if_true]
      by_cases hp : 1 ≤ p ∧ p ≤ 2147483648
      · rw [in_t hp.1 hp.2]; simp only [Option.bind_some, Bool.not_true, tick_Up.j0, Bool.false_eq_true, if_false]
        rw [if_pos (show (0 ≤ t ∧ t ≤ 4611686018427387904) ∧ (0 ≤ d ∧ d ≤ 4611686018427387904) ∧ (1 ≤ p ∧ p ≤ 2147483648) from ⟨ht, hd, hp⟩)]
        by_cases c : d > t
        · rw [if_pos c, if_pos c]
        · have hq := up_q (t := t) (d := d) (p := p) (by omega) (by omega)
          rw [if_neg c, if_neg c, if_neg (by omega), wrap_id (n := t - d) (by omega) (by omega), Int.tdiv_eq_ediv_of_nonneg (by omega)]
          revert hq
          generalize (t - d) / p = q
          intro hq
          rw [wrap_id (n := q) (by omega) (by omega), wrap_id (n := q + 1) (by omega) (by omega)]
          revert hq
          generalize hm : (q + 1) * p = m
          generalize q * p = m'
          intro hq
          rw [wrap_id (n := m) (by omega) (by omega), wrap_id (n := d + m) (by omega) (by omega), tgood_f]
          simp only [Option.bind_some]
          by_cases h : d + m ≤ 4611686018427387904
          · rw [if_pos ⟨by omega, h⟩, if_pos h]
          · rw [if_neg (by omega), if_neg h]
      · rw [in_n hp]; simp only [Option.bind_some, Bool.not_false, Bool.false_eq_true, if_false]; rw [up_no, if_neg (by omega)]
    · rw [good_n hd]; simp only [Option.bind_some, Bool.not_false, Bool.false_eq_true, if_false]; rw [up_no, if_neg (by omega)]
  · rw [good_n ht]; simp only [Option.bind_some, Bool.not_false, Bool.false_eq_true, if_false]; rw [up_no, if_neg (by omega)]

theorem awake_f : beadlelaw1_awake.f 1 = some true := by decide +kernel

/-- What Windows answers, in plain numbers. -/
def winv (x p : Int) : Int × Bool := if (0 ≤ x ∧ x ≤ 4611686018427387904) ∧ (1 ≤ p ∧ p ≤ 2147483648) then (x / p, true) else (0, false)
theorem winv_t {x p : Int} (h : (0 ≤ x ∧ x ≤ 4611686018427387904) ∧ (1 ≤ p ∧ p ≤ 2147483648)) : winv x p = (x / p, true) := if_pos h
theorem winv_n {x p : Int} (h : ¬ ((0 ≤ x ∧ x ≤ 4611686018427387904) ∧ (1 ≤ p ∧ p ≤ 2147483648))) : winv x p = (0, false) := if_neg h
theorem win_f (x p : Int) : tick_Windows.f x p = some (winv x p) := by
  unfold tick_Windows.f winv
  by_cases hx : 0 ≤ x ∧ x ≤ 4611686018427387904
  · rw [good_t hx.1 hx.2]; simp only [Option.bind_some, if_true]
    by_cases hp : 1 ≤ p ∧ p ≤ 2147483648
    · rw [in_t hp.1 hp.2]; simp only [Option.bind_some, if_true]
      rw [if_pos (show (0 ≤ x ∧ x ≤ 4611686018427387904) ∧ (1 ≤ p ∧ p ≤ 2147483648) from ⟨hx, hp⟩)]
      have h1 : 0 ≤ x / p := Int.ediv_nonneg (by omega) (by omega)
      have h2 : x / p ≤ x := Int.ediv_le_self _ (by omega)
      rw [if_neg (by omega), Int.tdiv_eq_ediv_of_nonneg (by omega), wrap_id (by omega) (by omega)]
    · rw [in_n hp]; simp only [Option.bind_some, Bool.false_eq_true, if_false]; rw [if_neg (by omega)]
  · rw [good_n hx]; simp only [Option.bind_some, Bool.false_eq_true, if_false]; rw [if_neg (by omega)]

/-- What Add answers, in plain numbers. -/
def addv (a b : Int) : Int × Bool := if (0 ≤ a ∧ a ≤ 4611686018427387904) ∧ (0 ≤ b ∧ b ≤ 4611686018427387904) ∧ a + b ≤ 4611686018427387904 then (a + b, true) else (0, false)
theorem addv_t {a b : Int} (h : (0 ≤ a ∧ a ≤ 4611686018427387904) ∧ (0 ≤ b ∧ b ≤ 4611686018427387904) ∧ a + b ≤ 4611686018427387904) : addv a b = (a + b, true) := if_pos h
theorem addv_n {a b : Int} (h : ¬ ((0 ≤ a ∧ a ≤ 4611686018427387904) ∧ (0 ≤ b ∧ b ≤ 4611686018427387904) ∧ a + b ≤ 4611686018427387904)) : addv a b = (0, false) := if_neg h
theorem add_f (a b : Int) : tick_Add.f a b = some (addv a b) := by
  unfold tick_Add.f addv
  by_cases ha : 0 ≤ a ∧ a ≤ 4611686018427387904
  · rw [good_t ha.1 ha.2]; simp only [Option.bind_some, if_true]
    by_cases hb : 0 ≤ b ∧ b ≤ 4611686018427387904
    · rw [good_t hb.1 hb.2, tgood_f]; simp only [Option.bind_some, if_true]
      by_cases h : a + b ≤ 4611686018427387904
      · rw [wrap_id (by omega) (by omega), if_pos (show 0 ≤ a + b ∧ a + b ≤ 4611686018427387904 by omega), if_pos ⟨ha, hb, h⟩]
      · rw [if_neg (show ¬ (0 ≤ wrap64 (a + b) ∧ wrap64 (a + b) ≤ 4611686018427387904) by unfold wrap64; omega), if_neg (by omega)]
    · rw [good_n hb]; simp only [Option.bind_some, Bool.false_eq_true, if_false]; rw [if_neg (by omega)]
  · rw [good_n ha]; simp only [Option.bind_some, Bool.false_eq_true, if_false]; rw [if_neg (by omega)]

theorem mul_le {a b : Int} (hb : 0 < b) : a ≤ 4611686018427387904 / b ↔ a * b ≤ 4611686018427387904 := Int.le_ediv_iff_mul_le hb
/-- What Mul answers, in plain numbers. -/
def mulv (a b : Int) : Int × Bool := if (0 ≤ a ∧ a ≤ 4611686018427387904) ∧ (0 ≤ b ∧ b ≤ 4611686018427387904) ∧ a * b ≤ 4611686018427387904 then (a * b, true) else (0, false)
theorem mulv_t {a b : Int} (h : (0 ≤ a ∧ a ≤ 4611686018427387904) ∧ (0 ≤ b ∧ b ≤ 4611686018427387904) ∧ a * b ≤ 4611686018427387904) : mulv a b = (a * b, true) := if_pos h
theorem mulv_n {a b : Int} (h : ¬ ((0 ≤ a ∧ a ≤ 4611686018427387904) ∧ (0 ≤ b ∧ b ≤ 4611686018427387904) ∧ a * b ≤ 4611686018427387904)) : mulv a b = (0, false) := if_neg h
theorem mul_f (a b : Int) : tick_Mul.f a b = some (mulv a b) := by
  unfold tick_Mul.f mulv
  by_cases ha : 0 ≤ a ∧ a ≤ 4611686018427387904
  · rw [good_t ha.1 ha.2]; simp only [Option.bind_some, if_true]
    by_cases hb : 0 ≤ b ∧ b ≤ 4611686018427387904
    · rw [good_t hb.1 hb.2]; simp only [Option.bind_some, if_true]
      have h0 : 0 ≤ a * b := Int.mul_nonneg ha.1 hb.1
      by_cases hp : b > 0
      · have hm := mul_le (a := a) hp
        have h1 : 0 ≤ 4611686018427387904 / b := Int.ediv_nonneg (by omega) (by omega)
        have h2 : 4611686018427387904 / b ≤ 4611686018427387904 := Int.ediv_le_self _ (by omega)
        rw [if_pos hp, if_neg (by omega), Int.tdiv_eq_ediv_of_nonneg (by omega), wrap_id (n := 4611686018427387904 / b) (by omega) (by omega)]
        by_cases h : a * b ≤ 4611686018427387904
        · rw [if_neg (by omega), wrap_id (by omega) (by omega), tgood_f, if_pos ⟨h0, h⟩, if_pos ⟨ha, hb, h⟩]; rfl
        · rw [if_pos (by omega), if_neg (by omega)]
      · have hz : b = 0 := by omega
        subst hz
        rw [if_neg hp]
        simp only [Int.mul_zero]
        rw [wrap_id (by omega) (by omega), tgood_f, if_pos (by omega), if_pos ⟨ha, hb, by omega⟩]; rfl
    · rw [good_n hb]; simp only [Option.bind_some, Bool.false_eq_true, if_false]; rw [if_neg (by omega)]
  · rw [good_n ha]; simp only [Option.bind_some, Bool.false_eq_true, if_false]; rw [if_neg (by omega)]

theorem muls_no {a p m : Int} : beadlelaw1_TickMuls.j0 1 a p m true = some true := by
  simp only [beadlelaw1_TickMuls.j0]; rfl
theorem TickMuls : beadlelaw1_TickMuls.Pure := by
  intro a p ha hp
  have ha := wf64 ha
  have hp := wf64 hp
  refine ⟨1, ?_⟩
  unfold beadlelaw1_TickMuls.f
  rw [awake_f]; simp only [Option.bind_some, if_true]
  rw [mul_f]; simp only [Option.bind_some]
  by_cases h : (0 ≤ a ∧ a ≤ 4611686018427387904) ∧ (0 ≤ p ∧ p ≤ 4611686018427387904) ∧ a * p ≤ 4611686018427387904
  · rw [mulv_t h]; simp only [if_true]
    obtain ⟨h1, h2, h3⟩ := h
    by_cases c : p < 1
    · rw [if_pos c]; exact muls_no
    · rw [if_neg c]
      by_cases c2 : p > 2147483648
      · rw [decide_eq_true c2]; exact muls_no
      · rw [decide_eq_false c2]
        have h0 : 0 ≤ a * p := Int.mul_nonneg h1.1 h2.1
        simp only [beadlelaw1_TickMuls.j0, Bool.false_eq_true, if_false]
        rw [wrap_id (by omega) (by omega), win_f, winv_t ⟨⟨h0, h3⟩, by omega, by omega⟩, mul_f, add_f, Int.mul_ediv_cancel _ (by omega)]
        simp only [Option.bind_some, if_true]
        have hm : a * (p + 1) = a * p + a := by rw [Int.mul_add, Int.mul_one]
        by_cases c3 : a * p + a ≤ 4611686018427387904
        · rw [mulv_t ⟨h1, ⟨by omega, by omega⟩, by omega⟩, addv_t ⟨⟨h0, h3⟩, h1, c3⟩, hm]
          simp
        · rw [mulv_n (fun x => c3 (by omega)), addv_n (fun x => c3 x.2.2)]
          simp
  · rw [mulv_n h]; simp only [Bool.false_eq_true, if_false]; exact muls_no

end Go.Proofs.Ytdamaflkcakcdaa.Pure
