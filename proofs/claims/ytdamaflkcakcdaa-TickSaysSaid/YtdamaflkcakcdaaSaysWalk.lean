/- The law TickSays, walked: whatever the four numbers, the Go code of beadlelaw1.TickSays returns true and changes no memory; no condition. -/
import Derived.Test.YtdamaflkcakcdaaQx6
import Derived.Test.YtdamaflkcakcdaaQx9
import Derived.Test.YtdamaflkcakcdaaQx10
import Derived.Test.YtdamaflkcakcdaaQx12
import Derived.Test.YtdamaflkcakcdaaQx5
import Derived.Test.YtdamaflkcakcdaaQx16
import Derived.Test.YtdamaflkcakcdaaQx7
import Derived.Test.YtdamaflkcakcdaaQx4
import Derived.Test.YtdamaflkcakcdaaQx21
import Derived.Test.YtdamaflkcakcdaaQx23
import Derived.Test.YtdamaflkcakcdaaQx24
import Derived.Test.YtdamaflkcakcdaaQx26
import Derived.Test.YtdamaflkcakcdaaQx27
import Derived.Test.YtdamaflkcakcdaaQx28
import Derived.Test.YtdamaflkcakcdaaQx29
import Derived.Test.YtdamaflkcakcdaaQx20
import Derived.Test.YtdamaflkcakcdaaQx1
namespace Go.Proofs.Ytdamaflkcakcdaa.SaysWalk
open Go.RowKit Go.Proofs.Ytdamaflkcakcdaa.Q Go.Proofs.YtdamaflkcakcdaaW.PrintWords Go.Proofs.YtdamaflkcakcdaaW.PrintLast Go.Proofs.YtdamaflkcakcdaaW.PrintMore
set_option linter.unusedVariables false
set_option linter.unusedSimpArgs false

theorem wrap_id {n : Int} (h0 : -9223372036854775808 ≤ n) (h1 : n ≤ 9223372036854775807) : wrap64 n = n := by unfold wrap64; omega
theorem wf64 {a : Int} (h : (Lit.int .i64 a).wf = true) : -9223372036854775808 ≤ a ∧ a ≤ 9223372036854775807 := by
  simp only [Lit.wf, Bool.and_eq_true, decide_eq_true_eq] at h; exact h

theorem good_t {a : Int} (h0 : 0 ≤ a) (h1 : a ≤ 4611686018427387904) : tick_Good.f a = some true := by
  unfold tick_Good.f; rw [if_pos h0, decide_eq_true h1]
theorem good_n {a : Int} (h : ¬ (0 ≤ a ∧ a ≤ 4611686018427387904)) : tick_Good.f a = some false := by
  unfold tick_Good.f
  by_cases h0 : a ≥ 0
  · rw [if_pos h0, decide_eq_false (by omega)]
  · rw [if_neg h0]
theorem in_t {a b c : Int} (h0 : b ≤ a) (h1 : a ≤ c) : tick_in.f a b c = some true := by
  unfold tick_in.f; rw [if_pos h0, decide_eq_true h1]
theorem in_n {a b c : Int} (h : ¬ (b ≤ a ∧ a ≤ c)) : tick_in.f a b c = some false := by
  unfold tick_in.f
  by_cases h0 : a ≥ b
  · rw [if_pos h0, decide_eq_false (by omega)]
  · rw [if_neg h0]
theorem tgood_f (a : Int) : tick_good.f a = some (if 0 ≤ a ∧ a ≤ 4611686018427387904 then (a, true) else (0, false)) := by
  unfold tick_good.f
  by_cases h : 0 ≤ a ∧ a ≤ 4611686018427387904
  · rw [good_t h.1 h.2, if_pos h]; rfl
  · rw [good_n h, if_neg h]; rfl

theorem mul_cap {a b A B : Int} (ha : 0 ≤ a) (hb : 0 ≤ b) (hA : a ≤ A) (hB : b ≤ B) : 0 ≤ a * b ∧ a * b ≤ A * B :=
  ⟨Int.mul_nonneg ha hb, Int.le_trans (Int.mul_le_mul_of_nonneg_right hA hb) (Int.mul_le_mul_of_nonneg_left hB (by omega))⟩
/-- What Share answers, in plain numbers. -/
def sharev (x q p : Int) : Int × Bool := if (0 ≤ x ∧ x ≤ 2147483648) ∧ (1 ≤ p ∧ p ≤ 2147483648) ∧ (0 ≤ q ∧ q ≤ p) then (x * q / p, true) else (0, false)
theorem sharev_t {x q p : Int} (h : (0 ≤ x ∧ x ≤ 2147483648) ∧ (1 ≤ p ∧ p ≤ 2147483648) ∧ (0 ≤ q ∧ q ≤ p)) : sharev x q p = (x * q / p, true) := if_pos h
theorem sharev_n {x q p : Int} (h : ¬ ((0 ≤ x ∧ x ≤ 2147483648) ∧ (1 ≤ p ∧ p ≤ 2147483648) ∧ (0 ≤ q ∧ q ≤ p))) : sharev x q p = (0, false) := if_neg h
theorem share_f (x q p : Int) : tick_Share.f x q p = some (sharev x q p) := by
  unfold tick_Share.f sharev
  by_cases hx : 0 ≤ x ∧ x ≤ 2147483648
  · rw [in_t hx.1 hx.2]; simp only [Option.bind_some, if_true]
    by_cases hp : 1 ≤ p ∧ p ≤ 2147483648
    · rw [in_t hp.1 hp.2]; simp only [Option.bind_some, if_true]
      by_cases hq : 0 ≤ q ∧ q ≤ p
      · rw [in_t hq.1 hq.2]; simp only [Option.bind_some, if_true]
        rw [if_pos (show (0 ≤ x ∧ x ≤ 2147483648) ∧ (1 ≤ p ∧ p ≤ 2147483648) ∧ (0 ≤ q ∧ q ≤ p) from ⟨hx, hp, hq⟩)]
        have h0 := mul_cap hx.1 hq.1 hx.2 (show q ≤ 2147483648 by omega)
        have h1 : 0 ≤ x * q / p := Int.ediv_nonneg h0.1 (by omega)
        have h2 : x * q / p ≤ x * q := Int.ediv_le_self _ h0.1
        rw [if_neg (by omega), wrap_id (n := x * q) (by omega) (by omega), Int.tdiv_eq_ediv_of_nonneg h0.1, wrap_id (by omega) (by omega)]
      · rw [in_n hq]; simp only [Option.bind_some, Bool.false_eq_true, if_false]; rw [if_neg (by omega)]
    · rw [in_n hp]; simp only [Option.bind_some, Bool.false_eq_true, if_false]; rw [if_neg (by omega)]
  · rw [in_n hx]; simp only [Option.bind_some, Bool.false_eq_true, if_false]; rw [if_neg (by omega)]

/-- What Up answers, in plain numbers. -/
def upv (t d p : Int) : Int × Bool :=
  if (0 ≤ t ∧ t ≤ 4611686018427387904) ∧ (0 ≤ d ∧ d ≤ 4611686018427387904) ∧ (1 ≤ p ∧ p ≤ 2147483648) then
    (if d > t then (d, true) else if d + ((t - d) / p + 1) * p ≤ 4611686018427387904 then (d + ((t - d) / p + 1) * p, true) else (0, false))
  else (0, false)
theorem upv_a {t d p : Int} (h : (0 ≤ t ∧ t ≤ 4611686018427387904) ∧ (0 ≤ d ∧ d ≤ 4611686018427387904) ∧ (1 ≤ p ∧ p ≤ 2147483648)) (c : d > t) : upv t d p = (d, true) := by unfold upv; rw [if_pos h, if_pos c]
theorem upv_b {t d p : Int} (h : (0 ≤ t ∧ t ≤ 4611686018427387904) ∧ (0 ≤ d ∧ d ≤ 4611686018427387904) ∧ (1 ≤ p ∧ p ≤ 2147483648)) (c : ¬ d > t) (e : d + ((t - d) / p + 1) * p ≤ 4611686018427387904) : upv t d p = (d + ((t - d) / p + 1) * p, true) := by unfold upv; rw [if_pos h, if_neg c, if_pos e]
theorem upv_c {t d p : Int} (c : ¬ d > t) (e : ¬ d + ((t - d) / p + 1) * p ≤ 4611686018427387904) : upv t d p = (0, false) := by
  unfold upv
  rw [if_neg c, if_neg e]
  simp
theorem upv_n {t d p : Int} (h : ¬ ((0 ≤ t ∧ t ≤ 4611686018427387904) ∧ (0 ≤ d ∧ d ≤ 4611686018427387904) ∧ (1 ≤ p ∧ p ≤ 2147483648))) : upv t d p = (0, false) := if_neg h
theorem up_no {t d p : Int} {k : Nat} : tick_Up.j0 (k + 1) t d p true = some (0, false) := by
  simp only [tick_Up.j0]; rfl
theorem up_q {t d p : Int} (h : d ≤ t) (hp : 1 ≤ p) : 0 ≤ (t - d) / p ∧ (t - d) / p ≤ t - d ∧ (t - d) / p * p ≤ t - d ∧ t - d < ((t - d) / p + 1) * p ∧ ((t - d) / p + 1) * p = (t - d) / p * p + p :=
  ⟨Int.ediv_nonneg (by omega) (by omega), Int.ediv_le_self _ (by omega), Int.ediv_mul_le _ (by omega), Int.lt_ediv_add_one_mul_self _ (by omega), by rw [Int.add_mul, Int.one_mul]⟩
theorem up_f (k : Nat) (t d p : Int) : tick_Up.f (k + 1) t d p = some (upv t d p) := by
  unfold tick_Up.f upv
  by_cases ht : 0 ≤ t ∧ t ≤ 4611686018427387904
  · rw [good_t ht.1 ht.2]; simp only [Option.bind_some, if_true]
    by_cases hd : 0 ≤ d ∧ d ≤ 4611686018427387904
    · rw [good_t hd.1 hd.2]; simp only [Option.bind_some, if_true]
      by_cases hp : 1 ≤ p ∧ p ≤ 2147483648
      · rw [in_t hp.1 hp.2]; simp only [Option.bind_some, Bool.not_true, tick_Up.j0, Bool.false_eq_true, if_false]
        rw [if_pos (show (0 ≤ t ∧ t ≤ 4611686018427387904) ∧ (0 ≤ d ∧ d ≤ 4611686018427387904) ∧ (1 ≤ p ∧ p ≤ 2147483648) from ⟨ht, hd, hp⟩)]
        by_cases c : d > t
        · rw [if_pos c, if_pos c]
        · have hq := up_q (t := t) (d := d) (p := p) (by omega) (by omega)
          rw [if_neg c, if_neg c, if_neg (by omega), wrap_id (n := t - d) (by omega) (by omega), Int.tdiv_eq_ediv_of_nonneg (by omega)]
          revert hq
          generalize (t - d) / p = q
          intro hq
          rw [wrap_id (n := q) (by omega) (by omega), wrap_id (n := q + 1) (by omega) (by omega)]
          revert hq
          generalize hm : (q + 1) * p = m
          generalize q * p = m'
          intro hq
          rw [wrap_id (n := m) (by omega) (by omega), wrap_id (n := d + m) (by omega) (by omega), tgood_f]
          simp only [Option.bind_some]
          by_cases h : d + m ≤ 4611686018427387904
          · rw [if_pos ⟨by omega, h⟩, if_pos h]
          · rw [if_neg (by omega), if_neg h]
      · rw [in_n hp]; simp only [Option.bind_some, Bool.not_false, Bool.false_eq_true, if_false]; rw [up_no, if_neg (by omega)]
    · rw [good_n hd]; simp only [Option.bind_some, Bool.not_false, Bool.false_eq_true, if_false]; rw [up_no, if_neg (by omega)]
  · rw [good_n ht]; simp only [Option.bind_some, Bool.not_false, Bool.false_eq_true, if_false]; rw [up_no, if_neg (by omega)]

/-- What Windows answers, in plain numbers. -/
def winv (x p : Int) : Int × Bool := if (0 ≤ x ∧ x ≤ 4611686018427387904) ∧ (1 ≤ p ∧ p ≤ 2147483648) then (x / p, true) else (0, false)
theorem winv_t {x p : Int} (h : (0 ≤ x ∧ x ≤ 4611686018427387904) ∧ (1 ≤ p ∧ p ≤ 2147483648)) : winv x p = (x / p, true) := if_pos h
theorem winv_n {x p : Int} (h : ¬ ((0 ≤ x ∧ x ≤ 4611686018427387904) ∧ (1 ≤ p ∧ p ≤ 2147483648))) : winv x p = (0, false) := if_neg h
theorem win_f (x p : Int) : tick_Windows.f x p = some (winv x p) := by
  unfold tick_Windows.f winv
  by_cases hx : 0 ≤ x ∧ x ≤ 4611686018427387904
  · rw [good_t hx.1 hx.2]; simp only [Option.bind_some, if_true]
    by_cases hp : 1 ≤ p ∧ p ≤ 2147483648
    · rw [in_t hp.1 hp.2]; simp only [Option.bind_some, if_true]
      rw [if_pos (show (0 ≤ x ∧ x ≤ 4611686018427387904) ∧ (1 ≤ p ∧ p ≤ 2147483648) from ⟨hx, hp⟩)]
      have h1 : 0 ≤ x / p := Int.ediv_nonneg (by omega) (by omega)
      have h2 : x / p ≤ x := Int.ediv_le_self _ (by omega)
      rw [if_neg (by omega), Int.tdiv_eq_ediv_of_nonneg (by omega), wrap_id (by omega) (by omega)]
    · rw [in_n hp]; simp only [Option.bind_some, Bool.false_eq_true, if_false]; rw [if_neg (by omega)]
  · rw [good_n hx]; simp only [Option.bind_some, Bool.false_eq_true, if_false]; rw [if_neg (by omega)]

/-- What Add answers, in plain numbers. -/
def addv (a b : Int) : Int × Bool := if (0 ≤ a ∧ a ≤ 4611686018427387904) ∧ (0 ≤ b ∧ b ≤ 4611686018427387904) ∧ a + b ≤ 4611686018427387904 then (a + b, true) else (0, false)
theorem addv_t {a b : Int} (h : (0 ≤ a ∧ a ≤ 4611686018427387904) ∧ (0 ≤ b ∧ b ≤ 4611686018427387904) ∧ a + b ≤ 4611686018427387904) : addv a b = (a + b, true) := if_pos h
theorem addv_n {a b : Int} (h : ¬ ((0 ≤ a ∧ a ≤ 4611686018427387904) ∧ (0 ≤ b ∧ b ≤ 4611686018427387904) ∧ a + b ≤ 4611686018427387904)) : addv a b = (0, false) := if_neg h
theorem add_f (a b : Int) : tick_Add.f a b = some (addv a b) := by
  unfold tick_Add.f addv
  by_cases ha : 0 ≤ a ∧ a ≤ 4611686018427387904
  · rw [good_t ha.1 ha.2]; simp only [Option.bind_some, if_true]
    by_cases hb : 0 ≤ b ∧ b ≤ 4611686018427387904
    · rw [good_t hb.1 hb.2, tgood_f]; simp only [Option.bind_some, if_true]
      by_cases h : a + b ≤ 4611686018427387904
      · rw [wrap_id (by omega) (by omega), if_pos (show 0 ≤ a + b ∧ a + b ≤ 4611686018427387904 by omega), if_pos ⟨ha, hb, h⟩]
      · rw [if_neg (show ¬ (0 ≤ wrap64 (a + b) ∧ wrap64 (a + b) ≤ 4611686018427387904) by unfold wrap64; omega), if_neg (by omega)]
    · rw [good_n hb]; simp only [Option.bind_some, Bool.false_eq_true, if_false]; rw [if_neg (by omega)]
  · rw [good_n ha]; simp only [Option.bind_some, Bool.false_eq_true, if_false]; rw [if_neg (by omega)]

/-- What Sub answers, in plain numbers. -/
def subv (a b : Int) : Int × Bool := if (0 ≤ a ∧ a ≤ 4611686018427387904) ∧ (0 ≤ b ∧ b ≤ 4611686018427387904) ∧ b ≤ a then (a - b, true) else (0, false)
theorem subv_t {a b : Int} (h : (0 ≤ a ∧ a ≤ 4611686018427387904) ∧ (0 ≤ b ∧ b ≤ 4611686018427387904) ∧ b ≤ a) : subv a b = (a - b, true) := if_pos h
theorem subv_n {a b : Int} (h : ¬ ((0 ≤ a ∧ a ≤ 4611686018427387904) ∧ (0 ≤ b ∧ b ≤ 4611686018427387904) ∧ b ≤ a)) : subv a b = (0, false) := if_neg h
theorem sub_f (a b : Int) : tick_Sub.f a b = some (subv a b) := by
  unfold tick_Sub.f subv
  by_cases ha : 0 ≤ a ∧ a ≤ 4611686018427387904
  · rw [good_t ha.1 ha.2]; simp only [Option.bind_some, if_true]
    by_cases hb : 0 ≤ b ∧ b ≤ 4611686018427387904
    · rw [good_t hb.1 hb.2, wrap_id (by omega) (by omega), tgood_f]; simp only [Option.bind_some, if_true]
      by_cases h : b ≤ a
      · rw [if_pos ⟨by omega, by omega⟩, if_pos ⟨ha, hb, h⟩]
      · rw [if_neg (by omega), if_neg (by omega)]
    · rw [good_n hb]; simp only [Option.bind_some, Bool.false_eq_true, if_false]; rw [if_neg (by omega)]
  · rw [good_n ha]; simp only [Option.bind_some, Bool.false_eq_true, if_false]; rw [if_neg (by omega)]

theorem mul_le {a b : Int} (hb : 0 < b) : a ≤ 4611686018427387904 / b ↔ a * b ≤ 4611686018427387904 := Int.le_ediv_iff_mul_le hb
/-- What Mul answers, in plain numbers. -/
def mulv (a b : Int) : Int × Bool := if (0 ≤ a ∧ a ≤ 4611686018427387904) ∧ (0 ≤ b ∧ b ≤ 4611686018427387904) ∧ a * b ≤ 4611686018427387904 then (a * b, true) else (0, false)
theorem mulv_t {a b : Int} (h : (0 ≤ a ∧ a ≤ 4611686018427387904) ∧ (0 ≤ b ∧ b ≤ 4611686018427387904) ∧ a * b ≤ 4611686018427387904) : mulv a b = (a * b, true) := if_pos h
theorem mulv_n {a b : Int} (h : ¬ ((0 ≤ a ∧ a ≤ 4611686018427387904) ∧ (0 ≤ b ∧ b ≤ 4611686018427387904) ∧ a * b ≤ 4611686018427387904)) : mulv a b = (0, false) := if_neg h
theorem mul_f (a b : Int) : tick_Mul.f a b = some (mulv a b) := by
  unfold tick_Mul.f mulv
  by_cases ha : 0 ≤ a ∧ a ≤ 4611686018427387904
  · rw [good_t ha.1 ha.2]; simp only [Option.bind_some, if_true]
    by_cases hb : 0 ≤ b ∧ b ≤ 4611686018427387904
    · rw [good_t hb.1 hb.2]; simp only [Option.bind_some, if_true]
      have h0 : 0 ≤ a * b := Int.mul_nonneg ha.1 hb.1
      by_cases hp : b > 0
      · have hm := mul_le (a := a) hp
        have h1 : 0 ≤ 4611686018427387904 / b := Int.ediv_nonneg (by omega) (by omega)
        have h2 : 4611686018427387904 / b ≤ 4611686018427387904 := Int.ediv_le_self _ (by omega)
        rw [if_pos hp, if_neg (by omega), Int.tdiv_eq_ediv_of_nonneg (by omega), wrap_id (n := 4611686018427387904 / b) (by omega) (by omega)]
        by_cases h : a * b ≤ 4611686018427387904
        · rw [if_neg (by omega), wrap_id (by omega) (by omega), tgood_f, if_pos ⟨h0, h⟩, if_pos ⟨ha, hb, h⟩]; rfl
        · rw [if_pos (by omega), if_neg (by omega)]
      · have hz : b = 0 := by omega
        subst hz
        rw [if_neg hp]
        simp only [Int.mul_zero]
        rw [wrap_id (by omega) (by omega), tgood_f, if_pos (by omega), if_pos ⟨ha, hb, by omega⟩]; rfl
    · rw [good_n hb]; simp only [Option.bind_some, Bool.false_eq_true, if_false]; rw [if_neg (by omega)]
  · rw [good_n ha]; simp only [Option.bind_some, Bool.false_eq_true, if_false]; rw [if_neg (by omega)]

/-- How two numbers compare. -/
def cmpv (x y : Int) : Int := if x < y then -1 else if x > y then 1 else 0
theorem compare_f (a b : Int) : cmp_Compare_int64.f a b = some (cmpv a b) := by
  unfold cmp_Compare_int64.f cmp_isNaN_int64.f cmpv
  simp only [Option.bind_some, bne_self_eq_false, Bool.false_eq_true, if_false]
  split
  · rfl
  · split <;> rfl
/-- What Cmp answers, in plain numbers. -/
def cmw (a b c d : Int) : Int × Bool := if (0 ≤ a ∧ a ≤ 2147483648) ∧ (0 ≤ c ∧ c ≤ 2147483648) ∧ (1 ≤ b ∧ b ≤ 2147483648) ∧ (1 ≤ d ∧ d ≤ 2147483648) then (cmpv (a * d) (c * b), true) else (0, false)
theorem cmw_t {a b c d : Int} (h : (0 ≤ a ∧ a ≤ 2147483648) ∧ (0 ≤ c ∧ c ≤ 2147483648) ∧ (1 ≤ b ∧ b ≤ 2147483648) ∧ (1 ≤ d ∧ d ≤ 2147483648)) : cmw a b c d = (cmpv (a * d) (c * b), true) := if_pos h
theorem cmw_n {a b c d : Int} (h : ¬ ((0 ≤ a ∧ a ≤ 2147483648) ∧ (0 ≤ c ∧ c ≤ 2147483648) ∧ (1 ≤ b ∧ b ≤ 2147483648) ∧ (1 ≤ d ∧ d ≤ 2147483648))) : cmw a b c d = (0, false) := if_neg h
theorem cmp_f (a b c d : Int) : tick_Cmp.f a b c d = some (cmw a b c d) := by
  unfold tick_Cmp.f cmw
  by_cases ha : 0 ≤ a ∧ a ≤ 2147483648
  · rw [in_t ha.1 ha.2]; simp only [Option.bind_some, if_true]
    by_cases hc : 0 ≤ c ∧ c ≤ 2147483648
    · rw [in_t hc.1 hc.2]; simp only [Option.bind_some, if_true]
      by_cases hb : 1 ≤ b ∧ b ≤ 2147483648
      · rw [in_t hb.1 hb.2]; simp only [Option.bind_some, if_true]
        by_cases hd : 1 ≤ d ∧ d ≤ 2147483648
        · rw [in_t hd.1 hd.2]; simp only [Option.bind_some, if_true]
          rw [if_pos (show (0 ≤ a ∧ a ≤ 2147483648) ∧ (0 ≤ c ∧ c ≤ 2147483648) ∧ (1 ≤ b ∧ b ≤ 2147483648) ∧ (1 ≤ d ∧ d ≤ 2147483648) from ⟨ha, hc, hb, hd⟩)]
          have h0 := mul_cap ha.1 (show 0 ≤ d by omega) ha.2 hd.2
          have h1 := mul_cap hc.1 (show 0 ≤ b by omega) hc.2 hb.2
          rw [wrap_id (n := a * d) (by omega) (by omega), wrap_id (n := c * b) (by omega) (by omega), compare_f]; rfl
        · rw [in_n hd]; simp only [Option.bind_some, Bool.false_eq_true, if_false]; rw [if_neg (by omega)]
      · rw [in_n hb]; simp only [Option.bind_some, Bool.false_eq_true, if_false]; rw [if_neg (by omega)]
    · rw [in_n hc]; simp only [Option.bind_some, Bool.false_eq_true, if_false]; rw [if_neg (by omega)]
  · rw [in_n ha]; simp only [Option.bind_some, Bool.false_eq_true, if_false]; rw [if_neg (by omega)]

theorem rgood_eq (a : Int) : beadleref1_Good.f a = tick_Good.f a := rfl
theorem rgd_eq (a : Int) : beadleref1_good.f a = tick_good.f a := rfl
theorem per_eq (a : Int) : beadleref1_period.f a = tick_in.f a 1 2147483648 := rfl
theorem radd_f (a b : Int) : beadleref1_Add.f a b = some (addv a b) := by
  unfold beadleref1_Add.f addv
  rw [rgood_eq, rgood_eq]
  by_cases ha : 0 ≤ a ∧ a ≤ 4611686018427387904
  · rw [good_t ha.1 ha.2]; simp only [Option.bind_some, if_true]
    by_cases hb : 0 ≤ b ∧ b ≤ 4611686018427387904
    · rw [good_t hb.1 hb.2, wrap_id (n := 4611686018427387904 - b) (by omega) (by omega)]; simp only [Option.bind_some, if_true]
      by_cases h : a + b ≤ 4611686018427387904
      · rw [if_neg (by omega), wrap_id (n := a + b) (by omega) (by omega), if_pos ⟨ha, hb, h⟩]
      · rw [if_pos (by omega), if_neg (by omega)]
    · rw [good_n hb]; simp only [Option.bind_some, Bool.false_eq_true, if_false]; rw [if_neg (by omega)]
  · rw [good_n ha]; simp only [Option.bind_some, Bool.false_eq_true, if_false]; rw [if_neg (by omega)]
theorem rsub_f (a b : Int) : beadleref1_Sub.f a b = some (subv a b) := sub_f a b
theorem rwin_f (a b : Int) : beadleref1_Windows.f a b = some (winv a b) := win_f a b
theorem rsub_eq (a b : Int) : beadleref1_Sub.f a b = tick_Sub.f a b := rfl
theorem rmul_f (a b : Int) : beadleref1_Mul.f a b = some (mulv a b) := by
  unfold beadleref1_Mul.f mulv
  rw [rgood_eq, rgood_eq]
  by_cases ha : 0 ≤ a ∧ a ≤ 4611686018427387904
  · rw [good_t ha.1 ha.2]; simp only [Option.bind_some, if_true]
    by_cases hb : 0 ≤ b ∧ b ≤ 4611686018427387904
    · rw [good_t hb.1 hb.2]; simp only [Option.bind_some, if_true]
      have h0 : 0 ≤ a * b := Int.mul_nonneg ha.1 hb.1
      by_cases hp : b > 0
      · have hm := mul_le (a := a) hp
        have h1 : 0 ≤ 4611686018427387904 / b := Int.ediv_nonneg (by omega) (by omega)
        have h2 : 4611686018427387904 / b ≤ 4611686018427387904 := Int.ediv_le_self _ (by omega)
        rw [if_pos hp, if_neg (by omega), Int.tdiv_eq_ediv_of_nonneg (by omega), wrap_id (n := 4611686018427387904 / b) (by omega) (by omega)]
        by_cases h : a * b ≤ 4611686018427387904
        · rw [if_neg (by omega), wrap_id (by omega) (by omega), if_pos ⟨ha, hb, h⟩]
        · rw [if_pos (by omega), if_neg (by omega)]
      · have hz : b = 0 := by omega
        subst hz
        rw [if_neg hp]
        simp only [Int.mul_zero]
        rw [wrap_id (by omega) (by omega), if_pos ⟨ha, hb, by omega⟩]
    · rw [good_n hb]; simp only [Option.bind_some, Bool.false_eq_true, if_false]; rw [if_neg (by omega)]
  · rw [good_n ha]; simp only [Option.bind_some, Bool.false_eq_true, if_false]; rw [if_neg (by omega)]
theorem rshare_f (x q p : Int) : beadleref1_Share.f x q p = some (sharev x q p) := by
  unfold beadleref1_Share.f sharev
  rw [per_eq]
  by_cases x1 : x < 0
  · rw [if_pos x1, if_neg (by omega)]
  · rw [if_neg x1]
    by_cases x2 : x > 2147483648
    · rw [if_pos x2, if_neg (by omega)]
    · rw [if_neg x2]
      by_cases hp : 1 ≤ p ∧ p ≤ 2147483648
      · rw [in_t hp.1 hp.2]; simp only [Option.bind_some, if_true]
        by_cases q1 : q < 0
        · rw [if_pos q1, if_neg (by omega)]
        · rw [if_neg q1]
          by_cases q2 : q > p
          · rw [if_pos q2, if_neg (by omega)]
          · have h0 := mul_cap (show 0 ≤ x by omega) (show 0 ≤ q by omega) (show x ≤ 2147483648 by omega) (show q ≤ 2147483648 by omega)
            have h1 : 0 ≤ x * q / p := Int.ediv_nonneg h0.1 (by omega)
            have h2 : x * q / p ≤ x * q := Int.ediv_le_self _ h0.1
            rw [if_neg q2, if_neg (by omega), wrap_id (n := x * q) (by omega) (by omega), Int.tdiv_eq_ediv_of_nonneg h0.1, wrap_id (by omega) (by omega), if_pos ⟨by omega, hp, by omega⟩]
      · rw [in_n hp]; simp only [Option.bind_some, Bool.false_eq_true, if_false]; rw [if_neg (by omega)]
theorem rcmp_no {k : Nat} {a b c d : Int} : beadleref1_Cmp.j0 (k + 1) a b c d true = some (0, false) := by
  simp only [beadleref1_Cmp.j0]; rfl
theorem rcmp_f (k : Nat) (a b c d : Int) : beadleref1_Cmp.f (k + 1) a b c d = some (cmw a b c d) := by
  unfold beadleref1_Cmp.f cmw
  rw [per_eq, per_eq, rcmp_no]
  by_cases a1 : a < 0
  · rw [if_pos a1, if_neg (by omega)]
  · rw [if_neg a1]
    by_cases a2 : a > 2147483648
    · rw [if_pos a2, if_neg (by omega)]
    · rw [if_neg a2]
      by_cases c1 : c < 0
      · rw [if_pos c1, if_neg (by omega)]
      · rw [if_neg c1]
        by_cases c2 : c > 2147483648
        · rw [if_pos c2, if_neg (by omega)]
        · rw [if_neg c2]
          by_cases hb : 1 ≤ b ∧ b ≤ 2147483648
          · rw [in_t hb.1 hb.2]; simp only [Option.bind_some, if_true]
            by_cases hd : 1 ≤ d ∧ d ≤ 2147483648
            · rw [in_t hd.1 hd.2]
              simp only [Option.bind_some, Bool.not_true, beadleref1_Cmp.j0, Bool.false_eq_true, if_false]
              rw [if_pos (show (0 ≤ a ∧ a ≤ 2147483648) ∧ (0 ≤ c ∧ c ≤ 2147483648) ∧ (1 ≤ b ∧ b ≤ 2147483648) ∧ (1 ≤ d ∧ d ≤ 2147483648) from ⟨by omega, by omega, hb, hd⟩)]
              have h0 := mul_cap (show 0 ≤ a by omega) (show 0 ≤ d by omega) (show a ≤ 2147483648 by omega) hd.2
              have h1 := mul_cap (show 0 ≤ c by omega) (show 0 ≤ b by omega) (show c ≤ 2147483648 by omega) hb.2
              rw [wrap_id (n := a * d) (by omega) (by omega), wrap_id (n := c * b) (by omega) (by omega)]
              unfold cmpv
              by_cases l : a * d < c * b
              · rw [if_pos l, if_pos l]
              · rw [if_neg l, if_neg l]
                by_cases g : a * d > c * b
                · rw [if_pos g, if_pos g]
                · rw [if_neg g, if_neg g]
            · rw [in_n hd, if_neg (by omega)]; simp only [Option.bind_some, Bool.not_false]; exact rcmp_no
          · rw [in_n hb]; simp only [Option.bind_some, Bool.false_eq_true, if_false]; rw [if_neg (by omega)]
theorem rwin_eq (a b : Int) : beadleref1_Windows.f a b = tick_Windows.f a b := rfl
theorem rup_no {t d p : Int} {k : Nat} : beadleref1_Up.j0 (k + 1) t d p true = some (0, false) := by
  simp only [beadleref1_Up.j0]; rfl
theorem rup_f (k : Nat) (t d p : Int) : beadleref1_Up.f (k + 1) t d p = some (upv t d p) := by
  unfold beadleref1_Up.f upv
  rw [rgood_eq, rgood_eq, per_eq]
  by_cases ht : 0 ≤ t ∧ t ≤ 4611686018427387904
  · rw [good_t ht.1 ht.2]; simp only [Option.bind_some, if_true]
    by_cases hd : 0 ≤ d ∧ d ≤ 4611686018427387904
    · rw [good_t hd.1 hd.2]; simp only [Option.bind_some, if_true]
      by_cases hp : 1 ≤ p ∧ p ≤ 2147483648
      · rw [in_t hp.1 hp.2]; simp only [Option.bind_some, Bool.not_true, beadleref1_Up.j0, rgd_eq, Bool.false_eq_true, if_false]
        rw [if_pos (show (0 ≤ t ∧ t ≤ 4611686018427387904) ∧ (0 ≤ d ∧ d ≤ 4611686018427387904) ∧ (1 ≤ p ∧ p ≤ 2147483648) from ⟨ht, hd, hp⟩)]
        by_cases c : d > t
        · rw [if_neg (by omega), if_pos c, tgood_f, if_pos hd]; rfl
        · have hq := up_q (t := t) (d := d) (p := p) (by omega) (by omega)
          rw [if_pos (by omega), if_neg c, if_neg (by omega), wrap_id (n := t - d) (by omega) (by omega), Int.tdiv_eq_ediv_of_nonneg (by omega)]
          revert hq
          generalize (t - d) / p = q
          intro hq
          rw [wrap_id (n := q) (by omega) (by omega), wrap_id (n := q + 1) (by omega) (by omega)]
          revert hq
          generalize hm : (q + 1) * p = m
          generalize q * p = m'
          intro hq
          rw [wrap_id (n := m) (by omega) (by omega), wrap_id (n := d + m) (by omega) (by omega), tgood_f]
          simp only [Option.bind_some]
          by_cases h : d + m ≤ 4611686018427387904
          · rw [if_pos ⟨by omega, h⟩, if_pos h]
          · rw [if_neg (by omega), if_neg h]
      · rw [in_n hp]; simp only [Option.bind_some, Bool.not_false, Bool.false_eq_true, if_false]; rw [rup_no, if_neg (by omega)]
    · rw [good_n hd]; simp only [Option.bind_some, Bool.not_false, Bool.false_eq_true, if_false]; rw [rup_no, if_neg (by omega)]
  · rw [good_n ht]; simp only [Option.bind_some, Bool.not_false, Bool.false_eq_true, if_false]; rw [rup_no, if_neg (by omega)]

theorem rgood_h {a : Int} {g : Bool} (h : tick_Good.f a = some g) : beadleref1_Good.f a = some g := h
theorem awake_h : beadlelaw1_awake.f 1 = some true := by decide +kernel
set_option maxHeartbeats 8000000 in
set_option maxRecDepth 100000 in
theorem says (a b c d : Int) (g : Bool) (hg : Hid (tick_Good.f a = some g)) (w : World) : Calls Try.prog 9 #[.int .i64 a, .int .i64 b, .int .i64 c, .int .i64 d] w fun e w' => e = .returned (.bool true) ∧ Drawn0 w w' := by
  go_enter Try.func9, Try.ntmps9
  go_wp2_with (first | (go_at_call 10; (with_reducible refine (beadlelaw1_awake.calls 1 true _ awake_h).mono ?_); rintro e w' ⟨rfl, ⟨nd, rfl⟩⟩) | (go_at_call 13; (with_reducible refine (tick_Add.calls a b (addv a b).1 (addv a b).2 _ (add_f a b)).mono ?_); rintro e w' ⟨rfl, ⟨nd, rfl⟩⟩) | (go_at_call 15; (with_reducible refine (tick_Sub.calls a b (subv a b).1 (subv a b).2 _ (sub_f a b)).mono ?_); rintro e w' ⟨rfl, ⟨nd, rfl⟩⟩) | (go_at_call 16; (with_reducible refine (tick_Mul.calls a b (mulv a b).1 (mulv a b).2 _ (mul_f a b)).mono ?_); rintro e w' ⟨rfl, ⟨nd, rfl⟩⟩) | (go_at_call 17; (with_reducible refine (tick_Share.calls a b c (sharev a b c).1 (sharev a b c).2 _ (share_f a b c)).mono ?_); rintro e w' ⟨rfl, ⟨nd, rfl⟩⟩) | (go_at_call 18; (with_reducible refine (tick_Cmp.calls a b c d (cmw a b c d).1 (cmw a b c d).2 _ (cmp_f a b c d)).mono ?_); rintro e w' ⟨rfl, ⟨nd, rfl⟩⟩) | (go_at_call 12; (with_reducible refine (tick_Windows.calls a b (winv a b).1 (winv a b).2 _ (win_f a b)).mono ?_); rintro e w' ⟨rfl, ⟨nd, rfl⟩⟩) | (go_at_call 11; (with_reducible refine (tick_Up.calls 1 a b c (upv a b c).1 (upv a b c).2 _ (up_f 0 a b c)).mono ?_); rintro e w' ⟨rfl, ⟨nd, rfl⟩⟩) | (go_at_call 19; (with_reducible refine (beadleref1_Add.calls a b (addv a b).1 (addv a b).2 _ (radd_f a b)).mono ?_); rintro e w' ⟨rfl, ⟨nd, rfl⟩⟩) | (go_at_call 20; (with_reducible refine (beadleref1_Sub.calls a b (subv a b).1 (subv a b).2 _ (rsub_f a b)).mono ?_); rintro e w' ⟨rfl, ⟨nd, rfl⟩⟩) | (go_at_call 21; (with_reducible refine (beadleref1_Mul.calls a b (mulv a b).1 (mulv a b).2 _ (rmul_f a b)).mono ?_); rintro e w' ⟨rfl, ⟨nd, rfl⟩⟩) | (go_at_call 22; (with_reducible refine (beadleref1_Share.calls a b c (sharev a b c).1 (sharev a b c).2 _ (rshare_f a b c)).mono ?_); rintro e w' ⟨rfl, ⟨nd, rfl⟩⟩) | (go_at_call 23; (with_reducible refine (beadleref1_Cmp.calls 1 a b c d (cmw a b c d).1 (cmw a b c d).2 _ (rcmp_f 0 a b c d)).mono ?_); rintro e w' ⟨rfl, ⟨nd, rfl⟩⟩) | (go_at_call 24; (with_reducible refine (beadleref1_Windows.calls a b (winv a b).1 (winv a b).2 _ (rwin_f a b)).mono ?_); rintro e w' ⟨rfl, ⟨nd, rfl⟩⟩) | (go_at_call 25; (with_reducible refine (beadleref1_Up.calls 1 a b c (upv a b c).1 (upv a b c).2 _ (rup_f 0 a b c)).mono ?_); rintro e w' ⟨rfl, ⟨nd, rfl⟩⟩) | (go_at_call 14; (with_reducible refine (tick_Good.calls a g _ hg.out).mono ?_); rintro e w' ⟨rfl, ⟨nd, rfl⟩⟩) | (go_at_call 26; (with_reducible refine (beadleref1_Good.calls a g _ (rgood_h hg.out)).mono ?_); rintro e w' ⟨rfl, ⟨nd, rfl⟩⟩))
  go_ret
  exact ⟨by simp, ⟨_, rfl⟩⟩

theorem good_any (a : Int) : ∃ g, tick_Good.f a = some g := by
  by_cases h : 0 ≤ a ∧ a ≤ 4611686018427387904
  · exact ⟨_, good_t h.1 h.2⟩
  · exact ⟨_, good_n h⟩
theorem walk (a : Int) (_ : (Lit.int .i64 a).wf = true) (b : Int) (_ : (Lit.int .i64 b).wf = true) (c : Int) (_ : (Lit.int .i64 c).wf = true) (d : Int) (_ : (Lit.int .i64 d).wf = true) (w : World) : Calls Try.prog 9 #[.int .i64 a, .int .i64 b, .int .i64 c, .int .i64 d] w fun e w' => e = .returned (.bool true) ∧ Drawn0 w w' := by
  obtain ⟨g, hg⟩ := good_any a
  exact says a b c d g hg w

end Go.Proofs.Ytdamaflkcakcdaa.SaysWalk
