/- The statement CbsSays of the program, over numbers and lists alone: for every input (of the bounds that it names) the printed function of the law answers true. No further condition. -/
import Derived.Test.YtofbjgkoaiiagaaWakD
import Derived.Test.YtofbjgkoaiiagaaQx10
import Derived.Test.YtofbjgkoaiiagaaQx11
import Derived.Test.YtofbjgkoaiiagaaQx14
import Derived.Test.YtofbjgkoaiiagaaQx17
import Derived.Test.YtofbjgkoaiiagaaQx19
import Derived.Test.YtofbjgkoaiiagaaQx20
import Derived.Test.YtofbjgkoaiiagaaQx30
import Derived.Test.YtofbjgkoaiiagaaQx31
import Derived.Test.YtofbjgkoaiiagaaQx32
import Derived.Test.YtofbjgkoaiiagaaQx36
import Derived.Test.YtofbjgkoaiiagaaQx37
import Derived.Test.YtofbjgkoaiiagaaQx12
namespace Go.Proofs.Ytofbjgkoaiiagaa.Pure
open Go.RowKit Go.Proofs.Ytofbjgkoaiiagaa.Q Go.Proofs.YtofbjgkoaiiagaaW.PrintWords Go.Proofs.YtofbjgkoaiiagaaW.PrintLast Go.Proofs.YtofbjgkoaiiagaaW.PrintMore

set_option linter.unusedSimpArgs false
set_option linter.unusedVariables false

theorem wrap_id {n : Int} (h0 : -9223372036854775808 ≤ n) (h1 : n ≤ 9223372036854775807) : wrap64 n = n := by unfold wrap64; omega
theorem wf64 {a : Int} (h : (Lit.int .i64 a).wf = true) : -9223372036854775808 ≤ a ∧ a ≤ 9223372036854775807 := by
  simp only [Lit.wf, Bool.and_eq_true, decide_eq_true_eq] at h; exact h

theorem good_t {a : Int} (h0 : 0 ≤ a) (h1 : a ≤ 4611686018427387904) : tick_Good.f a = some true := by
  unfold tick_Good.f; rw [if_pos h0, decide_eq_true h1]
theorem good_n {a : Int} (h : ¬ (0 ≤ a ∧ a ≤ 4611686018427387904)) : tick_Good.f a = some false := by
  unfold tick_Good.f
  by_cases h0 : a ≥ 0
  · rw [if_pos h0, decide_eq_false (by omega)]
  · rw [if_neg h0]
theorem in_t {a b c : Int} (h0 : b ≤ a) (h1 : a ≤ c) : tick_in.f a b c = some true := by
  unfold tick_in.f; rw [if_pos h0, decide_eq_true h1]
theorem in_n {a b c : Int} (h : ¬ (b ≤ a ∧ a ≤ c)) : tick_in.f a b c = some false := by
  unfold tick_in.f
  by_cases h0 : a ≥ b
  · rw [if_pos h0, decide_eq_false (by omega)]
  · rw [if_neg h0]
theorem tgood_f (a : Int) : tick_good.f a = some (if 0 ≤ a ∧ a ≤ 4611686018427387904 then (a, true) else (0, false)) := by
  unfold tick_good.f
  by_cases h : 0 ≤ a ∧ a ≤ 4611686018427387904
  · rw [good_t h.1 h.2, if_pos h]; rfl
  · rw [good_n h, if_neg h]; rfl

theorem mul_cap {a b A B : Int} (ha : 0 ≤ a) (hb : 0 ≤ b) (hA : a ≤ A) (hB : b ≤ B) : 0 ≤ a * b ∧ a * b ≤ A * B :=
  ⟨Int.mul_nonneg ha hb, Int.le_trans (Int.mul_le_mul_of_nonneg_right hA hb) (Int.mul_le_mul_of_nonneg_left hB (by omega))⟩
/-- What Share answers, in plain numbers. -/
def sharev (x q p : Int) : Int × Bool := if (0 ≤ x ∧ x ≤ 2147483648) ∧ (1 ≤ p ∧ p ≤ 2147483648) ∧ (0 ≤ q ∧ q ≤ p) then (x * q / p, true) else (0, false)
theorem sharev_t {x q p : Int} (h : (0 ≤ x ∧ x ≤ 2147483648) ∧ (1 ≤ p ∧ p ≤ 2147483648) ∧ (0 ≤ q ∧ q ≤ p)) : sharev x q p = (x * q / p, true) := if_pos h
theorem sharev_n {x q p : Int} (h : ¬ ((0 ≤ x ∧ x ≤ 2147483648) ∧ (1 ≤ p ∧ p ≤ 2147483648) ∧ (0 ≤ q ∧ q ≤ p))) : sharev x q p = (0, false) := if_neg h
theorem share_f (x q p : Int) : tick_Share.f x q p = some (sharev x q p) := by
  unfold tick_Share.f sharev
  by_cases hx : 0 ≤ x ∧ x ≤ 2147483648
  · rw [in_t hx.1 hx.2]; simp only [Option.bind_some, if_true]
    by_cases hp : 1 ≤ p ∧ p ≤ 2147483648
    · rw [in_t hp.1 hp.2]; simp only [Option.bind_some, if_true]
      by_cases hq : 0 ≤ q ∧ q ≤ p
      · rw [in_t hq.1 hq.2]; simp only [Option.bind_some, if_true]
        rw [if_pos (show (0 ≤ x ∧ x ≤ 2147483648) ∧ (1 ≤ p ∧ p ≤ 2147483648) ∧ (0 ≤ q ∧ q ≤ p) from ⟨hx, hp, hq⟩)]
        have h0 := mul_cap hx.1 hq.1 hx.2 (show q ≤ 2147483648 by omega)
        have h1 : 0 ≤ x * q / p := Int.ediv_nonneg h0.1 (by omega)
        have h2 : x * q / p ≤ x * q := Int.ediv_le_self _ h0.1
        rw [if_neg (by omega), wrap_id (n := x * q) (by omega) (by omega), Int.tdiv_eq_ediv_of_nonneg h0.1, wrap_id (by omega) (by omega)]
      · rw [in_n hq]; simp only [Option.bind_some, Bool.false_eq_true, if_false]; rw [if_neg (by omega)]
    · rw [in_n hp]; simp only [Option.bind_some, Bool.false_eq_true, if_false]; rw [if_neg (by omega)]
  · rw [in_n hx]; simp only [Option.bind_some, Bool.false_eq_true, if_false]; rw [if_neg (by omega)]

/-- What Add answers, in plain numbers. -/
def addv (a b : Int) : Int × Bool := if (0 ≤ a ∧ a ≤ 4611686018427387904) ∧ (0 ≤ b ∧ b ≤ 4611686018427387904) ∧ a + b ≤ 4611686018427387904 then (a + b, true) else (0, false)
theorem addv_t {a b : Int} (h : (0 ≤ a ∧ a ≤ 4611686018427387904) ∧ (0 ≤ b ∧ b ≤ 4611686018427387904) ∧ a + b ≤ 4611686018427387904) : addv a b = (a + b, true) := if_pos h
theorem addv_n {a b : Int} (h : ¬ ((0 ≤ a ∧ a ≤ 4611686018427387904) ∧ (0 ≤ b ∧ b ≤ 4611686018427387904) ∧ a + b ≤ 4611686018427387904)) : addv a b = (0, false) := if_neg h
theorem add_f (a b : Int) : tick_Add.f a b = some (addv a b) := by
  unfold tick_Add.f addv
  by_cases ha : 0 ≤ a ∧ a ≤ 4611686018427387904
  · rw [good_t ha.1 ha.2]; simp only [Option.bind_some, if_true]
    by_cases hb : 0 ≤ b ∧ b ≤ 4611686018427387904
    · rw [good_t hb.1 hb.2, tgood_f]; simp only [Option.bind_some, if_true]
      by_cases h : a + b ≤ 4611686018427387904
      · rw [wrap_id (by omega) (by omega), if_pos (show 0 ≤ a + b ∧ a + b ≤ 4611686018427387904 by omega), if_pos ⟨ha, hb, h⟩]
      · rw [if_neg (show ¬ (0 ≤ wrap64 (a + b) ∧ wrap64 (a + b) ≤ 4611686018427387904) by unfold wrap64; omega), if_neg (by omega)]
    · rw [good_n hb]; simp only [Option.bind_some, Bool.false_eq_true, if_false]; rw [if_neg (by omega)]
  · rw [good_n ha]; simp only [Option.bind_some, Bool.false_eq_true, if_false]; rw [if_neg (by omega)]

/-- What Up answers, in plain numbers. -/
def upv (t d p : Int) : Int × Bool :=
  if (0 ≤ t ∧ t ≤ 4611686018427387904) ∧ (0 ≤ d ∧ d ≤ 4611686018427387904) ∧ (1 ≤ p ∧ p ≤ 2147483648) then
    (if d > t then (d, true) else if d + ((t - d) / p + 1) * p ≤ 4611686018427387904 then (d + ((t - d) / p + 1) * p, true) else (0, false))
  else (0, false)
theorem upv_a {t d p : Int} (h : (0 ≤ t ∧ t ≤ 4611686018427387904) ∧ (0 ≤ d ∧ d ≤ 4611686018427387904) ∧ (1 ≤ p ∧ p ≤ 2147483648)) (c : d > t) : upv t d p = (d, true) := by unfold upv; rw [if_pos h, if_pos c]
theorem upv_b {t d p : Int} (h : (0 ≤ t ∧ t ≤ 4611686018427387904) ∧ (0 ≤ d ∧ d ≤ 4611686018427387904) ∧ (1 ≤ p ∧ p ≤ 2147483648)) (c : ¬ d > t) (e : d + ((t - d) / p + 1) * p ≤ 4611686018427387904) : upv t d p = (d + ((t - d) / p + 1) * p, true) := by unfold upv; rw [if_pos h, if_neg c, if_pos e]
theorem upv_c {t d p : Int} (c : ¬ d > t) (e : ¬ d + ((t - d) / p + 1) * p ≤ 4611686018427387904) : upv t d p = (0, false) := by
  unfold upv
  rw [if_neg c, if_neg e]
  simp
theorem upv_n {t d p : Int} (h : ¬ ((0 ≤ t ∧ t ≤ 4611686018427387904) ∧ (0 ≤ d ∧ d ≤ 4611686018427387904) ∧ (1 ≤ p ∧ p ≤ 2147483648))) : upv t d p = (0, false) := if_neg h
theorem up_no {t d p : Int} {k : Nat} : tick_Up.j0 (k + 1) t d p true = some (0, false) := by
  simp only [tick_Up.j0]; rfl
theorem up_q {t d p : Int} (h : d ≤ t) (hp : 1 ≤ p) : 0 ≤ (t - d) / p ∧ (t - d) / p ≤ t - d ∧ (t - d) / p * p ≤ t - d ∧ t - d < ((t - d) / p + 1) * p ∧ ((t - d) / p + 1) * p = (t - d) / p * p + p :=
  ⟨Int.ediv_nonneg (by omega) (by omega), Int.ediv_le_self _ (by omega), Int.ediv_mul_le _ (by omega), Int.lt_ediv_add_one_mul_self _ (by omega), by rw [Int.add_mul, Int.one_mul]⟩
theorem up_f (k : Nat) (t d p : Int) : tick_Up.f (k + 1) t d p = some (upv t d p) := by
  unfold tick_Up.f upv
  by_cases ht : 0 ≤ t ∧ t ≤ 4611686018427387904
  · rw [good_t ht.1 ht.2]; simp only [Option.bind_some, if_true]
    by_cases hd : 0 ≤ d ∧ d ≤ 4611686018427387904
    · rw [good_t hd.1 hd.2]; simp only [Option.bind_some, if_true]
      by_cases hp : 1 ≤ p ∧ p ≤ 2147483648
      · rw [in_t hp.1 hp.2]; simp only [Option.bind_some, Bool.not_true, tick_Up.j0, Bool.false_eq_true, if_false]
        rw [if_pos (show (0 ≤ t ∧ t ≤ 4611686018427387904) ∧ (0 ≤ d ∧ d ≤ 4611686018427387904) ∧ (1 ≤ p ∧ p ≤ 2147483648) from ⟨ht, hd, hp⟩)]
        by_cases c : d > t
        · rw [if_pos c, if_pos c]
        · have hq := up_q (t := t) (d := d) (p := p) (by omega) (by omega)
          rw [if_neg c, if_neg c, if_neg (by omega), wrap_id (n := t - d) (by omega) (by omega), Int.tdiv_eq_ediv_of_nonneg (by omega)]
          revert hq
          generalize (t - d) / p = q
          intro hq
          rw [wrap_id (n := q) (by omega) (by omega), wrap_id (n := q + 1) (by omega) (by omega)]
          revert hq
          generalize hm : (q + 1) * p = m
          generalize q * p = m'
          intro hq
          rw [wrap_id (n := m) (by omega) (by omega), wrap_id (n := d + m) (by omega) (by omega), tgood_f]
          simp only [Option.bind_some]
          by_cases h : d + m ≤ 4611686018427387904
          · rw [if_pos ⟨by omega, h⟩, if_pos h]
          · rw [if_neg (by omega), if_neg h]
      · rw [in_n hp]; simp only [Option.bind_some, Bool.not_false, Bool.false_eq_true, if_false]; rw [up_no, if_neg (by omega)]
    · rw [good_n hd]; simp only [Option.bind_some, Bool.not_false, Bool.false_eq_true, if_false]; rw [up_no, if_neg (by omega)]
  · rw [good_n ht]; simp only [Option.bind_some, Bool.not_false, Bool.false_eq_true, if_false]; rw [up_no, if_neg (by omega)]

/-- What Good asks of a server. -/
def goodv (q p b d m : Int) : Prop := ((1 ≤ p ∧ p ≤ 2147483648) ∧ 1 ≤ q ∧ q ≤ p) ∧ (0 ≤ b ∧ b ≤ q) ∧ (0 ≤ d ∧ d ≤ 4611686018427387904) ∧ (0 ≤ m ∧ m ≤ 2) ∧ (m = 1 → 0 < b)
theorem goods_t {q p b d m : Int} (h : goodv q p b d m) : cbs_Good.f q p b d m = some true := by
  obtain ⟨⟨h1, h2⟩, h3, h4, h5, h6⟩ := h
  unfold cbs_Good.f cbs_pair.f
  rw [if_pos (by omega), if_pos (by omega), if_pos (by omega), decide_eq_true h2.2, good_t h4.1 h4.2]
  simp only [Option.bind_some, if_true]
  rw [if_pos (by omega), if_pos (by omega), if_pos (by omega), if_pos (by omega)]
  by_cases c : m = 1
  · rw [if_pos c, decide_eq_true (h6 c)]
  · rw [if_neg c]
theorem goods_n {q p b d m : Int} (h : ¬ goodv q p b d m) : cbs_Good.f q p b d m = some false := by
  unfold goodv at h
  unfold cbs_Good.f cbs_pair.f
  by_cases h1 : 1 ≤ p
  · by_cases h2 : p ≤ 2147483648
    · by_cases h3 : 1 ≤ q
      · by_cases h4 : q ≤ p
        · rw [if_pos (by omega), if_pos h2, if_pos h3, decide_eq_true h4]; simp only [Option.bind_some, if_true]
          by_cases h5 : 0 ≤ b
          · by_cases h6 : b ≤ q
            · rw [if_pos (by omega), if_pos h6]
              by_cases h7 : 0 ≤ d ∧ d ≤ 4611686018427387904
              · rw [good_t h7.1 h7.2]; simp only [Option.bind_some, if_true]
                by_cases h8 : 0 ≤ m
                · by_cases h9 : m ≤ 2
                  · rw [if_pos (by omega), if_pos h9]
                    by_cases h10 : m = 1
                    · rw [if_pos h10, decide_eq_false (by omega)]
                    · omega
                  · rw [if_pos (by omega), if_neg h9]
                · rw [if_neg (by omega)]
              · rw [good_n h7]; rfl
            · rw [if_pos (by omega), if_neg h6]
          · rw [if_neg (by omega)]
        · rw [if_pos (by omega), if_pos h2, if_pos h3, decide_eq_false h4]; rfl
      · rw [if_pos (by omega), if_pos h2, if_neg (by omega)]; rfl
    · rw [if_pos (by omega), if_neg h2]; rfl
  · rw [if_neg (by omega)]; rfl
def rdy (b : Int) : Int := if b = 0 then 2 else 1
theorem ready_f (q p b d m : Int) : cbs_ready.f q p b d m = some (q, p, b, d, rdy b) := by
  unfold cbs_ready.f rdy
  by_cases h : b = 0
  · rw [if_pos h, if_pos h]
  · rw [if_neg h, if_neg h]
theorem rdy_pos {b : Int} (h : 0 < b) : rdy b = 1 := if_neg (by omega)
theorem rdy_zero : rdy 0 = 2 := rfl
theorem new_t {q p : Int} (h : (1 ≤ p ∧ p ≤ 2147483648) ∧ 1 ≤ q ∧ q ≤ p) : cbs_New.f q p = some (q, p, 0, 0, 0, 0) := by
  unfold cbs_New.f cbs_pair.f
  rw [if_pos (by omega), if_pos (by omega), if_pos (by omega), decide_eq_true h.2.2]; rfl
theorem new_n {q p : Int} (h : ¬ ((1 ≤ p ∧ p ≤ 2147483648) ∧ 1 ≤ q ∧ q ≤ p)) : cbs_New.f q p = some (0, 0, 0, 0, 0, 1) := by
  unfold cbs_New.f cbs_pair.f
  by_cases h1 : 1 ≤ p
  · by_cases h2 : p ≤ 2147483648
    · by_cases h3 : 1 ≤ q
      · rw [if_pos (by omega), if_pos h2, if_pos h3, decide_eq_false (by omega)]; rfl
      · rw [if_pos (by omega), if_pos h2, if_neg (by omega)]; rfl
    · rw [if_pos (by omega), if_neg h2]; rfl
  · rw [if_neg (by omega)]; rfl

/-- What Wake finds of a budget that is woken x ticks ahead of its Due (x at most the period). -/
def cutb (q p b x : Int) : Int := if b * p > x * q then x * q / p else b
def far (p d t : Int) : Int := if p < d - t then p else d - t
theorem cut_bd {q p b x : Int} (hp : 1 ≤ p) (hq : 1 ≤ q) (hqp : q ≤ p) (hb : 0 ≤ b) (hx : 0 ≤ x) : 0 ≤ cutb q p b x ∧ cutb q p b x ≤ b ∧ cutb q p b x * p ≤ x * q ∧ (cutb q p b x = b ∨ x * q < (cutb q p b x + 1) * p) := by
  unfold cutb
  have h0 : 0 ≤ x * q := Int.mul_nonneg hx (by omega)
  by_cases h : b * p > x * q
  · rw [if_pos h]
    have h1 : 0 ≤ x * q / p := Int.ediv_nonneg h0 (by omega)
    have h2 : x * q / p * p ≤ x * q := Int.ediv_mul_le _ (by omega)
    have h3 : x * q < (x * q / p + 1) * p := Int.lt_ediv_add_one_mul_self _ (by omega)
    refine ⟨h1, ?_, h2, .inr h3⟩
    have h4 : x * q / p < b := (Int.ediv_lt_iff_lt_mul (by omega)).2 h
    omega
  · rw [if_neg h]
    exact ⟨hb, Int.le_refl _, by omega, .inl rfl⟩
theorem wake_bad {k : Nat} {q p b d m t : Int} (h : ¬ (goodv q p b d m ∧ 0 ≤ t ∧ t ≤ 4611686018427387904)) : cbs_Wake.f (k + 1) q p b d m t = some (q, p, b, d, m, 1) := by
  unfold cbs_Wake.f
  by_cases hg : goodv q p b d m
  · have ht : ¬ (0 ≤ t ∧ t ≤ 4611686018427387904) := fun x => h ⟨hg, x⟩
    rw [goods_t hg, good_n ht]; simp only [Option.bind_some, if_true, Bool.not_false, cbs_Wake.j0]
  · rw [goods_n hg]; simp only [Option.bind_some, if_true, Bool.false_eq_true, if_false, cbs_Wake.j0]
theorem wake_busy {k : Nat} {q p b d m t : Int} (hg : goodv q p b d m) (ht : 0 ≤ t ∧ t ≤ 4611686018427387904) (hm : m ≠ 0) : cbs_Wake.f (k + 1) q p b d m t = some (q, p, b, d, m, 5) := by
  unfold cbs_Wake.f
  rw [goods_t hg, good_t ht.1 ht.2]; simp only [Option.bind_some, if_true, Bool.not_true, cbs_Wake.j0, Bool.false_eq_true, if_false]
  rw [if_neg hm]
theorem wake_anew {k : Nat} {q p b d m t : Int} (hg : goodv q p b d m) (ht : 0 ≤ t ∧ t ≤ 4611686018427387904) (hm : m = 0) (hd : d ≤ t) (ho : t + p ≤ 4611686018427387904) : cbs_Wake.f (k + 1) q p b d m t = some (q, p, q, t + p, 1, 0) := by
  unfold cbs_Wake.f
  rw [goods_t hg, good_t ht.1 ht.2]; simp only [Option.bind_some, if_true, Bool.not_true, cbs_Wake.j0, Bool.false_eq_true, if_false]
  obtain ⟨⟨h1, h2⟩, h3, h4, h5, h6⟩ := hg
  rw [if_pos hm, if_pos hd, add_f, addv_t ⟨ht, ⟨by omega, by omega⟩, ho⟩]; simp only [Option.bind_some, if_true]
  rw [ready_f, rdy_pos (by omega)]; rfl
theorem wake_over {k : Nat} {q p b d m t : Int} (hg : goodv q p b d m) (ht : 0 ≤ t ∧ t ≤ 4611686018427387904) (hm : m = 0) (hd : d ≤ t) (ho : ¬ t + p ≤ 4611686018427387904) : cbs_Wake.f (k + 1) q p b d m t = some (q, p, b, d, m, 6) := by
  unfold cbs_Wake.f
  rw [goods_t hg, good_t ht.1 ht.2]; simp only [Option.bind_some, if_true, Bool.not_true, cbs_Wake.j0, Bool.false_eq_true, if_false]
  rw [if_pos hm, if_pos hd, add_f, addv_n (fun z => ho z.2.2)]; simp only [Option.bind_some, Bool.false_eq_true, if_false]
theorem far_bd {p d t : Int} (hp : 1 ≤ p) (hd : t < d) : 1 ≤ far p d t ∧ far p d t ≤ p ∧ far p d t ≤ d - t := by
  unfold far; split <;> omega
theorem wake_cut {k : Nat} {q p b d m t : Int} (hg : goodv q p b d m) (ht : 0 ≤ t ∧ t ≤ 4611686018427387904) (hm : m = 0) (hd : ¬ d ≤ t) : cbs_Wake.f (k + 1) q p b d m t = some (q, p, cutb q p b (far p d t), d, rdy (cutb q p b (far p d t)), 0) := by
  unfold cbs_Wake.f
  rw [goods_t hg, good_t ht.1 ht.2]; simp only [Option.bind_some, if_true, Bool.not_true, cbs_Wake.j0, Bool.false_eq_true, if_false]
  obtain ⟨⟨h1, h2⟩, h3, h4, h5, h6⟩ := hg
  have hf := far_bd (p := p) (d := d) (t := t) (by omega) (by omega)
  have hmn : mn (d - t) p = far p d t := rfl
  rw [if_pos hm, if_neg hd, wrap_id (n := d - t) (by omega) (by omega), hmn]
  have e1 := mul_cap h3.1 (show 0 ≤ p by omega) (show b ≤ 2147483648 by omega) h1.2
  have e2 := mul_cap (show 0 ≤ far p d t by omega) (show 0 ≤ q by omega) (show far p d t ≤ 2147483648 by omega) (show q ≤ 2147483648 by omega)
  rw [wrap_id (n := b * p) (by omega) (by omega), wrap_id (n := far p d t * q) (by omega) (by omega)]
  unfold cutb
  by_cases c : b * p > far p d t * q
  · rw [if_pos c, if_pos c, share_f, sharev_t ⟨⟨by omega, by omega⟩, h1, by omega, h2.2⟩]; simp only [Option.bind_some]
    rw [ready_f]; rfl
  · rw [if_neg c, if_neg c, ready_f]; rfl
theorem awake_f : beadlelaw12_awake.f 3 = some true := by decide +kernel

theorem use_bad {k : Nat} {q p b d m n : Int} (h : ¬ (goodv q p b d m ∧ 1 ≤ n ∧ n ≤ b)) : cbs_Use.f (k + 1) q p b d m n = some (q, p, b, d, m, 1) := by
  unfold cbs_Use.f
  by_cases hg : goodv q p b d m
  · rw [goods_t hg]; simp only [Option.bind_some, if_true]
    by_cases hn : n < 1
    · rw [if_pos hn]; simp only [cbs_Use.j0, if_true]
    · have : n > b := by
        apply Classical.byContradiction
        intro hb
        exact h ⟨hg, by omega, by omega⟩
      rw [if_neg hn, decide_eq_true this]; simp only [cbs_Use.j0, if_true]
  · rw [goods_n hg]; simp only [Option.bind_some, Bool.false_eq_true, if_false, cbs_Use.j0, if_true]
theorem use_none {k : Nat} {q p b d m n : Int} (hg : goodv q p b d m) (hn : 1 ≤ n ∧ n ≤ b) (hm : m ≠ 1) : cbs_Use.f (k + 1) q p b d m n = some (q, p, b, d, m, 4) := by
  unfold cbs_Use.f
  rw [goods_t hg]; simp only [Option.bind_some, if_true]
  rw [if_neg (by omega), decide_eq_false (by omega)]; simp only [cbs_Use.j0, Bool.false_eq_true, if_false]
  rw [if_neg hm]
theorem use_ok {k : Nat} {q p b d m n : Int} (hg : goodv q p b d m) (hn : 1 ≤ n ∧ n ≤ b) (hm : m = 1) : cbs_Use.f (k + 1) q p b d m n = some (q, p, b - n, d, rdy (b - n), 0) := by
  unfold cbs_Use.f
  rw [goods_t hg]; simp only [Option.bind_some, if_true]
  obtain ⟨⟨g1, g2⟩, g3, g4, g5, g6⟩ := hg
  rw [if_neg (by omega), decide_eq_false (by omega)]; simp only [cbs_Use.j0, Bool.false_eq_true, if_false]
  rw [if_pos hm, wrap_id (by omega) (by omega), ready_f]; rfl

theorem turn_no {k : Nat} {q p b d m t : Int} (h : ¬ (goodv q p b d m ∧ m ≠ 0 ∧ d ≤ t)) : cbs_Turn.f (k + 1) q p b d m t = some (q, p, b, d, m, false) := by
  unfold cbs_Turn.f
  by_cases hg : goodv q p b d m
  · rw [goods_t hg]; simp only [Option.bind_some, if_true]
    by_cases hm : m = 0
    · rw [if_pos hm]; simp only [cbs_Turn.j0, if_true]
    · have : d > t := by
        apply Classical.byContradiction
        intro hb
        exact h ⟨hg, hm, by omega⟩
      rw [if_neg hm, decide_eq_true this]; simp only [cbs_Turn.j0, if_true]
  · rw [goods_n hg]; simp only [Option.bind_some, Bool.false_eq_true, if_false, cbs_Turn.j0, if_true]
/-- The first of the Dues above a tick. -/
def nextd (d p t : Int) : Int := d + ((t - d) / p + 1) * p
theorem turn_ok {k : Nat} {q p b d m t : Int} (hg : goodv q p b d m) (hm : m ≠ 0) (hd : d ≤ t) (ht : t ≤ 4611686018427387904) (ho : nextd d p t ≤ 4611686018427387904) : cbs_Turn.f (k + 2) q p b d m t = some (q, p, q, nextd d p t, 1, true) := by
  unfold cbs_Turn.f
  rw [goods_t hg]; simp only [Option.bind_some, if_true]
  obtain ⟨⟨g1, g2⟩, g3, g4, g5, g6⟩ := hg
  rw [if_neg hm, decide_eq_false (by omega)]; simp only [cbs_Turn.j0, Bool.false_eq_true, if_false]
  rw [up_f, upv_b ⟨by omega, g4, g1⟩ (by omega) ho]; simp only [Option.bind_some, if_true]
  rw [ready_f, rdy_pos (by omega)]; rfl
theorem turn_over {k : Nat} {q p b d m t : Int} (hg : goodv q p b d m) (hm : m ≠ 0) (hd : d ≤ t) (ho : ¬ (t ≤ 4611686018427387904 ∧ nextd d p t ≤ 4611686018427387904)) : cbs_Turn.f (k + 2) q p b d m t = some (q, p, b, d, m, false) := by
  unfold cbs_Turn.f
  rw [goods_t hg]; simp only [Option.bind_some, if_true]
  obtain ⟨⟨g1, g2⟩, g3, g4, g5, g6⟩ := hg
  rw [if_neg hm, decide_eq_false (by omega)]; simp only [cbs_Turn.j0, Bool.false_eq_true, if_false]
  rw [up_f]; simp only [Option.bind_some]
  by_cases h : t ≤ 4611686018427387904
  · rw [upv_c (by omega) (fun z => ho ⟨h, z⟩)]; simp only [Bool.false_eq_true, if_false]
  · rw [upv_n (by omega)]; simp only [Bool.false_eq_true, if_false]
theorem next_bd {d p t : Int} (hd : d ≤ t) (hp : 1 ≤ p) : t < nextd d p t ∧ nextd d p t - t ≤ p ∧ d < nextd d p t ∧ (nextd d p t - d) % p = 0 ∧ p ≤ nextd d p t - d := by
  have hq := up_q hd hp
  unfold nextd
  refine ⟨by omega, by omega, by omega, ?_, ?_⟩
  · rw [show d + ((t - d) / p + 1) * p - d = ((t - d) / p + 1) * p by omega]
    exact Int.mul_emod_left _ _
  · have : 0 ≤ (t - d) / p * p := Int.mul_nonneg hq.1 (by omega)
    omega

theorem rgood (q p b d m : Int) : beadleref10_GoodServer.f q p b d m = cbs_Good.f q p b d m := rfl
theorem rtime (t : Int) : beadleref1_Good.f t = tick_Good.f t := rfl
/-- Both answer alike. -/
theorem use_both (q p b d m n : Int) : ∃ r1 r2 r3 r4 r5 e : Int, cbs_Use.f 5 q p b d m n = some (r1, r2, r3, r4, r5, e) ∧ beadleref10_Use.f 5 q p b d m n = some (r1, r2, r3, r4, r5, e) := by
  by_cases hg : goodv q p b d m
  · by_cases hn : 1 ≤ n ∧ n ≤ b
    · have hg' := hg
      obtain ⟨⟨h1, h2⟩, h3, h4, h5, h6⟩ := hg'
      by_cases hm : m = 1
      · refine ⟨_, _, _, _, _, _, use_ok (k := 4) hg hn hm, ?_⟩
        unfold beadleref10_Use.f
        rw [rgood, goods_t hg, Option.bind_some, if_pos rfl, if_neg (by omega), decide_eq_false (by omega), beadleref10_Use.j0.eq_2, if_neg (by decide), if_pos hm, wrap_id (n := b - n) (by omega) (by omega)]
        unfold rdy
        by_cases c : b - n = 0
        · rw [if_pos c, if_pos c]
        · rw [if_neg c, if_neg c, hm]
      · refine ⟨_, _, _, _, _, _, use_none (k := 4) hg hn hm, ?_⟩
        unfold beadleref10_Use.f
        rw [rgood, goods_t hg, Option.bind_some, if_pos rfl, if_neg (by omega), decide_eq_false (by omega), beadleref10_Use.j0.eq_2, if_neg (by decide), if_neg hm]
    · refine ⟨_, _, _, _, _, _, use_bad (k := 4) (fun c => hn c.2), ?_⟩
      unfold beadleref10_Use.f
      rw [rgood, goods_t hg, Option.bind_some, if_pos rfl]
      by_cases c : n < 1
      · rw [if_pos c, beadleref10_Use.j0.eq_2, if_pos rfl]
      · rw [if_neg c, decide_eq_true (by omega), beadleref10_Use.j0.eq_2, if_pos rfl]
  · refine ⟨_, _, _, _, _, _, use_bad (k := 4) (fun c => hg c.1), ?_⟩
    unfold beadleref10_Use.f
    rw [rgood, goods_n hg, Option.bind_some, if_neg (by decide), beadleref10_Use.j0.eq_2, if_pos rfl]
theorem idle_both (q p b d m : Int) : ∃ r1 r2 r3 r4 r5 e : Int, cbs_Idle.f q p b d m = some (r1, r2, r3, r4, r5, e) ∧ beadleref10_Idle.f q p b d m = some (r1, r2, r3, r4, r5, e) := by
  have h : ∃ r1 r2 r3 r4 r5 e : Int, cbs_Idle.f q p b d m = some (r1, r2, r3, r4, r5, e) := by
    unfold cbs_Idle.f
    by_cases hg : goodv q p b d m
    · rw [goods_t hg, Option.bind_some, if_pos rfl]
      by_cases hm : m = 0
      · rw [if_pos hm]; exact ⟨_, _, _, _, _, _, rfl⟩
      · rw [if_neg hm]; exact ⟨_, _, _, _, _, _, rfl⟩
    · rw [goods_n hg, Option.bind_some, if_neg (by decide)]; exact ⟨_, _, _, _, _, _, rfl⟩
  obtain ⟨r1, r2, r3, r4, r5, e, h⟩ := h
  exact ⟨r1, r2, r3, r4, r5, e, h, h⟩
theorem wait_both (q p b d m : Int) : ∃ r1 r2 r3 r4 r5 e : Int, cbs_Wait.f q p b d m = some (r1, r2, r3, r4, r5, e) ∧ beadleref10_Wait.f q p b d m = some (r1, r2, r3, r4, r5, e) := by
  have h : ∃ r1 r2 r3 r4 r5 e : Int, cbs_Wait.f q p b d m = some (r1, r2, r3, r4, r5, e) := by
    unfold cbs_Wait.f
    by_cases hg : goodv q p b d m
    · rw [goods_t hg, Option.bind_some, if_pos rfl]
      by_cases hm : m = 1
      · rw [if_pos hm]; exact ⟨_, _, _, _, _, _, rfl⟩
      · rw [if_neg hm]; exact ⟨_, _, _, _, _, _, rfl⟩
    · rw [goods_n hg, Option.bind_some, if_neg (by decide)]; exact ⟨_, _, _, _, _, _, rfl⟩
  obtain ⟨r1, r2, r3, r4, r5, e, h⟩ := h
  exact ⟨r1, r2, r3, r4, r5, e, h, h⟩
theorem new_both (q p : Int) : ∃ r1 r2 r3 r4 r5 e : Int, cbs_New.f q p = some (r1, r2, r3, r4, r5, e) ∧ beadleref10_NewServer.f q p = some (r1, r2, r3, r4, r5, e) := by
  have hpair : beadleref10_GoodPair.f q p = cbs_pair.f q p := rfl
  by_cases h : (1 ≤ p ∧ p ≤ 2147483648) ∧ 1 ≤ q ∧ q ≤ p
  · refine ⟨_, _, _, _, _, _, new_t h, ?_⟩
    unfold beadleref10_NewServer.f beadleref10_GoodPair.f
    rw [if_pos (by omega), if_pos (by omega), if_pos (by omega), decide_eq_true h.2.2, Option.bind_some, if_pos rfl]
  · refine ⟨_, _, _, _, _, _, new_n h, ?_⟩
    unfold beadleref10_NewServer.f beadleref10_GoodPair.f
    by_cases h1 : p ≥ 1
    · rw [if_pos h1]
      by_cases h2 : p ≤ 2147483648
      · rw [if_pos h2]
        by_cases h3 : q ≥ 1
        · rw [if_pos h3, decide_eq_false (by omega), Option.bind_some, if_neg (by decide)]
        · rw [if_neg h3, Option.bind_some, if_neg (by decide)]
      · rw [if_neg h2, Option.bind_some, if_neg (by decide)]
    · rw [if_neg h1, Option.bind_some, if_neg (by decide)]
theorem good_both (q p b d m : Int) : ∃ r : Bool, cbs_Good.f q p b d m = some r ∧ beadleref10_GoodServer.f q p b d m = some r := by
  by_cases hg : goodv q p b d m
  · exact ⟨true, goods_t hg, goods_t hg⟩
  · exact ⟨false, goods_n hg, goods_n hg⟩
theorem rup {k : Nat} {t d p : Int} (ht : 0 ≤ t ∧ t ≤ 4611686018427387904) (hd : 0 ≤ d ∧ d ≤ 4611686018427387904) (hp : 1 ≤ p ∧ p ≤ 2147483648) (c : d ≤ t) : beadleref1_Up.f (k + 1) t d p = some (if nextd d p t ≤ 4611686018427387904 then (nextd d p t, true) else (0, false)) := by
  unfold beadleref1_Up.f
  rw [rtime, good_t ht.1 ht.2, Option.bind_some, if_pos rfl, rtime, good_t hd.1 hd.2, Option.bind_some, if_pos rfl]
  have hper : beadleref1_period.f p = some true := by
    unfold beadleref1_period.f
    rw [if_pos (by omega), decide_eq_true hp.2]
  rw [hper, Option.bind_some, Bool.not_true, beadleref1_Up.j0.eq_2, if_neg (by decide), if_pos c, if_neg (by omega)]
  have hq := up_q (t := t) (d := d) (p := p) c (by omega)
  unfold nextd
  rw [wrap_id (n := t - d) (by omega) (by omega), Int.tdiv_eq_ediv_of_nonneg (by omega)]
  revert hq
  generalize (t - d) / p = q
  intro hq
  rw [wrap_id (n := q) (by omega) (by omega), wrap_id (n := q + 1) (by omega) (by omega)]
  revert hq
  generalize hm : (q + 1) * p = m
  generalize q * p = m'
  intro hq
  rw [wrap_id (n := m) (by omega) (by omega), wrap_id (n := d + m) (by omega) (by omega)]
  unfold beadleref1_good.f
  by_cases h : d + m ≤ 4611686018427387904
  · rw [rtime, good_t (by omega) h, Option.bind_some, if_pos rfl, Option.bind_some, if_pos h]
  · rw [rtime, good_n (by omega), Option.bind_some, if_neg (by decide), Option.bind_some, if_neg h]
theorem turn_both (q p b d m t : Int) : ∃ (r1 r2 r3 r4 r5 : Int) (e : Bool), cbs_Turn.f 5 q p b d m t = some (r1, r2, r3, r4, r5, e) ∧ beadleref10_Turn.f 5 q p b d m t = some (r1, r2, r3, r4, r5, e) := by
  by_cases hg : goodv q p b d m
  · have hg' := hg
    obtain ⟨⟨h1, h2⟩, h3, h4, h5, h6⟩ := hg'
    by_cases hm : m = 0
    · refine ⟨_, _, _, _, _, _, turn_no (k := 4) (fun c => c.2.1 hm), ?_⟩
      unfold beadleref10_Turn.f
      rw [rgood, goods_t hg, Option.bind_some, if_pos rfl, rtime]
      by_cases ht : 0 ≤ t ∧ t ≤ 4611686018427387904
      · rw [good_t ht.1 ht.2, Option.bind_some, if_pos rfl, if_pos hm, beadleref10_Turn.j0.eq_2, if_pos rfl]
      · rw [good_n ht, Option.bind_some, if_neg (by decide), beadleref10_Turn.j0.eq_2, if_pos rfl]
    · by_cases hd : d ≤ t
      · by_cases ht : t ≤ 4611686018427387904
        · by_cases ho : nextd d p t ≤ 4611686018427387904
          · refine ⟨_, _, _, _, _, _, turn_ok (k := 3) hg hm hd ht ho, ?_⟩
            unfold beadleref10_Turn.f
            rw [rgood, goods_t hg, Option.bind_some, if_pos rfl, rtime, good_t (by omega) ht, Option.bind_some, if_pos rfl, if_neg hm, decide_eq_false (by omega), beadleref10_Turn.j0.eq_2, if_neg (by decide), rup (k := 3) ⟨by omega, ht⟩ h4 h1 hd, Option.bind_some, if_pos ho, if_pos rfl]
          · refine ⟨_, _, _, _, _, _, turn_over (k := 3) hg hm hd (fun c => ho c.2), ?_⟩
            unfold beadleref10_Turn.f
            rw [rgood, goods_t hg, Option.bind_some, if_pos rfl, rtime, good_t (by omega) ht, Option.bind_some, if_pos rfl, if_neg hm, decide_eq_false (by omega), beadleref10_Turn.j0.eq_2, if_neg (by decide), rup (k := 3) ⟨by omega, ht⟩ h4 h1 hd, Option.bind_some, if_neg ho, if_neg (by decide)]
        · refine ⟨_, _, _, _, _, _, turn_over (k := 3) hg hm hd (fun c => ht c.1), ?_⟩
          unfold beadleref10_Turn.f
          rw [rgood, goods_t hg, Option.bind_some, if_pos rfl, rtime, good_n (by omega), Option.bind_some, if_neg (by decide), beadleref10_Turn.j0.eq_2, if_pos rfl]
      · refine ⟨_, _, _, _, _, _, turn_no (k := 4) (fun c => hd c.2.2), ?_⟩
        unfold beadleref10_Turn.f
        rw [rgood, goods_t hg, Option.bind_some, if_pos rfl, rtime]
        by_cases ht : 0 ≤ t ∧ t ≤ 4611686018427387904
        · rw [good_t ht.1 ht.2, Option.bind_some, if_pos rfl, if_neg hm, decide_eq_true (by omega), beadleref10_Turn.j0.eq_2, if_pos rfl]
        · rw [good_n ht, Option.bind_some, if_neg (by decide), beadleref10_Turn.j0.eq_2, if_pos rfl]
  · refine ⟨_, _, _, _, _, _, turn_no (k := 4) (fun c => hg c.1), ?_⟩
    unfold beadleref10_Turn.f
    rw [rgood, goods_n hg, Option.bind_some, if_neg (by decide), beadleref10_Turn.j0.eq_2, if_pos rfl]
theorem wake_both (q p b d m t : Int) : ∃ r1 r2 r3 r4 r5 e : Int, cbs_Wake.f 5 q p b d m t = some (r1, r2, r3, r4, r5, e) ∧ beadleref10_Wake.f 5 q p b d m t = some (r1, r2, r3, r4, r5, e) := by
  by_cases hg : goodv q p b d m
  · have hg' := hg
    obtain ⟨⟨h1, h2⟩, h3, h4, h5, h6⟩ := hg'
    by_cases ht : 0 ≤ t ∧ t ≤ 4611686018427387904
    · by_cases hm : m = 0
      · by_cases hd : d ≤ t
        · have hadd : beadleref1_Add.f t p = some (if t + p ≤ 4611686018427387904 then (t + p, true) else (0, false)) := by
            unfold beadleref1_Add.f
            rw [rtime, good_t ht.1 ht.2, Option.bind_some, if_pos rfl, rtime, good_t (by omega) (by omega), Option.bind_some, if_pos rfl, wrap_id (n := 4611686018427387904 - p) (by omega) (by omega)]
            by_cases ho : t + p ≤ 4611686018427387904
            · rw [if_neg (by omega), wrap_id (n := t + p) (by omega) (by omega), if_pos ho]
            · rw [if_pos (by omega), if_neg ho]
          by_cases ho : t + p ≤ 4611686018427387904
          · refine ⟨_, _, _, _, _, _, wake_anew (k := 4) hg ht hm hd ho, ?_⟩
            unfold beadleref10_Wake.f
            rw [rgood, goods_t hg, Option.bind_some, if_pos rfl, rtime, good_t ht.1 ht.2, Option.bind_some, Bool.not_true, beadleref10_Wake.j0.eq_2, if_neg (by decide), if_pos hm, if_pos hd, hadd, Option.bind_some, if_pos ho, if_pos rfl, if_neg (by omega)]
          · refine ⟨_, _, _, _, _, _, wake_over (k := 4) hg ht hm hd ho, ?_⟩
            unfold beadleref10_Wake.f
            rw [rgood, goods_t hg, Option.bind_some, if_pos rfl, rtime, good_t ht.1 ht.2, Option.bind_some, Bool.not_true, beadleref10_Wake.j0.eq_2, if_neg (by decide), if_pos hm, if_pos hd, hadd, Option.bind_some, if_neg ho, if_neg (by decide)]
        · refine ⟨_, _, _, _, _, _, wake_cut (k := 4) hg ht hm hd, ?_⟩
          have hf := far_bd (p := p) h1.1 (show t < d by omega)
          have hj : ∀ x : Int, 1 ≤ x → x ≤ p → beadleref10_Wake.j1 4 x q p b d m q p b d m = some (q, p, cutb q p b x, d, rdy (cutb q p b x), 0) := by
            intro x hx1 hx2
            have k1 : 0 ≤ b * p ∧ b * p ≤ 4611686018427387904 := by
              have a1 := Int.mul_nonneg h3.1 (show 0 ≤ p by omega)
              have a2 : b * p ≤ 2147483648 * 2147483648 := Int.mul_le_mul (by omega) (by omega) (by omega) (by omega)
              exact ⟨a1, by omega⟩
            have k2 : 0 ≤ x * q ∧ x * q ≤ 4611686018427387904 := by
              have a1 := Int.mul_nonneg (show 0 ≤ x by omega) (show 0 ≤ q by omega)
              have a2 : x * q ≤ 2147483648 * 2147483648 := Int.mul_le_mul (by omega) (by omega) (by omega) (by omega)
              exact ⟨a1, by omega⟩
            rw [beadleref10_Wake.j1.eq_2, wrap_id (n := b * p) (by omega) (by omega), wrap_id (n := x * q) (by omega) (by omega)]
            unfold cutb rdy
            by_cases c : b * p > x * q
            · have k3 : 0 ≤ x * q / p ∧ x * q / p ≤ x * q := ⟨Int.ediv_nonneg (by omega) (by omega), Int.ediv_le_self _ (by omega)⟩
              rw [if_pos c, if_neg (show ¬ p = 0 by omega), Int.tdiv_eq_ediv_of_nonneg (by omega), wrap_id (n := x * q / p) (by omega) (by omega), if_pos c]
              by_cases z : x * q / p = 0
              · rw [if_pos z, if_pos z]
              · rw [if_neg z, if_neg z]
            · rw [if_neg c, if_neg c]
              by_cases z : b = 0
              · rw [if_pos z, if_pos z]
              · rw [if_neg z, if_neg z]
          unfold beadleref10_Wake.f
          rw [rgood, goods_t hg, Option.bind_some, if_pos rfl, rtime, good_t ht.1 ht.2, Option.bind_some, Bool.not_true, beadleref10_Wake.j0.eq_2, if_neg (by decide), if_pos hm, if_neg hd, wrap_id (n := d - t) (by omega) (by omega)]
          unfold far at hf ⊢
          by_cases c : p < d - t
          · rw [if_pos c] at hf
            rw [if_pos c, if_pos (show d - t > p from c)]
            exact hj p hf.1 hf.2.1
          · rw [if_neg c] at hf
            rw [if_neg c, if_neg (show ¬ d - t > p from c)]
            exact hj (d - t) hf.1 hf.2.1
      · refine ⟨_, _, _, _, _, _, wake_busy (k := 4) hg ht hm, ?_⟩
        unfold beadleref10_Wake.f
        rw [rgood, goods_t hg, Option.bind_some, if_pos rfl, rtime, good_t ht.1 ht.2, Option.bind_some, Bool.not_true, beadleref10_Wake.j0.eq_2, if_neg (by decide), if_neg hm]
    · refine ⟨_, _, _, _, _, _, wake_bad (k := 4) (fun c => ht c.2), ?_⟩
      unfold beadleref10_Wake.f
      rw [rgood, goods_t hg, Option.bind_some, if_pos rfl, rtime, good_n ht, Option.bind_some, Bool.not_false, beadleref10_Wake.j0.eq_2, if_pos rfl]
  · refine ⟨_, _, _, _, _, _, wake_bad (k := 4) (fun c => hg c.1), ?_⟩
    unfold beadleref10_Wake.f
    rw [rgood, goods_n hg, Option.bind_some, if_neg (by decide), beadleref10_Wake.j0.eq_2, if_pos rfl]

end Go.Proofs.Ytofbjgkoaiiagaa.Pure
