/- The statement CbsCut of the program, over numbers and lists alone: for every input (of the bounds that it names) the printed function of the law answers true. No further condition. -/
import Derived.Test.YtofbjgkoaiiagaaQx13
namespace Go.Proofs.Ytofbjgkoaiiagaa.Pure
open Go.RowKit Go.Proofs.Ytofbjgkoaiiagaa.Q Go.Proofs.YtofbjgkoaiiagaaW.PrintWords Go.Proofs.YtofbjgkoaiiagaaW.PrintLast Go.Proofs.YtofbjgkoaiiagaaW.PrintMore

set_option linter.unusedSimpArgs false
set_option linter.unusedVariables false

theorem wrap_id {n : Int} (h0 : -9223372036854775808 ≤ n) (h1 : n ≤ 9223372036854775807) : wrap64 n = n := by unfold wrap64; omega
theorem wf64 {a : Int} (h : (Lit.int .i64 a).wf = true) : -9223372036854775808 ≤ a ∧ a ≤ 9223372036854775807 := by
  simp only [Lit.wf, Bool.and_eq_true, decide_eq_true_eq] at h; exact h

theorem good_t {a : Int} (h0 : 0 ≤ a) (h1 : a ≤ 4611686018427387904) : tick_Good.f a = some true := by
  unfold tick_Good.f; rw [if_pos h0, decide_eq_true h1]
theorem good_n {a : Int} (h : ¬ (0 ≤ a ∧ a ≤ 4611686018427387904)) : tick_Good.f a = some false := by
  unfold tick_Good.f
  by_cases h0 : a ≥ 0
  · rw [if_pos h0, decide_eq_false (by omega)]
  · rw [if_neg h0]
theorem in_t {a b c : Int} (h0 : b ≤ a) (h1 : a ≤ c) : tick_in.f a b c = some true := by
  unfold tick_in.f; rw [if_pos h0, decide_eq_true h1]
theorem in_n {a b c : Int} (h : ¬ (b ≤ a ∧ a ≤ c)) : tick_in.f a b c = some false := by
  unfold tick_in.f
  by_cases h0 : a ≥ b
  · rw [if_pos h0, decide_eq_false (by omega)]
  · rw [if_neg h0]
theorem tgood_f (a : Int) : tick_good.f a = some (if 0 ≤ a ∧ a ≤ 4611686018427387904 then (a, true) else (0, false)) := by
  unfold tick_good.f
  by_cases h : 0 ≤ a ∧ a ≤ 4611686018427387904
  · rw [good_t h.1 h.2, if_pos h]; rfl
  · rw [good_n h, if_neg h]; rfl

theorem mul_cap {a b A B : Int} (ha : 0 ≤ a) (hb : 0 ≤ b) (hA : a ≤ A) (hB : b ≤ B) : 0 ≤ a * b ∧ a * b ≤ A * B :=
  ⟨Int.mul_nonneg ha hb, Int.le_trans (Int.mul_le_mul_of_nonneg_right hA hb) (Int.mul_le_mul_of_nonneg_left hB (by omega))⟩
/-- What Share answers, in plain numbers. -/
def sharev (x q p : Int) : Int × Bool := if (0 ≤ x ∧ x ≤ 2147483648) ∧ (1 ≤ p ∧ p ≤ 2147483648) ∧ (0 ≤ q ∧ q ≤ p) then (x * q / p, true) else (0, false)
theorem sharev_t {x q p : Int} (h : (0 ≤ x ∧ x ≤ 2147483648) ∧ (1 ≤ p ∧ p ≤ 2147483648) ∧ (0 ≤ q ∧ q ≤ p)) : sharev x q p = (x * q / p, true) := if_pos h
theorem sharev_n {x q p : Int} (h : ¬ ((0 ≤ x ∧ x ≤ 2147483648) ∧ (1 ≤ p ∧ p ≤ 2147483648) ∧ (0 ≤ q ∧ q ≤ p))) : sharev x q p = (0, false) := if_neg h
theorem share_f (x q p : Int) : tick_Share.f x q p = some (sharev x q p) := by
  unfold tick_Share.f sharev
  by_cases hx : 0 ≤ x ∧ x ≤ 2147483648
  · rw [in_t hx.1 hx.2]; simp only [Option.bind_some, if_true]
    by_cases hp : 1 ≤ p ∧ p ≤ 2147483648
    · rw [in_t hp.1 hp.2]; simp only [Option.bind_some, if_true]
      by_cases hq : 0 ≤ q ∧ q ≤ p
      · rw [in_t hq.1 hq.2]; simp only [Option.bind_some, if_true]
        rw [if_pos (show (0 ≤ x ∧ x ≤ 2147483648) ∧ (1 ≤ p ∧ p ≤ 2147483648) ∧ (0 ≤ q ∧ q ≤ p) from ⟨hx, hp, hq⟩)]
        have h0 := mul_cap hx.1 hq.1 hx.2 (show q ≤ 2147483648 by omega)
        have h1 : 0 ≤ x * q / p := Int.ediv_nonneg h0.1 (by omega)
        have h2 : x * q / p ≤ x * q := Int.ediv_le_self _ h0.1
        rw [if_neg (by omega), wrap_id (n := x * q) (by omega) (by omega), Int.tdiv_eq_ediv_of_nonneg h0.1, wrap_id (by omega) (by omega)]
      · rw [in_n hq]; simp only [Option.bind_some, Bool.false_eq_true, if_false]; rw [if_neg (by omega)]
    · rw [in_n hp]; simp only [Option.bind_some, Bool.false_eq_true, if_false]; rw [if_neg (by omega)]
  · rw [in_n hx]; simp only [Option.bind_some, Bool.false_eq_true, if_false]; rw [if_neg (by omega)]

/-- What Add answers, in plain numbers. -/
def addv (a b : Int) : Int × Bool := if (0 ≤ a ∧ a ≤ 4611686018427387904) ∧ (0 ≤ b ∧ b ≤ 4611686018427387904) ∧ a + b ≤ 4611686018427387904 then (a + b, true) else (0, false)
theorem addv_t {a b : Int} (h : (0 ≤ a ∧ a ≤ 4611686018427387904) ∧ (0 ≤ b ∧ b ≤ 4611686018427387904) ∧ a + b ≤ 4611686018427387904) : addv a b = (a + b, true) := if_pos h
theorem addv_n {a b : Int} (h : ¬ ((0 ≤ a ∧ a ≤ 4611686018427387904) ∧ (0 ≤ b ∧ b ≤ 4611686018427387904) ∧ a + b ≤ 4611686018427387904)) : addv a b = (0, false) := if_neg h
theorem add_f (a b : Int) : tick_Add.f a b = some (addv a b) := by
  unfold tick_Add.f addv
  by_cases ha : 0 ≤ a ∧ a ≤ 4611686018427387904
  · rw [good_t ha.1 ha.2]; simp only [Option.bind_some, if_true]
    by_cases hb : 0 ≤ b ∧ b ≤ 4611686018427387904
    · rw [good_t hb.1 hb.2, tgood_f]; simp only [Option.bind_some, if_true]
      by_cases h : a + b ≤ 4611686018427387904
      · rw [wrap_id (by omega) (by omega), if_pos (show 0 ≤ a + b ∧ a + b ≤ 4611686018427387904 by omega), if_pos ⟨ha, hb, h⟩]
      · rw [if_neg (show ¬ (0 ≤ wrap64 (a + b) ∧ wrap64 (a + b) ≤ 4611686018427387904) by unfold wrap64; omega), if_neg (by omega)]
    · rw [good_n hb]; simp only [Option.bind_some, Bool.false_eq_true, if_false]; rw [if_neg (by omega)]
  · rw [good_n ha]; simp only [Option.bind_some, Bool.false_eq_true, if_false]; rw [if_neg (by omega)]

/-- What Good asks of a server. -/
def goodv (q p b d m : Int) : Prop := ((1 ≤ p ∧ p ≤ 2147483648) ∧ 1 ≤ q ∧ q ≤ p) ∧ (0 ≤ b ∧ b ≤ q) ∧ (0 ≤ d ∧ d ≤ 4611686018427387904) ∧ (0 ≤ m ∧ m ≤ 2) ∧ (m = 1 → 0 < b)
theorem goods_t {q p b d m : Int} (h : goodv q p b d m) : cbs_Good.f q p b d m = some true := by
  obtain ⟨⟨h1, h2⟩, h3, h4, h5, h6⟩ := h
  unfold cbs_Good.f cbs_pair.f
  rw [if_pos (by omega), if_pos (by omega), if_pos (by omega), decide_eq_true h2.2, good_t h4.1 h4.2]
  simp only [Option.bind_some, if_true]
  rw [if_pos (by omega), if_pos (by omega), if_pos (by omega), if_pos (by omega)]
  by_cases c : m = 1
  · rw [if_pos c, decide_eq_true (h6 c)]
  · rw [if_neg c]
theorem goods_n {q p b d m : Int} (h : ¬ goodv q p b d m) : cbs_Good.f q p b d m = some false := by
  unfold goodv at h
  unfold cbs_Good.f cbs_pair.f
  by_cases h1 : 1 ≤ p
  · by_cases h2 : p ≤ 2147483648
    · by_cases h3 : 1 ≤ q
      · by_cases h4 : q ≤ p
        · rw [if_pos (by omega), if_pos h2, if_pos h3, decide_eq_true h4]; simp only [Option.bind_some, if_true]
          by_cases h5 : 0 ≤ b
          · by_cases h6 : b ≤ q
            · rw [if_pos (by omega), if_pos h6]
              by_cases h7 : 0 ≤ d ∧ d ≤ 4611686018427387904
              · rw [good_t h7.1 h7.2]; simp only [Option.bind_some, if_true]
                by_cases h8 : 0 ≤ m
                · by_cases h9 : m ≤ 2
                  · rw [if_pos (by omega), if_pos h9]
                    by_cases h10 : m = 1
                    · rw [if_pos h10, decide_eq_false (by omega)]
                    · omega
                  · rw [if_pos (by omega), if_neg h9]
                · rw [if_neg (by omega)]
              · rw [good_n h7]; rfl
            · rw [if_pos (by omega), if_neg h6]
          · rw [if_neg (by omega)]
        · rw [if_pos (by omega), if_pos h2, if_pos h3, decide_eq_false h4]; rfl
      · rw [if_pos (by omega), if_pos h2, if_neg (by omega)]; rfl
    · rw [if_pos (by omega), if_neg h2]; rfl
  · rw [if_neg (by omega)]; rfl
def rdy (b : Int) : Int := if b = 0 then 2 else 1
theorem ready_f (q p b d m : Int) : cbs_ready.f q p b d m = some (q, p, b, d, rdy b) := by
  unfold cbs_ready.f rdy
  by_cases h : b = 0
  · rw [if_pos h, if_pos h]
  · rw [if_neg h, if_neg h]
theorem rdy_pos {b : Int} (h : 0 < b) : rdy b = 1 := if_neg (by omega)
theorem rdy_zero : rdy 0 = 2 := rfl
theorem new_t {q p : Int} (h : (1 ≤ p ∧ p ≤ 2147483648) ∧ 1 ≤ q ∧ q ≤ p) : cbs_New.f q p = some (q, p, 0, 0, 0, 0) := by
  unfold cbs_New.f cbs_pair.f
  rw [if_pos (by omega), if_pos (by omega), if_pos (by omega), decide_eq_true h.2.2]; rfl
theorem new_n {q p : Int} (h : ¬ ((1 ≤ p ∧ p ≤ 2147483648) ∧ 1 ≤ q ∧ q ≤ p)) : cbs_New.f q p = some (0, 0, 0, 0, 0, 1) := by
  unfold cbs_New.f cbs_pair.f
  by_cases h1 : 1 ≤ p
  · by_cases h2 : p ≤ 2147483648
    · by_cases h3 : 1 ≤ q
      · rw [if_pos (by omega), if_pos h2, if_pos h3, decide_eq_false (by omega)]; rfl
      · rw [if_pos (by omega), if_pos h2, if_neg (by omega)]; rfl
    · rw [if_pos (by omega), if_neg h2]; rfl
  · rw [if_neg (by omega)]; rfl

/-- What Wake finds of a budget that is woken x ticks ahead of its Due (x at most the period). -/
def cutb (q p b x : Int) : Int := if b * p > x * q then x * q / p else b
def far (p d t : Int) : Int := if p < d - t then p else d - t
theorem cut_bd {q p b x : Int} (hp : 1 ≤ p) (hq : 1 ≤ q) (hqp : q ≤ p) (hb : 0 ≤ b) (hx : 0 ≤ x) : 0 ≤ cutb q p b x ∧ cutb q p b x ≤ b ∧ cutb q p b x * p ≤ x * q ∧ (cutb q p b x = b ∨ x * q < (cutb q p b x + 1) * p) := by
  unfold cutb
  have h0 : 0 ≤ x * q := Int.mul_nonneg hx (by omega)
  by_cases h : b * p > x * q
  · rw [if_pos h]
    have h1 : 0 ≤ x * q / p := Int.ediv_nonneg h0 (by omega)
    have h2 : x * q / p * p ≤ x * q := Int.ediv_mul_le _ (by omega)
    have h3 : x * q < (x * q / p + 1) * p := Int.lt_ediv_add_one_mul_self _ (by omega)
    refine ⟨h1, ?_, h2, .inr h3⟩
    have h4 : x * q / p < b := (Int.ediv_lt_iff_lt_mul (by omega)).2 h
    omega
  · rw [if_neg h]
    exact ⟨hb, Int.le_refl _, by omega, .inl rfl⟩
theorem wake_bad {k : Nat} {q p b d m t : Int} (h : ¬ (goodv q p b d m ∧ 0 ≤ t ∧ t ≤ 4611686018427387904)) : cbs_Wake.f (k + 1) q p b d m t = some (q, p, b, d, m, 1) := by
  unfold cbs_Wake.f
  by_cases hg : goodv q p b d m
  · have ht : ¬ (0 ≤ t ∧ t ≤ 4611686018427387904) := fun x => h ⟨hg, x⟩
    rw [goods_t hg, good_n ht]; simp only [Option.bind_some, if_true, Bool.not_false, cbs_Wake.j0]
  · rw [goods_n hg]; simp only [Option.bind_some, if_true, Bool.false_eq_true, if_false, cbs_Wake.j0]
theorem wake_busy {k : Nat} {q p b d m t : Int} (hg : goodv q p b d m) (ht : 0 ≤ t ∧ t ≤ 4611686018427387904) (hm : m ≠ 0) : cbs_Wake.f (k + 1) q p b d m t = some (q, p, b, d, m, 5) := by
  unfold cbs_Wake.f
  rw [goods_t hg, good_t ht.1 ht.2]; simp only [Option.bind_some, if_true, Bool.not_true, cbs_Wake.j0, Bool.false_eq_true, if_false]
  rw [if_neg hm]
theorem wake_anew {k : Nat} {q p b d m t : Int} (hg : goodv q p b d m) (ht : 0 ≤ t ∧ t ≤ 4611686018427387904) (hm : m = 0) (hd : d ≤ t) (ho : t + p ≤ 4611686018427387904) : cbs_Wake.f (k + 1) q p b d m t = some (q, p, q, t + p, 1, 0) := by
  unfold cbs_Wake.f
  rw [goods_t hg, good_t ht.1 ht.2]; simp only [Option.bind_some, if_true, Bool.not_true, cbs_Wake.j0, Bool.false_eq_true, if_false]
  obtain ⟨⟨h1, h2⟩, h3, h4, h5, h6⟩ := hg
  rw [if_pos hm, if_pos hd, add_f, addv_t ⟨ht, ⟨by omega, by omega⟩, ho⟩]; simp only [Option.bind_some, if_true]
  rw [ready_f, rdy_pos (by omega)]; rfl
theorem wake_over {k : Nat} {q p b d m t : Int} (hg : goodv q p b d m) (ht : 0 ≤ t ∧ t ≤ 4611686018427387904) (hm : m = 0) (hd : d ≤ t) (ho : ¬ t + p ≤ 4611686018427387904) : cbs_Wake.f (k + 1) q p b d m t = some (q, p, b, d, m, 6) := by
  unfold cbs_Wake.f
  rw [goods_t hg, good_t ht.1 ht.2]; simp only [Option.bind_some, if_true, Bool.not_true, cbs_Wake.j0, Bool.false_eq_true, if_false]
  rw [if_pos hm, if_pos hd, add_f, addv_n (fun z => ho z.2.2)]; simp only [Option.bind_some, Bool.false_eq_true, if_false]
theorem far_bd {p d t : Int} (hp : 1 ≤ p) (hd : t < d) : 1 ≤ far p d t ∧ far p d t ≤ p ∧ far p d t ≤ d - t := by
  unfold far; split <;> omega
theorem wake_cut {k : Nat} {q p b d m t : Int} (hg : goodv q p b d m) (ht : 0 ≤ t ∧ t ≤ 4611686018427387904) (hm : m = 0) (hd : ¬ d ≤ t) : cbs_Wake.f (k + 1) q p b d m t = some (q, p, cutb q p b (far p d t), d, rdy (cutb q p b (far p d t)), 0) := by
  unfold cbs_Wake.f
  rw [goods_t hg, good_t ht.1 ht.2]; simp only [Option.bind_some, if_true, Bool.not_true, cbs_Wake.j0, Bool.false_eq_true, if_false]
  obtain ⟨⟨h1, h2⟩, h3, h4, h5, h6⟩ := hg
  have hf := far_bd (p := p) (d := d) (t := t) (by omega) (by omega)
  have hmn : mn (d - t) p = far p d t := rfl
  rw [if_pos hm, if_neg hd, wrap_id (n := d - t) (by omega) (by omega), hmn]
  have e1 := mul_cap h3.1 (show 0 ≤ p by omega) (show b ≤ 2147483648 by omega) h1.2
  have e2 := mul_cap (show 0 ≤ far p d t by omega) (show 0 ≤ q by omega) (show far p d t ≤ 2147483648 by omega) (show q ≤ 2147483648 by omega)
  rw [wrap_id (n := b * p) (by omega) (by omega), wrap_id (n := far p d t * q) (by omega) (by omega)]
  unfold cutb
  by_cases c : b * p > far p d t * q
  · rw [if_pos c, if_pos c, share_f, sharev_t ⟨⟨by omega, by omega⟩, h1, by omega, h2.2⟩]; simp only [Option.bind_some]
    rw [ready_f]; rfl
  · rw [if_neg c, if_neg c, ready_f]; rfl
theorem awake_f : beadlelaw12_awake.f 3 = some true := by decide +kernel

theorem cut_no {a b c d e f : Int} : beadlelaw12_CbsCut.j0 3 a true b c d e f = some true := by
  simp only [beadlelaw12_CbsCut.j0]; rfl
theorem CbsCut : ∀ (q p b d m now : Int), ((Lit.int .i64 q).wf = true ∧ (Lit.int .i64 p).wf = true ∧ (Lit.int .i64 b).wf = true ∧ (Lit.int .i64 d).wf = true ∧ (Lit.int .i64 m).wf = true) → (Lit.int .i64 now).wf = true → ∃ k, beadlelaw12_CbsCut.f k q p b d m now = some true := by
  intro q p b d m t _ _
  refine ⟨3, ?_⟩
  unfold beadlelaw12_CbsCut.f
  rw [awake_f]; simp only [Option.bind_some, if_true]
  by_cases hg : goodv q p b d m
  · rw [goods_t hg]; simp only [Option.bind_some, if_true]
    by_cases hm : m = 0
    · rw [if_pos hm]
      by_cases h0 : t < 0
      · rw [if_pos h0]; exact cut_no
      · rw [if_neg h0]
        by_cases h1 : t ≥ d
        · rw [decide_eq_true h1]; exact cut_no
        · rw [decide_eq_false h1]; simp only [beadlelaw12_CbsCut.j0, Bool.false_eq_true, if_false]
          have hg' := hg
          obtain ⟨⟨g1, g2⟩, g3, g4, g5, g6⟩ := hg'
          have hf := far_bd (p := p) (d := d) (t := t) (by omega) (by omega)
          obtain ⟨b0, b1, b2, b3⟩ := cut_bd (q := q) (p := p) (b := b) (x := far p d t) (by omega) (by omega) g2.2 g3.1 (by omega)
          have e1 := mul_cap (show 0 ≤ far p d t by omega) (show 0 ≤ q by omega) (show far p d t ≤ 2147483648 by omega) (show q ≤ 2147483648 by omega)
          rw [wake_cut hg ⟨by omega, by omega⟩ hm (by omega)]
          simp only [Option.bind_some]
          rw [wrap_id (n := d - t) (by omega) (by omega)]
          have key : ∀ c : Int, 0 ≤ c → c ≤ b → c * p ≤ far p d t * q → (c = b ∨ far p d t * q < (c + 1) * p) →
              (if (0 : Int) = 0 then (if d = d then (if c ≤ b then (if wrap64 (c * p) ≤ wrap64 (far p d t * q) then (if c = b then (if ((rdy c == 1) == decide (c > 0)) = true then some (rdy c != 0) else some false) else (if wrap64 (wrap64 (c + 1) * p) > wrap64 (far p d t * q) then (if ((rdy c == 1) == decide (c > 0)) = true then some (rdy c != 0) else some false) else some false)) else some false) else some false) else some false) else some false) = some true := by
            intro c c0 c1 c2 c3
            have e2 := mul_cap c0 (show 0 ≤ p by omega) (show c ≤ 2147483648 by omega) g1.2
            have e3 : (c + 1) * p = c * p + p := by rw [Int.add_mul, Int.one_mul]
            have hr : (if ((rdy c == 1) == decide (c > 0)) = true then some (rdy c != 0) else some false) = some true := by
              by_cases cz : c = 0
              · subst cz; rfl
              · rw [rdy_pos (by omega), decide_eq_true (show c > 0 by omega)]; rfl
            rw [if_pos rfl, if_pos rfl, if_pos c1, wrap_id (n := c * p) (by omega) (by omega), wrap_id (n := far p d t * q) (by omega) (by omega), if_pos c2, hr, wrap_id (n := c + 1) (by omega) (by omega), wrap_id (n := (c + 1) * p) (by omega) (by omega)]
            by_cases cb : c = b
            · rw [if_pos cb]
            · rw [if_neg cb, if_pos (by omega)]
          by_cases hfar : d - t > p
          · have hfe : far p d t = p := if_pos hfar
            rw [if_pos hfar]
            have := key _ b0 b1 b2 b3
            rw [hfe] at this ⊢
            simp only [if_true] at this ⊢
            exact this
          · have hfe : far p d t = d - t := if_neg hfar
            rw [if_neg hfar]
            have := key _ b0 b1 b2 b3
            rw [hfe] at this ⊢
            simp only [if_true] at this ⊢
            exact this
    · rw [if_neg hm]; exact cut_no
  · rw [goods_n hg]; simp only [Option.bind_some, Bool.false_eq_true, if_false]; exact cut_no

end Go.Proofs.Ytofbjgkoaiiagaa.Pure
