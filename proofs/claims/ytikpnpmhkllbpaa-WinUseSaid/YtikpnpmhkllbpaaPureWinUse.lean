/- The statement WinUse of the program, over numbers and lists alone: for every input (of the bounds that it names) the printed function of the law answers true. No further condition. -/
import Derived.Test.YtikpnpmhkllbpaaQx13
import Derived.Test.YtikpnpmhkllbpaaQx12
import Derived.Test.YtikpnpmhkllbpaaQx34
import Derived.Test.YtikpnpmhkllbpaaQx36
namespace Go.Proofs.Ytikpnpmhkllbpaa.Pure
open Go.RowKit Go.Proofs.Ytikpnpmhkllbpaa.Q Go.Proofs.YtikpnpmhkllbpaaW.PrintWords Go.Proofs.YtikpnpmhkllbpaaW.PrintLast Go.Proofs.YtikpnpmhkllbpaaW.PrintMore

set_option linter.unusedSimpArgs false
set_option linter.unusedVariables false

theorem wrap_id {n : Int} (h0 : -9223372036854775808 ≤ n) (h1 : n ≤ 9223372036854775807) : wrap64 n = n := by unfold wrap64; omega
theorem wf64 {a : Int} (h : (Lit.int .i64 a).wf = true) : -9223372036854775808 ≤ a ∧ a ≤ 9223372036854775807 := by
  simp only [Lit.wf, Bool.and_eq_true, decide_eq_true_eq] at h; exact h

theorem good_t {a : Int} (h0 : 0 ≤ a) (h1 : a ≤ 4611686018427387904) : tick_Good.f a = some true := by
  unfold tick_Good.f; rw [if_pos h0, decide_eq_true h1]
theorem good_n {a : Int} (h : ¬ (0 ≤ a ∧ a ≤ 4611686018427387904)) : tick_Good.f a = some false := by
  unfold tick_Good.f
  by_cases h0 : a ≥ 0
  · rw [if_pos h0, decide_eq_false (by omega)]
  · rw [if_neg h0]
theorem in_t {a b c : Int} (h0 : b ≤ a) (h1 : a ≤ c) : tick_in.f a b c = some true := by
  unfold tick_in.f; rw [if_pos h0, decide_eq_true h1]
theorem in_n {a b c : Int} (h : ¬ (b ≤ a ∧ a ≤ c)) : tick_in.f a b c = some false := by
  unfold tick_in.f
  by_cases h0 : a ≥ b
  · rw [if_pos h0, decide_eq_false (by omega)]
  · rw [if_neg h0]

/-- What Windows answers, in plain numbers. -/
def winv (x p : Int) : Int × Bool := if (0 ≤ x ∧ x ≤ 4611686018427387904) ∧ (1 ≤ p ∧ p ≤ 2147483648) then (x / p, true) else (0, false)
theorem winv_t {x p : Int} (h : (0 ≤ x ∧ x ≤ 4611686018427387904) ∧ (1 ≤ p ∧ p ≤ 2147483648)) : winv x p = (x / p, true) := if_pos h
theorem winv_n {x p : Int} (h : ¬ ((0 ≤ x ∧ x ≤ 4611686018427387904) ∧ (1 ≤ p ∧ p ≤ 2147483648))) : winv x p = (0, false) := if_neg h
theorem win_f (x p : Int) : tick_Windows.f x p = some (winv x p) := by
  unfold tick_Windows.f winv
  by_cases hx : 0 ≤ x ∧ x ≤ 4611686018427387904
  · rw [good_t hx.1 hx.2]; simp only [Option.bind_some, if_true]
    by_cases hp : 1 ≤ p ∧ p ≤ 2147483648
    · rw [in_t hp.1 hp.2]; simp only [Option.bind_some, if_true]
      rw [if_pos (show (0 ≤ x ∧ x ≤ 4611686018427387904) ∧ (1 ≤ p ∧ p ≤ 2147483648) from ⟨hx, hp⟩)]
      have h1 : 0 ≤ x / p := Int.ediv_nonneg (by omega) (by omega)
      have h2 : x / p ≤ x := Int.ediv_le_self _ (by omega)
      rw [if_neg (by omega), Int.tdiv_eq_ediv_of_nonneg (by omega), wrap_id (by omega) (by omega)]
    · rw [in_n hp]; simp only [Option.bind_some, Bool.false_eq_true, if_false]; rw [if_neg (by omega)]
  · rw [good_n hx]; simp only [Option.bind_some, Bool.false_eq_true, if_false]; rw [if_neg (by omega)]

theorem mul_cap {a b A B : Int} (ha : 0 ≤ a) (hb : 0 ≤ b) (hA : a ≤ A) (hB : b ≤ B) : 0 ≤ a * b ∧ a * b ≤ A * B :=
  ⟨Int.mul_nonneg ha hb, Int.le_trans (Int.mul_le_mul_of_nonneg_right hA hb) (Int.mul_le_mul_of_nonneg_left hB (by omega))⟩

/-- A pair that may be. -/
def okv (q p : Int) : Prop := (1 ≤ p ∧ p ≤ 2147483648) ∧ 1 ≤ q ∧ q ≤ p
theorem wgood_t {q p : Int} (h : okv q p) : win_Good.f q p = some true := by
  obtain ⟨h1, h2⟩ := h
  unfold win_Good.f
  rw [if_pos (by omega), if_pos (by omega), if_pos (by omega), decide_eq_true h2.2]
theorem wgood_n {q p : Int} (h : ¬ okv q p) : win_Good.f q p = some false := by
  unfold okv at h
  unfold win_Good.f
  by_cases h1 : p ≥ 1
  · by_cases h2 : p ≤ 2147483648
    · by_cases h3 : q ≥ 1
      · rw [if_pos h1, if_pos h2, if_pos h3, decide_eq_false (by omega)]
      · rw [if_pos h1, if_pos h2, if_neg h3]
    · rw [if_pos h1, if_neg h2]
  · rw [if_neg h1]
/-- So many whole windows, and of the rest at most a budget. -/
def gv (q p r : Int) : Int := (r / p) * q + mn q (r - (r / p) * p)
def workv (q p n : Int) : Int := mn n (gv q p (n + p - q))
theorem mn_def (a b : Int) : mn a b = if b < a then b else a := rfl
theorem mn_le (a b : Int) : mn a b ≤ a ∧ mn a b ≤ b := by rw [mn_def]; split <;> omega
theorem mn_or (a b : Int) : mn a b = a ∨ mn a b = b := by rw [mn_def]; split <;> omega
theorem dv {w s p : Int} (h0 : 0 ≤ s) (h1 : s < p) : (w * p + s) / p = w := by
  rw [Int.add_comm, Int.add_mul_ediv_right _ _ (by omega), Int.ediv_eq_zero_of_lt h0 h1, Int.zero_add]
theorem gv_eq {q p w s : Int} (h0 : 0 ≤ s) (h1 : s < p) : gv q p (w * p + s) = w * q + mn q s := by
  unfold gv
  rw [dv h0 h1, show w * p + s - w * p = s by omega]
theorem split_r {r p : Int} (hp : 1 ≤ p) (hr : 0 ≤ r) : ∃ w s : Int, r = w * p + s ∧ 0 ≤ s ∧ s < p ∧ 0 ≤ w := by
  refine ⟨r / p, r % p, ?_, Int.emod_nonneg _ (by omega), Int.emod_lt_of_pos _ (by omega), Int.ediv_nonneg hr (by omega)⟩
  have h1 := Int.emod_add_mul_ediv r p
  have h2 : p * (r / p) = r / p * p := Int.mul_comm _ _
  omega
theorem gv_bd {q p r : Int} (hk : okv q p) (hr : 0 ≤ r) : 0 ≤ gv q p r ∧ gv q p r ≤ r := by
  obtain ⟨⟨h1, h2⟩, h3, h4⟩ := hk
  obtain ⟨w, s, rfl, s0, s1, w0⟩ := split_r h1 hr
  rw [gv_eq s0 s1]
  have a1 : 0 ≤ w * q := Int.mul_nonneg w0 (by omega)
  have a2 : w * q ≤ w * p := Int.mul_le_mul_of_nonneg_left h4 w0
  have a3 := mn_le q s
  have a4 := mn_or q s
  omega
theorem gv_next {q p r : Int} (hk : okv q p) (hr : 0 ≤ r) : gv q p r ≤ gv q p (r + 1) ∧ gv q p (r + 1) ≤ gv q p r + 1 := by
  obtain ⟨⟨h1, h2⟩, h3, h4⟩ := hk
  obtain ⟨w, s, rfl, s0, s1, w0⟩ := split_r h1 hr
  rw [gv_eq s0 s1]
  by_cases c : s + 1 < p
  · rw [show w * p + s + 1 = w * p + (s + 1) by omega, gv_eq (by omega) c]
    rw [mn_def, mn_def]
    split <;> split <;> omega
  · have e : w * p + s + 1 = (w + 1) * p + 0 := by rw [Int.add_mul]; omega
    rw [e, gv_eq (by omega) (by omega), Int.add_mul, mn_def, mn_def]
    split <;> split <;> omega
theorem gv_turn {q p r : Int} (hk : okv q p) (hr : 0 ≤ r) : gv q p (r + p) = gv q p r + q := by
  obtain ⟨⟨h1, h2⟩, h3, h4⟩ := hk
  obtain ⟨w, s, rfl, s0, s1, w0⟩ := split_r h1 hr
  have e : w * p + s + p = (w + 1) * p + s := by rw [Int.add_mul]; omega
  rw [gv_eq s0 s1, e, gv_eq s0 s1, Int.add_mul]
  omega
theorem work_t {q p n : Int} (hk : okv q p) (hn : 0 ≤ n ∧ n ≤ 2147483648) : win_Work.f q p n = some (workv q p n, true) := by
  unfold win_Work.f
  rw [wgood_t hk]; simp only [Option.bind_some, if_true]
  have hk' := hk
  obtain ⟨⟨h1, h2⟩, h3, h4⟩ := hk'
  rw [if_neg (by omega), if_neg (by omega), wrap_id (n := n + p) (by omega) (by omega), wrap_id (n := n + p - q) (by omega) (by omega), win_f, winv_t ⟨⟨by omega, by omega⟩, h1, h2⟩]
  simp only [Option.bind_some]
  obtain ⟨w, s, hr, s0, s1, w0⟩ := split_r (r := n + p - q) h1 (by omega)
  have e : (n + p - q) / p = w := by rw [hr]; exact dv s0 s1
  have a1 : 0 ≤ w * q := Int.mul_nonneg w0 (by omega)
  have a2 : w * q ≤ w * p := Int.mul_le_mul_of_nonneg_left h4 w0
  have a3 := mn_le q s
  have a4 := mn_or q s
  have es : n + p - q - w * p = s := by omega
  rw [e, wrap_id (n := w * q) (by omega) (by omega), wrap_id (n := w * p) (by omega) (by omega), es, wrap_id (n := s) (by omega) (by omega), wrap_id (n := w * q + mn q s) (by omega) (by omega)]
  unfold workv
  rw [hr, gv_eq s0 s1]
theorem work_n {q p n : Int} (h : ¬ (okv q p ∧ 0 ≤ n ∧ n ≤ 2147483648)) : win_Work.f q p n = some (0, false) := by
  unfold win_Work.f
  by_cases hk : okv q p
  · rw [wgood_t hk]; simp only [Option.bind_some, if_true]
    by_cases h1 : n < 0
    · rw [if_pos h1]
    · have : n > 2147483648 := by
        apply Classical.byContradiction
        intro hc
        exact h ⟨hk, by omega, by omega⟩
      rw [if_neg h1, if_pos this]
  · rw [wgood_n hk]; simp only [Option.bind_some, Bool.false_eq_true, if_false]
theorem work_bd {q p n : Int} (hk : okv q p) (hn : 0 ≤ n) : 0 ≤ workv q p n ∧ workv q p n ≤ n := by
  have hk' := hk
  obtain ⟨⟨h1, h2⟩, h3, h4⟩ := hk'
  have h := gv_bd hk (r := n + p - q) (by omega)
  unfold workv
  have a3 := mn_le n (gv q p (n + p - q))
  have a4 := mn_or n (gv q p (n + p - q))
  omega
theorem work_next {q p n : Int} (hk : okv q p) (hn : 0 ≤ n) : workv q p n ≤ workv q p (n + 1) ∧ workv q p (n + 1) ≤ workv q p n + 1 := by
  have hk' := hk
  obtain ⟨⟨h1, h2⟩, h3, h4⟩ := hk'
  have h := gv_next hk (r := n + p - q) (by omega)
  unfold workv
  rw [show n + 1 + p - q = n + p - q + 1 by omega, mn_def, mn_def]
  split <;> split <;> omega
theorem work_turn {q p n : Int} (hk : okv q p) (hn : 0 ≤ n) : workv q p (n + p) ≤ workv q p n + q + p ∧ (workv q p n = n ∨ workv q p (n + p) = workv q p n + q) := by
  have hk' := hk
  obtain ⟨⟨h1, h2⟩, h3, h4⟩ := hk'
  have h := gv_turn hk (r := n + p - q) (by omega)
  unfold workv
  rw [show n + p + p - q = n + p - q + p by omega, h, mn_def, mn_def]
  split <;> split <;> omega

theorem awake_f : beadlelaw13_awake.f 10 = some true := by decide +kernel
theorem awake_k {k : Nat} (h : 10 ≤ k) : beadlelaw13_awake.f k = some true := at_rounds (fun k => beadlelaw13_awake.mono k) h awake_f

theorem wrap_nat {j : Nat} (h : j ≤ 17592186044416) : wrap64 ((j : Int) + 1) = ((j + 1 : Nat) : Int) := by unfold wrap64; omega
/-- One more than a pair's window leaves. -/
def roomv (x : S35) : Int := x.f1 - x.f0 + 1
def takesv (x o : S35) : Int := mn (workv x.f0 x.f1 o.f1) (roomv o)
def Okl (l : List S35) : Prop := ∀ x ∈ l, okv x.f0 x.f1
theorem room_f {q p : Int} (h : okv q p) : win_room.f q p = some (p - q + 1) := by
  obtain ⟨⟨h1, h2⟩, h3, h4⟩ := h
  unfold win_room.f
  rw [wrap_id (n := p - q) (by omega) (by omega), wrap_id (n := p - q + 1) (by omega) (by omega)]
theorem takes_t {x o : S35} (hx : okv x.f0 x.f1) (ho : okv o.f0 o.f1) : win_Takes.f x.f0 x.f1 o.f0 o.f1 = some (takesv x o, true) := by
  unfold win_Takes.f
  have ho' := ho
  obtain ⟨⟨h1, h2⟩, h3, h4⟩ := ho'
  rw [wgood_t ho]; simp only [Option.bind_some, if_true]
  rw [work_t hx ⟨by omega, h2⟩]; simp only [Option.bind_some, if_true]
  rw [room_f ho]; rfl
theorem takes_bd {x o : S35} (hx : okv x.f0 x.f1) (ho : okv o.f0 o.f1) : 0 ≤ takesv x o ∧ takesv x o ≤ roomv o ∧ 1 ≤ roomv o ∧ roomv o ≤ 2147483648 := by
  obtain ⟨⟨h1, h2⟩, h3, h4⟩ := ho
  have hb := work_bd (n := o.f1) hx (by omega)
  unfold takesv roomv
  have a3 := mn_le (workv x.f0 x.f1 o.f1) (o.f1 - o.f0 + 1)
  have a4 := mn_or (workv x.f0 x.f1 o.f1) (o.f1 - o.f0 + 1)
  omega
/-- What all take of one's window, but who stands at place k. -/
def sumx (o : S35) (k : Nat) : List S35 → Nat → Int
  | [], _ => 0
  | x :: xs, i => (if i = k then 0 else takesv x o) + sumx o k xs (i + 1)
def total (o : S35) : List S35 → Int
  | [] => 0
  | x :: xs => takesv x o + total o xs
theorem sumx_far (o : S35) (k : Nat) : ∀ (l : List S35) (i : Nat), k < i → sumx o k l i = total o l := by
  intro l
  induction l with
  | nil => intro i _; rfl
  | cons x xs ih => intro i h; rw [sumx, total, if_neg (by omega), ih (i + 1) (by omega)]
theorem sumx_mid (o x : S35) (k : Nat) : ∀ (pre post : List S35) (i : Nat), i + pre.length = k → sumx o k (pre ++ x :: post) i = total o pre + total o post := by
  intro pre
  induction pre with
  | nil => intro post i h; rw [List.nil_append, sumx, if_pos (by simpa using h), sumx_far o k post (i + 1) (by simp at h; omega), total]
  | cons y ys ih =>
    intro post i h
    rw [List.cons_append, sumx, if_neg (by simp at h; omega), ih post (i + 1) (by simp at h; omega), total]
    omega
theorem total_app (o : S35) (a b : List S35) : total o (a ++ b) = total o a + total o b := by
  induction a with
  | nil => rw [List.nil_append, total]; omega
  | cons x xs ih => rw [List.cons_append, total, total, ih]; omega
theorem total_bd {o : S35} (ho : okv o.f0 o.f1) : ∀ l : List S35, Okl l → 0 ≤ total o l ∧ total o l ≤ l.length * roomv o := by
  intro l
  induction l with
  | nil => intro _; simp [total]
  | cons x xs ih =>
    intro h
    have h1 := ih (fun y hy => h y (List.mem_cons_of_mem _ hy))
    have h2 := takes_bd (h x List.mem_cons_self) ho
    rw [total, List.length_cons]
    have h3 : ((xs.length + 1 : Nat) : Int) * roomv o = xs.length * roomv o + roomv o := by rw [Int.natCast_add, Int.add_mul]; simp
    omega
theorem sumx_bd {o : S35} (ho : okv o.f0 o.f1) (k : Nat) : ∀ (l : List S35) (i : Nat), Okl l → 0 ≤ sumx o k l i ∧ sumx o k l i ≤ l.length * 2147483648 := by
  intro l
  induction l with
  | nil => intro i _; simp [sumx]
  | cons x xs ih =>
    intro i h
    have h1 := ih (i + 1) (fun y hy => h y (List.mem_cons_of_mem _ hy))
    have h2 := takes_bd (h x List.mem_cons_self) ho
    rw [sumx, List.length_cons]
    split <;> omega
theorem may_t {m : Int} {l : List S35} (hm : 1 ≤ m ∧ m ≤ 64) (hl : l.length ≤ 64) (h : Okl l) : win_may.f m l = some true := by
  unfold win_may.f
  have : l.all win_may.okp = true := List.all_eq_true.2 fun x hx => by
    have := h x hx
    obtain ⟨⟨h1, h2⟩, h3, h4⟩ := this
    unfold win_may.okp
    simp
    omega
  rw [this]
  simp [hm.1, hm.2, hl]
theorem one_l0 {m : Int} {l : List S35} {k : Nat} (hm : 1 ≤ m ∧ m ≤ 64) (hl : l.length ≤ 64) (h : Okl l) (hk : k < l.length) : ∀ (d i q : Nat) (s : Int), l.length - i = d → i ≤ l.length → 0 ≤ s → s ≤ i * 2147483648 →
    win_One.l0 (q + d + 1) m l (k : Int) s l (l.length : Int) (i : Int) = some (decide (s + sumx (l.getD k z35) k (l.drop i) i < m * roomv (l.getD k z35)), 0) := by
  have hok := h _ (List.mem_of_getElem? (Mine.getD_at z35 hk))
  have hro := takes_bd hok hok
  intro d
  induction d with
  | zero =>
    intro i q s hd hi s0 s1
    have he : i = l.length := by omega
    subst he
    rw [win_One.l0.eq_2, if_neg (by omega), if_pos (by omega), if_pos (by omega)]
    have hrd : rd_T35 l (k : Int) = l.getD k z35 := by simp [rd_T35]
    rw [hrd, room_f hok]; simp only [Option.bind_some]
    have hc := mul_cap (show 0 ≤ m by omega) (show 0 ≤ roomv (l.getD k z35) by omega) hm.2 hro.2.2.2
    rw [List.drop_length, sumx, Int.add_zero]
    have e : (l.getD k z35).f1 - (l.getD k z35).f0 + 1 = roomv (l.getD k z35) := rfl
    rw [e, wrap_id (n := m * roomv (l.getD k z35)) (by omega) (by omega)]
  | succ d ih =>
    intro i q s hd hi s0 s1
    have hlt : i < l.length := by omega
    have hx := Mine.getD_at z35 hlt
    have hxk := h _ (List.mem_of_getElem? hx)
    rw [show q + (d + 1) + 1 = (q + d + 1) + 1 by omega, win_One.l0.eq_2, if_pos (by omega), if_pos (by omega), if_pos (by omega), wrap_nat (by omega), Mine.drop_at hx, sumx]
    by_cases c : i = k
    · rw [if_pos (by omega), if_pos c, ih (i + 1) q s (by omega) (by omega) s0 (by omega), Int.zero_add]
    · have hrd : ∀ j : Nat, rd_T35 l (j : Int) = l.getD j z35 := fun j => by simp [rd_T35]
      have ht := takes_bd hxk hok
      rw [if_neg (by omega), if_pos (by omega), if_pos (by omega), hrd, hrd, takes_t hxk hok]; simp only [Option.bind_some]
      rw [if_neg c, wrap_id (n := s + takesv (l.getD i z35) (l.getD k z35)) (by omega) (by omega), ih (i + 1) q (s + takesv (l.getD i z35) (l.getD k z35)) (by omega) (by omega) (by omega) (by omega), Int.add_assoc]
/-- Has the pair at place k its due? -/
def onev (m : Int) (l : List S35) (k : Nat) : Bool := decide (sumx (l.getD k z35) k l 0 < m * roomv (l.getD k z35))
theorem one_f {m : Int} {l : List S35} {k n : Nat} (hm : 1 ≤ m ∧ m ≤ 64) (hl : l.length ≤ 64) (h : Okl l) (hk : k < l.length) (hn : 70 ≤ n) : win_One.f n m l (k : Int) = some (onev m l k, 0) := by
  refine at_rounds (fun n => win_One.mono m l (k : Int) n) (show (l.length + 1) + 1 ≤ n by omega) ?_
  unfold win_One.f
  rw [may_t hm hl h]; simp only [Option.bind_some, if_true]
  rw [if_neg (by omega), decide_eq_false (by omega), win_One.j0.eq_2, if_neg (by decide)]
  have := one_l0 hm hl h hk l.length 0 0 0 (by omega) (by omega) (by omega) (by omega)
  simp only [Int.zero_add, List.drop_zero, Nat.zero_add] at this
  exact this
/-- Has each pair from place i on its due? -/
def allv (m : Int) (l : List S35) : Nat → Nat → Bool
  | 0, _ => true
  | d + 1, i => onev m l i && allv m l d (i + 1)
theorem all_l0 {m : Int} {l : List S35} (hm : 1 ≤ m ∧ m ≤ 64) (hl : l.length ≤ 64) (h : Okl l) : ∀ (d i q : Nat), 70 ≤ q → l.length - i = d → i ≤ l.length → win_All.l0 (q + d + 1) m l (l.length : Int) (i : Int) = some (allv m l d i, 0) := by
  intro d
  induction d with
  | zero =>
    intro i q hq hd hi
    rw [win_All.l0.eq_2, if_neg (by omega)]; rfl
  | succ d ih =>
    intro i q hq hd hi
    rw [show q + (d + 1) + 1 = (q + d + 1) + 1 by omega, win_All.l0.eq_2, if_pos (by omega), one_f hm hl h (by omega) (by omega)]; simp only [Option.bind_some]
    rw [allv]
    cases hb : onev m l i with
    | true => rw [if_pos rfl, wrap_nat (by omega), ih (i + 1) q hq (by omega) (by omega)]; rfl
    | false => rw [if_neg (by decide)]; rfl
def fits (m : Int) (l : List S35) : Bool := allv m l l.length 0
theorem all_f {m : Int} {l : List S35} {n : Nat} (hm : 1 ≤ m ∧ m ≤ 64) (hl : l.length ≤ 64) (h : Okl l) (hn : 140 ≤ n) : win_All.f n m l = some (fits m l, 0) := by
  refine at_rounds (fun n => win_All.mono m l n) (show 70 + l.length + 1 ≤ n by omega) ?_
  unfold win_All.f
  rw [may_t hm hl h]; simp only [Option.bind_some, if_true]
  exact all_l0 hm hl h l.length 0 70 (by omega) (by omega) (by omega)
theorem allv_iff (m : Int) (l : List S35) : ∀ (d i : Nat), allv m l d i = true ↔ ∀ k, i ≤ k → k < i + d → onev m l k = true := by
  intro d
  induction d with
  | zero => intro i; simp [allv]; intro k h1 h2; omega
  | succ d ih =>
    intro i
    rw [allv, Bool.and_eq_true, ih (i + 1)]
    constructor
    · rintro ⟨h1, h2⟩ k hk1 hk2
      by_cases e : k = i
      · subst e; exact h1
      · exact h2 k (by omega) (by omega)
    · intro h3
      exact ⟨h3 i (by omega) (by omega), fun k hk1 hk2 => h3 k (by omega) (by omega)⟩
theorem fits_iff (m : Int) (l : List S35) : fits m l = true ↔ ∀ (pre post : List S35) (x : S35), l = pre ++ x :: post → total x pre + total x post < m * roomv x := by
  unfold fits
  rw [allv_iff]
  constructor
  · rintro h pre post x rfl
    have := h pre.length (by omega) (by simp)
    unfold onev at this
    have hx : (pre ++ x :: post).getD pre.length z35 = x := by simp
    rw [hx, sumx_mid x x pre.length pre post 0 (by omega)] at this
    exact of_decide_eq_true this
  · intro h k _ hk
    have hk' : k < l.length := by omega
    have hsp : l = l.take k ++ l.getD k z35 :: l.drop (k + 1) := by rw [← Mine.drop_at (Mine.getD_at z35 hk'), List.take_append_drop]
    have := h _ _ _ hsp
    unfold onev
    have hs : ∀ pre post x, l = pre ++ x :: post → pre.length = k → sumx x k l 0 = total x pre + total x post := by
      rintro pre post x rfl hp
      exact sumx_mid x x k pre post 0 (by omega)
    rw [hs _ _ _ hsp (by rw [List.length_take]; omega)]
    exact decide_eq_true this

/-! Numbers of any length: 32 bits a place, the lowest first. -/
def val : List Int → Int
  | [] => 0
  | x :: xs => x + 4294967296 * val xs
def Dig (l : List Int) : Prop := ∀ x ∈ l, 0 ≤ x ∧ x < 4294967296
theorem u64_id {n : Int} (h0 : 0 ≤ n) (h1 : n < 18446744073709551616) : IntKind.u64.wrap n = n := by
  simp [IntKind.wrap, IntKind.bits, IntKind.signed]
  omega
theorem dig_getD {l : List Int} (h : Dig l) (j : Nat) : 0 ≤ l.getD j 0 ∧ l.getD j 0 < 4294967296 := by
  by_cases c : j < l.length
  · rw [List.getD_eq_getElem?_getD, List.getElem?_eq_getElem c]
    exact h _ (List.getElem_mem c)
  · rw [List.getD_eq_getElem?_getD, List.getElem?_eq_none (by omega)]
    show (0 : Int) ≤ 0 ∧ (0 : Int) < 4294967296
    omega
theorem val_drop {l : List Int} {j : Nat} : val (l.drop j) = l.getD j 0 + 4294967296 * val (l.drop (j + 1)) := by
  by_cases c : j < l.length
  · rw [Mine.drop_at (Mine.getD_at (0 : Int) c), val]
  · rw [List.drop_eq_nil_of_le (by omega), List.drop_eq_nil_of_le (by omega), List.getD_eq_getElem?_getD, List.getElem?_eq_none (by omega)]
    rfl
theorem rd_at (l : List Int) (j : Nat) : rd l (j : Int) = l.getD j 0 := by simp [rd]
theorem getD_over {l : List Int} {j : Nat} (h : l.length ≤ j) : l.getD j 0 = 0 := by rw [List.getD_eq_getElem?_getD, List.getElem?_eq_none h]; rfl
/-- One place's product and what is carried: within 64 bits. -/
theorem prod_bd {x n : Int} (h0 : 0 ≤ x) (h1 : x < 4294967296) (n0 : 0 ≤ n) (n1 : n ≤ 2147483648) : 0 ≤ x * n ∧ x * n ≤ 4294967295 * 2147483648 := mul_cap h0 n0 (by omega) n1
theorem step_times (k : Nat) (a : List Int) (n : Int) (b out : List Int) (c : Int) (i : Nat) (ha : Dig a) (hb : Dig b) (n0 : 0 ≤ n) (n1 : n ≤ 2147483648) (c0 : 0 ≤ c) (c1 : c < 4294967296) (ho : out.length ≤ 1000000) (hi : i ≤ 1000000) :
    win_long_times.j1 (k + 1) a n b out c (i : Int) true = win_long_times.l0 k a n b (out ++ [(c + a.getD i 0 * n + b.getD i 0) % 4294967296]) ((c + a.getD i 0 * n + b.getD i 0) / 4294967296) ((i + 1 : Nat) : Int) := by
  have ga := dig_getD ha i
  have gb := dig_getD hb i
  have hp := prod_bd ga.1 ga.2 n0 n1
  have hw : wrap64 ((i : Int) + 1) = ((i + 1 : Nat) : Int) := by unfold wrap64; omega
  rw [win_long_times.j1.eq_2, if_pos rfl, hw, rd_at, rd_at]
  by_cases h1 : i < a.length
  · rw [if_pos (by omega), if_pos (by omega)]
    by_cases h2 : i < b.length
    · rw [if_pos (by omega), if_pos (by omega)]
      generalize a.getD i 0 = x at *
      generalize b.getD i 0 = y at *
      rw [u64_id (n := x) (by omega) (by omega), u64_id (n := n) (by omega) (by omega), u64_id (n := y) (by omega) (by omega), u64_id (n := x * n) (by omega) (by omega), u64_id (n := c + x * n) (by omega) (by omega), u64_id (n := c + x * n + y) (by omega) (by omega)]
    · have e := getD_over (l := b) (j := i) (by omega)
      rw [if_neg (by omega), if_pos (by omega), e]
      generalize a.getD i 0 = x at *
      rw [u64_id (n := x) (by omega) (by omega), u64_id (n := n) (by omega) (by omega), u64_id (n := x * n) (by omega) (by omega), u64_id (n := c + x * n) (by omega) (by omega), Int.add_zero]
  · have e := getD_over (l := a) (j := i) (by omega)
    rw [if_neg (by omega), e, Int.zero_mul, Int.add_zero]
    by_cases h2 : i < b.length
    · rw [if_pos (by omega), if_pos (by omega), if_pos (by omega)]
      generalize b.getD i 0 = y at *
      rw [u64_id (n := y) (by omega) (by omega), u64_id (n := c + y) (by omega) (by omega)]
    · have e2 := getD_over (l := b) (j := i) (by omega)
      rw [if_neg (by omega), if_pos (by omega), e2, Int.add_zero]
theorem times_l (a : List Int) (n : Int) (b : List Int) (ha : Dig a) (hb : Dig b) (n0 : 0 ≤ n) (n1 : n ≤ 2147483648) (m : Nat) (hm1 : a.length ≤ m) (hm2 : b.length ≤ m) (hm3 : a.length = m ∨ b.length = m) (hm : m ≤ 100000) : ∀ (d i : Nat) (out : List Int) (c : Int), m - i = d → i ≤ m → out.length = i → 0 ≤ c → c < 4294967296 →
    ∃ r, win_long_times.l0 (2 * d + 5) a n b out c (i : Int) = some (out ++ r) ∧ Dig r ∧ val r = n * val (a.drop i) + val (b.drop i) + c ∧ r.length ≤ d + 1 := by
  have hmx : mx (a.length : Int) (b.length : Int) = (m : Int) := by
    show (if (a.length : Int) < (b.length : Int) then (b.length : Int) else (a.length : Int)) = (m : Int)
    split <;> omega
  intro d
  induction d with
  | zero =>
    intro i out c hd hi ho c0 c1
    have he : i = m := by omega
    subst he
    rw [List.drop_eq_nil_of_le (show a.length ≤ i by omega), List.drop_eq_nil_of_le (show b.length ≤ i by omega)]
    rw [win_long_times.l0.eq_2, hmx, if_neg (by omega)]
    by_cases hc : c > 0
    · rw [decide_eq_true hc, step_times 3 a n b out c i ha hb n0 n1 c0 c1 (by omega) (by omega), getD_over hm1, getD_over hm2, Int.zero_mul, Int.add_zero, Int.add_zero]
      have e1 : c / 4294967296 = 0 := by omega
      have e2 : c % 4294967296 = c := by omega
      rw [e1, e2, win_long_times.l0.eq_2, hmx, if_neg (by omega), decide_eq_false (by omega), win_long_times.j1.eq_2, if_neg (by decide)]
      refine ⟨[c], rfl, ?_, ?_, by simp⟩
      · intro x hx
        simp at hx
        omega
      · simp [val]
    · rw [decide_eq_false hc, win_long_times.j1.eq_2, if_neg (by decide)]
      refine ⟨[], by simp, fun x hx => by simp at hx, ?_, by simp⟩
      simp [val]
      omega
  | succ d ih =>
    intro i out c hd hi ho c0 c1
    have ga := dig_getD ha i
    have gb := dig_getD hb i
    have hp := prod_bd ga.1 ga.2 n0 n1
    have va := val_drop (l := a) (j := i)
    have vb := val_drop (l := b) (j := i)
    rw [show 2 * (d + 1) + 5 = (2 * d + 5) + 1 + 1 by omega, win_long_times.l0.eq_2, hmx, if_pos (by omega), step_times _ a n b out c i ha hb n0 n1 c0 c1 (by omega) (by omega)]
    obtain ⟨r, h1, h2, h3, h4⟩ := ih (i + 1) (out ++ [(c + a.getD i 0 * n + b.getD i 0) % 4294967296]) ((c + a.getD i 0 * n + b.getD i 0) / 4294967296) (by omega) (by omega) (by simp; omega) (by omega) (by omega)
    refine ⟨(c + a.getD i 0 * n + b.getD i 0) % 4294967296 :: r, by rw [h1]; simp, ?_, ?_, by simp; omega⟩
    · intro x hx
      rcases List.mem_cons.1 hx with rfl | hx
      · omega
      · exact h2 x hx
    · rw [val, h3, va, vb]
      generalize val (a.drop (i + 1)) = u
      generalize val (b.drop (i + 1)) = v
      generalize a.getD i 0 = x at *
      generalize b.getD i 0 = y at *
      have e : n * (x + 4294967296 * u) = x * n + 4294967296 * (n * u) := by
        rw [Int.mul_add, Int.mul_comm n x]
        congr 1
        rw [← Int.mul_assoc, Int.mul_comm n 4294967296, Int.mul_assoc]
      rw [e]
      generalize x * n = z at *
      generalize n * u = q
      omega
theorem times_f (a : List Int) (n : Int) (b : List Int) (k : Nat) (ha : Dig a) (hb : Dig b) (n0 : 0 ≤ n) (n1 : n ≤ 2147483648) (la : a.length ≤ 80) (lb : b.length ≤ 80) (hk : 200 ≤ k) :
    ∃ r, win_long_times.f k a n b = some r ∧ Dig r ∧ val r = n * val a + val b ∧ r.length ≤ a.length + b.length + 1 ∧ (∀ m, a.length ≤ m → b.length ≤ m → r.length ≤ m + 1) := by
  obtain ⟨m, h1, h2, h3⟩ : ∃ m, a.length ≤ m ∧ b.length ≤ m ∧ (a.length = m ∨ b.length = m) := by
    by_cases c : a.length ≤ b.length
    · exact ⟨b.length, c, Nat.le_refl _, Or.inr rfl⟩
    · exact ⟨a.length, Nat.le_refl _, by omega, Or.inl rfl⟩
  obtain ⟨r, e1, e2, e3, e4⟩ := times_l a n b ha hb n0 n1 m h1 h2 h3 (by omega) m 0 [] 0 (by omega) (by omega) rfl (by omega) (by omega)
  refine ⟨r, ?_, e2, ?_, by omega, fun m' g1 g2 => by omega⟩
  · refine at_rounds (fun k => (win_long_times.mono_l k).1 a n b [] 0 0) (show 2 * m + 5 ≤ k by omega) ?_
    simpa using e1
  · simpa using e3
/-! What is compared. -/
def pw : Nat → Int
  | 0 => 1
  | n + 1 => 4294967296 * pw n
theorem pw_pos : ∀ n, 1 ≤ pw n
  | 0 => by simp [pw]
  | n + 1 => by have := pw_pos n; rw [pw]; omega
theorem val_bd : ∀ l : List Int, Dig l → 0 ≤ val l ∧ val l < pw l.length
  | [], _ => by simp [val, pw]
  | x :: xs, h => by
    have h1 := val_bd xs (fun y hy => h y (List.mem_cons_of_mem _ hy))
    have h2 := h x List.mem_cons_self
    rw [val, List.length_cons, pw]
    omega
theorem val_snoc : ∀ (l : List Int) (x : Int), val (l ++ [x]) = val l + pw l.length * x
  | [], x => by simp [val, pw]
  | y :: l, x => by
    rw [List.cons_append, val, val_snoc l x, val, List.length_cons, pw, Int.mul_add, Int.mul_assoc]
    omega
/-- No nought at the top. -/
def Top (l : List Int) : Prop := l = [] ∨ l.getD (l.length - 1) 0 ≠ 0
theorem val_top {l : List Int} (h : Dig l) (ht : Top l) (hn : l ≠ []) : pw (l.length - 1) ≤ val l := by
  obtain ⟨m, x, rfl⟩ : ∃ m x, l = m ++ [x] := ⟨l.dropLast, l.getLast hn, (List.dropLast_concat_getLast hn).symm⟩
  rw [val_snoc]
  have hx : x ≠ 0 := by
    rcases ht with e | e
    · simp at e
    · simpa using e
  have hd := h x (by simp)
  have hm := val_bd m (fun y hy => h y (List.mem_append_left _ hy))
  have hp := pw_pos m.length
  have e : (m ++ [x]).length - 1 = m.length := by simp
  rw [e]
  have : pw m.length * 1 ≤ pw m.length * x := Int.mul_le_mul_of_nonneg_left (by omega) (by omega)
  omega
theorem ne_of_len {l : List Int} (h : 0 < l.length) : l ≠ [] := by
  intro e
  rw [e] at h
  simp at h
theorem pw_mono {a b : Nat} (h : a ≤ b) : pw a ≤ pw b := by
  induction h with
  | refl => exact Int.le_refl _
  | step _ ih => rw [pw]; have := pw_pos a; omega
theorem trim_f : ∀ (n : Nat) (l : List Int), l.length = n → Dig l → n ≤ 100000 → ∃ t, win_long_trim.l0 (n + 1) l = some t ∧ Dig t ∧ val t = val l ∧ Top t ∧ t.length ≤ n := by
  intro n
  induction n with
  | zero =>
    intro l hl hd _
    rw [win_long_trim.l0.eq_2, if_neg (by omega)]
    exact ⟨l, rfl, hd, rfl, Or.inl (List.length_eq_zero_iff.1 hl), by omega⟩
  | succ n ih =>
    intro l hl hd hn
    have hw : wrap64 ((l.length : Int) - 1) = (n : Int) := by unfold wrap64; omega
    rw [win_long_trim.l0.eq_2, if_pos (by omega), hw, if_pos (by omega), if_pos (by omega), rd_at]
    by_cases c : l.getD n 0 = 0
    · rw [if_pos c, if_pos (by omega), Int.toNat_natCast]
      have hs : l = l.take n ++ [0] := by
        have := Mine.take_at (Mine.getD_at (0 : Int) (show n < l.length by omega))
        rw [c] at this
        rw [← this, ← hl, List.take_length]
      have ht : (l.take n).length = n := by rw [List.length_take]; omega
      obtain ⟨t, h1, h2, h3, h4, h5⟩ := ih (l.take n) ht (fun y hy => hd y (List.mem_of_mem_take hy)) (by omega)
      refine ⟨t, h1, h2, ?_, h4, by omega⟩
      rw [h3]
      conv => rhs; rw [hs]
      rw [val_snoc]
      omega
    · rw [if_neg c]
      exact ⟨l, rfl, hd, rfl, Or.inr (by rw [hl]; exact c), by omega⟩
theorem rev_l (o : List Int) (n : Nat) (hn : o.length = n) (hb : n ≤ 100000) : ∀ (d i : Nat) (x : List Int), n ≤ 2 * (i + d) → 2 * i ≤ n → x.length = n → (∀ t, t < n → x.getD t 0 = if t < i ∨ n ≤ t + i then o.getD (n - 1 - t) 0 else o.getD t 0) →
    win_long_uint32_36.l0 (d + 1) x (i : Int) ((n : Int) - 1 - (i : Int)) = some o.reverse := by
  intro d
  induction d with
  | zero =>
    intro i x h1 h2 hx hg
    rw [win_long_uint32_36.l0.eq_2, if_neg (by omega)]
    congr 1
    apply List.ext_getElem (by simp; omega)
    intro t g1 g2
    have h3 := hg t (by omega)
    rw [List.getElem_reverse]
    rw [List.getD_eq_getElem?_getD, List.getElem?_eq_getElem g1] at h3
    rw [if_pos (by omega), List.getD_eq_getElem?_getD, List.getElem?_eq_getElem (by omega)] at h3
    have e : o.length - 1 - t = n - 1 - t := by omega
    simpa [e] using h3
  | succ d ih =>
    intro i x h1 h2 hx hg
    rw [win_long_uint32_36.l0.eq_2]
    by_cases c : (i : Int) < (n : Int) - 1 - (i : Int)
    · obtain ⟨j, hj⟩ : ∃ j : Nat, (n : Int) - 1 - (i : Int) = (j : Int) := ⟨n - 1 - i, by omega⟩
      rw [if_pos c, hj, if_pos (by omega), if_pos (by omega), if_pos (by omega), if_pos (by omega), rd_at, rd_at, Int.toNat_natCast, Int.toNat_natCast]
      have w1 : wrap64 ((i : Int) + 1) = ((i + 1 : Nat) : Int) := by unfold wrap64; omega
      have w2 : wrap64 ((j : Int) - 1) = (n : Int) - 1 - ((i + 1 : Nat) : Int) := by unfold wrap64; omega
      rw [w1, w2]
      refine ih (i + 1) _ (by omega) (by omega) (by simp; omega) (fun t ht => ?_)
      have gi := hg i (by omega)
      have gj := hg j (by omega)
      rw [if_neg (by omega)] at gi
      rw [if_neg (by omega)] at gj
      have gt := hg t ht
      rw [List.getD_eq_getElem?_getD, List.getElem?_set]
      by_cases e1 : j = t
      · subst e1
        rw [if_pos rfl, if_pos (by simp; omega), if_pos (by omega)]
        show x.getD i 0 = _
        rw [gi, show n - 1 - j = i by omega]
      · rw [if_neg e1, List.getElem?_set]
        by_cases e2 : i = t
        · subst e2
          rw [if_pos rfl, if_pos (by omega), if_pos (by omega)]
          show x.getD j 0 = _
          rw [gj, show n - 1 - i = j by omega]
        · rw [if_neg e2, ← List.getD_eq_getElem?_getD, gt]
          by_cases e3 : t < i ∨ n ≤ t + i
          · rw [if_pos e3, if_pos (by omega)]
          · rw [if_neg e3, if_neg (by omega)]
    · rw [if_neg c]
      congr 1
      apply List.ext_getElem (by simp; omega)
      intro t g1 g2
      have h3 := hg t (by omega)
      rw [List.getElem_reverse]
      rw [List.getD_eq_getElem?_getD, List.getElem?_eq_getElem g1] at h3
      have e : o.length - 1 - t = n - 1 - t := by omega
      by_cases e3 : t < i ∨ n ≤ t + i
      · rw [if_pos e3, List.getD_eq_getElem?_getD, List.getElem?_eq_getElem (by omega)] at h3
        simpa [e] using h3
      · rw [if_neg e3, List.getD_eq_getElem?_getD, List.getElem?_eq_getElem (by omega)] at h3
        have e4 : n - 1 - t = t := by omega
        simpa [e, e4] using h3
theorem rev_f (o : List Int) (k : Nat) (hb : o.length ≤ 100) (hk : 120 ≤ k) : win_long_uint32_36.f k o = some o.reverse := by
  unfold win_long_uint32_36.f
  have hw : wrap64 ((o.length : Int) - 1) = (o.length : Int) - 1 - ((0 : Nat) : Int) := by unfold wrap64; omega
  rw [hw]
  refine at_rounds (fun k => win_long_uint32_36.mono_l k o 0 _) (show o.length + 1 ≤ k by omega) ?_
  exact rev_l o o.length rfl (by omega) o.length 0 o (by omega) (by omega) rfl (fun t ht => by rw [if_neg (by omega)])
theorem cmp_f (a b : Int) : cmp_Compare_uint32.f a b = some (if a < b then -1 else if a > b then 1 else 0) := by
  unfold cmp_Compare_uint32.f cmp_isNaN_uint32.f
  simp
  split <;> try rfl
  split <;> rfl
/-- The greater places first. -/
def bval : List Int → Int
  | [] => 0
  | x :: xs => x * pw xs.length + bval xs
theorem bval_snoc : ∀ (l : List Int) (x : Int), bval (l ++ [x]) = 4294967296 * bval l + x
  | [], x => by simp [bval, pw]
  | y :: l, x => by
    rw [List.cons_append, bval, bval_snoc l x, bval, List.length_append, show l.length + [x].length = l.length + 1 from rfl, pw, Int.mul_add]
    have : y * (4294967296 * pw l.length) = 4294967296 * (y * pw l.length) := by rw [← Int.mul_assoc, Int.mul_comm y 4294967296, Int.mul_assoc]
    omega
theorem val_rev : ∀ l : List Int, bval l.reverse = val l
  | [] => rfl
  | x :: xs => by rw [List.reverse_cons, bval_snoc, val_rev xs, val]; omega
theorem bval_bd : ∀ l : List Int, Dig l → 0 ≤ bval l ∧ bval l < pw l.length
  | [], _ => by simp [bval, pw]
  | x :: xs, h => by
    have h1 := bval_bd xs (fun y hy => h y (List.mem_cons_of_mem _ hy))
    have h2 := h x List.mem_cons_self
    have hp := pw_pos xs.length
    rw [bval, List.length_cons, pw]
    have e1 : 0 ≤ x * pw xs.length := Int.mul_nonneg h2.1 (by omega)
    have e2 : x * pw xs.length ≤ 4294967295 * pw xs.length := Int.mul_le_mul_of_nonneg_right (by omega) (by omega)
    omega
/-- Two of one length, place by place from the greatest. -/
theorem cmp_l (x y : List Int) (hx : Dig x) (hy : Dig y) (hl : x.length = y.length) (hb : x.length ≤ 100000) : ∀ (d i : Nat), x.length - i = d → i ≤ x.length →
    ∃ c, win_long_uint32_37.l0 (d + 1) x y x (x.length : Int) (i : Int) = some c ∧ (c < 0 ↔ bval (x.drop i) < bval (y.drop i)) ∧ (c = 0 ↔ bval (x.drop i) = bval (y.drop i)) := by
  intro d
  induction d with
  | zero =>
    intro i hd hi
    rw [win_long_uint32_37.l0.eq_2, if_neg (by omega), if_neg (by omega), List.drop_eq_nil_of_le (show x.length ≤ i by omega), List.drop_eq_nil_of_le (show y.length ≤ i by omega)]
    exact ⟨0, rfl, by simp, by simp⟩
  | succ d ih =>
    intro i hd hi
    have hlt : i < x.length := by omega
    have hlt2 : i < y.length := by omega
    rw [win_long_uint32_37.l0.eq_2, if_pos (by omega), if_pos (by omega), if_pos (by omega), if_neg (by omega), if_pos (by omega), rd_at, rd_at, cmp_f, Option.bind_some]
    rw [Mine.drop_at (Mine.getD_at (0 : Int) hlt), Mine.drop_at (Mine.getD_at (0 : Int) hlt2), bval, bval]
    have hw : wrap64 ((i : Int) + 1) = ((i + 1 : Nat) : Int) := by unfold wrap64; omega
    have gx := dig_getD hx i
    have gy := dig_getD hy i
    have bx := bval_bd (x.drop (i + 1)) (fun z hz => hx z (List.mem_of_mem_drop hz))
    have by_ := bval_bd (y.drop (i + 1)) (fun z hz => hy z (List.mem_of_mem_drop hz))
    have hlen : (x.drop (i + 1)).length = (y.drop (i + 1)).length := by rw [List.length_drop, List.length_drop, hl]
    rw [hlen] at bx ⊢
    have hp := pw_pos (y.drop (i + 1)).length
    obtain ⟨c, h1, h2, h3⟩ := ih (i + 1) (by omega) (by omega)
    generalize x.getD i 0 = u at *
    generalize y.getD i 0 = v at *
    generalize bval (x.drop (i + 1)) = p at *
    generalize bval (y.drop (i + 1)) = q at *
    generalize pw (y.drop (i + 1)).length = w at *
    by_cases c1 : u < v
    · rw [if_pos c1, if_neg (by decide)]
      have : (u + 1) * w ≤ v * w := Int.mul_le_mul_of_nonneg_right (by omega) (by omega)
      rw [Int.add_mul, Int.one_mul] at this
      exact ⟨-1, rfl, ⟨fun _ => by omega, fun _ => by decide⟩, ⟨fun h => by simp at h, fun h => by omega⟩⟩
    · rw [if_neg c1]
      by_cases c2 : u > v
      · rw [if_pos c2, if_neg (by decide)]
        have : (v + 1) * w ≤ u * w := Int.mul_le_mul_of_nonneg_right (by omega) (by omega)
        rw [Int.add_mul, Int.one_mul] at this
        exact ⟨1, rfl, ⟨fun h => by simp at h, fun h => by omega⟩, ⟨fun h => by simp at h, fun h => by omega⟩⟩
      · have e : u = v := by omega
        subst e
        rw [if_neg c2, if_pos rfl, hw, h1]
        exact ⟨c, rfl, by rw [h2]; omega, by rw [h3]; omega⟩
theorem compare_f (a b : List Int) (k : Nat) (ha : Dig a) (hb : Dig b) (la : a.length ≤ 90) (lb : b.length ≤ 90) (hk : 150 ≤ k) : ∃ c, win_long_compare.f k a b = some c ∧ (c < 0 ↔ val a < val b) ∧ (c = 0 ↔ val a = val b) := by
  obtain ⟨x, x1, x2, x3, x4, x5⟩ := trim_f a.length a rfl ha (by omega)
  obtain ⟨y, y1, y2, y3, y4, y5⟩ := trim_f b.length b rfl hb (by omega)
  have tx : win_long_trim.f k a = some x := at_rounds (fun k => win_long_trim.mono_l k a) (show a.length + 1 ≤ k by omega) x1
  have ty : win_long_trim.f k b = some y := at_rounds (fun k => win_long_trim.mono_l k b) (show b.length + 1 ≤ k by omega) y1
  unfold win_long_compare.f
  rw [tx, Option.bind_some, ty, Option.bind_some]
  rw [← x3, ← y3]
  by_cases hl : x.length = y.length
  · rw [if_pos (by omega)]
    have cx : win_long_uint32_35.f x = some x := by unfold win_long_uint32_35.f; rw [if_pos (by omega)]
    have cy : win_long_uint32_35.f y = some y := by unfold win_long_uint32_35.f; rw [if_pos (by omega)]
    rw [cx, Option.bind_some, cy, Option.bind_some, rev_f x k (by omega) (by omega), Option.bind_some, rev_f y k (by omega) (by omega), Option.bind_some]
    have dx : Dig x.reverse := fun z hz => x2 z (List.mem_reverse.1 hz)
    have dy : Dig y.reverse := fun z hz => y2 z (List.mem_reverse.1 hz)
    obtain ⟨c, h1, h2, h3⟩ := cmp_l x.reverse y.reverse dx dy (by simp; exact hl) (by simp; omega) x.reverse.length 0 (by omega) (by omega)
    rw [List.drop_zero, List.drop_zero, val_rev, val_rev] at h2 h3
    have hf : win_long_uint32_37.f k x.reverse y.reverse = some c := by
      unfold win_long_uint32_37.f
      exact at_rounds (fun k => win_long_uint32_37.mono_l k x.reverse y.reverse x.reverse _ 0) (show x.reverse.length + 1 ≤ k by simp; omega) h1
    rw [hf, Option.bind_some]
    exact ⟨c, rfl, h2, h3⟩
  · rw [if_neg (by omega), wrap_id (n := (x.length : Int) - (y.length : Int)) (by omega) (by omega)]
    have bx := val_bd x x2
    have by_ := val_bd y y2
    refine ⟨_, rfl, ?_, ?_⟩
    · constructor
      · intro h
        have hy : y ≠ [] := ne_of_len (by omega)
        have h1 := val_top y2 y4 hy
        have h2 := pw_mono (show x.length ≤ y.length - 1 by omega)
        omega
      · intro h
        apply Classical.byContradiction
        intro hn
        have hx : x ≠ [] := ne_of_len (by omega)
        have h1 := val_top x2 x4 hx
        have h2 := pw_mono (show y.length ≤ x.length - 1 by omega)
        omega
    · constructor
      · intro h
        omega
      · intro h
        exfalso
        rcases Nat.lt_or_ge x.length y.length with g | g
        · have hy : y ≠ [] := ne_of_len (by omega)
          have h1 := val_top y2 y4 hy
          have h2 := pw_mono (show x.length ≤ y.length - 1 by omega)
          omega
        · have hx : x ≠ [] := ne_of_len (by omega)
          have h1 := val_top x2 x4 hx
          have h2 := pw_mono (show y.length ≤ x.length - 1 by omega)
          omega

/-- All together as one fraction: above, below. -/
def upd (x : S35) (s : Int × Int) : Int × Int := (x.f1 * s.1 + x.f0 * s.2, x.f1 * s.2)
def ub : List S35 → Int × Int → Int × Int
  | [], s => s
  | x :: xs, s => ub xs (upd x s)
theorem use_l0 {l : List S35} (h : Okl l) (hl : l.length ≤ 64) : ∀ (d i q : Nat) (up below : List Int), 300 ≤ q → l.length - i = d → i ≤ l.length → Dig up → Dig below → up.length ≤ i + 2 → below.length ≤ i + 1 →
    ∃ up' below', win_Use.l0 (q + d + 1) up below l (l.length : Int) (i : Int) = win_Use.l1 q up' below' 0 ∧ Dig up' ∧ Dig below' ∧ (val up', val below') = ub (l.drop i) (val up, val below) ∧ up'.length ≤ 70 ∧ below'.length ≤ 70 := by
  intro d
  induction d with
  | zero =>
    intro i q up below hq hd hi h1 h2 h3 h4
    rw [win_Use.l0.eq_2, if_neg (by omega), List.drop_eq_nil_of_le (by omega)]
    exact ⟨up, below, rfl, h1, h2, rfl, by omega, by omega⟩
  | succ d ih =>
    intro i q up below hq hd hi h1 h2 h3 h4
    have hlt : i < l.length := by omega
    have hx := Mine.getD_at z35 hlt
    have hk := h _ (List.mem_of_getElem? hx)
    obtain ⟨⟨g1, g2⟩, g3, g4⟩ := hk
    have hrd : rd_T35 l (i : Int) = l.getD i z35 := by simp [rd_T35]
    rw [show q + (d + 1) + 1 = (q + d + 1) + 1 by omega, win_Use.l0.eq_2, if_pos (by omega), if_pos (by omega), if_pos (by omega), hrd, wrap_nat (by omega)]
    obtain ⟨t, t1, t2, t3, _, t5⟩ := times_f below (l.getD i z35).f0 [] (q + d + 1) h2 (fun x hx => by simp at hx) (by omega) (by omega) (by omega) (by simp) (by omega)
    have t6 := t5 (i + 1) h4 (by simp)
    obtain ⟨u, u1, u2, u3, _, u5⟩ := times_f up (l.getD i z35).f1 t (q + d + 1) h1 t2 (by omega) (by omega) (by omega) (by omega) (by omega)
    have u6 := u5 (i + 2) h3 (by omega)
    obtain ⟨v, v1, v2, v3, _, v5⟩ := times_f below (l.getD i z35).f1 [] (q + d + 1) h2 (fun x hx => by simp at hx) (by omega) (by omega) (by omega) (by simp) (by omega)
    have v6 := v5 (i + 1) h4 (by simp)
    rw [t1, Option.bind_some, u1, Option.bind_some, v1, Option.bind_some]
    obtain ⟨up', below', e1, e2, e3, e4, e5, e6⟩ := ih (i + 1) q u v hq (by omega) (by omega) u2 v2 (by omega) (by omega)
    refine ⟨up', below', e1, e2, e3, ?_, e5, e6⟩
    rw [e4, Mine.drop_at hx, ub]
    congr 1
    rw [u3, v3, t3]
    simp [upd, val]
theorem use_l1 {up below : List Int} (h1 : Dig up) (h2 : Dig below) (l1 : up.length ≤ 70) (l2 : below.length ≤ 70) (N : Nat) (hN : N ≤ 64) (a1 : val up ≤ N * val below) (a2 : ∀ m : Nat, m < N → m * val below < val up) : ∀ (d n q : Nat), 250 ≤ q → N - n = d → n ≤ N →
    win_Use.l1 (q + d + 1) up below (n : Int) = some ((N : Int), decide ((N : Int) * val below = val up)) := by
  intro d
  induction d with
  | zero =>
    intro n q hq hd hn
    have e : n = N := by omega
    subst e
    obtain ⟨t, t1, t2, t3, t4, _⟩ := times_f below (n : Int) [] q h2 (fun x hx => by simp at hx) (by omega) (by omega) (by omega) (by simp) (by omega)
    obtain ⟨c, c1, c2, c3⟩ := compare_f t up q t2 h1 (by simp at t4; omega) (by omega) (by omega)
    have ev : val t = (n : Int) * val below := by rw [t3]; simp [val]
    rw [ev] at c2 c3
    rw [win_Use.l1.eq_2, t1, Option.bind_some, c1, Option.bind_some, if_neg (by omega), Option.bind_some, c1, Option.bind_some]
    congr 2
    by_cases hc : c = 0
    · rw [decide_eq_true (c3.1 hc), hc]; rfl
    · rw [decide_eq_false (fun e => hc (c3.2 e))]; exact beq_eq_false_iff_ne.2 hc
  | succ d ih =>
    intro n q hq hd hn
    obtain ⟨t, t1, t2, t3, t4, _⟩ := times_f below (n : Int) [] (q + d + 1) h2 (fun x hx => by simp at hx) (by omega) (by omega) (by omega) (by simp) (by omega)
    obtain ⟨c, c1, c2, c3⟩ := compare_f t up (q + d + 1) t2 h1 (by simp at t4; omega) (by omega) (by omega)
    have ev : val t = (n : Int) * val below := by rw [t3]; simp [val]
    rw [ev] at c2 c3
    rw [show q + (d + 1) + 1 = (q + d + 1) + 1 by omega, win_Use.l1.eq_2, t1, Option.bind_some, c1, Option.bind_some, if_pos (c2.2 (a2 n (by omega))), wrap_nat (by omega)]
    exact ih (n + 1) q hq (by omega) (by omega)
theorem least_of {U B : Int} (hB : 1 ≤ B) : ∀ k : Nat, U ≤ k * B → ∃ N : Nat, N ≤ k ∧ U ≤ N * B ∧ ∀ m : Nat, m < N → m * B < U := by
  intro k
  induction k with
  | zero => intro h; exact ⟨0, Nat.le_refl _, h, fun m hm => absurd hm (Nat.not_lt_zero m)⟩
  | succ k ih =>
    intro h
    by_cases c : U ≤ k * B
    · obtain ⟨N, h1, h2, h3⟩ := ih c
      exact ⟨N, by omega, h2, h3⟩
    · refine ⟨k + 1, Nat.le_refl _, h, fun m hm => ?_⟩
      have : (m : Int) * B ≤ k * B := Int.mul_le_mul_of_nonneg_right (by omega) (by omega)
      omega
/-- How many take every tick. -/
def whole : List S35 → Nat
  | [] => 0
  | x :: xs => (if x.f0 = x.f1 then 1 else 0) + whole xs
theorem whole_le : ∀ l : List S35, whole l ≤ l.length
  | [] => Nat.le_refl _
  | x :: xs => by have := whole_le xs; rw [whole, List.length_cons]; split <;> omega
theorem whole_snoc : ∀ (l : List S35) (x : S35), whole (l ++ [x]) = whole l + (if x.f0 = x.f1 then 1 else 0)
  | [], x => by simp [whole]
  | y :: l, x => by rw [List.cons_append, whole, whole_snoc l x, whole]; omega
theorem ub_bd : ∀ (l : List S35), Okl l → ∀ (U B : Int) (n w : Nat), 1 ≤ B → w * B ≤ U → U ≤ n * B → 1 ≤ (ub l (U, B)).2 ∧ ((w + whole l : Nat) : Int) * (ub l (U, B)).2 ≤ (ub l (U, B)).1 ∧ (ub l (U, B)).1 ≤ ((n + l.length : Nat) : Int) * (ub l (U, B)).2 ∧ (0 < U ∨ l ≠ [] → 0 < (ub l (U, B)).1) := by
  intro l
  induction l with
  | nil =>
    intro _ U B n w h1 h2 h3
    exact ⟨h1, by simpa [whole, ub] using h2, by simpa [ub] using h3, fun h => h.elim id (fun e => absurd rfl e)⟩
  | cons x xs ih =>
    intro h U B n w h1 h2 h3
    have hk := h x List.mem_cons_self
    obtain ⟨⟨g1, g2⟩, g3, g4⟩ := hk
    have p1 : 1 * 1 ≤ x.f1 * B := Int.mul_le_mul g1 h1 (by omega) (by omega)
    have p2 : x.f1 * (w * B) ≤ x.f1 * U := Int.mul_le_mul_of_nonneg_left h2 (by omega)
    have p3 : x.f1 * U ≤ x.f1 * (n * B) := Int.mul_le_mul_of_nonneg_left h3 (by omega)
    have p4 : x.f0 * B ≤ x.f1 * B := Int.mul_le_mul_of_nonneg_right g4 (by omega)
    have p5 : 1 * 1 ≤ x.f0 * B := Int.mul_le_mul g3 h1 (by omega) (by omega)
    have e1 : x.f1 * (w * B) = w * (x.f1 * B) := Int.mul_left_comm _ _ _
    have e2 : x.f1 * (n * B) = n * (x.f1 * B) := Int.mul_left_comm _ _ _
    have hw0 : 0 ≤ (w : Int) * (x.f1 * B) := Int.mul_nonneg (by omega) (by omega)
    obtain ⟨k1, k2, k3, k4⟩ := ih (fun y hy => h y (List.mem_cons_of_mem _ hy)) (x.f1 * U + x.f0 * B) (x.f1 * B) (n + 1) (w + (if x.f0 = x.f1 then 1 else 0)) (by omega) (by
      by_cases c : x.f0 = x.f1
      · rw [if_pos c, c, Int.natCast_add, Int.add_mul]
        have : ((1 : Nat) : Int) * (x.f1 * B) = x.f1 * B := Int.one_mul _
        omega
      · rw [if_neg c, Nat.add_zero]
        omega) (by
      rw [Int.natCast_add, Int.add_mul]
      have : ((1 : Nat) : Int) * (x.f1 * B) = x.f1 * B := Int.one_mul _
      omega)
    have hub : ub (x :: xs) (U, B) = ub xs (x.f1 * U + x.f0 * B, x.f1 * B) := rfl
    rw [hub]
    refine ⟨k1, ?_, ?_, fun _ => k4 (Or.inl ?_)⟩
    · rw [whole, show w + ((if x.f0 = x.f1 then 1 else 0) + whole xs) = w + (if x.f0 = x.f1 then 1 else 0) + whole xs by omega]
      exact k2
    · rw [List.length_cons, show n + (xs.length + 1) = n + 1 + xs.length by omega]
      exact k3
    · omega
/-- What Use tells: the least number, whether it is exact. -/
theorem use_f {l : List S35} (h : Okl l) (hl : l.length ≤ 64) (k : Nat) (hk : 600 ≤ k) : ∃ (N : Nat) (U B : Int), win_Use.f k l = some ((N : Int), decide ((N : Int) * B = U)) ∧ N ≤ l.length ∧ 1 ≤ B ∧ U ≤ N * B ∧ (∀ m : Nat, m < N → m * B < U) ∧ (whole l : Int) * B ≤ U ∧ U ≤ (l.length : Int) * B ∧ (l ≠ [] → 0 < U) := by
  obtain ⟨up, below, e1, e2, e3, e4, e5, e6⟩ := use_l0 h hl l.length 0 400 [] [1] (by omega) (by omega) (by omega) (fun x hx => by simp at hx) (fun x hx => by simp at hx; omega) (by simp) (by simp)
  have hv : (val up, val below) = ub l (0, 1) := by rw [e4, List.drop_zero]; rfl
  obtain ⟨b1, b2, b3, b4⟩ := ub_bd l h 0 1 0 0 (by omega) (by simp) (by simp)
  rw [← hv] at b1 b2 b3 b4
  simp only [Nat.zero_add] at b2 b3
  obtain ⟨N, n1, n2, n3⟩ := least_of b1 l.length b3
  refine ⟨N, val up, val below, ?_, n1, b1, n2, n3, b2, b3, fun hn => b4 (Or.inr hn)⟩
  refine at_rounds (fun k => win_Use.mono l k) (show 400 + l.length + 1 ≤ k by omega) ?_
  unfold win_Use.f
  rw [may_t ⟨by omega, by omega⟩ hl h, Option.bind_some, if_pos rfl]
  have e1' : win_Use.l0 (400 + l.length + 1) [] [1] l (l.length : Int) 0 = win_Use.l1 400 up below 0 := e1
  rw [e1']
  refine at_rounds (fun k => (win_Use.mono_l k).2 up below 0) (show 250 + N + 1 ≤ 400 by omega) ?_
  exact use_l1 e2 e3 e5 e6 N (by omega) n2 n3 N 0 250 (by omega) (by omega) (by omega)

theorem may_n {m : Int} {l : List S35} (hx : ∃ x ∈ l, ¬ okv x.f0 x.f1) : win_may.f m l = some false := by
  unfold win_may.f
  congr 1
  rw [Bool.eq_false_iff]
  intro hb
  simp only [Bool.and_eq_true, decide_eq_true_eq, List.all_eq_true] at hb
  obtain ⟨x, h1, h2⟩ := hx
  have := hb.2 x h1
  unfold win_may.okp at this
  simp at this
  exact h2 ⟨⟨this.1, this.2.1⟩, this.2.2.1, this.2.2.2⟩
theorem use_l {l : List S35} (hl : l.length ≤ 64) : ∀ (d i q : Nat), 800 ≤ q → l.length - i = d → i ≤ l.length → (∀ j, j < i → okv (l.getD j z35).f0 (l.getD j z35).f1) → beadlelaw13_WinUse.l0 (q + d + 1) l ((whole (l.take i) : Nat) : Int) (i : Int) = some true := by
  intro d
  induction d with
  | zero =>
    intro i q hq hd hi hall
    have e : i = l.length := by omega
    subst e
    rw [List.take_length]
    have hok : Okl l := by
      intro x hx
      obtain ⟨i, hi, e⟩ := List.getElem_of_mem hx
      have := hall i hi
      rw [List.getD_eq_getElem?_getD, List.getElem?_eq_getElem hi] at this
      rw [← e]
      exact this
    obtain ⟨N, U, B, e1, e2, e3, e4, e5, e6, e7, e8⟩ := use_f hok hl q (by omega)
    have hw := whole_le l
    rw [beadlelaw13_WinUse.l0.eq_2, if_neg (by omega), e1, Option.bind_some]
    have hge : whole l ≤ N := by
      rcases Nat.lt_or_ge N (whole l) with c | c
      · exfalso
        have h1 : ((N : Int) + 1) * B ≤ (whole l : Int) * B := Int.mul_le_mul_of_nonneg_right (by omega) (by omega)
        rw [Int.add_mul, Int.one_mul] at h1
        omega
      · exact c
    rw [if_pos (show ((N : Int), decide ((N : Int) * B = U)).1 ≥ (whole l : Int) from by show (N : Int) ≥ _; omega), if_pos (show ((N : Int), decide ((N : Int) * B = U)).1 ≤ (l.length : Int) from by show (N : Int) ≤ _; omega)]
    have hlast : (if ((whole l : Nat) : Int) < (l.length : Int) then (some true) else (if ((N : Int), decide ((N : Int) * B = U)).2 = true then (some (((N : Int), decide ((N : Int) * B = U)).1 == ((whole l : Nat) : Int))) else (some false))) = some true := by
      by_cases c : whole l < l.length
      · rw [if_pos (by omega)]
      · have hwl : whole l = l.length := by omega
        have hN : N = l.length := by omega
        have hU : (N : Int) * B = U := by rw [hwl] at e6; rw [hN]; omega
        rw [if_neg (by omega), decide_eq_true hU, if_pos rfl]
        show some ((N : Int) == ((whole l : Nat) : Int)) = some true
        rw [hwl, hN]
        simp
    by_cases c0 : (l.length : Int) = 0
    · rw [if_pos c0]
      exact hlast
    · have hne : l ≠ [] := fun e => c0 (by rw [e]; rfl)
      have hN1 : 1 ≤ N := by
        rcases Nat.eq_zero_or_pos N with c | c
        · exfalso
          rw [c] at e4
          have := e8 hne
          simp at e4
          omega
        · exact c
      rw [if_neg c0, if_pos (show ((N : Int), decide ((N : Int) * B = U)).1 ≥ 1 from by show (N : Int) ≥ 1; omega)]
      exact hlast
  | succ d ih =>
    intro i q hq hd hi hall
    have hlt : i < l.length := by omega
    have hx := Mine.getD_at z35 hlt
    have hrd : rd_T35 l (i : Int) = l.getD i z35 := by simp [rd_T35]
    rw [show q + (d + 1) + 1 = (q + d + 1) + 1 by omega, beadlelaw13_WinUse.l0.eq_2, if_pos (by omega), if_pos (by omega), hrd]
    by_cases c : okv (l.getD i z35).f0 (l.getD i z35).f1
    · rw [wgood_t c, Option.bind_some, if_pos rfl]
      have hnx := ih (i + 1) q hq (by omega) (by omega) (fun j hj => by
        rcases Nat.lt_or_ge j i with h | h
        · exact hall j h
        · rw [show j = i by omega]; exact c)
      rw [Mine.take_at hx, whole_snoc] at hnx
      have hwl := whole_le (l.take i)
      rw [List.length_take] at hwl
      by_cases e : (l.getD i z35).f0 = (l.getD i z35).f1
      · rw [if_pos e] at hnx ⊢
        rw [wrap_nat (by omega), wrap_nat (by omega)]
        exact hnx
      · rw [if_neg e] at hnx ⊢
        rw [wrap_nat (by omega)]
        exact hnx
    · rw [wgood_n c, Option.bind_some, if_neg (by decide)]
      have hu : win_Use.f (q + d + 1) l = some (0, true) := by
        unfold win_Use.f
        rw [may_n ⟨_, List.mem_of_getElem? hx, c⟩, Option.bind_some, if_neg (by decide)]
      rw [hu, Option.bind_some, if_pos rfl]
theorem WinUse : ∀ (l : List S35), ∃ k, beadlelaw13_WinUse.f k l = some true := by
  intro l
  refine ⟨800 + l.length + 1, ?_⟩
  unfold beadlelaw13_WinUse.f
  rw [awake_k (by omega), Option.bind_some, if_pos rfl]
  by_cases c : (l.length : Int) > 64
  · rw [if_pos c]
  · rw [if_neg c]
    have := use_l (l := l) (by omega) l.length 0 800 (by omega) (by omega) (by omega) (fun j hj => by omega)
    simpa [whole] using this

end Go.Proofs.Ytikpnpmhkllbpaa.Pure
