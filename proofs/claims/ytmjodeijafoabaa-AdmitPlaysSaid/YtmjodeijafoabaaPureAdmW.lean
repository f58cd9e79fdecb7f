/- Whether pairs fit: what win.All tells, in plain words (no law is stated here; each says its conditions). -/
import Derived.Test.YtmjodeijafoabaaQx14
namespace Go.Proofs.Ytmjodeijafoabaa.Pure
open Go.RowKit Go.Proofs.Ytmjodeijafoabaa.Q Go.Proofs.YtmjodeijafoabaaW.PrintWords Go.Proofs.YtmjodeijafoabaaW.PrintLast Go.Proofs.YtmjodeijafoabaaW.PrintMore

set_option linter.unusedSimpArgs false
set_option linter.unusedVariables false

theorem wrap_id {n : Int} (h0 : -9223372036854775808 ≤ n) (h1 : n ≤ 9223372036854775807) : wrap64 n = n := by unfold wrap64; omega
theorem wf64 {a : Int} (h : (Lit.int .i64 a).wf = true) : -9223372036854775808 ≤ a ∧ a ≤ 9223372036854775807 := by
  simp only [Lit.wf, Bool.and_eq_true, decide_eq_true_eq] at h; exact h

theorem good_t {a : Int} (h0 : 0 ≤ a) (h1 : a ≤ 4611686018427387904) : tick_Good.f a = some true := by
  unfold tick_Good.f; rw [if_pos h0, decide_eq_true h1]
theorem good_n {a : Int} (h : ¬ (0 ≤ a ∧ a ≤ 4611686018427387904)) : tick_Good.f a = some false := by
  unfold tick_Good.f
  by_cases h0 : a ≥ 0
  · rw [if_pos h0, decide_eq_false (by omega)]
  · rw [if_neg h0]
theorem in_t {a b c : Int} (h0 : b ≤ a) (h1 : a ≤ c) : tick_in.f a b c = some true := by
  unfold tick_in.f; rw [if_pos h0, decide_eq_true h1]
theorem in_n {a b c : Int} (h : ¬ (b ≤ a ∧ a ≤ c)) : tick_in.f a b c = some false := by
  unfold tick_in.f
  by_cases h0 : a ≥ b
  · rw [if_pos h0, decide_eq_false (by omega)]
  · rw [if_neg h0]

/-- What Windows answers, in plain numbers. -/
def winv (x p : Int) : Int × Bool := if (0 ≤ x ∧ x ≤ 4611686018427387904) ∧ (1 ≤ p ∧ p ≤ 2147483648) then (x / p, true) else (0, false)
theorem winv_t {x p : Int} (h : (0 ≤ x ∧ x ≤ 4611686018427387904) ∧ (1 ≤ p ∧ p ≤ 2147483648)) : winv x p = (x / p, true) := if_pos h
theorem winv_n {x p : Int} (h : ¬ ((0 ≤ x ∧ x ≤ 4611686018427387904) ∧ (1 ≤ p ∧ p ≤ 2147483648))) : winv x p = (0, false) := if_neg h
theorem win_f (x p : Int) : tick_Windows.f x p = some (winv x p) := by
  unfold tick_Windows.f winv
  by_cases hx : 0 ≤ x ∧ x ≤ 4611686018427387904
  · rw [good_t hx.1 hx.2]; simp only [Option.bind_some, if_true]
    by_cases hp : 1 ≤ p ∧ p ≤ 2147483648
    · rw [in_t hp.1 hp.2]; simp only [Option.bind_some, if_true]
      rw [if_pos (show (0 ≤ x ∧ x ≤ 4611686018427387904) ∧ (1 ≤ p ∧ p ≤ 2147483648) from ⟨hx, hp⟩)]
      have h1 : 0 ≤ x / p := Int.ediv_nonneg (by omega) (by omega)
      have h2 : x / p ≤ x := Int.ediv_le_self _ (by omega)
      rw [if_neg (by omega), Int.tdiv_eq_ediv_of_nonneg (by omega), wrap_id (by omega) (by omega)]
    · rw [in_n hp]; simp only [Option.bind_some, Bool.false_eq_true, if_false]; rw [if_neg (by omega)]
  · rw [good_n hx]; simp only [Option.bind_some, Bool.false_eq_true, if_false]; rw [if_neg (by omega)]

theorem mul_cap {a b A B : Int} (ha : 0 ≤ a) (hb : 0 ≤ b) (hA : a ≤ A) (hB : b ≤ B) : 0 ≤ a * b ∧ a * b ≤ A * B :=
  ⟨Int.mul_nonneg ha hb, Int.le_trans (Int.mul_le_mul_of_nonneg_right hA hb) (Int.mul_le_mul_of_nonneg_left hB (by omega))⟩

/-- A pair that may be. -/
def okv (q p : Int) : Prop := (1 ≤ p ∧ p ≤ 2147483648) ∧ 1 ≤ q ∧ q ≤ p
theorem wgood_t {q p : Int} (h : okv q p) : win_Good.f q p = some true := by
  obtain ⟨h1, h2⟩ := h
  unfold win_Good.f
  rw [if_pos (by omega), if_pos (by omega), if_pos (by omega), decide_eq_true h2.2]
theorem wgood_n {q p : Int} (h : ¬ okv q p) : win_Good.f q p = some false := by
  unfold okv at h
  unfold win_Good.f
  by_cases h1 : p ≥ 1
  · by_cases h2 : p ≤ 2147483648
    · by_cases h3 : q ≥ 1
      · rw [if_pos h1, if_pos h2, if_pos h3, decide_eq_false (by omega)]
      · rw [if_pos h1, if_pos h2, if_neg h3]
    · rw [if_pos h1, if_neg h2]
  · rw [if_neg h1]
/-- So many whole windows, and of the rest at most a budget. -/
def gv (q p r : Int) : Int := (r / p) * q + mn q (r - (r / p) * p)
def workv (q p n : Int) : Int := mn n (gv q p (n + p - q))
theorem mn_def (a b : Int) : mn a b = if b < a then b else a := rfl
theorem mn_le (a b : Int) : mn a b ≤ a ∧ mn a b ≤ b := by rw [mn_def]; split <;> omega
theorem mn_or (a b : Int) : mn a b = a ∨ mn a b = b := by rw [mn_def]; split <;> omega
theorem dv {w s p : Int} (h0 : 0 ≤ s) (h1 : s < p) : (w * p + s) / p = w := by
  rw [Int.add_comm, Int.add_mul_ediv_right _ _ (by omega), Int.ediv_eq_zero_of_lt h0 h1, Int.zero_add]
theorem gv_eq {q p w s : Int} (h0 : 0 ≤ s) (h1 : s < p) : gv q p (w * p + s) = w * q + mn q s := by
  unfold gv
  rw [dv h0 h1, show w * p + s - w * p = s by omega]
theorem split_r {r p : Int} (hp : 1 ≤ p) (hr : 0 ≤ r) : ∃ w s : Int, r = w * p + s ∧ 0 ≤ s ∧ s < p ∧ 0 ≤ w := by
  refine ⟨r / p, r % p, ?_, Int.emod_nonneg _ (by omega), Int.emod_lt_of_pos _ (by omega), Int.ediv_nonneg hr (by omega)⟩
  have h1 := Int.emod_add_mul_ediv r p
  have h2 : p * (r / p) = r / p * p := Int.mul_comm _ _
  omega
theorem gv_bd {q p r : Int} (hk : okv q p) (hr : 0 ≤ r) : 0 ≤ gv q p r ∧ gv q p r ≤ r := by
  obtain ⟨⟨h1, h2⟩, h3, h4⟩ := hk
  obtain ⟨w, s, rfl, s0, s1, w0⟩ := split_r h1 hr
  rw [gv_eq s0 s1]
  have a1 : 0 ≤ w * q := Int.mul_nonneg w0 (by omega)
  have a2 : w * q ≤ w * p := Int.mul_le_mul_of_nonneg_left h4 w0
  have a3 := mn_le q s
  have a4 := mn_or q s
  omega
theorem gv_next {q p r : Int} (hk : okv q p) (hr : 0 ≤ r) : gv q p r ≤ gv q p (r + 1) ∧ gv q p (r + 1) ≤ gv q p r + 1 := by
  obtain ⟨⟨h1, h2⟩, h3, h4⟩ := hk
  obtain ⟨w, s, rfl, s0, s1, w0⟩ := split_r h1 hr
  rw [gv_eq s0 s1]
  by_cases c : s + 1 < p
  · rw [show w * p + s + 1 = w * p + (s + 1) by omega, gv_eq (by omega) c]
    rw [mn_def, mn_def]
    split <;> split <;> omega
  · have e : w * p + s + 1 = (w + 1) * p + 0 := by rw [Int.add_mul]; omega
    rw [e, gv_eq (by omega) (by omega), Int.add_mul, mn_def, mn_def]
    split <;> split <;> omega
theorem gv_turn {q p r : Int} (hk : okv q p) (hr : 0 ≤ r) : gv q p (r + p) = gv q p r + q := by
  obtain ⟨⟨h1, h2⟩, h3, h4⟩ := hk
  obtain ⟨w, s, rfl, s0, s1, w0⟩ := split_r h1 hr
  have e : w * p + s + p = (w + 1) * p + s := by rw [Int.add_mul]; omega
  rw [gv_eq s0 s1, e, gv_eq s0 s1, Int.add_mul]
  omega
theorem work_t {q p n : Int} (hk : okv q p) (hn : 0 ≤ n ∧ n ≤ 2147483648) : win_Work.f q p n = some (workv q p n, true) := by
  unfold win_Work.f
  rw [wgood_t hk]; simp only [Option.bind_some, if_true]
  have hk' := hk
  obtain ⟨⟨h1, h2⟩, h3, h4⟩ := hk'
  rw [if_neg (by omega), if_neg (by omega), wrap_id (n := n + p) (by omega) (by omega), wrap_id (n := n + p - q) (by omega) (by omega), win_f, winv_t ⟨⟨by omega, by omega⟩, h1, h2⟩]
  simp only [Option.bind_some]
  obtain ⟨w, s, hr, s0, s1, w0⟩ := split_r (r := n + p - q) h1 (by omega)
  have e : (n + p - q) / p = w := by rw [hr]; exact dv s0 s1
  have a1 : 0 ≤ w * q := Int.mul_nonneg w0 (by omega)
  have a2 : w * q ≤ w * p := Int.mul_le_mul_of_nonneg_left h4 w0
  have a3 := mn_le q s
  have a4 := mn_or q s
  have es : n + p - q - w * p = s := by omega
  rw [e, wrap_id (n := w * q) (by omega) (by omega), wrap_id (n := w * p) (by omega) (by omega), es, wrap_id (n := s) (by omega) (by omega), wrap_id (n := w * q + mn q s) (by omega) (by omega)]
  unfold workv
  rw [hr, gv_eq s0 s1]
theorem work_n {q p n : Int} (h : ¬ (okv q p ∧ 0 ≤ n ∧ n ≤ 2147483648)) : win_Work.f q p n = some (0, false) := by
  unfold win_Work.f
  by_cases hk : okv q p
  · rw [wgood_t hk]; simp only [Option.bind_some, if_true]
    by_cases h1 : n < 0
    · rw [if_pos h1]
    · have : n > 2147483648 := by
        apply Classical.byContradiction
        intro hc
        exact h ⟨hk, by omega, by omega⟩
      rw [if_neg h1, if_pos this]
  · rw [wgood_n hk]; simp only [Option.bind_some, Bool.false_eq_true, if_false]
theorem work_bd {q p n : Int} (hk : okv q p) (hn : 0 ≤ n) : 0 ≤ workv q p n ∧ workv q p n ≤ n := by
  have hk' := hk
  obtain ⟨⟨h1, h2⟩, h3, h4⟩ := hk'
  have h := gv_bd hk (r := n + p - q) (by omega)
  unfold workv
  have a3 := mn_le n (gv q p (n + p - q))
  have a4 := mn_or n (gv q p (n + p - q))
  omega
theorem work_next {q p n : Int} (hk : okv q p) (hn : 0 ≤ n) : workv q p n ≤ workv q p (n + 1) ∧ workv q p (n + 1) ≤ workv q p n + 1 := by
  have hk' := hk
  obtain ⟨⟨h1, h2⟩, h3, h4⟩ := hk'
  have h := gv_next hk (r := n + p - q) (by omega)
  unfold workv
  rw [show n + 1 + p - q = n + p - q + 1 by omega, mn_def, mn_def]
  split <;> split <;> omega
theorem work_turn {q p n : Int} (hk : okv q p) (hn : 0 ≤ n) : workv q p (n + p) ≤ workv q p n + q + p ∧ (workv q p n = n ∨ workv q p (n + p) = workv q p n + q) := by
  have hk' := hk
  obtain ⟨⟨h1, h2⟩, h3, h4⟩ := hk'
  have h := gv_turn hk (r := n + p - q) (by omega)
  unfold workv
  rw [show n + p + p - q = n + p - q + p by omega, h, mn_def, mn_def]
  split <;> split <;> omega

theorem wrap_nat {j : Nat} (h : j ≤ 17592186044416) : wrap64 ((j : Int) + 1) = ((j + 1 : Nat) : Int) := by unfold wrap64; omega
/-- One more than a pair's window leaves. -/
def roomv (x : S24) : Int := x.f1 - x.f0 + 1
def takesv (x o : S24) : Int := mn (workv x.f0 x.f1 o.f1) (roomv o)
def Okl (l : List S24) : Prop := ∀ x ∈ l, okv x.f0 x.f1
theorem room_f {q p : Int} (h : okv q p) : win_room.f q p = some (p - q + 1) := by
  obtain ⟨⟨h1, h2⟩, h3, h4⟩ := h
  unfold win_room.f
  rw [wrap_id (n := p - q) (by omega) (by omega), wrap_id (n := p - q + 1) (by omega) (by omega)]
theorem takes_t {x o : S24} (hx : okv x.f0 x.f1) (ho : okv o.f0 o.f1) : win_Takes.f x.f0 x.f1 o.f0 o.f1 = some (takesv x o, true) := by
  unfold win_Takes.f
  have ho' := ho
  obtain ⟨⟨h1, h2⟩, h3, h4⟩ := ho'
  rw [wgood_t ho]; simp only [Option.bind_some, if_true]
  rw [work_t hx ⟨by omega, h2⟩]; simp only [Option.bind_some, if_true]
  rw [room_f ho]; rfl
theorem takes_bd {x o : S24} (hx : okv x.f0 x.f1) (ho : okv o.f0 o.f1) : 0 ≤ takesv x o ∧ takesv x o ≤ roomv o ∧ 1 ≤ roomv o ∧ roomv o ≤ 2147483648 := by
  obtain ⟨⟨h1, h2⟩, h3, h4⟩ := ho
  have hb := work_bd (n := o.f1) hx (by omega)
  unfold takesv roomv
  have a3 := mn_le (workv x.f0 x.f1 o.f1) (o.f1 - o.f0 + 1)
  have a4 := mn_or (workv x.f0 x.f1 o.f1) (o.f1 - o.f0 + 1)
  omega
/-- What all take of one's window, but who stands at place k. -/
def sumx (o : S24) (k : Nat) : List S24 → Nat → Int
  | [], _ => 0
  | x :: xs, i => (if i = k then 0 else takesv x o) + sumx o k xs (i + 1)
def total (o : S24) : List S24 → Int
  | [] => 0
  | x :: xs => takesv x o + total o xs
theorem sumx_far (o : S24) (k : Nat) : ∀ (l : List S24) (i : Nat), k < i → sumx o k l i = total o l := by
  intro l
  induction l with
  | nil => intro i _; rfl
  | cons x xs ih => intro i h; rw [sumx, total, if_neg (by omega), ih (i + 1) (by omega)]
theorem sumx_mid (o x : S24) (k : Nat) : ∀ (pre post : List S24) (i : Nat), i + pre.length = k → sumx o k (pre ++ x :: post) i = total o pre + total o post := by
  intro pre
  induction pre with
  | nil => intro post i h; rw [List.nil_append, sumx, if_pos (by simpa using h), sumx_far o k post (i + 1) (by simp at h; omega), total]
  | cons y ys ih =>
    intro post i h
    rw [List.cons_append, sumx, if_neg (by simp at h; omega), ih post (i + 1) (by simp at h; omega), total]
    omega
theorem total_app (o : S24) (a b : List S24) : total o (a ++ b) = total o a + total o b := by
  induction a with
  | nil => rw [List.nil_append, total]; omega
  | cons x xs ih => rw [List.cons_append, total, total, ih]; omega
theorem total_bd {o : S24} (ho : okv o.f0 o.f1) : ∀ l : List S24, Okl l → 0 ≤ total o l ∧ total o l ≤ l.length * roomv o := by
  intro l
  induction l with
  | nil => intro _; simp [total]
  | cons x xs ih =>
    intro h
    have h1 := ih (fun y hy => h y (List.mem_cons_of_mem _ hy))
    have h2 := takes_bd (h x List.mem_cons_self) ho
    rw [total, List.length_cons]
    have h3 : ((xs.length + 1 : Nat) : Int) * roomv o = xs.length * roomv o + roomv o := by rw [Int.natCast_add, Int.add_mul]; simp
    omega
theorem sumx_bd {o : S24} (ho : okv o.f0 o.f1) (k : Nat) : ∀ (l : List S24) (i : Nat), Okl l → 0 ≤ sumx o k l i ∧ sumx o k l i ≤ l.length * 2147483648 := by
  intro l
  induction l with
  | nil => intro i _; simp [sumx]
  | cons x xs ih =>
    intro i h
    have h1 := ih (i + 1) (fun y hy => h y (List.mem_cons_of_mem _ hy))
    have h2 := takes_bd (h x List.mem_cons_self) ho
    rw [sumx, List.length_cons]
    split <;> omega
theorem may_t {m : Int} {l : List S24} (hm : 1 ≤ m ∧ m ≤ 64) (hl : l.length ≤ 64) (h : Okl l) : win_may.f m l = some true := by
  unfold win_may.f
  have : l.all win_may.okp = true := List.all_eq_true.2 fun x hx => by
    have := h x hx
    obtain ⟨⟨h1, h2⟩, h3, h4⟩ := this
    unfold win_may.okp
    simp
    omega
  rw [this]
  simp [hm.1, hm.2, hl]
theorem one_l0 {m : Int} {l : List S24} {k : Nat} (hm : 1 ≤ m ∧ m ≤ 64) (hl : l.length ≤ 64) (h : Okl l) (hk : k < l.length) : ∀ (d i q : Nat) (s : Int), l.length - i = d → i ≤ l.length → 0 ≤ s → s ≤ i * 2147483648 →
    win_One.l0 (q + d + 1) m l (k : Int) s l (l.length : Int) (i : Int) = some (decide (s + sumx (l.getD k z24) k (l.drop i) i < m * roomv (l.getD k z24)), 0) := by
  have hok := h _ (List.mem_of_getElem? (Mine.getD_at z24 hk))
  have hro := takes_bd hok hok
  intro d
  induction d with
  | zero =>
    intro i q s hd hi s0 s1
    have he : i = l.length := by omega
    subst he
    rw [win_One.l0.eq_2, if_neg (by omega), if_pos (by omega), if_pos (by omega)]
    have hrd : rd_T24 l (k : Int) = l.getD k z24 := by simp [rd_T24]
    rw [hrd, room_f hok]; simp only [Option.bind_some]
    have hc := mul_cap (show 0 ≤ m by omega) (show 0 ≤ roomv (l.getD k z24) by omega) hm.2 hro.2.2.2
    rw [List.drop_length, sumx, Int.add_zero]
    have e : (l.getD k z24).f1 - (l.getD k z24).f0 + 1 = roomv (l.getD k z24) := rfl
    rw [e, wrap_id (n := m * roomv (l.getD k z24)) (by omega) (by omega)]
  | succ d ih =>
    intro i q s hd hi s0 s1
    have hlt : i < l.length := by omega
    have hx := Mine.getD_at z24 hlt
    have hxk := h _ (List.mem_of_getElem? hx)
    rw [show q + (d + 1) + 1 = (q + d + 1) + 1 by omega, win_One.l0.eq_2, if_pos (by omega), if_pos (by omega), if_pos (by omega), wrap_nat (by omega), Mine.drop_at hx, sumx]
    by_cases c : i = k
    · rw [if_pos (by omega), if_pos c, ih (i + 1) q s (by omega) (by omega) s0 (by omega), Int.zero_add]
    · have hrd : ∀ j : Nat, rd_T24 l (j : Int) = l.getD j z24 := fun j => by simp [rd_T24]
      have ht := takes_bd hxk hok
      rw [if_neg (by omega), if_pos (by omega), if_pos (by omega), hrd, hrd, takes_t hxk hok]; simp only [Option.bind_some]
      rw [if_neg c, wrap_id (n := s + takesv (l.getD i z24) (l.getD k z24)) (by omega) (by omega), ih (i + 1) q (s + takesv (l.getD i z24) (l.getD k z24)) (by omega) (by omega) (by omega) (by omega), Int.add_assoc]
/-- Has the pair at place k its due? -/
def onev (m : Int) (l : List S24) (k : Nat) : Bool := decide (sumx (l.getD k z24) k l 0 < m * roomv (l.getD k z24))
theorem one_f {m : Int} {l : List S24} {k n : Nat} (hm : 1 ≤ m ∧ m ≤ 64) (hl : l.length ≤ 64) (h : Okl l) (hk : k < l.length) (hn : 70 ≤ n) : win_One.f n m l (k : Int) = some (onev m l k, 0) := by
  refine at_rounds (fun n => win_One.mono m l (k : Int) n) (show (l.length + 1) + 1 ≤ n by omega) ?_
  unfold win_One.f
  rw [may_t hm hl h]; simp only [Option.bind_some, if_true]
  rw [if_neg (by omega), decide_eq_false (by omega), win_One.j0.eq_2, if_neg (by decide)]
  have := one_l0 hm hl h hk l.length 0 0 0 (by omega) (by omega) (by omega) (by omega)
  simp only [Int.zero_add, List.drop_zero, Nat.zero_add] at this
  exact this
/-- Has each pair from place i on its due? -/
def allv (m : Int) (l : List S24) : Nat → Nat → Bool
  | 0, _ => true
  | d + 1, i => onev m l i && allv m l d (i + 1)
theorem all_l0 {m : Int} {l : List S24} (hm : 1 ≤ m ∧ m ≤ 64) (hl : l.length ≤ 64) (h : Okl l) : ∀ (d i q : Nat), 70 ≤ q → l.length - i = d → i ≤ l.length → win_All.l0 (q + d + 1) m l (l.length : Int) (i : Int) = some (allv m l d i, 0) := by
  intro d
  induction d with
  | zero =>
    intro i q hq hd hi
    rw [win_All.l0.eq_2, if_neg (by omega)]; rfl
  | succ d ih =>
    intro i q hq hd hi
    rw [show q + (d + 1) + 1 = (q + d + 1) + 1 by omega, win_All.l0.eq_2, if_pos (by omega), one_f hm hl h (by omega) (by omega)]; simp only [Option.bind_some]
    rw [allv]
    cases hb : onev m l i with
    | true => rw [if_pos rfl, wrap_nat (by omega), ih (i + 1) q hq (by omega) (by omega)]; rfl
    | false => rw [if_neg (by decide)]; rfl
def fits (m : Int) (l : List S24) : Bool := allv m l l.length 0
theorem all_f {m : Int} {l : List S24} {n : Nat} (hm : 1 ≤ m ∧ m ≤ 64) (hl : l.length ≤ 64) (h : Okl l) (hn : 140 ≤ n) : win_All.f n m l = some (fits m l, 0) := by
  refine at_rounds (fun n => win_All.mono m l n) (show 70 + l.length + 1 ≤ n by omega) ?_
  unfold win_All.f
  rw [may_t hm hl h]; simp only [Option.bind_some, if_true]
  exact all_l0 hm hl h l.length 0 70 (by omega) (by omega) (by omega)
theorem allv_iff (m : Int) (l : List S24) : ∀ (d i : Nat), allv m l d i = true ↔ ∀ k, i ≤ k → k < i + d → onev m l k = true := by
  intro d
  induction d with
  | zero => intro i; simp [allv]; intro k h1 h2; omega
  | succ d ih =>
    intro i
    rw [allv, Bool.and_eq_true, ih (i + 1)]
    constructor
    · rintro ⟨h1, h2⟩ k hk1 hk2
      by_cases e : k = i
      · subst e; exact h1
      · exact h2 k (by omega) (by omega)
    · intro h3
      exact ⟨h3 i (by omega) (by omega), fun k hk1 hk2 => h3 k (by omega) (by omega)⟩
theorem fits_iff (m : Int) (l : List S24) : fits m l = true ↔ ∀ (pre post : List S24) (x : S24), l = pre ++ x :: post → total x pre + total x post < m * roomv x := by
  unfold fits
  rw [allv_iff]
  constructor
  · rintro h pre post x rfl
    have := h pre.length (by omega) (by simp)
    unfold onev at this
    have hx : (pre ++ x :: post).getD pre.length z24 = x := by simp
    rw [hx, sumx_mid x x pre.length pre post 0 (by omega)] at this
    exact of_decide_eq_true this
  · intro h k _ hk
    have hk' : k < l.length := by omega
    have hsp : l = l.take k ++ l.getD k z24 :: l.drop (k + 1) := by rw [← Mine.drop_at (Mine.getD_at z24 hk'), List.take_append_drop]
    have := h _ _ _ hsp
    unfold onev
    have hs : ∀ pre post x, l = pre ++ x :: post → pre.length = k → sumx x k l 0 = total x pre + total x post := by
      rintro pre post x rfl hp
      exact sumx_mid x x k pre post 0 (by omega)
    rw [hs _ _ _ hsp (by rw [List.length_take]; omega)]
    exact decide_eq_true this

end Go.Proofs.Ytmjodeijafoabaa.Pure
