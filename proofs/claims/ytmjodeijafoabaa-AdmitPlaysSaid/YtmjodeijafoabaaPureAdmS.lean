/- Whether pairs fit: what the document's own All tells (no law is stated here; each says its conditions). -/
import Derived.Test.YtmjodeijafoabaaPureAdmW
import Derived.Test.YtmjodeijafoabaaQx35
namespace Go.Proofs.Ytmjodeijafoabaa.Pure
open Go.RowKit Go.Proofs.Ytmjodeijafoabaa.Q Go.Proofs.YtmjodeijafoabaaW.PrintWords Go.Proofs.YtmjodeijafoabaaW.PrintLast Go.Proofs.YtmjodeijafoabaaW.PrintMore

set_option linter.unusedSimpArgs false
set_option linter.unusedVariables false

/-- The document's own pair. -/
def cv (x : S24) : S45 := ⟨x.f0, x.f1⟩
theorem rdT45 (l : List S24) (j : Nat) (h : j < l.length) : rd_T45 (l.map cv) (j : Int) = cv (l.getD j z24) := by
  unfold rd_T45
  rw [Int.toNat_natCast, List.getD_eq_getElem?_getD, List.getElem?_map, List.getD_eq_getElem?_getD, List.getElem?_eq_getElem h]
  rfl
theorem gp_t {q p : Int} (h : okv q p) : beadleref10_GoodPair.f q p = some true := by
  obtain ⟨h1, h2⟩ := h
  unfold beadleref10_GoodPair.f
  rw [if_pos (by omega), if_pos (by omega), if_pos (by omega), decide_eq_true h2.2]
theorem gp_n {q p : Int} (h : ¬ okv q p) : beadleref10_GoodPair.f q p = some false := by
  unfold okv at h
  unfold beadleref10_GoodPair.f
  by_cases h1 : p ≥ 1
  · by_cases h2 : p ≤ 2147483648
    · by_cases h3 : q ≥ 1
      · rw [if_pos h1, if_pos h2, if_pos h3, decide_eq_false (by omega)]
      · rw [if_pos h1, if_pos h2, if_neg h3]
    · rw [if_pos h1, if_neg h2]
  · rw [if_neg h1]
theorem good_same (q p : Int) : ∃ b, win_Good.f q p = some b ∧ beadleref10_GoodPair.f q p = some b := by
  by_cases h : okv q p
  · exact ⟨true, wgood_t h, gp_t h⟩
  · exact ⟨false, wgood_n h, gp_n h⟩
theorem least_f (a b : Int) : beadleref10_least.f a b = some (mn a b) := by
  unfold beadleref10_least.f
  rw [mn_def]
  by_cases h : a < b
  · rw [if_pos h, if_neg (by omega)]
  · rw [if_neg h]
    by_cases h2 : b < a
    · rw [if_pos h2]
    · rw [if_neg h2]
      congr 1
      omega
theorem rwork_t {q p n : Int} {k : Nat} (hk : okv q p) (hn : 0 ≤ n ∧ n ≤ 2147483648) : beadleref10_Work.f (k + 1) q p n = some (workv q p n, true) := by
  unfold beadleref10_Work.f
  rw [gp_t hk]; simp only [Option.bind_some, if_true]
  have hk' := hk
  obtain ⟨⟨h1, h2⟩, h3, h4⟩ := hk'
  rw [if_neg (by omega), decide_eq_false (by omega), beadleref10_Work.j0.eq_2, if_neg (by decide), if_neg (by omega)]
  rw [wrap_id (n := n + p) (by omega) (by omega), wrap_id (n := n + p - q) (by omega) (by omega)]
  rw [Int.tdiv_eq_ediv_of_nonneg (by omega)]
  obtain ⟨w, s, hr, s0, s1, w0⟩ := split_r (r := n + p - q) h1 (by omega)
  have e : (n + p - q) / p = w := by rw [hr]; exact dv s0 s1
  have a1 : 0 ≤ w * q := Int.mul_nonneg w0 (by omega)
  have a2 : w * q ≤ w * p := Int.mul_le_mul_of_nonneg_left h4 w0
  have a5 : w ≤ w * p := by
    have := Int.mul_le_mul_of_nonneg_left h1 w0
    rwa [Int.mul_one] at this
  have a3 := mn_le q s
  have a4 := mn_or q s
  have es : n + p - q - w * p = s := by omega
  rw [e, wrap_id (n := w) (by omega) (by omega), wrap_id (n := w * p) (by omega) (by omega), es, wrap_id (n := s) (by omega) (by omega), least_f]
  simp only [Option.bind_some]
  rw [wrap_id (n := w * q) (by omega) (by omega), wrap_id (n := w * q + mn q s) (by omega) (by omega), least_f]
  simp only [Option.bind_some]
  unfold workv
  rw [hr, gv_eq s0 s1]
theorem rwork_n {q p n : Int} {k : Nat} (h : ¬ (okv q p ∧ 0 ≤ n ∧ n ≤ 2147483648)) : beadleref10_Work.f (k + 1) q p n = some (0, false) := by
  unfold beadleref10_Work.f
  by_cases hk : okv q p
  · rw [gp_t hk]; simp only [Option.bind_some, if_true]
    by_cases h1 : n < 0
    · rw [if_pos h1, beadleref10_Work.j0.eq_2, if_pos rfl]
    · have : n > 2147483648 := by
        apply Classical.byContradiction
        intro hc
        exact h ⟨hk, by omega, by omega⟩
      rw [if_neg h1, decide_eq_true this, beadleref10_Work.j0.eq_2, if_pos rfl]
  · rw [gp_n hk]; simp only [Option.bind_some, Bool.false_eq_true, if_false]
    rw [beadleref10_Work.j0.eq_2, if_pos rfl]
theorem work_same (q p n : Int) : ∃ a b, win_Work.f q p n = some (a, b) ∧ beadleref10_Work.f 10 q p n = some (a, b) := by
  by_cases h : okv q p ∧ 0 ≤ n ∧ n ≤ 2147483648
  · exact ⟨_, _, work_t h.1 h.2, rwork_t (k := 9) h.1 h.2⟩
  · exact ⟨_, _, work_n h, rwork_n (k := 9) h⟩
theorem takes_n {x o : S24} (h : ¬ (okv x.f0 x.f1 ∧ okv o.f0 o.f1)) : win_Takes.f x.f0 x.f1 o.f0 o.f1 = some (0, false) := by
  unfold win_Takes.f
  by_cases ho : okv o.f0 o.f1
  · rw [wgood_t ho]; simp only [Option.bind_some, if_true]
    rw [work_n (fun hh => h ⟨hh.1, ho⟩)]; simp only [Option.bind_some, Bool.false_eq_true, if_false]
  · rw [wgood_n ho]; simp only [Option.bind_some, Bool.false_eq_true, if_false]
theorem rtakes_t {x o : S24} {k : Nat} (hx : okv x.f0 x.f1) (ho : okv o.f0 o.f1) : beadleref10_Takes.f (k + 2) x.f0 x.f1 o.f0 o.f1 = some (takesv x o, true) := by
  unfold beadleref10_Takes.f
  have ho' := ho
  obtain ⟨⟨h1, h2⟩, h3, h4⟩ := ho'
  rw [gp_t hx]; simp only [Option.bind_some, if_true]
  rw [gp_t ho]; simp only [Option.bind_some]
  rw [beadleref10_Takes.j0.eq_2, if_neg (by decide), rwork_t hx ⟨by omega, h2⟩]; simp only [Option.bind_some]
  rw [wrap_id (n := o.f1 - o.f0) (by omega) (by omega), wrap_id (n := o.f1 - o.f0 + 1) (by omega) (by omega), least_f]; rfl
theorem rtakes_n {x o : S24} {k : Nat} (h : ¬ (okv x.f0 x.f1 ∧ okv o.f0 o.f1)) : beadleref10_Takes.f (k + 2) x.f0 x.f1 o.f0 o.f1 = some (0, false) := by
  unfold beadleref10_Takes.f
  by_cases hx : okv x.f0 x.f1
  · rw [gp_t hx]; simp only [Option.bind_some, if_true]
    rw [gp_n (fun ho => h ⟨hx, ho⟩)]; simp only [Option.bind_some]
    rw [beadleref10_Takes.j0.eq_2, if_pos (by decide)]
  · rw [gp_n hx]; simp only [Option.bind_some, Bool.false_eq_true, if_false]
    rw [beadleref10_Takes.j0.eq_2, if_pos rfl]
theorem takes_same (x o : S24) : ∃ a b, win_Takes.f x.f0 x.f1 o.f0 o.f1 = some (a, b) ∧ beadleref10_Takes.f 10 x.f0 x.f1 o.f0 o.f1 = some (a, b) := by
  by_cases h : okv x.f0 x.f1 ∧ okv o.f0 o.f1
  · exact ⟨_, _, takes_t h.1 h.2, rtakes_t (k := 8) h.1 h.2⟩
  · exact ⟨_, _, takes_n h, rtakes_n (k := 8) h⟩
/-- So many CPUs and these pairs may be asked of. -/
def Fine (m : Int) (l : List S24) : Prop := (1 ≤ m ∧ m ≤ 64) ∧ l.length ≤ 64 ∧ Okl l
theorem may_n {m : Int} {l : List S24} (h : ¬ Fine m l) : win_may.f m l = some false := by
  unfold win_may.f
  congr 1
  rw [Bool.eq_false_iff]
  intro hb
  simp only [Bool.and_eq_true, decide_eq_true_eq, List.all_eq_true] at hb
  refine h ⟨⟨hb.1.1.1, hb.1.1.2⟩, hb.1.2, fun x hx => ?_⟩
  have := hb.2 x hx
  unfold win_may.okp at this
  simp at this
  exact ⟨⟨this.1, this.2.1⟩, this.2.2.1, this.2.2.2⟩
theorem pairs_l {m : Int} {l : List S24} (hl : l.length ≤ 150) : ∀ (d j : Nat), l.length - j = d → j ≤ l.length → (∀ i, i < j → okv (l.getD i z24).f0 (l.getD i z24).f1) → ∃ b, beadleref10_pairs.l0 (d + 1) m (l.map cv) (j : Int) = some b ∧ (b = true ↔ Fine m l) := by
  intro d
  induction d with
  | zero =>
    intro j hd hj hall
    have e : j = l.length := by omega
    subst e
    rw [beadleref10_pairs.l0.eq_2, if_neg (by rw [List.length_map]; omega)]
    have hok : Okl l := by
      intro x hx
      obtain ⟨i, hi, e⟩ := List.getElem_of_mem hx
      have := hall i hi
      rw [List.getD_eq_getElem?_getD, List.getElem?_eq_getElem hi] at this
      rw [← e]
      exact this
    by_cases h1 : m ≥ 1
    · by_cases h2 : m ≤ 64
      · rw [if_pos h1, if_pos h2]
        refine ⟨_, rfl, ?_⟩
        rw [decide_eq_true_eq, List.length_map]
        exact ⟨fun h => ⟨⟨h1, h2⟩, by omega, hok⟩, fun h => by have := h.2.1; omega⟩
      · rw [if_pos h1, if_neg h2]
        exact ⟨_, rfl, ⟨fun h => (by cases h), fun h => absurd h.1.2 h2⟩⟩
    · rw [if_neg h1]
      exact ⟨_, rfl, ⟨fun h => (by cases h), fun h => absurd h.1.1 h1⟩⟩
  | succ d ih =>
    intro j hd hj hall
    have hlt : j < l.length := by omega
    rw [beadleref10_pairs.l0.eq_2, if_pos (by rw [List.length_map]; omega), if_pos (by omega), rdT45 l j hlt]
    by_cases c : okv (l.getD j z24).f0 (l.getD j z24).f1
    · rw [show beadleref10_GoodPair.f (cv (l.getD j z24)).f0 (cv (l.getD j z24)).f1 = some true from gp_t c, Option.bind_some, if_pos rfl]
      rw [wrap_nat (by omega)]
      refine ih (j + 1) (by omega) (by omega) (fun i hi => ?_)
      rcases Nat.lt_or_ge i j with h | h
      · exact hall i h
      · rw [show i = j by omega]; exact c
    · rw [show beadleref10_GoodPair.f (cv (l.getD j z24)).f0 (cv (l.getD j z24)).f1 = some false from gp_n c, Option.bind_some, if_neg Bool.false_ne_true]
      refine ⟨_, rfl, ⟨fun h => (by cases h), fun h => absurd ?_ c⟩⟩
      exact h.2.2 _ (List.mem_of_getElem? (Mine.getD_at z24 hlt))
theorem pairs_f {m : Int} {l : List S24} {k : Nat} (hl : l.length ≤ 150) (hk : l.length + 1 ≤ k) : ∃ b, beadleref10_pairs.f k m (l.map cv) = some b ∧ (b = true ↔ Fine m l) := by
  obtain ⟨b, h1, h2⟩ := pairs_l (m := m) hl l.length 0 (by omega) (by omega) (fun i hi => by omega)
  exact ⟨b, at_rounds (fun n => beadleref10_pairs.mono m (l.map cv) n) (show l.length + 1 ≤ k by omega) h1, h2⟩
theorem rone_l0 {m : Int} {l : List S24} {k : Nat} (hm : 1 ≤ m ∧ m ≤ 64) (hl : l.length ≤ 64) (h : Okl l) (hk : k < l.length) : ∀ (d i q : Nat) (s : Int), 2 ≤ q → l.length - i = d → i ≤ l.length → 0 ≤ s → s ≤ i * 2147483648 →
    beadleref10_One.l0 (q + d + 1) m (l.map cv) (k : Int) s (i : Int) = some (decide (s + sumx (l.getD k z24) k (l.drop i) i < m * roomv (l.getD k z24)), 0) := by
  have hok := h _ (List.mem_of_getElem? (Mine.getD_at z24 hk))
  have hro := takes_bd hok hok
  intro d
  induction d with
  | zero =>
    intro i q s hq hd hi s0 s1
    have he : i = l.length := by omega
    subst he
    rw [beadleref10_One.l0.eq_2, if_neg (by rw [List.length_map]; omega), if_pos (by omega), if_pos (by rw [List.length_map]; omega), rdT45 l k hk]
    have hc := mul_cap (show 0 ≤ m by omega) (show 0 ≤ roomv (l.getD k z24) by omega) hm.2 hro.2.2.2
    rw [List.drop_length, sumx, Int.add_zero]
    have e : (cv (l.getD k z24)).f1 - (cv (l.getD k z24)).f0 + 1 = roomv (l.getD k z24) := rfl
    have hb : -9223372036854775808 ≤ (cv (l.getD k z24)).f1 - (cv (l.getD k z24)).f0 ∧ (cv (l.getD k z24)).f1 - (cv (l.getD k z24)).f0 ≤ 9223372036854775807 := by omega
    rw [wrap_id (n := (cv (l.getD k z24)).f1 - (cv (l.getD k z24)).f0) hb.1 hb.2, e, wrap_id (n := roomv (l.getD k z24)) (by omega) (by omega), wrap_id (n := m * roomv (l.getD k z24)) (by omega) (by omega)]
  | succ d ih =>
    intro i q s hq hd hi s0 s1
    have hlt : i < l.length := by omega
    have hx := Mine.getD_at z24 hlt
    have hxk := h _ (List.mem_of_getElem? hx)
    rw [show q + (d + 1) + 1 = (q + d + 1) + 1 by omega, beadleref10_One.l0.eq_2, if_pos (by rw [List.length_map]; omega), wrap_nat (by omega), Mine.drop_at hx, sumx]
    by_cases c : i = k
    · rw [if_pos (by omega), if_pos c, ih (i + 1) q s hq (by omega) (by omega) s0 (by omega), Int.zero_add]
    · have ht := takes_bd hxk hok
      rw [if_neg (by omega), if_pos (by omega), if_pos (by omega), if_pos (by rw [List.length_map]; omega), rdT45 l i hlt, rdT45 l k hk]
      rw [show q + d + 1 = (q + d - 1) + 2 by omega]
      rw [show beadleref10_Takes.f ((q + d - 1) + 2) (cv (l.getD i z24)).f0 (cv (l.getD i z24)).f1 (cv (l.getD k z24)).f0 (cv (l.getD k z24)).f1 = some (takesv (l.getD i z24) (l.getD k z24), true) from rtakes_t hxk hok]; simp only [Option.bind_some]
      rw [show (q + d - 1) + 2 = q + d + 1 by omega]
      rw [if_neg c, wrap_id (n := s + takesv (l.getD i z24) (l.getD k z24)) (by omega) (by omega), ih (i + 1) q (s + takesv (l.getD i z24) (l.getD k z24)) hq (by omega) (by omega) (by omega) (by omega), Int.add_assoc]
theorem rone_f {m : Int} {l : List S24} {k n : Nat} (hF : Fine m l) (hk : k < l.length) (hn : 110 ≤ n) : beadleref10_One.f n m (l.map cv) (k : Int) = some (onev m l k, 0) := by
  obtain ⟨hm, hl, h⟩ := hF
  obtain ⟨b, e, hb⟩ := pairs_f (m := m) (l := l) (k := n) (by omega) (by omega)
  have hbt := hb.2 ⟨hm, hl, h⟩
  subst hbt
  unfold beadleref10_One.f
  rw [e]; simp only [Option.bind_some, if_true]
  rw [if_neg (by omega), decide_eq_false (by rw [List.length_map]; omega)]
  refine at_rounds (fun n => (beadleref10_One.mono_l n).1 m (l.map cv) (k : Int) false) (show ((2 + l.length + 1) + 1) ≤ n by omega) ?_
  rw [beadleref10_One.j0.eq_2, if_neg (by decide)]
  have := rone_l0 hm hl h hk l.length 0 2 0 (by omega) (by omega) (by omega) (by omega) (by omega)
  simp only [Int.zero_add, List.drop_zero] at this
  exact this
theorem one_same {m : Int} {l : List S24} (k : Int) (hl : l.length ≤ 70) : ∃ a e, win_One.f 200 m l k = some (a, e) ∧ beadleref10_One.f 200 m (l.map cv) k = some (a, e) := by
  obtain ⟨b, eb, hb⟩ := pairs_f (m := m) (l := l) (k := 200) (by omega) (by omega)
  by_cases hF : Fine m l
  · by_cases hk : 0 ≤ k ∧ k < l.length
    · obtain ⟨j, rfl⟩ : ∃ j : Nat, k = (j : Int) := ⟨k.toNat, by omega⟩
      exact ⟨_, _, one_f hF.1 hF.2.1 hF.2.2 (by omega) (by omega), rone_f hF (by omega) (by omega)⟩
    · refine ⟨false, 1, ?_, ?_⟩
      · unfold win_One.f
        rw [may_t hF.1 hF.2.1 hF.2.2]; simp only [Option.bind_some, if_true]
        by_cases h0 : k < 0
        · rw [if_pos h0, win_One.j0.eq_2, if_pos rfl]
        · rw [if_neg h0, decide_eq_true (by omega), win_One.j0.eq_2, if_pos rfl]
      · unfold beadleref10_One.f
        rw [eb, hb.2 hF]; simp only [Option.bind_some, if_true]
        by_cases h0 : k < 0
        · rw [if_pos h0, beadleref10_One.j0.eq_2, if_pos rfl]
        · rw [if_neg h0, decide_eq_true (by rw [List.length_map]; omega), beadleref10_One.j0.eq_2, if_pos rfl]
  · refine ⟨false, 1, ?_, ?_⟩
    · unfold win_One.f
      rw [may_n hF]; simp only [Option.bind_some, Bool.false_eq_true, if_false]
      rw [win_One.j0.eq_2, if_pos rfl]
    · have hbf : b = false := by
        cases b with
        | false => rfl
        | true => exact absurd (hb.1 rfl) hF
      unfold beadleref10_One.f
      rw [eb, hbf]; simp only [Option.bind_some, Bool.false_eq_true, if_false]
      rw [beadleref10_One.j0.eq_2, if_pos rfl]
theorem rall_l0 {m : Int} {l : List S24} (hF : Fine m l) : ∀ (d i q : Nat), 110 ≤ q → l.length - i = d → i ≤ l.length → beadleref10_All.l0 (q + d + 1) m (l.map cv) (i : Int) = some (allv m l d i, 0) := by
  have hl := hF.2.1
  intro d
  induction d with
  | zero =>
    intro i q hq hd hi
    rw [beadleref10_All.l0.eq_2, if_neg (by rw [List.length_map]; omega)]; rfl
  | succ d ih =>
    intro i q hq hd hi
    rw [show q + (d + 1) + 1 = (q + d + 1) + 1 by omega, beadleref10_All.l0.eq_2, if_pos (by rw [List.length_map]; omega), rone_f hF (by omega) (by omega)]; simp only [Option.bind_some]
    rw [allv]
    cases hb : onev m l i with
    | true => rw [if_pos rfl, wrap_nat (by omega), ih (i + 1) q hq (by omega) (by omega)]; rfl
    | false => rw [if_neg (by decide)]; rfl
theorem rall_f {m : Int} {l : List S24} {n : Nat} (hF : Fine m l) (hn : 180 ≤ n) : beadleref10_All.f n m (l.map cv) = some (fits m l, 0) := by
  have hl := hF.2.1
  obtain ⟨b, e, hb⟩ := pairs_f (m := m) (l := l) (k := n) (by omega) (by omega)
  have hbt := hb.2 hF
  subst hbt
  unfold beadleref10_All.f
  rw [e]; simp only [Option.bind_some, if_true]
  refine at_rounds (fun n => beadleref10_All.mono_l n m (l.map cv) 0) (show 110 + l.length + 1 ≤ n by omega) ?_
  exact rall_l0 hF l.length 0 110 (by omega) (by omega) (by omega)
theorem all_same {m : Int} {l : List S24} (hl : l.length ≤ 150) : ∃ a e, win_All.f 200 m l = some (a, e) ∧ beadleref10_All.f 200 m (l.map cv) = some (a, e) := by
  obtain ⟨b, eb, hb⟩ := pairs_f (m := m) (l := l) (k := 200) (by omega) (by omega)
  by_cases hF : Fine m l
  · exact ⟨_, _, all_f hF.1 hF.2.1 hF.2.2 (by omega), rall_f hF (by omega)⟩
  · refine ⟨false, 1, ?_, ?_⟩
    · unfold win_All.f
      rw [may_n hF]; simp only [Option.bind_some, Bool.false_eq_true, if_false]
    · have hbf : b = false := by
        cases b with
        | false => rfl
        | true => exact absurd (hb.1 rfl) hF
      unfold beadleref10_All.f
      rw [eb, hbf]; simp only [Option.bind_some, Bool.false_eq_true, if_false]


end Go.Proofs.Ytmjodeijafoabaa.Pure
