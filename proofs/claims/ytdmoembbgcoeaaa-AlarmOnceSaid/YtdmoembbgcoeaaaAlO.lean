/- Alarm: AlarmOnce: what is armed, what rings, in plain lists (no law is stated here; each says its conditions). -/
import Derived.Test.YtdmoembbgcoeaaaAlR
namespace Go.Proofs.Ytdmoembbgcoeaaa.Alarm
open Go.RowKit Go.Proofs.YtdmoembbgcoeaaaW.PrintWords Go.Proofs.YtdmoembbgcoeaaaW.PrintLast Go.Proofs.YtdmoembbgcoeaaaW.PrintMore Go.Proofs.Ytdmoembbgcoeaaa.St Go.Proofs.Ytdmoembbgcoeaaa.Q Go.Proofs.Ytdmoembbgcoeaaa.Heap
set_option linter.unusedVariables false
set_option linter.unusedSimpArgs false

theorem and_mask (e : Int) : ∃ r : Nat, r ≤ 16777215 ∧ bits .and .i64 e 16777215 = (r : Int) := by
  have h : (BitVec.ofInt 64 e &&& BitVec.ofInt 64 16777215).toNat ≤ 16777215 := by
    rw [BitVec.toNat_and]
    exact Nat.le_trans Nat.and_le_right (by decide)
  refine ⟨_, h, ?_⟩
  show IntKind.i64.wrap (((BitVec.ofInt 64 e &&& BitVec.ofInt 64 16777215).toNat : Nat) : Int) = _
  generalize (BitVec.ofInt 64 e &&& BitVec.ofInt 64 16777215).toNat = r at h
  rw [IntKind.wrap_i64]
  omega
def total (hs : List (List (Int × Int))) : Nat := (hs.map List.length).sum
theorem total_set : ∀ (hs : List (List (Int × Int))) (q : Nat) (m : List (Int × Int)), q < hs.length → total (hs.set q m) + (hs.getD q []).length = total hs + m.length
  | [], q, m, h => absurd h (Nat.not_lt_zero _)
  | a :: t, 0, m, h => by simp [total]; omega
  | a :: t, q + 1, m, h => by
    have ih := total_set t q m (by simpa using h)
    simp only [total, List.set_cons_succ, List.map_cons, List.sum_cons, List.getD_cons_succ] at *
    omega
theorem len_total : ∀ (hs : List (List (Int × Int))) (q : Nat), (hs.getD q []).length ≤ total hs
  | [], q => by simp
  | a :: t, 0 => by simp [total]
  | a :: t, q + 1 => by
    have ih := len_total t q
    simp only [total, List.map_cons, List.sum_cons, List.getD_cons_succ] at *
    omega
theorem total_rep : ∀ n : Nat, total (List.replicate n []) = 0
  | 0 => rfl
  | n + 1 => by
    have ih := total_rep n
    simp only [total, List.replicate_succ, List.map_cons, List.sum_cons, List.length_nil] at *
    omega
/-- Ids below b, each at its tick, behind the tick last. -/
def Told (hs : List (List (Int × Int))) (l : List Int) (b : Nat) (last : Int) : Prop :=
  ∀ q, ∀ y ∈ hs.getD q [], ∃ k : Nat, k < b ∧ y.1 = (k : Int) ∧ y.2 = l.getD k 0 ∧ last < y.2 ∧ y.2 ≤ 1099511627776
theorem told_rep (n : Nat) (l : List Int) : Told (List.replicate n []) l 0 (-1) := fun q y hy => by rw [rep_getD] at hy; exact absurd hy List.not_mem_nil
theorem getD_same {α : Type} {hs : List α} {q : Nat} {m : α} (z : α) (h : q < hs.length) : (hs.set q m).getD q z = m := by
  rw [List.getD_eq_getElem?_getD, List.getElem?_set_self h]
  rfl
theorem getD_other {α : Type} {hs : List α} {q p : Nat} {m : α} (z : α) (h : q ≠ p) : (hs.set q m).getD p z = hs.getD p z := by
  rw [List.getD_eq_getElem?_getD, List.getElem?_set_ne h, ← List.getD_eq_getElem?_getD]
theorem arm_fine {n : Nat} {cpu b : Nat} {u : Int} (hc : cpu < n) (hb : b < 1024) (hu : 0 ≤ u ∧ u ≤ 1099511627776) : armV n 0 (cpu : Int) (b : Int) u = 0 := by
  unfold armV inr
  rw [if_neg]
  rintro (h | h | h | h | h)
  · simp at h; omega
  all_goals omega
theorem armH_is {hs : List (List (Int × Int))} {l : List Int} {cpu b : Nat} {u : Int} (hT : Told hs l b (-1)) (hc : cpu < hs.length) (hb : b < 1024) (hu : 0 ≤ u ∧ u ≤ 1099511627776) :
    armH hs 0 (cpu : Int) (b : Int) u = hs.set cpu (hs.getD cpu [] ++ [((b : Int), u)]) := by
  unfold armH
  rw [if_pos (arm_fine hc hb hu), Int.toNat_natCast]
  have h := unarm_no (m := hs.getD cpu []) (id := (b : Int)) (fun y hy e => by
    obtain ⟨k, hk, h1, _⟩ := hT cpu y hy
    rw [h1] at e
    omega)
  unfold rearm
  rw [h]
theorem told_arm {hs : List (List (Int × Int))} {l : List Int} {cpu b : Nat} {u : Int} (hT : Told hs l b (-1)) (hn : total hs = b) (hc : cpu < hs.length) (hb : b < 1024) (hu : 0 ≤ u ∧ u ≤ 1099511627776) (hl : l.getD b 0 = u) :
    Told (armH hs 0 (cpu : Int) (b : Int) u) l (b + 1) (-1) ∧ total (armH hs 0 (cpu : Int) (b : Int) u) = b + 1 ∧ (armH hs 0 (cpu : Int) (b : Int) u).length = hs.length := by
  rw [armH_is hT hc hb hu]
  refine ⟨fun q y hy => ?_, ?_, List.length_set⟩
  · by_cases e : cpu = q
    · subst e
      rw [getD_same _ hc] at hy
      rcases List.mem_append.1 hy with h | h
      · obtain ⟨k, hk, h1⟩ := hT cpu y h
        exact ⟨k, by omega, h1⟩
      · rw [List.mem_singleton] at h
        subst h
        exact ⟨b, by omega, rfl, hl.symm, by show -1 < u; omega, hu.2⟩
    · rw [getD_other _ e] at hy
      obtain ⟨k, hk, h1⟩ := hT q y hy
      exact ⟨k, by omega, h1⟩
  · have h := total_set hs cpu (hs.getD cpu [] ++ [((b : Int), u)]) hc
    rw [List.length_append] at h
    simp only [List.length_singleton] at h
    omega
theorem rest_due (m : List (Int × Int)) (t : Int) : (rest m t).length + (due m t).length = m.length := by
  unfold rest due
  induction m with
  | nil => rfl
  | cons a m ih =>
    by_cases h : t < a.2
    · rw [List.filter_cons_of_pos (by simpa using h), List.filter_cons_of_neg (by simp; omega)]
      simp only [List.length_cons]
      omega
    · rw [List.filter_cons_of_neg (by simpa using h), List.filter_cons_of_pos (by simp; omega)]
      simp only [List.length_cons]
      omega
theorem total_to (hs : List (List (Int × Int))) (t : Int) : ∀ j, j ≤ hs.length → total (restN hs t j) + (ringsN hs t j).length = total hs
  | 0, _ => by simp [restN, ringsN]
  | j + 1, h => by
    have ih := total_to hs t j (by omega)
    have h1 := total_set (restN hs t j) j (rest (hs.getD j []) t) (by rw [restN_len]; omega)
    rw [restN_get hs t j j (by omega), if_neg (Nat.lt_irrefl _)] at h1
    have h2 := rest_due (hs.getD j []) t
    rw [restN, ringsN, List.length_append, List.length_map]
    omega
theorem told_rest {hs : List (List (Int × Int))} {l : List Int} {b : Nat} {last : Int} (hT : Told hs l b last) (t : Int) : Told (restN hs t hs.length) l b t := by
  intro q y hy
  by_cases hq : q < hs.length
  · rw [restN_get hs t _ q hq, if_pos hq] at hy
    obtain ⟨h1, h2⟩ := List.mem_filter.1 hy
    obtain ⟨k, hk, e1, e2, _, e4⟩ := hT q y h1
    exact ⟨k, hk, e1, e2, by simpa using h2, e4⟩
  · rw [List.getD_eq_getElem?_getD, List.getElem?_eq_none (by rw [restN_len]; omega)] at hy
    exact absurd hy List.not_mem_nil
theorem mem_rings {hs : List (List (Int × Int))} {t : Int} : ∀ {j : Nat} {x : Int × Int × Int}, x ∈ ringsN hs t j → ∃ q, (x.2.1, x.2.2) ∈ hs.getD q [] ∧ x.2.2 ≤ t
  | 0, x, h => absurd h List.not_mem_nil
  | j + 1, x, h => by
    rw [ringsN] at h
    rcases List.mem_append.1 h with h | h
    · exact mem_rings h
    · obtain ⟨y, hy, rfl⟩ := List.mem_map.1 h
      obtain ⟨h1, h2⟩ := List.mem_filter.1 hy
      exact ⟨j, h1, by simpa [ring] using h2⟩
/-- A row that rings: each at its tick, none ahead of the last, in order. -/
def Good (out : List (Int × Int × Int)) (l : List Int) (b : Nat) (last t : Int) : Prop :=
  (∀ j, j < out.length → ∃ k : Nat, k < b ∧ (out.getD j (0, 0, 0)).2.1 = (k : Int) ∧ (out.getD j (0, 0, 0)).2.2 = l.getD k 0 ∧ last < (out.getD j (0, 0, 0)).2.2 ∧ (out.getD j (0, 0, 0)).2.2 ≤ t) ∧
    ∀ j, j + 1 < out.length → (out.getD j (0, 0, 0)).2.2 ≤ (out.getD (j + 1) (0, 0, 0)).2.2
theorem good_to {hs : List (List (Int × Int))} {l : List Int} {b : Nat} {last : Int} (hT : Told hs l b last) (t : Int) (n : Nat) : Good (inOrder (ringsN hs t n)) l b last t := by
  constructor
  · intro j hj
    have hm : (inOrder (ringsN hs t n)).getD j (0, 0, 0) ∈ inOrder (ringsN hs t n) := getD_mem _ hj
    obtain ⟨q, h1, h2⟩ := mem_rings ((List.mergeSort_perm _ _).mem_iff.1 hm)
    obtain ⟨k, hk, e1, e2, e3, _⟩ := hT q _ h1
    exact ⟨k, hk, e1, e2, e3, h2⟩
  · intro j hj
    have hs : (inOrder (ringsN hs t n)).Pairwise (fun x y => (!(ltOf cfR y x)) = true) := List.pairwise_mergeSort (fun x y z h1 h2 => by
      have k1 : ¬ bef y x := (lt_nbef _ _).1 (by simpa using h1)
      have k2 : ¬ bef z y := (lt_nbef _ _).1 (by simpa using h2)
      have k3 : ¬ bef z x := by unfold bef at *; omega
      simpa using (lt_nbef _ _).2 k3) (fun x y => by
      cases h1 : ltOf cfR y x with
      | false => simp
      | true =>
        have k1 := (lt_bef _ _).1 h1
        have k2 : ltOf cfR x y = false := (lt_nbef _ _).2 (by unfold bef at *; omega)
        simp [k2]) _
    have h := List.pairwise_iff_getElem.1 hs j (j + 1) (by omega) hj (by omega)
    rw [List.getD_eq_getElem?_getD, List.getElem?_eq_getElem (by omega), List.getD_eq_getElem?_getD, List.getElem?_eq_getElem hj]
    have k1 := (lt_nbef _ _).1 (show ltOf cfR _ _ = false by simpa using h)
    unfold bef at k1
    show ((inOrder (ringsN _ t n))[j]).2.2 ≤ ((inOrder (ringsN _ t n))[j + 1]).2.2
    omega
theorem total_zero : ∀ {hs : List (List (Int × Int))}, (∀ q, hs.getD q [] = []) → total hs = 0
  | [], _ => rfl
  | a :: t, h => by
    have h0 : a = [] := h 0
    have ih := total_zero (hs := t) (fun q => h (q + 1))
    subst h0
    simp only [total, List.map_cons, List.sum_cons, List.length_nil] at *
    omega
theorem none_left {hs : List (List (Int × Int))} {l : List Int} {b : Nat} (hT : Told hs l b 2199023255552) : total hs = 0 := by
  refine total_zero (fun q => ?_)
  refine List.eq_nil_iff_forall_not_mem.2 (fun y hy => ?_)
  obtain ⟨k, _, _, _, h1, h2⟩ := hT q y hy
  omega
theorem order_len (l : List (Int × Int × Int)) : (inOrder l).length = l.length := List.length_mergeSort _
end Go.Proofs.Ytdmoembbgcoeaaa.Alarm
