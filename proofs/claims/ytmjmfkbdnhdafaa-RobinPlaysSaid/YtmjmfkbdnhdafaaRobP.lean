/- RobinPlays: how often each was taken in many turns; who stands where; in plain words (no law is stated here; no condition). -/
import Derived.Test.YtmjmfkbdnhdafaaMany
import Derived.Test.YtmjmfkbdnhdafaaSums
namespace Go.Proofs.Ytmjmfkbdnhdafaa.Robin
open Go.RowKit Go.Proofs.YtmjmfkbdnhdafaaW.PrintWords Go.Proofs.YtmjmfkbdnhdafaaW.PrintLast Go.Proofs.YtmjmfkbdnhdafaaW.PrintMore Go.Proofs.Ytmjmfkbdnhdafaa.St Go.Proofs.Ytmjmfkbdnhdafaa.Q Go.Proofs.Ytmjmfkbdnhdafaa.Fifo
set_option linter.unusedVariables false
set_option linter.unusedSimpArgs false

theorem eq_of_get {xs ys : List Int} (hl : xs.length = ys.length) (h : ∀ j, j < ys.length → xs.getD j 0 = ys.getD j 0) : xs = ys := by
  apply List.ext_getElem hl
  intro j h1 h2
  have := h j h2
  rwa [List.getD_eq_getElem?_getD, List.getD_eq_getElem?_getD, List.getElem?_eq_getElem h1, List.getElem?_eq_getElem h2] at this
/-- A row turned by r. -/
def turned_ (l : List Int) (r : Nat) : List Int := l.drop r ++ l.take r
theorem turned_len (l : List Int) (r : Nat) : (turned_ l r).length = l.length := by
  unfold turned_
  rw [List.length_append, List.length_drop, List.length_take]
  omega
theorem turned_zero (l : List Int) : turned_ l 0 = l := by unfold turned_; simp
theorem turned_get {l : List Int} {r k : Nat} (hr : r ≤ l.length) (hk : k < l.length) : (turned_ l r).getD k 0 = l.getD ((r + k) % l.length) 0 := by
  unfold turned_
  rw [List.getD_eq_getElem?_getD, List.getD_eq_getElem?_getD, List.getElem?_append]
  by_cases h : r + k < l.length
  · rw [if_pos (by rw [List.length_drop]; omega), List.getElem?_drop, Nat.mod_eq_of_lt h]
  · rw [if_neg (by rw [List.length_drop]; omega), List.length_drop, List.getElem?_take_of_lt (by omega), Nat.mod_eq_sub_mod (by omega), Nat.mod_eq_of_lt (by omega)]
    congr 2
    omega
theorem turned_more {l : List Int} {P n : Nat} (h0 : 0 < l.length) (hn : n ≤ l.length) : turned_ (turned_ l (P % l.length)) n = turned_ l ((P + n) % l.length) := by
  have h1 := Nat.mod_lt P h0
  have h2 := Nat.mod_lt (P + n) h0
  refine eq_of_get (by rw [turned_len, turned_len, turned_len]) (fun k hk => ?_)
  rw [turned_len] at hk
  have h3 := Nat.mod_lt (n + k) h0
  rw [turned_get (by rw [turned_len]; exact hn) (by rw [turned_len]; exact hk), turned_len, turned_get (by omega) h3, turned_get (by omega) hk]
  congr 1
  rw [← Nat.add_mod, Nat.mod_add_mod]
  congr 1
  omega
theorem turned_perm (l : List Int) (r : Nat) : (turned_ l r).Perm l := by
  have := List.perm_append_comm (l₁ := l.drop r) (l₂ := l.take r)
  rwa [List.take_append_drop] at this
theorem turned_nodup {l : List Int} (h : l.Nodup) (r : Nat) : (turned_ l r).Nodup := (turned_perm l r).nodup_iff.2 h
theorem turned_mem {l : List Int} {r : Nat} {x : Int} (h : x ∈ turned_ l r) : x ∈ l := (turned_perm l r).mem_iff.1 h
/-- How often each was counted, P turns taken. -/
def Cnt (l : List Int) (P : Nat) (f : Int → Int) : Prop := ∀ k, k < l.length → f (l.getD k 0) = ((P / l.length : Nat) : Int) + if k < P % l.length then 1 else 0
theorem cnt_zero {l : List Int} (h0 : 0 < l.length) : Cnt l 0 (fun _ => 0) := fun k hk => by simp
theorem nodup_get {l : List Int} (h : l.Nodup) {i j : Nat} (hi : i < l.length) (hj : j < l.length) (e : l.getD i 0 = l.getD j 0) : i = j := by
  rw [List.getD_eq_getElem?_getD, List.getD_eq_getElem?_getD, List.getElem?_eq_getElem hi, List.getElem?_eq_getElem hj] at e
  exact (List.getElem_inj h).1 e
theorem div_step {L P : Nat} (h0 : 0 < L) : (P % L + 1 < L ∧ (P + 1) / L = P / L ∧ (P + 1) % L = P % L + 1) ∨ (P % L + 1 = L ∧ (P + 1) / L = P / L + 1 ∧ (P + 1) % L = 0) := by
  have h1 := Nat.mod_lt P h0
  have h2 := Nat.div_add_mod P L
  by_cases h : P % L + 1 < L
  · have h3 := (Nat.div_mod_unique (a := P + 1) (b := L) (c := P % L + 1) (d := P / L) h0).2 ⟨by omega, h⟩
    exact Or.inl ⟨h, h3.1, h3.2⟩
  · have h4 : L * (P / L + 1) = L * (P / L) + L := by rw [Nat.mul_add, Nat.mul_one]
    have h3 := (Nat.div_mod_unique (a := P + 1) (b := L) (c := 0) (d := P / L + 1) h0).2 ⟨by omega, h0⟩
    exact Or.inr ⟨by omega, h3.1, h3.2⟩
theorem cnt_step {l : List Int} {P : Nat} {f g : Int → Int} {a : Int} (hn : l.Nodup) (h0 : 0 < l.length) (h : Cnt l P f) (ha : l.getD (P % l.length) 0 = a) (h1 : g a = f a + 1) (h2 : ∀ b, b ≠ a → g b = f b) : Cnt l (P + 1) g := by
  intro k hk
  have hp := Nat.mod_lt P h0
  have hk2 := h k hk
  by_cases e : k = P % l.length
  · subst e
    rw [ha] at hk2 ⊢
    rw [h1, hk2]
    rcases div_step (P := P) h0 with ⟨g1, g2, g3⟩ | ⟨g1, g2, g3⟩
    · rw [g2, g3, if_neg (by omega), if_pos (by omega)]; omega
    · rw [g2, g3, if_neg (by omega), if_neg (by omega)]; omega
  · have hne : l.getD k 0 ≠ a := fun c => e (nodup_get hn hk hp (c.trans ha.symm))
    rw [h2 _ hne, hk2]
    rcases div_step (P := P) h0 with ⟨g1, g2, g3⟩ | ⟨g1, g2, g3⟩
    · rw [g2, g3]
      by_cases c : k < P % l.length
      · rw [if_pos c, if_pos (by omega)]
      · rw [if_neg c, if_neg (by omega)]
    · rw [g2, g3, if_pos (by omega), if_neg (by omega)]; omega
theorem cnt_val {l : List Int} {P : Nat} {f : Int → Int} (h : Cnt l P f) {k : Nat} (hk : k < l.length) : 0 ≤ f (l.getD k 0) ∧ f (l.getD k 0) ≤ P + 1 := by
  rw [h k hk]
  have h1 := Nat.div_le_self P l.length
  generalize P / l.length = d at *
  generalize P % l.length = e at *
  split <;> omega
/-- So many turns at once. -/
theorem many_turns {l : List Int} {n t : Int} {T : Nat} (hT : clampT t = (T : Int)) : wholeOf n t l = ((T * heldN n l / l.length : Nat) : Int) ∧ restOf n t l = T * heldN n l % l.length := by
  unfold wholeOf restOf
  rw [hT]
  have e : (heldN n l : Int) * (T : Int) = ((T * heldN n l : Nat) : Int) := by rw [Nat.mul_comm, Int.natCast_mul]
  rw [e]
  exact ⟨(Int.natCast_ediv _ _).symm, by rw [← Int.natCast_emod, Int.toNat_natCast]⟩
/-- The law's own search. -/
def atUp (q : List Int) (x : Int) : Nat → Int
  | 0 => -1
  | k + 1 => if q.getD k 0 = x then (k : Int) else atUp q x k
theorem at_none {q : List Int} {x : Int} : ∀ k, (∀ i, i < k → q.getD i 0 ≠ x) → atUp q x k = -1
  | 0, _ => rfl
  | k + 1, h => by rw [atUp, if_neg (h k (by omega))]; exact at_none k (fun i hi => h i (by omega))
theorem at_one {q : List Int} {x : Int} {t : Nat} (ht : q.getD t 0 = x) : ∀ k, k ≤ q.length → t < k → q.Nodup → atUp q x k = (t : Int)
  | 0, _, h, _ => absurd h (Nat.not_lt_zero _)
  | k + 1, hk, h, hn => by
    rw [atUp]
    by_cases e : q.getD k 0 = x
    · rw [if_pos e, nodup_get hn (show k < q.length by omega) (show t < q.length by omega) (e.trans ht.symm)]
    · rw [if_neg e]
      have : t ≠ k := fun g => e (g ▸ ht)
      exact at_one ht k (by omega) (by omega) hn
theorem at_end {q : List Int} (hn : q.Nodup) (x : Int) : (x ∈ q ∧ atUp q x q.length = (q.idxOf x : Int) ∧ q.idxOf x < q.length) ∨ (x ∉ q ∧ atUp q x q.length = -1) := by
  by_cases h : x ∈ q
  · have h1 := List.idxOf_lt_length_of_mem h
    refine Or.inl ⟨h, at_one ?_ q.length (Nat.le_refl _) h1 hn, h1⟩
    rw [List.getD_eq_getElem?_getD, List.getElem?_eq_getElem h1, List.getElem_idxOf h1]
    rfl
  · refine Or.inr ⟨h, at_none _ (fun i hi e => h ?_)⟩
    rw [List.getD_eq_getElem?_getD, List.getElem?_eq_getElem hi] at e
    rw [← e]
    exact List.getElem_mem hi
theorem erase_parts {q : List Int} {v : Int} (h : v ∈ q) : q.take (q.idxOf v) ++ q.drop (q.idxOf v + 1) = q.erase v := by
  rw [List.erase_eq_eraseIdx_of_idxOf rfl, List.eraseIdx_eq_take_drop_succ]
theorem nodup_snoc {q : List Int} {x : Int} (h : q.Nodup) (hx : x ∉ q) : (q ++ [x]).Nodup := by
  rw [List.nodup_append]
  exact ⟨h, List.nodup_cons.2 ⟨List.not_mem_nil, List.nodup_nil⟩, fun a ha b hb e => hx (by rw [List.mem_singleton] at hb; rw [← hb, ← e]; exact ha)⟩
/-- A number held to those that are there. -/
theorem held_cases (n : Int) (q : List Int) : (n < 0 ∧ heldN n q = 0) ∨ (0 ≤ n ∧ (q.length : Int) < n ∧ heldN n q = q.length) ∨ (0 ≤ n ∧ n ≤ (q.length : Int) ∧ (heldN n q : Int) = n) := by
  unfold heldN
  split
  · exact Or.inl ⟨by assumption, rfl⟩
  · split
    · exact Or.inr (Or.inl ⟨by omega, by assumption, rfl⟩)
    · exact Or.inr (Or.inr ⟨by omega, by omega, by omega⟩)
theorem held_all {q : List Int} (h : q.length ≤ 256) : heldN 1000 q = q.length := by
  unfold heldN
  rw [if_neg (by omega)]
  split <;> omega
end Go.Proofs.Ytmjmfkbdnhdafaa.Robin
