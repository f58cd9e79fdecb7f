/- Sequences of numbers; sums of turns (no law is stated here; no condition). -/
import Derived.Test.YtmjmfkbdnhdafaaAwakeR
namespace Go.Proofs.Ytmjmfkbdnhdafaa.Robin
open Go.RowKit Go.Proofs.YtmjmfkbdnhdafaaW.PrintWords Go.Proofs.YtmjmfkbdnhdafaaW.PrintLast Go.Proofs.YtmjmfkbdnhdafaaW.PrintMore Go.Proofs.Ytmjmfkbdnhdafaa.St Go.Proofs.Ytmjmfkbdnhdafaa.Q Go.Proofs.Ytmjmfkbdnhdafaa.Fifo
set_option linter.unusedVariables false
set_option linter.unusedSimpArgs false
attribute [local go_sem] max2_int min2_int max_two min_two max_three min_three max_four min_four


/-- Numbers from one on. -/
def seqI : Int → Nat → List Int
  | _, 0 => []
  | a, m + 1 => a :: seqI (a + 1) m
theorem seq_len : ∀ (m : Nat) (a : Int), (seqI a m).length = m
  | 0, _ => rfl
  | m + 1, a => by rw [seqI, List.length_cons, seq_len m]
theorem seq_mem : ∀ (m : Nat) (a x : Int), x ∈ seqI a m ↔ a ≤ x ∧ x < a + m
  | 0, a, x => ⟨fun h => (by cases h), fun h => by omega⟩
  | m + 1, a, x => by
    rw [seqI, List.mem_cons, seq_mem m]
    omega
theorem seq_snoc : ∀ (m : Nat) (a : Int), seqI a m ++ [a + m] = seqI a (m + 1)
  | 0, a => by simp [seqI]
  | m + 1, a => by
    have h := seq_snoc m (a + 1)
    rw [seqI, List.cons_append, show a + ((m + 1 : Nat) : Int) = a + 1 + (m : Int) by omega, h]
    rfl

/-- The sum of the first j ones' turns. -/
def sumv (whole : Int) (rest : Nat) : Nat → Int
  | 0 => 0
  | j + 1 => sumv whole rest j + (whole + if j < rest then 1 else 0)
theorem sumv_bd {whole : Int} {rest : Nat} (h0 : 0 ≤ whole) (h1 : whole ≤ 281474976710656) : ∀ j, 0 ≤ sumv whole rest j ∧ sumv whole rest j ≤ j * 281474976710657
  | 0 => ⟨Int.le_refl _, Int.le_refl _⟩
  | j + 1 => by
    have := sumv_bd (rest := rest) h0 h1 j
    rw [sumv]
    split <;> omega
theorem sumv_eq (whole : Int) (rest : Nat) : ∀ j, sumv whole rest j = whole * j + (if j < rest then (j : Int) else (rest : Int))
  | 0 => by
    rw [sumv]
    by_cases h : 0 < rest
    · rw [if_pos h]; simp
    · rw [if_neg h]; simp; omega
  | j + 1 => by
    rw [sumv, sumv_eq whole rest j]
    have e : whole * ((j + 1 : Nat) : Int) = whole * (j : Int) + whole := by rw [Int.natCast_add, Int.mul_add]; simp
    rw [e]
    split <;> split <;> omega
theorem many_sum (n t : Int) (l : List Int) (h0 : 0 < l.length) : sumv (wholeOf n t l) (restOf n t l) l.length = (heldN n l : Int) * clampT t := by
  have hp : (0 : Int) < (l.length : Int) := by omega
  have e0 : 0 ≤ (heldN n l : Int) * clampT t := Int.mul_nonneg (by omega) (clampT_le t).1
  have e2 := Int.emod_nonneg ((heldN n l : Int) * clampT t) (show (l.length : Int) ≠ 0 by omega)
  have e3 := Int.emod_lt_of_pos ((heldN n l : Int) * clampT t) hp
  rw [sumv_eq]
  have hr : (restOf n t l : Int) = (heldN n l : Int) * clampT t % (l.length : Int) := by unfold restOf; omega
  rw [if_neg (by omega), hr, wholeOf]
  have := Int.emod_add_mul_ediv ((heldN n l : Int) * clampT t) (l.length : Int)
  generalize (heldN n l : Int) * clampT t = X at *
  rw [Int.mul_comm (l.length : Int)] at this
  omega
theorem whole_bd (n t : Int) (l : List Int) (h0 : 0 < l.length) : 0 ≤ wholeOf n t l ∧ wholeOf n t l ≤ 1099511627776 := by
  have ht := clampT_le t
  have hh := held_le n l
  have e0 : 0 ≤ (heldN n l : Int) * clampT t := Int.mul_nonneg (by omega) ht.1
  have hp : (0 : Int) < (l.length : Int) := by omega
  refine ⟨Int.ediv_nonneg e0 (by omega), ?_⟩
  have e1 : (heldN n l : Int) * clampT t ≤ (l.length : Int) * 1099511627776 := Int.mul_le_mul (by omega) ht.2 ht.1 (by omega)
  have e2 : wholeOf n t l ≤ (l.length : Int) * 1099511627776 / (l.length : Int) := Int.ediv_le_ediv hp e1
  rw [Int.mul_ediv_cancel_left _ (by omega)] at e2
  exact e2
end Go.Proofs.Ytmjmfkbdnhdafaa.Robin
