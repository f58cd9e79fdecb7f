/- Admit: what the printed functions of pairs and of the window test tell (no law is stated here; no condition). -/
import Derived.Test.YtmjodeijafoabaaAdB
import Derived.Test.YtmjodeijafoabaaPureAdmW
import Derived.Test.YtmjodeijafoabaaQx15
import Derived.Test.YtmjodeijafoabaaQx3
namespace Go.Proofs.Ytmjodeijafoabaa.Admit
open Go.RowKit Go.Proofs.YtmjodeijafoabaaW.PrintWords Go.Proofs.YtmjodeijafoabaaW.PrintLast Go.Proofs.YtmjodeijafoabaaW.PrintMore Go.Proofs.Ytmjodeijafoabaa.St Go.Proofs.Ytmjodeijafoabaa.Q Go.Proofs.Ytmjodeijafoabaa.Pure
set_option linter.unusedVariables false
set_option linter.unusedSimpArgs false

/-- The pairs of some. -/
def prs (l : List S37) : List S24 := l.map (·.f1)
theorem prs_len (l : List S37) : (prs l).length = l.length := List.length_map _
theorem pairs_l (l : List S37) (hl : l.length ≤ 100000) : ∀ (d j : Nat) (acc : List S24), l.length - j = d → j ≤ l.length → acc.length ≤ j → admit_pairs.l0 (d + 1) acc l (l.length : Int) (j : Int) = some (acc ++ prs (l.drop j))
  | 0, j, acc, hd, hj, ha => by
    rw [admit_pairs.l0.eq_2, if_neg (by omega), List.drop_eq_nil_of_le (by omega)]
    simp [prs]
  | d + 1, j, acc, hd, hj, ha => by
    have hw : wrap64 ((j : Int) + 1) = ((j + 1 : Nat) : Int) := by unfold wrap64; omega
    have hx : rd_T37 l (j : Int) = l.getD j z4 := by simp [rd_T37]; rfl
    rw [admit_pairs.l0.eq_2, if_pos (by omega), if_pos (by omega), if_pos (by omega), if_pos (by omega), hw, pairs_l l hl d (j + 1) _ (by omega) (by omega) (by rw [List.length_append]; simp; omega), hx, drop_at (show j < l.length by omega)]
    simp [prs]
theorem pairs_f (l : List S37) (hl : l.length ≤ 100000) : admit_pairs.f (l.length + 1) l = some (prs l) := by
  have h := pairs_l l hl l.length 0 [] (by omega) (by omega) (by simp)
  unfold admit_pairs.f
  simpa using h
/-- Whether so many CPUs are enough: what win.All answers. -/
def allR (m : Int) (l : List S24) : Bool × Int := if l.length ≤ 64 then (fits m l, 0) else (false, 1)
theorem allR_f {m : Int} {l : List S24} (hm : 1 ≤ m ∧ m ≤ 64) (h : Okl l) : win_All.f 140 m l = some (allR m l) := by
  unfold allR
  by_cases hl : l.length ≤ 64
  · rw [if_pos hl, all_f hm hl h (by omega)]
  · rw [if_neg hl]
    unfold win_All.f win_may.f
    rw [decide_eq_false hl, Bool.and_false, Bool.false_and, Option.bind_some, if_neg Bool.false_ne_true]
def fitB (m : Int) (l : List S24) : Bool := (allR m l).1 && ((allR m l).2 == 0)
theorem fitB_eq (m : Int) (l : List S24) : fitB m l = (decide (l.length ≤ 64) && fits m l) := by
  unfold fitB allR
  split
  · rename_i h; rw [decide_eq_true h]; simp
  · rename_i h; rw [decide_eq_false h]; simp
/-- A pair that win takes for good. -/
def goodP (q p : Int) : Bool := decide (1 ≤ p) && decide (p ≤ 2147483648) && decide (1 ≤ q) && decide (q ≤ p)
theorem good_f (q p : Int) : win_Good.f q p = some (goodP q p) := by
  unfold win_Good.f goodP
  by_cases h1 : 1 ≤ p
  · rw [if_pos h1, decide_eq_true h1]
    by_cases h2 : p ≤ 2147483648
    · rw [if_pos h2, decide_eq_true h2]
      by_cases h3 : 1 ≤ q
      · rw [if_pos h3, decide_eq_true h3]; simp
      · rw [if_neg h3, decide_eq_false h3]; simp
    · rw [if_neg h2, decide_eq_false h2]; simp
  · rw [if_neg h1, decide_eq_false h1]; simp
theorem good_ok {q p : Int} (h : goodP q p = true) : okv q p := by
  unfold goodP at h
  simp only [Bool.and_eq_true, decide_eq_true_eq] at h
  exact ⟨⟨h.1.1.1, h.1.1.2⟩, h.1.2, h.2⟩
end Go.Proofs.Ytmjodeijafoabaa.Admit
