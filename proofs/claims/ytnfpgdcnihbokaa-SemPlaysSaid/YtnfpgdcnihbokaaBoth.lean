/- What the sem and the document's own one answer, both told at once (no law is stated here; each says its conditions). -/
import Derived.Test.YtnfpgdcnihbokaaOneS
import Derived.Test.YtnfpgdcnihbokaaRSem
namespace Go.Proofs.Ytnfpgdcnihbokaa.Sem
open Go.RowKit Go.Proofs.YtnfpgdcnihbokaaW.PrintWords Go.Proofs.YtnfpgdcnihbokaaW.PrintLast Go.Proofs.YtnfpgdcnihbokaaW.PrintMore Go.Proofs.Ytnfpgdcnihbokaa.St Go.Proofs.Ytnfpgdcnihbokaa.Q Go.Proofs.Ytnfpgdcnihbokaa.Fifo
set_option linter.unusedVariables false
set_option linter.unusedSimpArgs false

/-- A call on the sem (colour 0) that answers r and leaves x'. -/
def SC (fn : Nat) (id : Int) (x x' : Int × Int × Bool × List Int) (r : Value) : Prop :=
  ∀ (w0 W : World) (c : Nat → Nat) (v : Value), sem.M W w0.heap.size (fun k => c k = 0) x v → Calls Try.prog fn #[v, .int .i64 id] W fun e w' => e = .returned r ∧ ∃ c', sem.M w' w0.heap.size (fun k => c' k = 0) x' v ∧ Turned c c' 0 w0 W w'
/-- A call on the document's own (colour 1). -/
def RC (fn : Nat) (id : Int) (x x' : Int × Bool × List Int) (r : Value) : Prop :=
  ∀ (w0 W : World) (c : Nat → Nat) (v : Value), rsem.M W w0.heap.size (fun k => c k = 1) x v → Calls Try.prog fn #[v, .int .i64 id] W fun e w' => e = .returned r ∧ ∃ c', rsem.M w' w0.heap.size (fun k => c' k = 1) x' v ∧ Turned c c' 1 w0 W w'
theorem rsem_size {w0 W : World} {ok : Nat → Prop} {x : Int × Bool × List Int} {v : Value} (hM : rsem.M W w0.heap.size ok x v) : w0.heap.size ≤ W.heap.size := by
  obtain ⟨g, sv, _, _, h2, h3, _⟩ := hM
  omega
theorem toRC {w0 W : World} {c : Nat → Nat} {i : Nat} {v : Value} {x' : Int × Bool × List Int} {fn : Nat} {args : Array Value} {r : Value} {x : Int × Bool × List Int} (hM : rsem.M W w0.heap.size (fun k => c k = i) x v)
    (hc : Calls Try.prog fn args W fun e w' => e = .returned r ∧ rsem.M w' w0.heap.size (more W (mineOf c i w0)) x' v ∧ Wrote W w' (mineOf c i w0)) :
    Calls Try.prog fn args W fun e w' => e = .returned r ∧ ∃ c', rsem.M w' w0.heap.size (fun k => c' k = i) x' v ∧ Turned c c' i w0 W w' :=
  hc.mono fun e w' ⟨he, h1, h2⟩ => ⟨he, turned (rsem.mono (fun k hk => hk) h1) h2 (rsem_size hM)⟩
section
variable {h : Int} {d : Bool} {q : List Int}
theorem ask_both (id : Int) (hI : Inv h d q) (hl : q.length ≤ 63) : ∃ (r : Bool) (e h' : Int) (d' : Bool) (q' : List Int), Inv h' d' q' ∧
    SC 9 id (7, h, d, q) (7, h', d', q') (.tuple #[.bool r, .int .i64 e]) ∧ RC 16 id (h, d, q) (h', d', q') (.tuple #[.bool r, .int .i64 e]) := by
  by_cases c1 : id < 0
  · exact ⟨_, _, _, _, _, hI, fun w0 W c v hM => toC hM (fun _ hk => hk) (ask_neg id (St.mine (s := sem) hM) c1), fun w0 W c v hM => toRC hM (rask_neg id (St.mine (s := rsem) hM) c1)⟩
  by_cases c3 : h = id
  · exact ⟨_, _, _, _, _, hI, fun w0 W c v hM => toC hM (fun _ hk => hk) (ask_busy id (St.mine (s := sem) hM) c1 (by rw [ahead_held c1 c3]; omega)), fun w0 W c v hM => toRC hM (rask_held id (St.mine (s := rsem) hM) c1 c3)⟩
  by_cases c4 : id ∈ q
  · exact ⟨_, _, _, _, _, hI, fun w0 W c v hM => toC hM (fun _ hk => hk) (ask_busy id (St.mine (s := sem) hM) c1 (by rw [ahead_in c1 c3 c4, placeOf_in c4]; omega)), fun w0 W c v hM => toRC hM (rask_in id (St.mine (s := rsem) hM) c1 c3 c4 hl)⟩
  have c2 : aheadOf h q id = -1 := ahead_out c1 c3 c4
  by_cases c5 : h = -1
  · have hq := hI.2.2.2.2.1 c5
    exact ⟨_, _, _, _, _, ⟨by omega, hI.2.1, c4, hI.2.2.2.1, fun _ => hq, fun hx => by cases hx⟩, fun w0 W c v hM => toC hM (fun _ hk => hk) (ask_take id (St.mine (s := sem) hM) c1 c2 c5), fun w0 W c v hM => toRC hM (rask_take id (St.mine (s := rsem) hM) c1 c3 c4 hl (by omega))⟩
  have c7 : ¬ h < 0 := by have := hI.1; omega
  by_cases c6 : (q.length : Int) = 63
  · exact ⟨_, _, _, _, _, hI, fun w0 W c v hM => toC hM (fun _ hk => hk) (ask_full id (St.mine (s := sem) hM) c1 c2 c5 c6), fun w0 W c v hM => toRC hM (rask_full id (St.mine (s := rsem) hM) c1 c3 c4 hl c7 (by omega))⟩
  · refine ⟨_, _, _, _, _, ?_, fun w0 W c v hM => toC hM (fun _ hk => hk) (ask_wait id (St.mine (s := sem) hM) c1 c2 c5 c6), fun w0 W c v hM => toRC hM (rask_wait id (St.mine (s := rsem) hM) c1 c3 c4 c7 (by omega))⟩
    refine ⟨hI.1, ?_, ?_, ?_, fun hh => absurd hh c5, hI.2.2.2.2.2⟩
    · rw [List.nodup_append]
      exact ⟨hI.2.1, by simp, fun a ha b hb => by simp at hb; subst hb; exact fun e => c4 (e ▸ ha)⟩
    · rw [List.mem_append]
      rintro (hh | hh)
      · exact hI.2.2.1 hh
      · simp at hh; exact c3 hh
    · intro x hx
      rw [List.mem_append] at hx
      rcases hx with hx | hx
      · exact hI.2.2.2.1 x hx
      · simp at hx; omega
theorem rfree_C (id : Int) (hI : Inv h d q) : RC 17 id (h, d, q) (if id < 0 ∨ h ≠ id then h else nxt q, d, if id < 0 ∨ h ≠ id then q else q.tail) (.tuple #[.int .i64 (if id < 0 ∨ h ≠ id then 0 else nxt q), .int .i64 (if id < 0 ∨ h ≠ id then 4 else 0)]) := by
  intro w0 W c v hM
  by_cases c1 : id < 0
  · simp only [if_pos (Or.inl c1 : id < 0 ∨ h ≠ id)]
    exact toRC hM (rfree_neg id (St.mine (s := rsem) hM) c1)
  by_cases c2 : h = id
  · have c3 : ¬ (id < 0 ∨ h ≠ id) := fun hh => hh.elim c1 (fun e => e c2)
    simp only [if_neg c3]
    cases q with
    | nil => exact toRC hM (rfree_none id (St.mine (s := rsem) hM) c1 c2)
    | cons x t => exact toRC hM (rfree_some id (St.mine (s := rsem) hM) c1 c2)
  · simp only [if_pos (Or.inr c2 : id < 0 ∨ h ≠ id)]
    exact toRC hM (rfree_bad id (St.mine (s := rsem) hM) c1 c2)
theorem free_both (id : Int) (hI : Inv h d q) : ∃ (n e h' : Int) (d' : Bool) (q' : List Int), Inv h' d' q' ∧
    SC 13 id (7, h, d, q) (7, h', d', q') (.tuple #[.int .i64 n, .bool false, .int .i64 e]) ∧ RC 17 id (h, d, q) (h', d', q') (.tuple #[.int .i64 n, .int .i64 e]) := by
  have hR := rfree_C id hI
  by_cases c1 : id < 0 ∨ h ≠ id
  · simp only [if_pos c1] at hR
    exact ⟨_, _, _, _, _, hI, fun w0 W c v hM => toC hM (fun _ hk => Or.inl hk) (free_none id (St.mine (s := sem) hM) c1), hR⟩
  · have c2 : ¬ id < 0 := fun hh => c1 (Or.inl hh)
    have c3 : h = id := Classical.byContradiction (fun hh => c1 (Or.inr hh))
    simp only [if_neg c1] at hR
    exact ⟨_, _, _, _, _, (inv_next hI (by omega)).1, fun w0 W c v hM => toC hM (fun _ hk => Or.inl hk) (free_ok id (St.mine (s := sem) hM) c2 c3), hR⟩
/-- Thrown out: either the document's flag is set behind it, or it stands. -/
theorem throw_both (id : Int) (hI : Inv h d q) : ∃ (n e h' : Int) (d' dd : Bool) (q' : List Int), Inv h' d' q' ∧
    SC 12 id (7, h, d, q) (7, h', d', q') (.tuple #[.int .i64 n, .bool dd, .int .i64 e]) ∧ RC 17 id (h, d, q) (h', d, q') (.tuple #[.int .i64 n, .int .i64 e]) ∧
    ((e = 0 ∧ n < 0 ∧ dd = false ∧ d' = true) ∨ (e = 0 ∧ ¬ n < 0 ∧ dd = true ∧ d' = d) ∨ (¬ e = 0 ∧ dd = false ∧ d' = d)) := by
  have hR := rfree_C id hI
  by_cases c1 : id < 0 ∨ h ≠ id
  · simp only [if_pos c1] at hR
    exact ⟨_, _, _, _, _, _, hI, fun w0 W c v hM => toC hM (fun _ hk => Or.inl hk) (throw_none id (St.mine (s := sem) hM) c1), hR, Or.inr (Or.inr ⟨by decide, rfl, rfl⟩)⟩
  · have c2 : ¬ id < 0 := fun hh => c1 (Or.inl hh)
    have c3 : h = id := Classical.byContradiction (fun hh => c1 (Or.inr hh))
    simp only [if_neg c1] at hR
    refine ⟨_, _, _, _, _, _, (inv_next hI (by omega)).2, fun w0 W c v hM => toC hM (fun _ hk => Or.inl hk) (throw_ok id (St.mine (s := sem) hM) c2 c3), hR, ?_⟩
    cases q with
    | nil => exact Or.inl ⟨rfl, by decide, rfl, rfl⟩
    | cons x t =>
      have hx := hI.2.2.2.1 x List.mem_cons_self
      have e : (x == -1) = false := beq_eq_false_iff_ne.mpr (by omega)
      have hd : d = false := by
        cases d with
        | false => rfl
        | true => have := hI.2.2.2.2.2 rfl; omega
      refine Or.inr (Or.inl ⟨rfl, by show ¬ x < 0; omega, ?_, ?_⟩)
      · show (!(x == -1)) = true
        rw [e]; rfl
      · show (x == -1) = d
        rw [e, hd]
end
/-- The place found so far, counted from one. -/
def atOf (q : List Int) (id : Int) (n : Nat) : Int := if id ∈ q.take n then (q.idxOf id : Int) + 1 else -1
theorem at_zero (q : List Int) (id : Int) : atOf q id 0 = -1 := by simp [atOf]
theorem at_hit {h : Int} {d : Bool} {q : List Int} {id : Int} (hI : Inv h d q) {n : Nat} (hn : n < q.length) (he : q.getD n 0 = id) : atOf q id (n + 1) = (n : Int) + 1 := by
  have hg : q[n]? = some id := by rw [← he, List.getD_eq_getElem?_getD, List.getElem?_eq_getElem hn]; rfl
  have hm : id ∈ q.take (n + 1) := by rw [List.take_add_one, hg]; simp
  have hmq : id ∈ q := List.mem_of_mem_take hm
  have hi : q.idxOf id < q.length := List.idxOf_lt_length_of_mem hmq
  have hgi : q.getD (q.idxOf id) 0 = id := by
    rw [List.getD_eq_getElem?_getD, List.getElem?_eq_getElem hi]
    exact List.getElem_idxOf hi
  have : q.idxOf id = n := by
    rcases Nat.lt_trichotomy (q.idxOf id) n with h1 | h1 | h1
    · exact absurd (hgi.trans he.symm) (inv_ne hI h1 hn)
    · exact h1
    · exact absurd (he.trans hgi.symm) (inv_ne hI h1 hi)
  rw [atOf, if_pos hm, this]
theorem at_miss {q : List Int} {id : Int} {n : Nat} (hn : n < q.length) (he : ¬ q.getD n 0 = id) : atOf q id (n + 1) = atOf q id n := by
  have hg : q[n]? = some (q.getD n 0) := by rw [List.getD_eq_getElem?_getD, List.getElem?_eq_getElem hn]; rfl
  unfold atOf
  by_cases c : id ∈ q.take n
  · rw [if_pos c, if_pos (by rw [List.take_add_one]; exact List.mem_append_left _ c)]
  · rw [if_neg c, if_neg]
    rw [List.take_add_one, hg, List.mem_append]
    rintro (hh | hh)
    · exact c hh
    · simp at hh; exact he hh.symm
theorem at_end {h : Int} {d : Bool} {q : List Int} (hI : Inv h d q) (id : Int) : (if h = id ∧ 0 ≤ id then 0 else atOf q id q.length) = aheadOf h q id := by
  unfold atOf
  rw [List.take_length]
  by_cases c : id < 0
  · rw [ahead_neg c, if_neg (by omega), if_neg (fun hm => by have := hI.2.2.2.1 _ hm; omega)]
  · by_cases c2 : h = id
    · rw [ahead_held c c2, if_pos ⟨c2, by omega⟩]
    · by_cases c3 : id ∈ q
      · rw [ahead_in c c2 c3, placeOf_in c3, if_neg (fun hh => c2 hh.1), if_pos c3]
      · rw [ahead_out c c2 c3, if_neg (fun hh => c2 hh.1), if_neg c3]
end Go.Proofs.Ytnfpgdcnihbokaa.Sem
