/- Rank, in plain words: ids are in range and no two alike; taken from one CPU and put on another (no program here). -/
import Derived.Test.YtjeflmdfnfgacaaRankC
namespace Go.Proofs.Ytjeflmdfnfgacaa.Rank
open Go.RowKit Go.Proofs.YtjeflmdfnfgacaaW.PrintWords Go.Proofs.YtjeflmdfnfgacaaW.PrintLast Go.Proofs.YtjeflmdfnfgacaaW.PrintMore Go.Proofs.Ytjeflmdfnfgacaa.St Go.Proofs.Ytjeflmdfnfgacaa.Q Go.Proofs.Ytjeflmdfnfgacaa.Heap
set_option linter.unusedVariables false
set_option linter.unusedSimpArgs false

theorem has_iff {s : List (Option Ent)} {id : Int} {t : Nat} : hasId s id t = true ↔ ∃ e, s.getD t none = some e ∧ e.1 = id := by
  unfold hasId
  cases h : s.getD t none with
  | none => simp
  | some e => simp
theorem wv_cases (s : List (Option Ent)) (id : Int) : (∃ t, t < s.length ∧ hasId s id t = true ∧ wv s id = ((t : Int), true)) ∨ ((∀ i, i < s.length → hasId s id i = false) ∧ wv s id = (0, false)) := by
  unfold wv
  cases h : (List.range s.length).find? (hasId s id) with
  | none =>
    refine Or.inr ⟨fun i hi => ?_, rfl⟩
    have := List.find?_eq_none.1 h i (List.mem_range.2 hi)
    simpa using this
  | some t => exact Or.inl ⟨t, List.mem_range.1 (List.mem_of_find?_eq_some h), List.find?_some h, rfl⟩
theorem set_get (s : List (Option Ent)) (j i : Nat) (o : Option Ent) (hj : j < s.length) : (s.set j o).getD i none = if i = j then o else s.getD i none := by
  rw [List.getD_eq_getElem?_getD, List.getD_eq_getElem?_getD, List.getElem?_set]
  by_cases h : j = i
  · rw [if_pos h, if_pos h.symm, if_pos hj]
    rfl
  · rw [if_neg h, if_neg (fun e => h e.symm)]
theorem get_lt {s : List (Option Ent)} {i : Nat} {e : Ent} (h : s.getD i none = some e) : i < s.length := by
  apply Classical.byContradiction
  intro g
  rw [List.getD_eq_getElem?_getD, List.getElem?_eq_none (by omega)] at h
  cases h
structure Good (s : List (Option Ent)) : Prop where
  id : ∀ i e, s.getD i none = some e → 0 ≤ e.1 ∧ e.1 < 1024
  uniq : ∀ i j e e', s.getD i none = some e → s.getD j none = some e' → e.1 = e'.1 → i = j
theorem good_new (n : Nat) : Good (List.replicate n none) := by
  have h : ∀ i e, (List.replicate n (none : Option Ent)).getD i none = some e → False := by
    intro i e h
    rw [List.getD_eq_getElem?_getD, List.getElem?_replicate] at h
    split at h <;> cases h
  exact ⟨fun i e he => (h i e he).elim, fun i j e e' he => (h i e he).elim⟩
theorem good_none {s : List (Option Ent)} (h : Good s) (j : Nat) (hj : j < s.length) : Good (s.set j none) := by
  have key : ∀ i e, (s.set j none).getD i none = some e → s.getD i none = some e := by
    intro i e he
    rw [set_get s j i none hj] at he
    split at he
    · cases he
    · exact he
  exact ⟨fun i e he => h.id i e (key i e he), fun i k e e' he he' => h.uniq i k e e' (key i e he) (key k e' he')⟩
theorem good_some {s : List (Option Ent)} (h : Good s) (j : Nat) (hj : j < s.length) (x : Ent) (hx : 0 ≤ x.1 ∧ x.1 < 1024) (hu : ∀ t, hasId s x.1 t = true → t = j) : Good (s.set j (some x)) := by
  have key : ∀ i e, (s.set j (some x)).getD i none = some e → (i = j ∧ e = x) ∨ (i ≠ j ∧ s.getD i none = some e) := by
    intro i e he
    rw [set_get s j i (some x) hj] at he
    split at he
    · rename_i hi
      exact Or.inl ⟨hi, (Option.some.inj he).symm⟩
    · rename_i hi
      exact Or.inr ⟨hi, he⟩
  refine ⟨fun i e he => ?_, fun i k e e' he he' hee => ?_⟩
  · rcases key i e he with ⟨_, rfl⟩ | ⟨_, h2⟩
    · exact hx
    · exact h.id i e h2
  · rcases key i e he with ⟨rfl, rfl⟩ | ⟨h1, h2⟩
    · rcases key k e' he' with ⟨rfl, rfl⟩ | ⟨g1, g2⟩
      · rfl
      · exact (hu k (has_iff.2 ⟨e', g2, hee.symm⟩)).symm
    · rcases key k e' he' with ⟨rfl, rfl⟩ | ⟨g1, g2⟩
      · exact hu i (has_iff.2 ⟨e, h2, hee⟩)
      · exact h.uniq i k e e' h2 g2 hee
theorem set_of {s : List (Option Ent)} {j : Nat} {x : Ent} (hj : j < s.length) (hx : 0 ≤ x.1 ∧ x.1 < 1024) (hu : ∀ t, hasId s x.1 t = true → t = j) : setv s (j : Int) x = (0, s.set j (some x)) := by
  unfold setv
  rw [if_neg, if_neg, Int.toNat_natCast]
  · rintro ⟨h1, h2⟩
    rcases wv_cases s x.1 with ⟨t, ht, hp, hw⟩ | ⟨_, hw⟩
    · rw [hw] at h2
      exact h2 (by rw [hu t hp])
    · rw [hw] at h1
      cases h1
  · rintro (h | h | h)
    · rw [isv_of hj] at h
      cases h
    · omega
    · omega
theorem good_setv {s : List (Option Ent)} (h : Good s) (c : Int) (x : Ent) : Good (setv s c x).2 := by
  unfold setv
  split
  · exact h
  · rename_i h1
    split
    · exact h
    · rename_i h2
      have hv : isv s c = true := by
        cases g : isv s c with
        | false => exact absurd (Or.inl g) h1
        | true => rfl
      obtain ⟨j, rfl, hj⟩ := isv_t hv
      rw [Int.toNat_natCast]
      refine good_some h j hj x ⟨?_, ?_⟩ (fun t ht => ?_)
      · apply Classical.byContradiction
        intro g
        exact h1 (Or.inr (Or.inl (by omega)))
      · apply Classical.byContradiction
        intro g
        exact h1 (Or.inr (Or.inr (by omega)))
      · obtain ⟨e, he, hid⟩ := has_iff.1 ht
        rcases wv_cases s x.1 with ⟨t', ht', hp, hw⟩ | ⟨hn, _⟩
        · obtain ⟨e', he', hid'⟩ := has_iff.1 hp
          have h3 := h.uniq t t' e e' he he' (hid.trans hid'.symm)
          rw [hw] at h2
          apply Classical.byContradiction
          intro g
          exact h2 ⟨rfl, fun e => g (by have : ((t' : Nat) : Int) = (j : Int) := e; omega)⟩
        · rw [hn t (get_lt he)] at ht
          cases ht
theorem setv_len (s : List (Option Ent)) (c : Int) (x : Ent) : (setv s c x).2.length = s.length := by
  unfold setv
  split
  · rfl
  · split
    · rfl
    · exact List.length_set
theorem all_split (a t : List (Option Ent)) (o : Option Ent) : (allOf (a ++ o :: t)).length = (allOf a).length + (allOf [o]).length + (allOf t).length := by
  unfold allOf
  rw [show a ++ o :: t = a ++ ([o] ++ t) from rfl, List.filterMap_append, List.filterMap_append, List.length_append, List.length_append]
  omega
theorem all_put {s : List (Option Ent)} {j : Nat} (hj : j < s.length) (o : Option Ent) : (allOf (s.set j o)).length + (allOf [s.getD j none]).length = (allOf s).length + (allOf [o]).length := by
  obtain ⟨a, t, hs, ha⟩ := split_at hj
  generalize s.getD j none = o1 at hs ⊢
  subst ha
  rw [hs, set_split, all_split, all_split]
  omega
theorem moves_pure {s : List (Option Ent)} (h : Good s) {f t : Nat} {x : Ent} (hne : f ≠ t) (ht : t < s.length) (hx : s.getD f none = some x) (hy : s.getD t none = none) :
    (∃ r : Int, r ≠ 0 ∧ setv s (t : Int) x = (r, s)) ∧ clearv s (f : Int) = (0, s.set f none) ∧ setv (s.set f none) (t : Int) x = (0, (s.set f none).set t (some x)) ∧
      atv ((s.set f none).set t (some x)) (t : Int) = (x, true) ∧ atv ((s.set f none).set t (some x)) (f : Int) = (z0, false) ∧ (allOf ((s.set f none).set t (some x))).length = (allOf s).length := by
  have hf := get_lt hx
  have hid := h.id f x hx
  have hl1 : t < (s.set f none).length := by rw [List.length_set]; exact ht
  have hl2 : t < ((s.set f none).set t (some x)).length := by rw [List.length_set]; exact hl1
  have hl3 : f < ((s.set f none).set t (some x)).length := by rw [List.length_set, List.length_set]; exact hf
  refine ⟨?_, ?_, ?_, ?_, ?_, ?_⟩
  · refine ⟨5, by decide, ?_⟩
    unfold setv
    rw [if_neg, if_pos]
    · rcases wv_cases s x.1 with ⟨t', ht', hp, hw⟩ | ⟨hn, hw⟩
      · rw [hw]
        refine ⟨rfl, fun e => ?_⟩
        have e2 : t' = t := by have : ((t' : Nat) : Int) = (t : Int) := e; omega
        subst e2
        obtain ⟨e', he', _⟩ := has_iff.1 hp
        rw [hy] at he'
        cases he'
      · have := hn f hf
        rw [has_iff.2 ⟨x, hx, rfl⟩] at this
        cases this
    · rintro (g | g | g)
      · rw [isv_of ht] at g
        cases g
      · omega
      · omega
  · unfold clearv
    rw [if_pos (isv_of hf), Int.toNat_natCast]
  · refine set_of hl1 hid (fun k hk => ?_)
    obtain ⟨e, he, hee⟩ := has_iff.1 hk
    rw [set_get s f k none hf] at he
    split at he
    · cases he
    · rename_i hkf
      exact absurd (h.uniq k f e x he hx hee) hkf
  · unfold atv
    rw [if_pos (isv_of hl2), Int.toNat_natCast, set_get _ t t _ hl1, if_pos rfl]
  · unfold atv
    rw [if_pos (isv_of hl3), Int.toNat_natCast, set_get _ t f _ hl1, if_neg hne, set_get _ f f _ hf, if_pos rfl]
  · have h1 := all_put hf none
    have h2 := all_put hl1 (some x)
    rw [set_get s f t none hf, if_neg (fun e => hne e.symm), hy] at h2
    rw [hx] at h1
    have e1 : (allOf [some x]).length = 1 := rfl
    have e2 : (allOf [(none : Option Ent)]).length = 0 := rfl
    omega
end Go.Proofs.Ytjeflmdfnfgacaa.Rank
