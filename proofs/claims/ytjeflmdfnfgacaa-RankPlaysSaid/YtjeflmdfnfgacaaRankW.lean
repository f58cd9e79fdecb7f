/- Several texts in one (no law is stated here; each says its conditions). -/
import Derived.Test.YtjeflmdfnfgacaaRankC
/- Rank, in plain words: ids are in range and no two alike; taken from one CPU and put on another (no program here). -/
namespace Go.Proofs.Ytjeflmdfnfgacaa.Rank
open Go.RowKit Go.Proofs.YtjeflmdfnfgacaaW.PrintWords Go.Proofs.YtjeflmdfnfgacaaW.PrintLast Go.Proofs.YtjeflmdfnfgacaaW.PrintMore Go.Proofs.Ytjeflmdfnfgacaa.St Go.Proofs.Ytjeflmdfnfgacaa.Q Go.Proofs.Ytjeflmdfnfgacaa.Heap
set_option linter.unusedVariables false
set_option linter.unusedSimpArgs false

theorem has_iff {s : List (Option Ent)} {id : Int} {t : Nat} : hasId s id t = true ↔ ∃ e, s.getD t none = some e ∧ e.1 = id := by
  unfold hasId
  cases h : s.getD t none with
  | none => simp
  | some e => simp
theorem wv_cases (s : List (Option Ent)) (id : Int) : (∃ t, t < s.length ∧ hasId s id t = true ∧ wv s id = ((t : Int), true)) ∨ ((∀ i, i < s.length → hasId s id i = false) ∧ wv s id = (0, false)) := by
  unfold wv
  cases h : (List.range s.length).find? (hasId s id) with
  | none =>
    refine Or.inr ⟨fun i hi => ?_, rfl⟩
    have := List.find?_eq_none.1 h i (List.mem_range.2 hi)
    simpa using this
  | some t => exact Or.inl ⟨t, List.mem_range.1 (List.mem_of_find?_eq_some h), List.find?_some h, rfl⟩
theorem set_get (s : List (Option Ent)) (j i : Nat) (o : Option Ent) (hj : j < s.length) : (s.set j o).getD i none = if i = j then o else s.getD i none := by
  rw [List.getD_eq_getElem?_getD, List.getD_eq_getElem?_getD, List.getElem?_set]
  by_cases h : j = i
  · rw [if_pos h, if_pos h.symm, if_pos hj]
    rfl
  · rw [if_neg h, if_neg (fun e => h e.symm)]
theorem get_lt {s : List (Option Ent)} {i : Nat} {e : Ent} (h : s.getD i none = some e) : i < s.length := by
  apply Classical.byContradiction
  intro g
  rw [List.getD_eq_getElem?_getD, List.getElem?_eq_none (by omega)] at h
  cases h
structure Good (s : List (Option Ent)) : Prop where
  id : ∀ i e, s.getD i none = some e → 0 ≤ e.1 ∧ e.1 < 1024
  uniq : ∀ i j e e', s.getD i none = some e → s.getD j none = some e' → e.1 = e'.1 → i = j
theorem good_new (n : Nat) : Good (List.replicate n none) := by
  have h : ∀ i e, (List.replicate n (none : Option Ent)).getD i none = some e → False := by
    intro i e h
    rw [List.getD_eq_getElem?_getD, List.getElem?_replicate] at h
    split at h <;> cases h
  exact ⟨fun i e he => (h i e he).elim, fun i j e e' he => (h i e he).elim⟩
theorem good_none {s : List (Option Ent)} (h : Good s) (j : Nat) (hj : j < s.length) : Good (s.set j none) := by
  have key : ∀ i e, (s.set j none).getD i none = some e → s.getD i none = some e := by
    intro i e he
    rw [set_get s j i none hj] at he
    split at he
    · cases he
    · exact he
  exact ⟨fun i e he => h.id i e (key i e he), fun i k e e' he he' => h.uniq i k e e' (key i e he) (key k e' he')⟩
theorem good_some {s : List (Option Ent)} (h : Good s) (j : Nat) (hj : j < s.length) (x : Ent) (hx : 0 ≤ x.1 ∧ x.1 < 1024) (hu : ∀ t, hasId s x.1 t = true → t = j) : Good (s.set j (some x)) := by
  have key : ∀ i e, (s.set j (some x)).getD i none = some e → (i = j ∧ e = x) ∨ (i ≠ j ∧ s.getD i none = some e) := by
    intro i e he
    rw [set_get s j i (some x) hj] at he
    split at he
    · rename_i hi
      exact Or.inl ⟨hi, (Option.some.inj he).symm⟩
    · rename_i hi
      exact Or.inr ⟨hi, he⟩
  refine ⟨fun i e he => ?_, fun i k e e' he he' hee => ?_⟩
  · rcases key i e he with ⟨_, rfl⟩ | ⟨_, h2⟩
    · exact hx
    · exact h.id i e h2
  · rcases key i e he with ⟨rfl, rfl⟩ | ⟨h1, h2⟩
    · rcases key k e' he' with ⟨rfl, rfl⟩ | ⟨g1, g2⟩
      · rfl
      · exact (hu k (has_iff.2 ⟨e', g2, hee.symm⟩)).symm
    · rcases key k e' he' with ⟨rfl, rfl⟩ | ⟨g1, g2⟩
      · exact hu i (has_iff.2 ⟨e, h2, hee⟩)
      · exact h.uniq i k e e' h2 g2 hee
theorem set_of {s : List (Option Ent)} {j : Nat} {x : Ent} (hj : j < s.length) (hx : 0 ≤ x.1 ∧ x.1 < 1024) (hu : ∀ t, hasId s x.1 t = true → t = j) : setv s (j : Int) x = (0, s.set j (some x)) := by
  unfold setv
  rw [if_neg, if_neg, Int.toNat_natCast]
  · rintro ⟨h1, h2⟩
    rcases wv_cases s x.1 with ⟨t, ht, hp, hw⟩ | ⟨_, hw⟩
    · rw [hw] at h2
      exact h2 (by rw [hu t hp])
    · rw [hw] at h1
      cases h1
  · rintro (h | h | h)
    · rw [isv_of hj] at h
      cases h
    · omega
    · omega
theorem good_setv {s : List (Option Ent)} (h : Good s) (c : Int) (x : Ent) : Good (setv s c x).2 := by
  unfold setv
  split
  · exact h
  · rename_i h1
    split
    · exact h
    · rename_i h2
      have hv : isv s c = true := by
        cases g : isv s c with
        | false => exact absurd (Or.inl g) h1
        | true => rfl
      obtain ⟨j, rfl, hj⟩ := isv_t hv
      rw [Int.toNat_natCast]
      refine good_some h j hj x ⟨?_, ?_⟩ (fun t ht => ?_)
      · apply Classical.byContradiction
        intro g
        exact h1 (Or.inr (Or.inl (by omega)))
      · apply Classical.byContradiction
        intro g
        exact h1 (Or.inr (Or.inr (by omega)))
      · obtain ⟨e, he, hid⟩ := has_iff.1 ht
        rcases wv_cases s x.1 with ⟨t', ht', hp, hw⟩ | ⟨hn, _⟩
        · obtain ⟨e', he', hid'⟩ := has_iff.1 hp
          have h3 := h.uniq t t' e e' he he' (hid.trans hid'.symm)
          rw [hw] at h2
          apply Classical.byContradiction
          intro g
          exact h2 ⟨rfl, fun e => g (by have : ((t' : Nat) : Int) = (j : Int) := e; omega)⟩
        · rw [hn t (get_lt he)] at ht
          cases ht
theorem setv_len (s : List (Option Ent)) (c : Int) (x : Ent) : (setv s c x).2.length = s.length := by
  unfold setv
  split
  · rfl
  · split
    · rfl
    · exact List.length_set
theorem all_split (a t : List (Option Ent)) (o : Option Ent) : (allOf (a ++ o :: t)).length = (allOf a).length + (allOf [o]).length + (allOf t).length := by
  unfold allOf
  rw [show a ++ o :: t = a ++ ([o] ++ t) from rfl, List.filterMap_append, List.filterMap_append, List.length_append, List.length_append]
  omega
theorem all_put {s : List (Option Ent)} {j : Nat} (hj : j < s.length) (o : Option Ent) : (allOf (s.set j o)).length + (allOf [s.getD j none]).length = (allOf s).length + (allOf [o]).length := by
  obtain ⟨a, t, hs, ha⟩ := split_at hj
  generalize s.getD j none = o1 at hs ⊢
  subst ha
  rw [hs, set_split, all_split, all_split]
  omega
theorem moves_pure {s : List (Option Ent)} (h : Good s) {f t : Nat} {x : Ent} (hne : f ≠ t) (ht : t < s.length) (hx : s.getD f none = some x) (hy : s.getD t none = none) :
    (∃ r : Int, r ≠ 0 ∧ setv s (t : Int) x = (r, s)) ∧ clearv s (f : Int) = (0, s.set f none) ∧ setv (s.set f none) (t : Int) x = (0, (s.set f none).set t (some x)) ∧
      atv ((s.set f none).set t (some x)) (t : Int) = (x, true) ∧ atv ((s.set f none).set t (some x)) (f : Int) = (z0, false) ∧ (allOf ((s.set f none).set t (some x))).length = (allOf s).length := by
  have hf := get_lt hx
  have hid := h.id f x hx
  have hl1 : t < (s.set f none).length := by rw [List.length_set]; exact ht
  have hl2 : t < ((s.set f none).set t (some x)).length := by rw [List.length_set]; exact hl1
  have hl3 : f < ((s.set f none).set t (some x)).length := by rw [List.length_set, List.length_set]; exact hf
  refine ⟨?_, ?_, ?_, ?_, ?_, ?_⟩
  · refine ⟨5, by decide, ?_⟩
    unfold setv
    rw [if_neg, if_pos]
    · rcases wv_cases s x.1 with ⟨t', ht', hp, hw⟩ | ⟨hn, hw⟩
      · rw [hw]
        refine ⟨rfl, fun e => ?_⟩
        have e2 : t' = t := by have : ((t' : Nat) : Int) = (t : Int) := e; omega
        subst e2
        obtain ⟨e', he', _⟩ := has_iff.1 hp
        rw [hy] at he'
        cases he'
      · have := hn f hf
        rw [has_iff.2 ⟨x, hx, rfl⟩] at this
        cases this
    · rintro (g | g | g)
      · rw [isv_of ht] at g
        cases g
      · omega
      · omega
  · unfold clearv
    rw [if_pos (isv_of hf), Int.toNat_natCast]
  · refine set_of hl1 hid (fun k hk => ?_)
    obtain ⟨e, he, hee⟩ := has_iff.1 hk
    rw [set_get s f k none hf] at he
    split at he
    · cases he
    · rename_i hkf
      exact absurd (h.uniq k f e x he hx hee) hkf
  · unfold atv
    rw [if_pos (isv_of hl2), Int.toNat_natCast, set_get _ t t _ hl1, if_pos rfl]
  · unfold atv
    rw [if_pos (isv_of hl3), Int.toNat_natCast, set_get _ t f _ hl1, if_neg hne, set_get _ f f _ hf, if_pos rfl]
  · have h1 := all_put hf none
    have h2 := all_put hl1 (some x)
    rw [set_get s f t none hf, if_neg (fun e => hne e.symm), hy] at h2
    rw [hx] at h1
    have e1 : (allOf [some x]).length = 1 := rfl
    have e2 : (allOf [(none : Option Ent)]).length = 0 := rfl
    omega
end Go.Proofs.Ytjeflmdfnfgacaa.Rank

/- RankPlays: the law's own rows (arrays in one block each), and what its loops find, in plain words (no law is stated here; no condition). -/
namespace Go.Proofs.Ytjeflmdfnfgacaa.Rank
open Go.RowKit Go.Proofs.YtjeflmdfnfgacaaW.PrintWords Go.Proofs.YtjeflmdfnfgacaaW.PrintLast Go.Proofs.YtjeflmdfnfgacaaW.PrintMore Go.Proofs.Ytjeflmdfnfgacaa.St Go.Proofs.Ytjeflmdfnfgacaa.Q Go.Proofs.Ytjeflmdfnfgacaa.Heap
set_option linter.unusedVariables false
set_option linter.unusedSimpArgs false

section
variable {w0 W : World} {c : Nat → Nat} {i : Nat}
/-- A cell of a block of a colour is written. -/
theorem blk_put1 {cs : Array Value} {t : TypeId} {g : Nat} (h : blk.M W w0.heap.size (fun k => c k = i) (.cells cs t (0, 0)) (.pointer (some ⟨g, 0, none⟩))) (j : Nat) (u : Value) (hs : w0.heap.size ≤ W.heap.size) :
    ∃ c', blk.M (W.setCell ⟨g, j, none⟩ u) w0.heap.size (fun k => c' k = i) (.cells (cs.setIfInBounds j u) t (0, 0)) (.pointer (some ⟨g, 0, none⟩)) ∧ Turned c c' i w0 W (W.setCell ⟨g, j, none⟩ u) := by
  obtain ⟨g2, e1, ⟨e2, e2b⟩, e3, e4, e5⟩ := St.mine (s := blk) h
  injection e1 with e1
  injection e1 with e1
  injection e1 with e1
  subst e1
  have h2 := blk_set e5 j u
  exact turned (s := blk) ⟨g, rfl, Or.inl ⟨e2, e2b⟩, e3, blk_lt h2, h2⟩ ((Wrote.refl W _).setCell (Or.inl ⟨e2, e2b⟩) u) hs
end
/-- The row of those that run. -/
def wOk (cs : Array Value) (s : List (Option Ent)) : Prop := cs.size = 192 ∧ ∀ k e, s.getD k none = some e → cs[k * 3]? = some (.int .i64 e.1) ∧ cs[k * 3 + 1]? = some (.int .i64 e.2.1) ∧ cs[k * 3 + 2]? = some (.bool e.2.2)
/-- The row that tells who runs. -/
def inB (s : List (Option Ent)) (k : Nat) : Bool := (s.getD k none).isSome
def iOk (cs : Array Value) (s : List (Option Ent)) : Prop := cs.size = 64 ∧ ∀ k, k < 64 → cs[k]? = some (.bool (inB s k))
theorem get_rep (n k : Nat) : (List.replicate n (none : Option Ent)).getD k none = none := by
  rw [List.getD_eq_getElem?_getD, List.getElem?_replicate]
  split <;> rfl
theorem wOk_new (cs : Array Value) (n : Nat) (h : cs.size = 192) : wOk cs (List.replicate n none) := ⟨h, fun k e he => by rw [get_rep] at he; cases he⟩
theorem iOk_new (n : Nat) : iOk (Array.replicate 64 (.bool false)) (List.replicate n none) :=
  ⟨Array.size_replicate, fun k hk => by rw [Array.getElem?_replicate, if_pos hk]; unfold inB; rw [get_rep]; rfl⟩
theorem wOk_clear {cs : Array Value} {s : List (Option Ent)} (h : wOk cs s) (j : Nat) (hj : j < s.length) : wOk cs (s.set j none) :=
  ⟨h.1, fun k e he => by
    rw [set_get s j k none hj] at he
    split at he
    · cases he
    · exact h.2 k e he⟩
theorem wOk_set {cs : Array Value} {s : List (Option Ent)} (h : wOk cs s) (j : Nat) (hj : j < s.length) (hj2 : j < 64) (e1 e2 : Int) (e3 : Bool) :
    wOk (((cs.setIfInBounds (j * 3) (.int .i64 e1)).setIfInBounds (j * 3 + 1) (.int .i64 e2)).setIfInBounds (j * 3 + 2) (.bool e3)) (s.set j (some (e1, e2, e3))) := by
  have hz := h.1
  refine ⟨by rw [Array.size_setIfInBounds, Array.size_setIfInBounds, Array.size_setIfInBounds]; exact hz, fun k e he => ?_⟩
  rw [set_get s j k _ hj] at he
  split at he
  · rename_i hk
    subst hk
    cases he
    refine ⟨?_, ?_, ?_⟩
    · rw [Array.getElem?_setIfInBounds_ne (by omega), Array.getElem?_setIfInBounds_ne (by omega), Array.getElem?_setIfInBounds_self_of_lt (by omega)]
    · rw [Array.getElem?_setIfInBounds_ne (by omega), Array.getElem?_setIfInBounds_self_of_lt (by rw [Array.size_setIfInBounds]; omega)]
    · rw [Array.getElem?_setIfInBounds_self_of_lt (by rw [Array.size_setIfInBounds, Array.size_setIfInBounds]; omega)]
  · rename_i hk
    obtain ⟨h1, h2, h3⟩ := h.2 k e he
    refine ⟨?_, ?_, ?_⟩
    · rw [Array.getElem?_setIfInBounds_ne (by omega), Array.getElem?_setIfInBounds_ne (by omega), Array.getElem?_setIfInBounds_ne (by omega)]; exact h1
    · rw [Array.getElem?_setIfInBounds_ne (by omega), Array.getElem?_setIfInBounds_ne (by omega), Array.getElem?_setIfInBounds_ne (by omega)]; exact h2
    · rw [Array.getElem?_setIfInBounds_ne (by omega), Array.getElem?_setIfInBounds_ne (by omega), Array.getElem?_setIfInBounds_ne (by omega)]; exact h3
theorem iOk_set {cs : Array Value} {s : List (Option Ent)} (h : iOk cs s) (j : Nat) (hj : j < s.length) (hj2 : j < 64) (o : Option Ent) : iOk (cs.setIfInBounds j (.bool o.isSome)) (s.set j o) := by
  have hz := h.1
  refine ⟨by rw [Array.size_setIfInBounds]; exact hz, fun k hk => ?_⟩
  unfold inB
  rw [set_get s j k o hj]
  by_cases e : k = j
  · subst e
    rw [if_pos rfl, Array.getElem?_setIfInBounds_self_of_lt (by omega)]
  · rw [if_neg e, Array.getElem?_setIfInBounds_ne (fun g => e g.symm)]
    exact h.2 k hk
/-- Where the law's own search finds an id, the first k looked at. -/
def atUp (s : List (Option Ent)) (id : Int) : Nat → Int
  | 0 => -1
  | k + 1 => if hasId s id k = true then (k : Int) else atUp s id k
theorem at_none {s : List (Option Ent)} {id : Int} : ∀ k, (∀ i, i < k → hasId s id i = false) → atUp s id k = -1
  | 0, _ => rfl
  | k + 1, h => by
    rw [atUp, if_neg (by rw [h k (by omega)]; exact Bool.false_ne_true)]
    exact at_none k (fun i hi => h i (by omega))
theorem at_one {s : List (Option Ent)} {id : Int} {t : Nat} (ht : hasId s id t = true) (hu : ∀ i, hasId s id i = true → i = t) : ∀ k, t < k → atUp s id k = (t : Int)
  | 0, h => absurd h (Nat.not_lt_zero _)
  | k + 1, h => by
    rw [atUp]
    by_cases e : hasId s id k = true
    · rw [if_pos e, hu k e]
    · rw [if_neg e]
      have : t ≠ k := fun g => e (g ▸ ht)
      exact at_one ht hu k (by omega)
theorem has_uniq {s : List (Option Ent)} (h : Good s) {id : Int} {i t : Nat} (hi : hasId s id i = true) (ht : hasId s id t = true) : i = t := by
  obtain ⟨e, he, h1⟩ := has_iff.1 hi
  obtain ⟨e', he', h2⟩ := has_iff.1 ht
  exact h.uniq i t e e' he he' (h1.trans h2.symm)
theorem at_wv {s : List (Option Ent)} (h : Good s) (id : Int) : (∃ t, t < s.length ∧ hasId s id t = true ∧ wv s id = ((t : Int), true) ∧ atUp s id s.length = (t : Int)) ∨ (wv s id = (0, false) ∧ atUp s id s.length = -1) := by
  rcases wv_cases s id with ⟨t, h1, h2, h3⟩ | ⟨h1, h2⟩
  · exact Or.inl ⟨t, h1, h2, h3, at_one h2 (fun i hi => has_uniq h hi h2) _ h1⟩
  · exact Or.inr ⟨h2, at_none _ h1⟩
/-- Who runs is found where he runs. -/
theorem wv_here {s : List (Option Ent)} (h : Good s) {k : Nat} {e : Ent} (he : s.getD k none = some e) : wv s e.1 = ((k : Int), true) := by
  have hk : hasId s e.1 k = true := has_iff.2 ⟨e, he, rfl⟩
  rcases wv_cases s e.1 with ⟨t, h1, h2, h3⟩ | ⟨h1, h2⟩
  · rw [h3, has_uniq h h2 hk]
  · rw [h1 k (get_lt he)] at hk
    cases hk
/-- What Set answers, in the law's own words. -/
theorem set_says {s : List (Option Ent)} (h : Good s) (a : Int) (x : Ent) :
    (¬ (0 ≤ a ∧ a < (s.length : Int)) ∨ x.1 < 0 ∨ 1023 < x.1 → setv s a x = (1, s)) ∧
    (¬ (¬ (0 ≤ a ∧ a < (s.length : Int)) ∨ x.1 < 0 ∨ 1023 < x.1) → 0 ≤ atUp s x.1 s.length ∧ atUp s x.1 s.length ≠ a → setv s a x = (5, s)) ∧
    (¬ (¬ (0 ≤ a ∧ a < (s.length : Int)) ∨ x.1 < 0 ∨ 1023 < x.1) → ¬ (0 ≤ atUp s x.1 s.length ∧ atUp s x.1 s.length ≠ a) → setv s a x = (0, s.set a.toNat (some x))) := by
  have hv : isv s a = false ↔ ¬ (0 ≤ a ∧ a < (s.length : Int)) := by
    unfold isv
    rw [Bool.and_eq_false_iff, decide_eq_false_iff_not, decide_eq_false_iff_not]
    omega
  refine ⟨fun g => ?_, fun g k => ?_, fun g k => ?_⟩
  · unfold setv
    rw [if_pos]
    rcases g with g | g | g
    · exact Or.inl (hv.2 g)
    · exact Or.inr (Or.inl g)
    · exact Or.inr (Or.inr (by omega))
  · unfold setv
    rw [if_neg, if_pos]
    · rcases at_wv h x.1 with ⟨t, _, _, h3, h4⟩ | ⟨h3, h4⟩
      · rw [h3]
        rw [h4] at k
        exact ⟨rfl, k.2⟩
      · rw [h4] at k
        exact absurd k.1 (by decide)
    · rintro (e | e | e)
      · exact g (Or.inl (hv.1 e))
      · exact g (Or.inr (Or.inl e))
      · exact g (Or.inr (Or.inr (by omega)))
  · unfold setv
    rw [if_neg, if_neg]
    · rcases at_wv h x.1 with ⟨t, _, _, h3, h4⟩ | ⟨h3, h4⟩
      · rw [h3]
        rw [h4] at k
        exact fun e => k ⟨by omega, e.2⟩
      · rw [h3]
        exact fun e => absurd e.1 Bool.false_ne_true
    · rintro (e | e | e)
      · exact g (Or.inl (hv.1 e))
      · exact g (Or.inr (Or.inl e))
      · exact g (Or.inr (Or.inr (by omega)))
end Go.Proofs.Ytjeflmdfnfgacaa.Rank

/- RankPlays: what the law's third loop finds: the last of those that may be stopped, who is idle (no law is stated here; no program here but the mask's). -/
namespace Go.Proofs.Ytjeflmdfnfgacaa.Rank
open Go.RowKit Go.Proofs.YtjeflmdfnfgacaaW.PrintWords Go.Proofs.YtjeflmdfnfgacaaW.PrintLast Go.Proofs.YtjeflmdfnfgacaaW.PrintMore Go.Proofs.Ytjeflmdfnfgacaa.St Go.Proofs.Ytjeflmdfnfgacaa.Q Go.Proofs.Ytjeflmdfnfgacaa.Heap
set_option linter.unusedVariables false
set_option linter.unusedSimpArgs false

theorem less_or {a b : Ent} (h : a.1 ≠ b.1) (hn : less a b = false) : less b a = true := by
  unfold less at *
  by_cases e : a.2.1 = b.2.1
  · rw [if_pos e] at hn
    rw [if_pos e.symm]
    have := of_decide_eq_false hn
    exact decide_eq_true (by omega)
  · rw [if_neg e] at hn
    rw [if_neg (fun g => e g.symm)]
    have := of_decide_eq_false hn
    exact decide_eq_true (by omega)
theorem less_trans {a b c : Ent} (h1 : less a b = true) (h2 : less b c = true) : less a c = true := by
  unfold less at *
  split at h1 <;> split at h2 <;> have h1 := of_decide_eq_true h1 <;> have h2 := of_decide_eq_true h2
  · rw [if_pos (by omega)]; exact decide_eq_true (by omega)
  · rw [if_neg (by omega)]; exact decide_eq_true (by omega)
  · rw [if_neg (by omega)]; exact decide_eq_true (by omega)
  · rw [if_neg (by omega)]; exact decide_eq_true (by omega)
/-- The last of the first k. -/
def worstUp (s : List (Option Ent)) : Nat → Int
  | 0 => -1
  | k + 1 => match s.getD k none with
    | some e => if e.2.2 = false ∧ (worstUp s k < 0 ∨ less ((s.getD (worstUp s k).toNat none).getD z0) e = true) then (k : Int) else worstUp s k
    | none => worstUp s k
def Up (s : List (Option Ent)) (k : Nat) (r : Int) : Prop :=
  (r = -1 ∧ ∀ i e, i < k → ¬ Cand s i e) ∨ (∃ j e, r = ((j : Nat) : Int) ∧ j < k ∧ Cand s j e ∧ ∀ i e', i < k → Cand s i e' → i ≠ j → less e' e = true)
theorem up_zero (s : List (Option Ent)) : Up s 0 (-1) := Or.inl ⟨rfl, fun i e h => absurd h (Nat.not_lt_zero _)⟩
theorem up_skip {s : List (Option Ent)} {k : Nat} {r : Int} (h : Up s k r) (hk : ∀ e, ¬ Cand s k e) : Up s (k + 1) r := by
  rcases h with ⟨h1, h2⟩ | ⟨j, e, h1, h2, h3, h4⟩
  · refine Or.inl ⟨h1, fun i e hi hc => ?_⟩
    by_cases g : i = k
    · subst g; exact hk e hc
    · exact h2 i e (by omega) hc
  · refine Or.inr ⟨j, e, h1, by omega, h3, fun i e' hi hc hne => ?_⟩
    by_cases g : i = k
    · subst g; exact absurd hc (hk e')
    · exact h4 i e' (by omega) hc hne
/-- Nobody before, or one who comes ahead: k is the last. -/
theorem up_take {s : List (Option Ent)} {k : Nat} {x : Ent} (h : Up s k (-1)) (hc : Cand s k x) : Up s (k + 1) (k : Int) := by
  rcases h with ⟨_, h2⟩ | ⟨j, e, h1, _⟩
  · refine Or.inr ⟨k, x, rfl, by omega, hc, fun i e' hi hci hne => absurd hci (h2 i e' (by omega))⟩
  · omega
theorem up_more {s : List (Option Ent)} {k j : Nat} {e x : Ent} (h : Up s k ((j : Nat) : Int)) (hj : Cand s j e) (hc : Cand s k x) (hl : less e x = true) : Up s (k + 1) (k : Int) := by
  rcases h with ⟨h1, _⟩ | ⟨j', e2, h1, h2, h3, h4⟩
  · omega
  · have hjj : j = j' := by omega
    subst hjj
    have hee : e2 = e := by
      have := h3.2.1
      rw [hj.2.1] at this
      exact (Option.some.inj this).symm
    subst hee
    refine Or.inr ⟨k, x, rfl, by omega, hc, fun i e' hi hci hne => ?_⟩
    by_cases g : i = j
    · subst g
      have : e' = e2 := by
        have := hci.2.1
        rw [hj.2.1] at this
        exact (Option.some.inj this).symm
      rw [this]; exact hl
    · exact less_trans (h4 i e' (by omega) hci g) hl
theorem up_stay {s : List (Option Ent)} (hG : Good s) {k j : Nat} {e x : Ent} (h : Up s k ((j : Nat) : Int)) (hj : Cand s j e) (hc : Cand s k x) (hl : less e x = false) : Up s (k + 1) ((j : Nat) : Int) := by
  rcases h with ⟨h1, _⟩ | ⟨j', e2, h1, h2, h3, h4⟩
  · omega
  · have hjj : j = j' := by omega
    subst hjj
    have hee : e2 = e := by
      have := h3.2.1
      rw [hj.2.1] at this
      exact (Option.some.inj this).symm
    subst hee
    refine Or.inr ⟨j, e2, rfl, by omega, hj, fun i e' hi hci hne => ?_⟩
    by_cases g : i = k
    · subst g
      have hx : e' = x := by
        have := hci.2.1
        rw [hc.2.1] at this
        exact (Option.some.inj this).symm
      subst hx
      refine less_or (fun e => hne ?_) hl
      exact (hG.uniq j i _ _ hj.2.1 hc.2.1 e).symm
    · exact h4 i e' (by omega) hci hne
theorem up_best {s : List (Option Ent)} {r : Int} (h : Up s s.length r) : (r = -1 ∧ dues 0 s = []) ∨ (∃ j e, r = ((j : Nat) : Int) ∧ Best s j e) := by
  rcases h with ⟨h1, h2⟩ | ⟨j, e, h1, h2, h3, h4⟩
  · refine Or.inl ⟨h1, ?_⟩
    cases hd : dues 0 s with
    | nil => rfl
    | cons z t =>
      obtain ⟨i, e, hc, _⟩ := cand_of (show z ∈ dues 0 s from by rw [hd]; exact List.mem_cons_self)
      exact absurd hc (h2 i e hc.1)
  · exact Or.inr ⟨j, e, h1, h3, fun i e' hc hne => h4 i e' hc.1 hc hne⟩
/-- Who is idle of the first k. -/
def IdU (m : Nat) (s : List (Option Ent)) (k : Nat) : Prop := m < 18446744073709551616 ∧ ∀ j, j < 64 → m.testBit j = decide (j < k ∧ s.getD j none = none)
theorem idU_zero (s : List (Option Ent)) : IdU 0 s 0 := ⟨by decide, fun j _ => by simp⟩
theorem idU_skip {m : Nat} {s : List (Option Ent)} {k : Nat} {e : Ent} (h : IdU m s k) (hk : s.getD k none = some e) : IdU m s (k + 1) :=
  ⟨h.1, fun j hj => by
    rw [h.2 j hj]
    refine decide_eq_decide.2 ⟨fun g => ⟨by omega, g.2⟩, fun g => ⟨?_, g.2⟩⟩
    have : j ≠ k := fun e2 => by rw [e2, hk] at g; cases g.2
    omega⟩
theorem idU_with {m : Nat} {s : List (Option Ent)} {k : Nat} (h : IdU m s k) (hk : s.getD k none = none) (h64 : k < 64) : mask_Mask_With.f (m : Int) (k : Int) = some ((m ||| 2 ^ k : Nat) : Int) ∧ IdU (m ||| 2 ^ k) s (k + 1) := by
  refine ⟨with_f h64 h.1, Nat.or_lt_two_pow (n := 64) h.1 (Nat.pow_lt_pow_right (by omega) h64), fun j hj => ?_⟩
  rw [Nat.testBit_or, Nat.testBit_two_pow, h.2 j hj]
  by_cases c : k = j
  · subst c
    rw [decide_eq_true (rfl : k = k), Bool.or_true]
    exact (decide_eq_true ⟨by omega, hk⟩).symm
  · rw [decide_eq_false c, Bool.or_false]
    exact decide_eq_decide.2 ⟨fun g => ⟨by omega, g.2⟩, fun g => ⟨by omega, g.2⟩⟩
theorem idU_end {m : Nat} {s : List (Option Ent)} (h : IdU m s s.length) : IdleIs m s := h
end Go.Proofs.Ytjeflmdfnfgacaa.Rank
