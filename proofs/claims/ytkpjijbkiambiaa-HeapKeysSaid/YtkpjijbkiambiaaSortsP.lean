/- HeapSorts, what it tells in plain lists: who was put in, who came out (no law is stated here; no condition). -/
import Derived.Test.YtkpjijbkiambiaaHeap9
namespace Go.Proofs.Ytkpjijbkiambiaa.Heap
open Go.RowKit Go.Proofs.YtkpjijbkiambiaaW.PrintWords Go.Proofs.YtkpjijbkiambiaaW.PrintLast Go.Proofs.YtkpjijbkiambiaaW.PrintMore Go.Proofs.Ytkpjijbkiambiaa.St Go.Proofs.Ytkpjijbkiambiaa.Q
set_option linter.unusedVariables false
set_option linter.unusedSimpArgs false

/-- Who is put in as the i-th, all of them up to j. -/
def pr (l : List Int) (i : Nat) : Int × Int := ((i : Int), l.getD i 0)
def pairs (l : List Int) (j : Nat) : List (Int × Int) := (List.range j).map (pr l)
theorem pairs_len (l : List Int) (j : Nat) : (pairs l j).length = j := by unfold pairs; rw [List.length_map, List.length_range]
theorem pairs_next (l : List Int) (j : Nat) : pairs l (j + 1) = pairs l j ++ [((j : Int), l.getD j 0)] := by
  unfold pairs
  rw [List.range_succ, List.map_append]
  rfl
theorem pairs_mem {l : List Int} {j : Nat} {y : Int × Int} (h : y ∈ pairs l j) : ∃ i, i < j ∧ y = pr l i := by
  unfold pairs at h
  obtain ⟨i, hi, rfl⟩ := List.mem_map.1 h
  exact ⟨i, List.mem_range.1 hi, rfl⟩
theorem pairs_new (l : List Int) (j : Nat) : ∀ y ∈ pairs l j, y.1 ≠ (j : Int) := by
  intro y hy
  obtain ⟨i, hi, rfl⟩ := pairs_mem hy
  show (i : Int) ≠ (j : Int)
  omega
theorem pairs_nodup (l : List Int) (j : Nat) : (pairs l j).Nodup := by
  unfold pairs
  refine List.pairwise_map.2 (List.Pairwise.imp ?_ (List.nodup_range (n := j)))
  intro a b hab e
  apply hab
  have h1 : ((a : Nat) : Int) = (b : Int) := congrArg Prod.fst e
  omega
/-- Where the law stands: P came out, x is left, s tells who came, last came last. -/
structure Run (l : List Int) (great : Bool) (x : H) (P : List (Int × Int)) (s : List Bool) (last : Int × Int) : Prop where
  gr : x.great = great
  ok : Ok x
  perm : (P ++ x.l).Perm (pairs l l.length)
  len : s.length = 100
  seen : ∀ i : Nat, s.getD i false = true → ∃ p ∈ P, p.1 = (i : Int)
  ahead : 0 < P.length → ∀ y ∈ x.l, lt great y last = false
theorem Run.left {l : List Int} {great : Bool} {x : H} {P : List (Int × Int)} {s : List Bool} {last : Int × Int} (h : Run l great x P s last) : P.length + x.l.length = l.length := by
  have h1 := h.perm.length_eq
  rw [List.length_append, pairs_len] at h1
  exact h1
theorem Run.step {l : List Int} {great : Bool} {x : H} {P : List (Int × Int)} {s : List Bool} {last : Int × Int} (h : Run l great x P s last) (hp : P.length < l.length) :
    0 < x.l.length ∧ ∃ a : Nat, a < l.length ∧ at_ x.l 0 = ((a : Int), l.getD a 0) ∧ s.getD a false = false ∧ (0 < P.length → lt great ((a : Int), l.getD a 0) last = false) ∧
      ∀ x' : H, x'.great = x.great → Ok x' → (at_ x.l 0 :: x'.l).Perm x.l → Run l great x' (P ++ [((a : Int), l.getD a 0)]) (s.set a true) ((a : Int), l.getD a 0) := by
  have h0 : 0 < x.l.length := by have := h.left; omega
  refine ⟨h0, ?_⟩
  have hm := at_mem h0
  obtain ⟨a, ha, e⟩ := pairs_mem (h.perm.mem_iff.1 (List.mem_append_right P hm))
  have e2 : at_ x.l 0 = ((a : Int), l.getD a 0) := e
  refine ⟨a, ha, e2, ?_, fun hp0 => ?_, fun x' g1 o1 p1 => ?_⟩
  · cases hs : s.getD a false
    · rfl
    · obtain ⟨p, hpP, hp1⟩ := h.seen a hs
      obtain ⟨i, hi, ei⟩ := pairs_mem (h.perm.mem_iff.1 (List.mem_append_left x.l hpP))
      have hia : i = a := by
        have h1 : p.1 = (i : Int) := by rw [ei]; rfl
        omega
      rw [hia] at ei
      have hnd : (P ++ x.l).Nodup := h.perm.nodup_iff.2 (pairs_nodup l l.length)
      exact absurd (ei.trans e.symm) ((List.nodup_append.1 hnd).2.2 p hpP _ hm)
  · rw [← e2]
    exact h.ahead hp0 _ hm
  · rw [e2] at p1
    refine ⟨g1.trans h.gr, o1, ?_, by rw [List.length_set]; exact h.len, fun i hi => ?_, fun _ y hy => ?_⟩
    · have h1 : (P ++ [((a : Int), l.getD a 0)] ++ x'.l) = P ++ (((a : Int), l.getD a 0) :: x'.l) := by simp
      rw [h1]
      exact (List.Perm.append_left P p1).trans h.perm
    · by_cases c : i = a
      · subst c
        exact ⟨((i : Int), l.getD i 0), by simp, rfl⟩
      · rw [List.getD_eq_getElem?_getD, List.getElem?_set_ne (fun e => c e.symm), ← List.getD_eq_getElem?_getD] at hi
        obtain ⟨p, h1, h2⟩ := h.seen i hi
        exact ⟨p, List.mem_append_left _ h1, h2⟩
    · have h1 : y ∈ x.l := p1.mem_iff.1 (List.mem_cons_of_mem _ hy)
      have h2 := h.ok.first h1
      rw [h.gr, e2] at h2
      exact h2
theorem run_new {l : List Int} {great : Bool} {x : H} (g : x.great = great) (o : Ok x) (p : x.l.Perm (pairs l l.length)) : Run l great x [] (List.replicate 100 false) (0, 0) :=
  ⟨g, o, p, by rw [List.length_replicate], fun i hi => by
    rw [List.getD_eq_getElem?_getD, List.getElem?_replicate] at hi
    exact absurd hi (by split <;> decide), fun h => absurd h (Nat.lt_irrefl 0)⟩
theorem wf_small (a : Nat) (h : a ≤ 2000) : (Lit.int .i64 (a : Int)).wf = true := by
  have h1 : IntKind.i64.min = -9223372036854775808 := rfl
  have h2 : IntKind.i64.max = 9223372036854775807 := rfl
  simp only [Lit.wf, Bool.and_eq_true, decide_eq_true_eq]
  omega
/-- The law's own question of two that come one behind the other. -/
theorem lt_ask (great : Bool) (a b : Int × Int) : ((a.2 == b.2) && decide (a.1 < b.1) || (a.2 != b.2) && ((decide (a.2 < b.2)) != great)) = lt great a b := by
  unfold lt
  by_cases c : a.2 = b.2
  · rw [if_pos c, beq_iff_eq.2 c, bne, beq_iff_eq.2 c]
    simp
  · rw [if_neg c, bne, beq_eq_false_iff_ne.2 c]
    simp
end Go.Proofs.Ytkpjijbkiambiaa.Heap
