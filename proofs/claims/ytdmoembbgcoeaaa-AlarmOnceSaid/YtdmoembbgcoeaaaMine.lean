/- Small words of mine for walks by hand: rows of whole numbers, read and stored; lists cut at a place (no law is stated here; no condition). -/
import Derived.Test.YtdmoembbgcoeaaaWMore
namespace Go.Proofs.Ytdmoembbgcoeaaa.Mine
open Go.RowKit Go.Proofs.YtdmoembbgcoeaaaW.PrintWords
set_option linter.unusedVariables false

theorem drop_at {α : Type} {l : List α} {j : Nat} {x : α} (h : l[j]? = some x) : l.drop j = x :: l.drop (j + 1) := by
  obtain ⟨hl, rfl⟩ := List.getElem?_eq_some_iff.1 h
  exact List.drop_eq_getElem_cons hl
theorem take_at {α : Type} {l : List α} {j : Nat} {x : α} (h : l[j]? = some x) : l.take (j + 1) = l.take j ++ [x] := by
  obtain ⟨hl, rfl⟩ := List.getElem?_eq_some_iff.1 h
  rw [List.take_succ_eq_append_getElem hl]
theorem getD_at {α : Type} {l : List α} {j : Nat} (z : α) (h : j < l.length) : l[j]? = some (l.getD j z) := by
  rw [List.getD_eq_getElem?_getD, List.getElem?_eq_getElem h]; rfl
theorem ret_bool {a b : Bool} (h : a = b) : Ending.returned (.bool a) = .returned (.bool b) := by rw [h]
theorem ret_int {k : IntKind} {a b : Int} (h : a = b) : Ending.returned (.int k a) = .returned (.int k b) := by rw [h]

/-- A slice of whole numbers that is read: cell j. -/
theorem read_at {k : IntKind} {w : World} {A : Option Addr} {l : List Int} (h : (Kd.int k).C w A l.length l) {j : Nat} (hj : j < l.length) : ∃ ad, A = some ad ∧ w.cell? (ad.add j) = some (.int k (l.getD j 0)) := by
  obtain ⟨ad, cs, hA, _, hK, hcell⟩ := Kd.C_get h 0 (j : Int) (by omega) (by omega)
  refine ⟨ad, hA, ?_⟩
  have h0 := hcell 0 _ (by rw [hK]; rfl)
  have e1 : ((j : Int).toNat * (Kd.int k).sz + 0) = j := by
    show (j : Int).toNat * 1 + 0 = j
    omega
  rw [e1, Int.toNat_natCast] at h0
  exact h0

section
variable {k : IntKind} {e : Nat} {W : World} {base g n cap : Nat} {ok : Nat → Prop} {xs : List Int}
theorem row_get (h : (Kd.int k).R e W base ok (.slice (some ⟨g, 0, none⟩) n cap) xs) {j : Nat} (hj : j < n) : W.cell? ⟨g, j, none⟩ = some (.int k (xs.getD j 0)) ∧ W.frozen? ⟨g, j, none⟩ = false := by
  obtain ⟨c, hc, hM, hcell, hfr⟩ := Kd.R_elem h 0 (j : Int) (by omega) (by omega)
  have h0 := hcell 0 _ (by rw [hM]; rfl)
  have h1 := hfr 0
  have e1 : ((j : Int).toNat * (Kd.int k).sz + 0) = j := by
    show (j : Int).toNat * 1 + 0 = j
    omega
  rw [e1] at h0 h1
  rw [Int.toNat_natCast] at h0
  exact ⟨h0, h1⟩
theorem row_set (h : (Kd.int k).R e W base ok (.slice (some ⟨g, 0, none⟩) n cap) xs) {j : Nat} (hj : j < n) (x : Int) :
    (Kd.int k).R e (W.setCell ⟨g, j, none⟩ (.int k x)) base ok (.slice (some ⟨g, 0, none⟩) n cap) (xs.set j x) ∧ W.grownBy (W.setCell ⟨g, j, none⟩ (.int k x)) (some g) := by
  obtain ⟨hok, inner, hown, hr⟩ := h
  have hn : n = xs.length := (Kd.R_reads' ⟨hok, inner, hown, hr⟩).1
  subst hn
  have hi : inner = nums k xs := by
    have hlen : inner.length = xs.length := by have := hr.1; rw [show (Kd.int k).sz = 1 from rfl, Nat.mul_one] at this; exact this
    apply List.ext_getElem? 
    intro i
    rcases Nat.lt_or_ge i xs.length with hlt | hge
    · have := hr.2 i _ (List.getElem?_eq_getElem hlt)
      have h2 : (inner.drop (i * 1)).take 1 = [.int k xs[i]] := this
      rw [Nat.mul_one] at h2
      have h3 : (inner.drop i)[0]? = some (.int k xs[i]) := by
        have := congrArg (fun l => l[0]?) h2
        simpa [List.getElem?_take] using this
      rw [List.getElem?_drop] at h3
      simp only [nums, List.getElem?_map, List.getElem?_eq_getElem hlt]
      simpa using h3
    · rw [List.getElem?_eq_none (by omega), List.getElem?_eq_none (by simp [nums]; omega)]
  subst hi
  have h2 := own_store (h := hown) (j : Int) x
  rw [Int.toNat_natCast] at h2
  refine ⟨⟨hok, nums k (xs.set j x), ?_, ?_⟩, h2.2⟩
  · rw [List.length_set]
    exact h2.1
  · refine ⟨by simp [nums, show (Kd.int k).sz = 1 from rfl], fun i p hp => ?_⟩
    obtain ⟨hl, rfl⟩ := List.getElem?_eq_some_iff.1 hp
    show ((nums k (xs.set j x)).drop (i * 1)).take 1 = [.int k _]
    rw [Nat.mul_one]
    have hl' : i < (nums k (xs.set j x)).length := by simpa [nums] using hl
    rw [List.drop_eq_getElem_cons hl', List.take_succ_cons, List.take_zero]
    exact congrArg (fun v => [v]) (List.getElem_map _)
end
end Go.Proofs.Ytdmoembbgcoeaaa.Mine
