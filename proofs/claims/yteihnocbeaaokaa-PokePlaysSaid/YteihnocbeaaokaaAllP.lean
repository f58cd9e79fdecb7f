/- PokeAll, what it tells in plain rows: who is told, who has read, which masks (no law is stated here; no condition). -/
import Derived.Test.YteihnocbeaaokaaKnownP
import Derived.Test.YteihnocbeaaokaaQx12
import Derived.Test.YteihnocbeaaokaaQx13
namespace Go.Proofs.Yteihnocbeaaokaa.Poke
open Go.RowKit Go.Proofs.YteihnocbeaaokaaW.PrintWords Go.Proofs.YteihnocbeaaokaaW.PrintLast Go.Proofs.YteihnocbeaaokaaW.PrintMore Go.Proofs.Yteihnocbeaaokaa.St Go.Proofs.Yteihnocbeaaokaa.Q
set_option linter.unusedVariables false
set_option linter.unusedSimpArgs false

/-- A row told by a function. -/
def ln (n : Nat) (f : Nat → S56) : List S56 := (List.range n).map f
section
variable {n j : Nat} {f g : Nat → S56}
theorem ln_len : (ln n f).length = n := by unfold ln; rw [List.length_map, List.length_range]
theorem ln_get (h : j < n) : (ln n f).getD j z56 = f j := by
  unfold ln
  rw [List.getD_eq_getElem?_getD, List.getElem?_map, List.getElem?_range h]
  rfl
theorem ln_set (v : S56) : (ln n f).set j v = ln n (fun k => if k = j then v else f k) := by
  unfold ln
  refine List.ext_getElem (by rw [List.length_set, List.length_map, List.length_map]) (fun k h1 h2 => ?_)
  rw [List.getElem_set, List.getElem_map, List.getElem_map, List.getElem_range]
  by_cases c : j = k
  · rw [if_pos c, if_pos c.symm]
  · rw [if_neg c, if_neg (fun e => c e.symm)]
theorem ln_ext (h : ∀ k, k < n → f k = g k) : ln n f = ln n g := by
  unfold ln
  exact List.map_congr_left (fun k hk => h k (List.mem_range.1 hk))
theorem ln_z (n : Nat) : List.replicate n z56 = ln n (fun _ => z56) := by
  unfold ln
  refine List.ext_getElem (by rw [List.length_replicate, List.length_map, List.length_range]) (fun k h1 h2 => ?_)
  rw [List.getElem_replicate, List.getElem_map]
end
/-- The mask of all up to j but one. -/
def maskS (c : Int) : Nat → Int
  | 0 => 0
  | j + 1 => if (j : Int) = c then maskS c j else withv (maskS c j) (j : Int)
theorem mask_all : ∀ n < 65, ∀ c < n, (mask_Full.f ((n : Nat) : Int)).bind (fun m => mask_Mask_Without.f m ((c : Nat) : Int)) = some (maskS ((c : Nat) : Int) n) := by decide +kernel
theorem bits_what : ∀ k < 16, Go.bits .or .i64 0 ((k : Nat) : Int) = (k : Int) ∧ Go.bits .or .i64 ((k : Nat) : Int) (k : Int) = (k : Int) := by decide +kernel
theorem bits_from : ∀ c < 64, withv 0 ((c : Nat) : Int) = bitv (c : Int) ∧ withv (bitv ((c : Nat) : Int)) (c : Int) = bitv (c : Int) ∧ mask_Of.f 8 [((c : Nat) : Int)] = some (bitv (c : Int)) := by decide +kernel
/-- Who is told, who has read. -/
def toldB (c what : Nat) (k : Nat) : S56 := if k = c then z56 else ⟨(what : Int), bitv (c : Int), 1⟩
def readB (c : Nat) (k : Nat) : S56 := if k = c then z56 else ⟨0, 0, 1⟩
section
variable {n c what : Nat}
theorem all_first (hc : c < 64) (hw : what < 16) : ∀ j, j ≤ n → allS (c : Int) (what : Int) (ln n (fun _ => z56)) j = (ln n (fun k => if k < j then toldB c what k else z56), maskS (c : Int) j)
  | 0, _ => by
    rw [allS, maskS]
    rw [ln_ext (f := fun k => if k < 0 then toldB c what k else z56) (g := fun _ => z56) (fun k _ => if_neg (Nat.not_lt_zero k))]
  | j + 1, h => by
    rw [allS, maskS, all_first hc hw j (by omega)]
    by_cases e : j = c
    · rw [if_pos (by omega), if_pos (by omega)]
      rw [ln_ext (f := fun k => if k < j + 1 then toldB c what k else z56) (g := fun k => if k < j then toldB c what k else z56) (fun k _ => by
        by_cases d : k = j
        · subst d
          rw [if_pos (Nat.lt_succ_self k), if_neg (Nat.lt_irrefl k)]
          exact if_pos e
        · by_cases d2 : k < j
          · rw [if_pos (by omega), if_pos d2]
          · rw [if_neg (by omega), if_neg d2])]
    · have he : ¬ ((j : Int) = (c : Int)) := by omega
      rw [if_neg he, if_neg he]
      show (List.set _ _ _, _) = _
      rw [ln_get (by omega), if_neg (Nat.lt_irrefl j), ln_set]
      refine Prod.ext ?_ (show (if (z56).f0 = 0 then withv (maskS (c : Int) j) (j : Int) else maskS (c : Int) j) = withv (maskS (c : Int) j) (j : Int) from if_pos rfl)
      refine ln_ext (fun k _ => ?_)
      by_cases d : k = j
      · subst d
        rw [if_pos rfl, if_pos (Nat.lt_succ_self k)]
        unfold toldB sendBox
        rw [if_neg e]
        show (⟨Go.bits .or .i64 0 (what : Int), withv 0 (c : Int), wrap64 (0 + 1)⟩ : S56) = _
        rw [(bits_what what hw).1, (bits_from c hc).1, show wrap64 (0 + 1) = 1 from by unfold wrap64; omega]
      · rw [if_neg d]
        by_cases d2 : k < j
        · have d3 : k < j + 1 := by omega
          rw [if_pos d2, if_pos d3]
        · have d3 : ¬ k < j + 1 := by omega
          rw [if_neg d2, if_neg d3]
theorem all_again (hc : c < 64) (hw : what < 16) (hw1 : 1 ≤ what) : ∀ j, j ≤ n → allS (c : Int) (what : Int) (ln n (toldB c what)) j = (ln n (toldB c what), 0)
  | 0, _ => rfl
  | j + 1, h => by
    rw [allS, all_again hc hw hw1 j (by omega)]
    by_cases e : j = c
    · rw [if_pos (by omega)]
    · rw [if_neg (by omega)]
      show (List.set _ _ _, _) = _
      have h1 : toldB c what j = ⟨(what : Int), bitv (c : Int), 1⟩ := if_neg e
      have h2 : sendBox ⟨(what : Int), bitv (c : Int), 1⟩ (what : Int) (withv (bitv (c : Int)) (c : Int)) = ⟨(what : Int), bitv (c : Int), 1⟩ := by
        unfold sendBox
        show (⟨Go.bits .or .i64 (what : Int) (what : Int), withv (bitv (c : Int)) (c : Int), if (what : Int) = 0 then _ else 1⟩ : S56) = _
        rw [(bits_what what hw).2, (bits_from c hc).2.1, if_neg (by omega)]
      rw [ln_get (by omega), h1]
      show (List.set _ _ (sendBox _ _ (withv (bitv (c : Int)) (c : Int))), if (what : Int) = 0 then _ else _) = _
      rw [h2, if_neg (by omega), ln_set]
      refine Prod.ext (ln_ext (fun k _ => ?_)) rfl
      by_cases d : k = j
      · rw [if_pos d, d, h1]
      · rw [if_neg d]
theorem all_told (hc : c < 64) (hw : what < 16) : (allS (c : Int) (what : Int) (ln n (fun _ => z56)) n) = (ln n (toldB c what), maskS (c : Int) n) := by
  rw [all_first hc hw n (Nat.le_refl n)]
  rw [ln_ext (f := fun k => if k < n then toldB c what k else z56) (g := toldB c what) (fun k hk => if_pos hk)]
/-- What is read up to j. -/
def midB (c what j : Nat) (k : Nat) : S56 := if k < j then readB c k else toldB c what k
theorem mid_get {j : Nat} (hj : j < n) : (ln n (midB c what j)).getD j z56 = toldB c what j := by rw [ln_get hj]; exact if_neg (Nat.lt_irrefl j)
theorem mid_none {j : Nat} (e : j = c) : ln n (midB c what (j + 1)) = ln n (midB c what j) := by
  refine ln_ext (fun k _ => ?_)
  unfold midB
  by_cases d : k = j
  · rw [if_pos (by omega), if_neg (by omega)]
    unfold readB toldB
    rw [if_pos (by omega), if_pos (by omega)]
  · by_cases d2 : k < j
    · rw [if_pos (by omega), if_pos d2]
    · rw [if_neg (by omega), if_neg d2]
theorem mid_set {j : Nat} (hj : j < n) (e : j ≠ c) : (ln n (midB c what j)).set j (readBox ((ln n (midB c what j)).getD j z56)) = ln n (midB c what (j + 1)) := by
  rw [mid_get hj, ln_set]
  refine ln_ext (fun k _ => ?_)
  unfold midB
  by_cases d : k = j
  · rw [if_pos d, if_pos (by omega)]
    unfold readB toldB
    rw [if_neg e, if_neg (by omega)]
    rfl
  · rw [if_neg d]
    by_cases d2 : k < j
    · have d3 : k < j + 1 := by omega
      rw [if_pos d2, if_pos d3]
    · have d3 : ¬ k < j + 1 := by omega
      rw [if_neg d2, if_neg d3]
theorem mid_start : ln n (toldB c what) = ln n (midB c what 0) := ln_ext (fun k _ => (if_neg (Nat.not_lt_zero k)).symm)
theorem mid_end : ln n (midB c what n) = ln n (readB c) := ln_ext (fun k hk => if_pos hk)
theorem waits_read : ∀ j, j ≤ n → waitS (ln n (readB c)) j = 0
  | 0, _ => rfl
  | j + 1, h => by
    rw [waitS, waits_read j (by omega), ln_get (by omega), if_pos]
    unfold readB
    split <;> rfl
end
end Go.Proofs.Yteihnocbeaaokaa.Poke
