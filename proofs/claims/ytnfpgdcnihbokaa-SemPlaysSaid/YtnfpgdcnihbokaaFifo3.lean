/- What the methods of a fifo turn: Place, All, Get, Drop, Turn (no law is stated here; each says its conditions). -/
import Derived.Test.YtnfpgdcnihbokaaFifo2
namespace Go.Proofs.Ytnfpgdcnihbokaa.Fifo
open Go.RowKit Go.Proofs.YtnfpgdcnihbokaaW.PrintWords Go.Proofs.YtnfpgdcnihbokaaW.PrintLast Go.Proofs.YtnfpgdcnihbokaaW.PrintMore Go.Proofs.Ytnfpgdcnihbokaa.St Go.Proofs.Ytnfpgdcnihbokaa.Q
set_option linter.unusedVariables false
set_option linter.unusedSimpArgs false
attribute [local go_sem] max2_int min2_int max_two min_two max_three min_three max_four min_four

theorem index_l (l : List Int) (v : Int) (hl : l.length ≤ 17592186044416) : ∀ (d j : Nat), l.length - j = d → j ≤ l.length → (∀ i, i < j → l.getD i 0 ≠ v) → slices_Index_int_int.l0 (d + 1) l v (l.length : Int) (j : Int) = some (if v ∈ l.drop j then ((j + (l.drop j).idxOf v : Nat) : Int) else -1) := by
  intro d
  induction d with
  | zero =>
    intro j hd hj _
    have : l.drop j = [] := List.drop_of_length_le (by omega)
    rw [slices_Index_int_int.l0.eq_2, if_neg (by omega), this]
    simp
  | succ d ih =>
    intro j hd hj hne
    have hlt : j < l.length := by omega
    have hx := Mine.getD_at (0 : Int) hlt
    have hdr := Mine.drop_at hx
    rw [slices_Index_int_int.l0.eq_2, if_pos (by omega), if_pos (by omega), if_pos (by omega)]
    have hrd : rd l (j : Int) = l.getD j 0 := by simp [rd]
    rw [hrd, hdr]
    by_cases c : v = l.getD j 0
    · rw [if_pos c, if_pos (by rw [c]; exact List.mem_cons_self), List.idxOf_cons, c]
      simp
    · rw [if_neg c]
      have hw : wrap64 ((j : Int) + 1) = ((j + 1 : Nat) : Int) := by unfold wrap64; omega
      rw [hw, ih (j + 1) (by omega) (by omega) (fun i hi => by
        rcases Nat.lt_or_ge i j with h1 | h1
        · exact hne i h1
        · rw [show i = j by omega]; exact fun e => c e.symm)]
      by_cases m : v ∈ l.drop (j + 1)
      · rw [if_pos m, if_pos (List.mem_cons_of_mem _ m), List.idxOf_cons]
        have : (l.getD j 0 == v) = false := by simp; exact fun e => c e.symm
        rw [this]
        simp only [cond_false]
        congr 1
        omega
      · rw [if_neg m, if_neg (by simp; exact ⟨c, m⟩)]
/-- Where a number is first; -1. -/
def placeOf (l : List Int) (v : Int) : Int := if v ∈ l then (l.idxOf v : Int) else -1
theorem index_f (l : List Int) (v : Int) (hl : l.length ≤ 17592186044416) : slices_Index_int_int.f (l.length + 1) l v = some (placeOf l v) := by
  unfold slices_Index_int_int.f placeOf
  have := index_l l v hl l.length 0 (by omega) (by omega) (fun i hi => by omega)
  simpa using this

theorem placeOf_lt {l : List Int} {v : Int} (h : v ∉ l) : placeOf l v = -1 := if_neg h
theorem placeOf_in {l : List Int} {v : Int} (h : v ∈ l) : placeOf l v = (l.idxOf v : Int) := if_pos h
set_option maxHeartbeats 1000000 in
set_option maxRecDepth 100000 in
theorem place_calls {w : World} {b : Nat} {ok : Nat → Prop} {room : Int} {l : List Int} {v : Value} (x : Int) (hM : fifo.M w b ok (room, l) v) :
    Calls Try.prog 22 #[v, .int .i64 x] w fun e w' => e = .returned (.int .i64 (placeOf l x)) ∧ ∃ nd, w' = w.drewN nd := by
  obtain ⟨g, sv, rfl, hA⟩ := hM
  obtain ⟨A, c, rfl⟩ := Kd.R_slice hA.row
  have h1 := hA.c1
  have HR := Aside0.mk (Kd.R_reads' hA.row)
  have HF := Aside0.mk (index_f l x (by have := hA.len; omega))
  clear hA
  go_enter Try.func22, Try.ntmps22
  go_wp2_with (first | (go_at_call 26; (with_reducible refine (slices_Index_int_int.calls (l.length + 1) A c l x (placeOf l x) _ HR.out.2.2 HR.out.2.1 HF.out).mono ?_); rintro e w3 ⟨rfl, ⟨nd, rfl⟩⟩))
  go_ret
  exact ⟨rfl, nd, rfl⟩

set_option maxHeartbeats 1000000 in
set_option maxRecDepth 100000 in
theorem all_calls {w : World} {b : Nat} {ok : Nat → Prop} {room : Int} {l : List Int} {v : Value} (hM : fifo.M w b ok (room, l) v) :
    Calls Try.prog 24 #[v] w fun e w' => ∃ v1, e = .returned v1 ∧ (Kd.int .i64).R 3 w' w.heap.size (fun k => w.heap.size ≤ k) v1 l ∧ Below w.heap.size w w' := by
  obtain ⟨g, sv, rfl, hA⟩ := hM
  obtain ⟨A, c, rfl⟩ := Kd.R_slice hA.row
  have h1 := hA.c1
  have HR := Aside0.mk (Kd.R_reads' hA.row)
  have HF := Aside0.mk (show slices_Clone_int_int.f l = some l by unfold slices_Clone_int_int.f; rw [if_pos (by have := hA.len; omega)])
  clear hA
  go_enter Try.func24, Try.ntmps24
  go_wp2_with (first | (go_at_call 28; (with_reducible refine (slices_Clone_int_int.calls A c l l _ HR.out.2.2 HR.out.2.1 HF.out).mono ?_); rintro e w3 ⟨v1, rfl, hO, hb⟩; have HO := Aside0.mk hO; have HB := Aside0.mk hb; clear hO hb))
  go_ret
  exact ⟨v1, rfl, Kd.R_mono (Kd.R_bound HO.out) (fun k hk => hk.2.1), HB.out⟩

set_option maxHeartbeats 1000000 in
set_option maxRecDepth 100000 in
theorem get_calls {w : World} {b : Nat} {ok : Nat → Prop} {room : Int} {l : List Int} {v : Value} (hM : fifo.M w b ok (room, l) v) :
    Calls Try.prog 27 #[v] w fun e w' => e = .returned (.tuple #[.int .i64 (front l), .bool (some_ l)]) ∧ fifo.M w' b ok (room, l.tail) v ∧ Wrote w w' ok := by
  obtain ⟨g, sv, rfl, hA⟩ := hM
  have HM := Aside0.mk (show fifo.M w b ok (room, l) (.pointer (some ⟨g, 0, none⟩)) from ⟨g, sv, rfl, hA⟩)
  by_cases hc : 0 < l.length
  · obtain ⟨g2, c2, he, hbg, hlt, _⟩ := Kd.R_form hA.row hc
    subst he
    have h1 := hA.c1
    have hb : b ≤ w.heap.size := by omega
    have hs : some_ l = true := decide_eq_true hc
    have HA := Aside0.mk hA
    have HC := Aside0.mk hc
    rw [hs]
    clear hc hA
    go_enter Try.func27, Try.ntmps27
    go_wp2_with (first | (go_at_call 29; (with_reducible refine (front_calls HM.out).mono ?_); rintro e w3 ⟨rfl, rfl⟩; rw [hs]) | (go_at_call 30; refine (delete_calls 0 HA.out.row hb HC.out).mono ?_; rintro e w4 ⟨rfl, hR, hW⟩; have HR := Aside0.mk hR; have HW := Aside0.mk hW; have k1 := Aside0.mk (hW.block g HA.out.2.2.1 (fun h => h.2 rfl)); clear hR hW; have hf1 := At.f1' HA.out k1.out; have hc1 := At.c1' HA.out k1.out))
    go_ret2
    refine ⟨rfl, ?_, ?_⟩
    · have := HA.out.put (l1 := l.tail) (fun k hk => hk) k1.out (by have h := HR.out; rw [List.eraseIdx_zero] at h; exact h) (by have := HA.out.2.2.2.2.2; simp only [List.length_tail] at *; omega)
      exact this
    · exact (HW.out.weaken (fun k hk => hk.1)).setCell (Or.inl HA.out.1) _
  · have hs : some_ l = false := decide_eq_false hc
    have hl : l = [] := List.length_eq_zero_iff.1 (by omega)
    subst hl
    rw [hs]
    clear hc hA
    go_enter Try.func27, Try.ntmps27
    go_wp2_with (first | (go_at_call 29; (with_reducible refine (front_calls HM.out).mono ?_); rintro e w3 ⟨rfl, rfl⟩; rw [hs]))
    go_ret2
    exact ⟨rfl, HM.out, Wrote.refl _ _⟩

theorem erase_at (x : Int) : ∀ l : List Int, l.eraseIdx (l.idxOf x) = l.erase x
  | [] => rfl
  | y :: t => by
    rw [List.idxOf_cons, List.erase_cons]
    by_cases h : y = x
    · subst h; simp
    · have : (y == x) = false := by simpa using h
      rw [this]
      simp [erase_at x t]
theorem fifo_drewN {w : World} {b : Nat} {ok : Nat → Prop} {x : Int × List Int} {v : Value} (h : fifo.M w b ok x v) (n : Nat) : fifo.M (w.drewN n) b ok x v := fifo.move (fun _ _ => rfl) h
/-- The first one, put last. -/
def rot : List Int → List Int
  | [] => []
  | x :: t => t ++ [x]
end Go.Proofs.Ytnfpgdcnihbokaa.Fifo
