/- The chapter's own example (awake) answers true (no law is stated here; no condition). -/
import Derived.Test.YtfkjcimbpijfcaaFifo4
import Derived.Test.YtfkjcimbpijfcaaQx9
namespace Go.Proofs.Ytfkjcimbpijfcaa.Fifo
open Go.RowKit Go.Proofs.YtfkjcimbpijfcaaW.PrintWords Go.Proofs.YtfkjcimbpijfcaaW.PrintLast Go.Proofs.YtfkjcimbpijfcaaW.PrintMore Go.Proofs.Ytfkjcimbpijfcaa.St Go.Proofs.Ytfkjcimbpijfcaa.Q
set_option linter.unusedVariables false
set_option linter.unusedSimpArgs false
attribute [local go_sem] max2_int min2_int max_two min_two max_three min_three max_four min_four



theorem ints_l (l0 l1 : List Int) (hl : l0.length = l1.length) (hm : l0.length ≤ 100000) : ∀ (d j : Nat), l0.length - j = d → j ≤ l0.length → (∀ i, i < j → l0.getD i 0 = l1.getD i 0) → beadlelaw6_ints.l0 (d + 1) l0 l1 (j : Int) = some (decide (l0 = l1)) := by
  intro d
  induction d with
  | zero =>
    intro j hd hj he
    rw [beadlelaw6_ints.l0.eq_2, if_neg (by omega)]
    have : l0 = l1 := by
      apply List.ext_getElem hl
      intro i h1 h2
      have := he i (by omega)
      rwa [List.getD_eq_getElem?_getD, List.getD_eq_getElem?_getD, List.getElem?_eq_getElem h1, List.getElem?_eq_getElem h2] at this
    rw [decide_eq_true this]
  | succ d ih =>
    intro j hd hj he
    have hlt : j < l0.length := by omega
    rw [beadlelaw6_ints.l0.eq_2, if_pos (by omega)]
    rw [if_pos (by omega), if_pos (by omega)]
    have e0 : rd l0 (j : Int) = l0.getD j 0 := by simp [rd]
    have e1 : rd l1 (j : Int) = l1.getD j 0 := by simp [rd]
    rw [e0, e1]
    by_cases c : l0.getD j 0 = l1.getD j 0
    · have hw : wrap64 ((j : Int) + 1) = ((j + 1 : Nat) : Int) := by unfold wrap64; omega
      rw [if_pos c, hw, ih (j + 1) (by omega) (by omega) (fun i hi => by
        rcases Nat.lt_or_ge i j with h1 | h1
        · exact he i h1
        · rw [show i = j by omega]; exact c)]
    · rw [if_neg c, decide_eq_false (fun e => c (by rw [e]))]
theorem ints_f (l0 l1 : List Int) (hm : l0.length ≤ 100000) (hm1 : l1.length ≤ 100000) : beadlelaw6_ints.f (l0.length + 1) l0 l1 = some (decide (l0 = l1)) := by
  unfold beadlelaw6_ints.f
  by_cases h : l0.length = l1.length
  · rw [if_pos (by omega)]
    exact ints_l l0 l1 h hm l0.length 0 (by omega) (by omega) (fun i hi => by omega)
  · rw [if_neg (by omega), decide_eq_false (fun e => h (by rw [e]))]

set_option maxHeartbeats 1000000 in
set_option maxRecDepth 100000 in
theorem awake_calls (w : World) : Calls Try.prog 7 #[] w fun e w' => e = .returned (.bool true) ∧ Below w.heap.size w w' := by
  have HI := Aside0.mk (show beadlelaw6_ints.f 3 [2, 1] [2, 1] = some true from ints_f [2, 1] [2, 1] (by simp) (by simp))
  go_enter Try.func7, Try.ntmps7
  go_wp2_with (first | (go_at_call 8; (with_reducible refine (new1 (w0 := w) 4 (Below.refl _ _)).mono ?_); rintro e w1 ⟨g, rfl, h1⟩; rw [show clamp 4 = 4 from rfl] at h1; have H1 := Aside0.mk h1; clear h1) | (go_at_call 9; (with_reducible refine (put1 1 H1.out).mono ?_); rintro e w2 ⟨rfl, h2⟩; have H2 := Aside0.mk (show Own w w2 4 [1] (.pointer (some ⟨g, 0, none⟩)) from h2); clear h2; rw [show decide (((([] : List Int).length : Nat) : Int) ≠ 4) = true from rfl]) | (go_at_call 9; (with_reducible refine (put1 2 H2.out).mono ?_); rintro e w3 ⟨rfl, h3⟩; have H3 := Aside0.mk (show Own w w3 4 [1, 2] (.pointer (some ⟨g, 0, none⟩)) from h3); clear h3; rw [show decide (((([1] : List Int).length : Nat) : Int) ≠ 4) = true from rfl]) | (go_at_call 10; (with_reducible refine (turn1 H3.out).mono ?_); rintro e w4 ⟨rfl, h4⟩; have H4 := Aside0.mk (show Own w w4 4 [2, 1] (.pointer (some ⟨g, 0, none⟩)) from h4); clear h4; rw [show some_ [1, 2] = true from rfl]) | (go_at_call 16; (with_reducible refine (all1 H4.out).mono ?_); rintro e w5 ⟨v1, rfl, hR, h5, -⟩; obtain ⟨A, c, rfl⟩ := Kd.R_slice hR; have HR := Aside0.mk (Kd.R_reads' hR); have H5 := Aside0.mk h5; clear hR h5; have HL := Aside0.mk (show (Kd.int .i64).C (w5.alloc (.cells #[.int .i64 2, .int .i64 1] 3)) (some ⟨w5.heap.size, 0, none⟩) ([2, 1] : List Int).length [2, 1] from (Kd.R_reads' (lit_R .i64 w5 3 (Nat.le_refl _) [2, 1] (by decide))).2.2)) | (go_at_call 15; (with_reducible refine (show Calls Try.prog 15 #[.slice A 2 c, .slice (some ⟨w5.heap.size, 0, none⟩) 2 2] (w5.alloc (.cells #[.int .i64 2, .int .i64 1] 3)) _ from (beadlelaw6_ints.calls 3 A c [2, 1] (some ⟨w5.heap.size, 0, none⟩) 2 [2, 1] true _ (Kd.C_alloc HR.out.2.2 _) HR.out.2.1 HL.out (by decide) HI.out)).mono ?_); rintro e w6 ⟨rfl, ⟨nd, rfl⟩⟩; have H6 := Aside0.mk ((H5.out.below (below_alloc (Below.refl _ _) (.cells #[.int .i64 2, .int .i64 1] 3))).drewN nd)) | (go_at_call 13; (with_reducible refine (place1 1 H6.out).mono ?_); rintro e w7 ⟨rfl, h7, -⟩; have H7 := Aside0.mk h7; clear h7; rw [show placeOf [2, 1] 1 = 1 from by decide +kernel]))
  go_ret
  exact ⟨rfl, H7.out.far⟩
end Go.Proofs.Ytfkjcimbpijfcaa.Fifo
