/- FifoKnown: the examples of the chapter, and fixed edge cases (the walk; no condition). -/
import Derived.Test.YtfkjcimbpijfcaaAwake
import Derived.Test.YtfkjcimbpijfcaaFifo5
namespace Go.Proofs.Ytfkjcimbpijfcaa.Fifo
open Go.RowKit Go.Proofs.YtfkjcimbpijfcaaW.PrintWords Go.Proofs.YtfkjcimbpijfcaaW.PrintLast Go.Proofs.YtfkjcimbpijfcaaW.PrintMore Go.Proofs.Ytfkjcimbpijfcaa.St Go.Proofs.Ytfkjcimbpijfcaa.Q
set_option linter.unusedVariables false
set_option linter.unusedSimpArgs false
attribute [local go_sem] max2_int min2_int max_two min_two max_three min_three max_four min_four






def RelK (w : World) (vf vg i : Value) (wr : World) : Prop :=
  ∃ (j : Nat) (c : Nat → Nat), j ≤ 256 ∧ i = .int .i64 j ∧ fifo.M wr w.heap.size (fun k => c k = 0) (1, []) vf ∧ fifo.M wr w.heap.size (fun k => c k = 1) (256, List.replicate j 7) vg ∧ Below w.heap.size w wr
set_option maxHeartbeats 1000000 in
set_option maxRecDepth 100000 in
theorem known_walk (w : World) : Calls Try.prog 5 #[] w fun e w' => e = .returned (.bool true) ∧ Below w.heap.size w w' := by
  go_enter Try.func5, Try.ntmps5
  go_wp2_with (first | (go_at_call 7; (with_reducible refine (awake_calls _).mono ?_); rintro e w1 ⟨rfl, hb1⟩; have HB1 := Aside0.mk hb1; clear hb1) | (go_at_call 8; (with_reducible refine (newC (w0 := w) (fun _ => 9) 0 (-1) HB1.out).mono ?_); rintro e w2 ⟨g2, rfl, c2, h2, t2⟩; have Hf2 := Aside0.mk (show fifo.M w2 w.heap.size (fun k => c2 k = 0) (1, []) (Value.pointer (some ⟨g2, 0, none⟩)) from h2); have B2 := Aside0.mk (t2.far HB1.out); clear h2 t2) | (go_at_call 8; (with_reducible refine (newC (w0 := w) c2 1 999 B2.out).mono ?_); rintro e w3 ⟨g3, rfl, c3, h3, t3⟩; have Hg3 := Aside0.mk (show fifo.M w3 w.heap.size (fun k => c3 k = 1) (256, []) (Value.pointer (some ⟨g3, 0, none⟩)) from h3); have B3 := Aside0.mk (t3.far B2.out); have Hf3 := Aside0.mk (t3.keep _ fifo 0 _ _ (by decide) Hf2.out); clear h3 t3) | (go_at_call 11; (with_reducible refine (getC Hf3.out).mono ?_); rintro e w4 ⟨rfl, c4, h4, t4⟩; rw [show some_ ([] : List Int) = false from rfl]; have Hf4 := Aside0.mk (show fifo.M w4 w.heap.size (fun k => c4 k = 0) (1, []) (Value.pointer (some ⟨g2, 0, none⟩)) from h4); have B4 := Aside0.mk (t4.far B3.out); have Hg4 := Aside0.mk (t4.keep _ fifo 1 _ _ (by decide) Hg3.out); clear h4 t4) | (go_at_call 17; (with_reducible refine (front_calls Hf4.out).mono ?_); rintro e w5 ⟨rfl, rfl⟩; rw [show some_ ([] : List Int) = false from rfl]) | (go_at_call 10; (with_reducible refine (turnC Hf4.out).mono ?_); rintro e w6 ⟨rfl, c6, h6, t6⟩; rw [show some_ ([] : List Int) = false from rfl]; have Hf6 := Aside0.mk (show fifo.M w6 w.heap.size (fun k => c6 k = 0) (1, []) (Value.pointer (some ⟨g2, 0, none⟩)) from h6); have B6 := Aside0.mk (t6.far B4.out); have Hg6 := Aside0.mk (t6.keep _ fifo 1 _ _ (by decide) Hg4.out); clear h6 t6) | (go_at_call 14; (with_reducible refine (dropC 5 Hf6.out).mono ?_); rintro e w7 ⟨rfl, c7, h7, t7⟩; rw [show decide ((5 : Int) ∈ ([] : List Int)) = false from rfl]; have Hf7 := Aside0.mk (show fifo.M w7 w.heap.size (fun k => c7 k = 0) (1, []) (Value.pointer (some ⟨g2, 0, none⟩)) from h7); have B7 := Aside0.mk (t7.far B6.out); have Hg7 := Aside0.mk (t7.keep _ fifo 1 _ _ (by decide) Hg6.out); clear h7 t7) | (go_at_call 9; (with_reducible refine (putC 5 Hf7.out).mono ?_); rintro e w8 ⟨rfl, c8, h8, t8⟩; rw [show decide (((([] : List Int).length : Nat) : Int) ≠ 1) = true from rfl]; have Hf8 := Aside0.mk (show fifo.M w8 w.heap.size (fun k => c8 k = 0) (1, [5]) (Value.pointer (some ⟨g2, 0, none⟩)) from h8); have B8 := Aside0.mk (t8.far B7.out); have Hg8 := Aside0.mk (t8.keep _ fifo 1 _ _ (by decide) Hg7.out); clear h8 t8) | (go_at_call 9; (with_reducible refine (putC 6 Hf8.out).mono ?_); rintro e w9 ⟨rfl, c9, h9, t9⟩; rw [show decide (((([5] : List Int).length : Nat) : Int) ≠ 1) = false from rfl]; have Hf9 := Aside0.mk (show fifo.M w9 w.heap.size (fun k => c9 k = 0) (1, [5]) (Value.pointer (some ⟨g2, 0, none⟩)) from h9); have B9 := Aside0.mk (t9.far B8.out); have Hg9 := Aside0.mk (t9.keep _ fifo 1 _ _ (by decide) Hg8.out); clear h9 t9) | (go_at_call 10; (with_reducible refine (turnC Hf9.out).mono ?_); rintro e w10 ⟨rfl, c10, h10, t10⟩; rw [show some_ ([5] : List Int) = true from rfl]; have Hf10 := Aside0.mk (show fifo.M w10 w.heap.size (fun k => c10 k = 0) (1, [5]) (Value.pointer (some ⟨g2, 0, none⟩)) from h10); have B10 := Aside0.mk (t10.far B9.out); have Hg10 := Aside0.mk (t10.keep _ fifo 1 _ _ (by decide) Hg9.out); clear h10 t10) | (go_at_call 17; (with_reducible refine (front_calls Hf10.out).mono ?_); rintro e w11 ⟨rfl, rfl⟩; rw [show some_ ([5] : List Int) = true from rfl]; rw [show front ([5] : List Int) = 5 from rfl]) | (go_at_call 14; (with_reducible refine (dropC 5 Hf10.out).mono ?_); rintro e w12 ⟨rfl, c12, h12, t12⟩; rw [show decide ((5 : Int) ∈ ([5] : List Int)) = true from rfl]; have Hf12 := Aside0.mk (show fifo.M w12 w.heap.size (fun k => c12 k = 0) (1, []) (Value.pointer (some ⟨g2, 0, none⟩)) from h12); have B12 := Aside0.mk (t12.far B10.out); have Hg12 := Aside0.mk (t12.keep _ fifo 1 _ _ (by decide) Hg10.out); clear h12 t12))
  generalize hvf : (Value.pointer (some ⟨g2, 0, none⟩)) = vf at Hf12 ⊢
  generalize hvg : (Value.pointer (some ⟨g3, 0, none⟩)) = vg at Hg12 ⊢
  go_loopw [15] (fun i wr => RelK w vf vg i wr) (fun i _ => 256 - (intOf i).toNat)
  case atStart => exact ⟨0, c12, by decide, rfl, Hf12.out, Hg12.out, B12.out⟩
  case round =>
    obtain ⟨j, c3, hj, rfl, hF, hG, hB⟩ := hrel
    have HF := Aside0.mk hF
    have HG := Aside0.mk hG
    have HB := Aside0.mk hB
    clear hF hG hB
    by_cases hlt : j < 256
    · have HD := Aside0.mk (decide_eq_true (show ((List.replicate j (7 : Int)).length : Int) ≠ 256 by rw [List.length_replicate]; omega))
      have HT := Aside0.mk (show putl 256 (List.replicate j 7) 7 = List.replicate (j + 1) 7 by rw [putl_f (by rw [List.length_replicate]; omega), List.replicate_succ'])
      go_wp2_with (first | (go_at_call 9; (with_reducible refine (putC 7 HG.out).mono ?_); rintro e w51 ⟨rfl, c51, h51, t51⟩; rw [HD.out]; have Hg51 := Aside0.mk (show fifo.M w51 w.heap.size (fun k => c51 k = 1) (256, List.replicate (j + 1) 7) vg from HT.out ▸ h51); have B51 := Aside0.mk (t51.far HB.out); have Hf51 := Aside0.mk (t51.keep _ fifo 0 _ _ (by decide) HF.out); clear h51 t51))
      exact ⟨⟨j + 1, c51, by omega, by go_num, Hf51.out, Hg51.out, B51.out⟩, by simp [intOf]; omega⟩
    · have hje : j = 256 := by omega
      subst hje
      have HG2 := Aside0.mk HG.out
      have D1 := Aside0.mk (decide_eq_false (show ¬ ((List.replicate 256 (7 : Int)).length : Int) ≠ 256 by rw [List.length_replicate]; decide))
      have D2 := Aside0.mk (decide_eq_true (show (7 : Int) ∈ List.replicate 256 7 by rw [List.mem_replicate]; exact ⟨by decide, rfl⟩))
      have D3 := Aside0.mk (show putl 256 (List.replicate 256 7) 7 = List.replicate 256 7 from putl_t (by rw [List.length_replicate]; rfl))
      have D4 := Aside0.mk (show (List.replicate 256 (7 : Int)).erase 7 = List.replicate 255 7 from List.erase_cons_head ..)
      clear HG
      go_wp2_with (first | (go_at_call 9; (with_reducible refine (putC 7 HG2.out).mono ?_); rintro e w71 ⟨rfl, c71, h71, t71⟩; rw [D1.out]; have Hg71 := Aside0.mk (show fifo.M w71 w.heap.size (fun k => c71 k = 1) (256, List.replicate 256 7) vg from D3.out ▸ h71); have B71 := Aside0.mk (t71.far HB.out); have Hf71 := Aside0.mk (t71.keep _ fifo 0 _ _ (by decide) HF.out); clear h71 t71) | (go_at_call 14; (with_reducible refine (dropC 7 Hg71.out).mono ?_); rintro e w72 ⟨rfl, c72, h72, t72⟩; rw [D2.out]; have Hg72 := Aside0.mk (show fifo.M w72 w.heap.size (fun k => c72 k = 1) (256, List.replicate 255 7) vg from D4.out ▸ h72); have B72 := Aside0.mk (t72.far B71.out); have Hf72 := Aside0.mk (t72.keep _ fifo 0 _ _ (by decide) Hf71.out); clear h72 t72) | (go_at_call 12; (with_reducible refine (len_calls Hf72.out).mono ?_); rintro e w73 ⟨rfl, rfl⟩) | (go_at_call 13; (with_reducible refine (place_calls 5 Hf72.out).mono ?_); rintro e w74 ⟨rfl, nd74, rfl⟩; rw [show placeOf ([] : List Int) 5 = -1 from rfl]; have Hf74 := Aside0.mk (St.drewN (s := fifo) Hf72.out nd74); have Hg74 := Aside0.mk (St.drewN (s := fifo) Hg72.out nd74); have B74 := Aside0.mk (pw_below_drewN B72.out nd74)) | (go_at_call 12; (with_reducible refine (len_calls Hg74.out).mono ?_); rintro e w75 ⟨rfl, rfl⟩))
      go_ret
      exact ⟨rfl, B74.out⟩
end Go.Proofs.Ytfkjcimbpijfcaa.Fifo
