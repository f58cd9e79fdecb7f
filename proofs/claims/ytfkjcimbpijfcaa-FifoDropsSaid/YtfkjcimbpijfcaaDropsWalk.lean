/- FifoDrops: one that is dropped leaves all others in their order; its place is the first one's (the walk; no condition). -/
import Derived.Test.YtfkjcimbpijfcaaAwake
import Derived.Test.YtfkjcimbpijfcaaFifo5
namespace Go.Proofs.Ytfkjcimbpijfcaa.Fifo
open Go.RowKit Go.Proofs.YtfkjcimbpijfcaaW.PrintWords Go.Proofs.YtfkjcimbpijfcaaW.PrintLast Go.Proofs.YtfkjcimbpijfcaaW.PrintMore Go.Proofs.Ytfkjcimbpijfcaa.St Go.Proofs.Ytfkjcimbpijfcaa.Q
set_option linter.unusedVariables false
set_option linter.unusedSimpArgs false
attribute [local go_sem] max2_int min2_int max_two min_two max_three min_three max_four min_four





theorem erase_in {t : List Int} {a : Int} (x : Int) (h : a ∈ t) : (t ++ [x]).erase a = t.erase a ++ [x] := List.erase_append_left _ h
theorem erase_ne {t : List Int} {a x : Int} (h : x ≠ a) : (t ++ [x]).erase a = t.erase a ++ [x] := by
  by_cases m : a ∈ t
  · exact erase_in x m
  · rw [List.erase_append_right _ m, List.erase_of_not_mem m, List.erase_of_not_mem (by simpa using fun e => h e.symm)]
theorem erase_new {t : List Int} {a : Int} (h : a ∉ t) : (t ++ [a]).erase a = t.erase a := by
  rw [List.erase_append_right _ h, List.erase_of_not_mem h]
  simp
theorem place_in {t : List Int} {a : Int} (x : Int) (h : a ∈ t) : placeOf (t ++ [x]) a = placeOf t a := by
  rw [placeOf_in (List.mem_append_left _ h), placeOf_in h, List.idxOf_append, if_pos h]
theorem place_ne {t : List Int} {a x : Int} (h : x ≠ a) : placeOf (t ++ [x]) a = placeOf t a := by
  by_cases m : a ∈ t
  · exact place_in x m
  · rw [placeOf_lt m, placeOf_lt (by simp [m]; exact fun e => h e.symm)]
theorem place_new {t : List Int} {a : Int} (h : a ∉ t) : placeOf (t ++ [a]) a = (t.length : Int) := by
  rw [placeOf_in (by simp), List.idxOf_append, if_neg h]
  simp
theorem place_sign (t : List Int) (a : Int) : (a ∈ t → 0 ≤ placeOf t a) ∧ (a ∉ t → placeOf t a = -1) := ⟨fun h => by rw [placeOf_in h]; omega, fun h => placeOf_lt h⟩
def RelD (w : World) (l : List Int) (a : Int) (v wv av i : Value) (wr : World) : Prop :=
  ∃ (j : Nat) (c : Nat → Nat), j ≤ l.length ∧ i = .int .i64 j ∧ av = .int .i64 (placeOf (l.take j) a) ∧ fifo.M wr w.heap.size (fun k => c k = 0) (200, l.take j) v ∧ (row 3 (Kd.int .i64)).M wr w.heap.size (fun k => c k = 1) ((l.take j).erase a) wv ∧ Below w.heap.size w wr
set_option maxHeartbeats 1000000 in
set_option maxRecDepth 100000 in
theorem drops_walk (A : Option Addr) (cap : Nat) (l : List Int) {w : World} (hr : (Kd.int .i64).C w A l.length l) (hc : l.length ≤ cap) (hg : ∀ a ∈ l, (Lit.int .i64 a).wf = true) (a : Int) (_ : (Lit.int .i64 a).wf = true) (_ : World) :
    Calls Try.prog 4 #[.slice A l.length cap, .int .i64 a] w fun e w' => e = .returned (.bool true) ∧ Below w.heap.size w w' := by
  have HC := Aside0.mk hr
  clear hr hg
  by_cases hl : l.length ≤ 100
  · have hd : decide (100 < l.length) = false := decide_eq_false (by omega)
    have HL := Aside0.mk hl
    go_enter Try.func4, Try.ntmps4
    go_wp2_with (first | (go_at_call 7; (with_reducible refine (awake_calls _).mono ?_); rintro e w1 ⟨rfl, hb1⟩; have HB1 := Aside0.mk hb1; clear hb1) | (go_at_call 8; (with_reducible refine (newC (w0 := w) (fun _ => 5) 0 200 HB1.out).mono ?_); rintro e w2 ⟨g, rfl, c2, h2, t2⟩; rw [show clamp 200 = 200 from rfl] at h2; have H2 := Aside0.mk h2; have HB2 := Aside0.mk (t2.far HB1.out); clear h2 t2))
    generalize hv : (Value.pointer (some ⟨g, 0, none⟩)) = v at H2 ⊢
    go_loopw [6, 7, 8] (fun wv av i wr => RelD w l a v wv av i wr) (fun _ _ i _ => l.length - (intOf i).toNat)
    case atStart => exact ⟨0, c2, Nat.zero_le _, rfl, rfl, H2.out, Kd.R_nil _ _ _ _ _, HB2.out⟩
    case round =>
      obtain ⟨j, c3, hj, rfl, rfl, hF, hR, hB⟩ := hrel
      obtain ⟨A1, k1, rfl⟩ := Kd.R_slice hR
      have HF := Aside0.mk hF
      have HR := Aside0.mk hR
      have HB := Aside0.mk hB
      clear hF hR hB H2 HB1 HB2
      by_cases hlt : j < l.length
      · obtain ⟨ad, hA, hcw⟩ := Mine.read_at HC.out hlt
        subst hA
        have HP := Aside0.mk (putl_f (room := 200) (l := l.take j) (x := l.getD j 0) (by rw [List.length_take]; omega))
        have HT := Aside0.mk (Mine.take_at (Mine.getD_at (0 : Int) hlt))
        have HD := Aside0.mk (decide_eq_true (show ((l.take j).length : Int) ≠ 200 by rw [List.length_take]; omega))
        have HN := Aside0.mk (show (l.take j).length = j by rw [List.length_take]; omega)
        have HS := Aside0.mk (place_sign (l.take j) a)
        have HE := Aside0.mk (show ((l.take j).erase a).length ≤ 100 by have := List.length_erase_le (a := a) (l := l.take j); rw [List.length_take] at this; omega)
        generalize l.getD j 0 = x at hcw HP HT
        have HCW := Aside0.mk hcw
        have hcell := pw_cell_below HB.out hcw
        clear hcw
        by_cases hx : x = a
        · by_cases hn : a ∈ l.take j
          · have hp := HS.out.1 hn
            have HX := Aside0.mk (place_in x hn)
            have HY := Aside0.mk (erase_in x hn)
            have q1 : (x == a) = true := beq_iff_eq.mpr hx
            clear hx hn
            generalize placeOf (l.take j) a = p at hp HX
            have q2 : decide (p < 0) = false := decide_eq_false (by omega)
            go_wp2_with (first | (go_at_call 9; (with_reducible refine (putC x HF.out).mono ?_); rintro e w3 ⟨rfl, c4, h3, t3⟩; rw [HD.out]; have H3 := Aside0.mk h3; have HB3 := Aside0.mk (t3.far HB.out); have HR3 := Aside0.mk (t3.keep _ (row 3 (Kd.int .i64)) 1 _ _ (by decide) HR.out); clear h3 t3; have hcell3 := pw_cell_below HB3.out HCW.out) | ((with_reducible refine gate_builtin (b := .append) (xs := #[.tmp 39, .tmp 44]) rfl ?_); at_builtin; refine Kd.R_append (Kd.int .i64) (w0 := w) w.heap.size rfl (.tmp 39) (.tmp 44) 22 3 (.int .i64 0) 8 rfl Try.underlying22 info_int rfl (by decide) (by decide) (.slice A1 ((l.take j).erase a).length k1) ((l.take j).erase a) x [.int .i64 x] (fun k => mineOf c4 1 w k ∨ w3.heap.size ≤ k) (fun _ => False) rfl rfl ?hp (fun _ h => h.elim) (fun k hk => Or.inr hk) (row_ready HR3.out) HB3.out HB3.out.size (by have := HE.out; omega) ?_; (case hp => rfl); intro v1 w4 hO hB4 hG hat; obtain ⟨A4, k4, rfl⟩ := Kd.R_slice hO; obtain ⟨c5, h5, t5⟩ := row_turned HR3.out hO hG HB3.out.size; have HR5 := Aside0.mk h5; have H5 := Aside0.mk (t5.keep _ fifo 0 _ _ (by decide) H3.out); have HB5 := Aside0.mk (t5.far HB3.out); clear h5 t5 hO hB4 hG hat))
            refine ⟨⟨j + 1, c5, by omega, by go_num, by rw [HT.out, HX.out], by rw [HT.out, ← HP.out]; exact H5.out, ?_, HB5.out⟩, by simp [intOf]; omega⟩
            have h := HR5.out
            rw [HT.out, HY.out]
            rw [show (((l.take j).erase a) ++ [x]).length = ((l.take j).erase a).length + 1 by simp] at h
            exact h
          · have hp := HS.out.2 hn
            have HX := Aside0.mk (place_new hn)
            have HY := Aside0.mk (erase_new hn)
            have q1 : (x == a) = true := beq_iff_eq.mpr hx
            subst hx
            clear hn
            rw [hp]
            go_wp2_with (first | (go_at_call 9; (with_reducible refine (putC x HF.out).mono ?_); rintro e w3 ⟨rfl, c4, h3, t3⟩; rw [HD.out]; have H3 := Aside0.mk h3; have HB3 := Aside0.mk (t3.far HB.out); have HR3 := Aside0.mk (t3.keep _ (row 3 (Kd.int .i64)) 1 _ _ (by decide) HR.out); clear h3 t3; have hcell3 := pw_cell_below HB3.out HCW.out))
            exact ⟨⟨j + 1, c4, by omega, by go_num, by rw [HT.out, HX.out, HN.out], by rw [HT.out, ← HP.out]; exact H3.out, by rw [HT.out, HY.out]; exact HR3.out, HB3.out⟩, by simp [intOf]; omega⟩
        · have HX := Aside0.mk (place_ne (t := l.take j) hx)
          have HY := Aside0.mk (erase_ne (t := l.take j) hx)
          have q1 : (x == a) = false := beq_eq_false_iff_ne.mpr hx
          clear hx
          generalize placeOf (l.take j) a = p at HX
          go_wp2_with (first | (go_at_call 9; (with_reducible refine (putC x HF.out).mono ?_); rintro e w3 ⟨rfl, c4, h3, t3⟩; rw [HD.out]; have H3 := Aside0.mk h3; have HB3 := Aside0.mk (t3.far HB.out); have HR3 := Aside0.mk (t3.keep _ (row 3 (Kd.int .i64)) 1 _ _ (by decide) HR.out); clear h3 t3; have hcell3 := pw_cell_below HB3.out HCW.out) | ((with_reducible refine gate_builtin (b := .append) (xs := #[.tmp 39, .tmp 44]) rfl ?_); at_builtin; refine Kd.R_append (Kd.int .i64) (w0 := w) w.heap.size rfl (.tmp 39) (.tmp 44) 22 3 (.int .i64 0) 8 rfl Try.underlying22 info_int rfl (by decide) (by decide) (.slice A1 ((l.take j).erase a).length k1) ((l.take j).erase a) x [.int .i64 x] (fun k => mineOf c4 1 w k ∨ w3.heap.size ≤ k) (fun _ => False) rfl rfl ?hp (fun _ h => h.elim) (fun k hk => Or.inr hk) (row_ready HR3.out) HB3.out HB3.out.size (by have := HE.out; omega) ?_; (case hp => rfl); intro v1 w4 hO hB4 hG hat; obtain ⟨A4, k4, rfl⟩ := Kd.R_slice hO; obtain ⟨c5, h5, t5⟩ := row_turned HR3.out hO hG HB3.out.size; have HR5 := Aside0.mk h5; have H5 := Aside0.mk (t5.keep _ fifo 0 _ _ (by decide) H3.out); have HB5 := Aside0.mk (t5.far HB3.out); clear h5 t5 hO hB4 hG hat))
          refine ⟨⟨j + 1, c5, by omega, by go_num, by rw [HT.out, HX.out], by rw [HT.out, ← HP.out]; exact H5.out, ?_, HB5.out⟩, by simp [intOf]; omega⟩
          have h := HR5.out
          rw [HT.out, HY.out]
          rw [show (((l.take j).erase a) ++ [x]).length = ((l.take j).erase a).length + 1 by simp] at h
          exact h
      · have hje : j = l.length := by omega
        subst hje
        rw [List.take_length]
        have HF2 := Aside0.mk (show fifo.M wr w.heap.size (fun k => c3 k = 0) (200, l) v by have := HF.out; rwa [List.take_length] at this)
        have HR2 := Aside0.mk (show (row 3 (Kd.int .i64)).M wr w.heap.size (fun k => c3 k = 1) (l.erase a) (.slice A1 (l.erase a).length k1) by have := HR.out; rwa [List.take_length] at this)
        have HI := Aside0.mk (show beadlelaw6_ints.f ((l.erase a).length + 1) (l.erase a) (l.erase a) = some true by rw [ints_f _ _ (by have := List.length_erase_le (a := a) (l := l); have := HL.out; omega) (by have := List.length_erase_le (a := a) (l := l); have := HL.out; omega), decide_eq_true rfl])
        have HS := Aside0.mk (place_sign l a)
        clear HF HR hlt hj
        have hk : ∃ (p : Int) (m : Bool), placeOf l a = p ∧ decide (a ∈ l) = m ∧ decide (0 ≤ p) = m := by
          by_cases hm : a ∈ l
          · exact ⟨_, true, rfl, decide_eq_true hm, decide_eq_true (HS.out.1 hm)⟩
          · exact ⟨_, false, rfl, decide_eq_false hm, decide_eq_false (by rw [HS.out.2 hm]; decide)⟩
        obtain ⟨p, m, hp, hm, hq⟩ := hk
        have HPM := Aside0.mk (And.intro hp hm)
        try rw [hp]
        clear hp hm
        go_wp2_with (first | (go_at_call 13; (with_reducible refine (place_calls a HF2.out).mono ?_); rintro e w3 ⟨rfl, nd, rfl⟩; rw [HPM.out.1]) | (go_at_call 14; (with_reducible refine (dropC a (St.drewN HF2.out nd)).mono ?_); rintro e w4 ⟨rfl, c4, h4, t4⟩; rw [HPM.out.2]; have H4 := Aside0.mk h4; have HB4 := Aside0.mk (t4.far (pw_below_drewN HB.out nd)); have HR4 := Aside0.mk (t4.keep _ (row 3 (Kd.int .i64)) 1 _ _ (by decide) (St.drewN (s := row 3 (Kd.int .i64)) HR2.out nd)); clear h4 t4) | (go_at_call 16; (with_reducible refine (all_calls H4.out).mono ?_); rintro e w5 ⟨v5, rfl, hR5, hb5⟩; obtain ⟨A5, k5, rfl⟩ := Kd.R_slice hR5; have HR5 := Aside0.mk (Kd.R_reads' hR5); have HR6 := Aside0.mk (Kd.R_reads' (St.below (s := row 3 (Kd.int .i64)) HR4.out hb5)); have HB5 := Aside0.mk (HB4.out.trans (hb5.mono HB4.out.size)); clear hR5 hb5) | (go_at_call 15; (with_reducible refine (beadlelaw6_ints.calls ((l.erase a).length + 1) A5 k5 (l.erase a) A1 k1 (l.erase a) true _ HR5.out.2.2 HR5.out.2.1 HR6.out.2.2 HR6.out.2.1 HI.out).mono ?_); rintro e w6 ⟨rfl, ⟨nd2, rfl⟩⟩))
        go_ret
        exact ⟨rfl, pw_below_drewN HB5.out nd2⟩
  · have hd : decide (100 < l.length) = true := decide_eq_true (by omega)
    go_enter Try.func4, Try.ntmps4
    go_wp2_with (first | (go_at_call 7; (with_reducible refine (awake_calls _).mono ?_); rintro e w1 ⟨rfl, hb1⟩; have HB1 := Aside0.mk hb1; clear hb1))
    go_ret
    exact ⟨rfl, HB1.out⟩
end Go.Proofs.Ytfkjcimbpijfcaa.Fifo
