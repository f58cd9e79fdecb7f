/- Take of those that take turns; the chapter's own example answers true (no law is stated here; each says its conditions). -/
import Derived.Test.YtmjmfkbdnhdafaaMany
import Derived.Test.YtmjmfkbdnhdafaaQx7
namespace Go.Proofs.Ytmjmfkbdnhdafaa.Robin
open Go.RowKit Go.Proofs.YtmjmfkbdnhdafaaW.PrintWords Go.Proofs.YtmjmfkbdnhdafaaW.PrintLast Go.Proofs.YtmjmfkbdnhdafaaW.PrintMore Go.Proofs.Ytmjmfkbdnhdafaa.St Go.Proofs.Ytmjmfkbdnhdafaa.Q Go.Proofs.Ytmjmfkbdnhdafaa.Fifo
set_option linter.unusedVariables false
set_option linter.unusedSimpArgs false
attribute [local go_sem] max2_int min2_int max_two min_two max_three min_three max_four min_four


theorem ints_l (l0 l1 : List Int) (hl : l0.length = l1.length) (hm : l0.length ≤ 100000) : ∀ (d j : Nat), l0.length - j = d → j ≤ l0.length → (∀ i, i < j → l0.getD i 0 = l1.getD i 0) → beadlelaw17_ints.l0 (d + 1) l0 l1 (j : Int) = some (decide (l0 = l1)) := by
  intro d
  induction d with
  | zero =>
    intro j hd hj he
    rw [beadlelaw17_ints.l0.eq_2, if_neg (by omega)]
    have : l0 = l1 := by
      apply List.ext_getElem hl
      intro i h1 h2
      have := he i (by omega)
      rwa [List.getD_eq_getElem?_getD, List.getD_eq_getElem?_getD, List.getElem?_eq_getElem h1, List.getElem?_eq_getElem h2] at this
    rw [decide_eq_true this]
  | succ d ih =>
    intro j hd hj he
    have hlt : j < l0.length := by omega
    rw [beadlelaw17_ints.l0.eq_2, if_pos (by omega)]
    rw [if_pos (by omega), if_pos (by omega)]
    have e0 : rd l0 (j : Int) = l0.getD j 0 := by simp [rd]
    have e1 : rd l1 (j : Int) = l1.getD j 0 := by simp [rd]
    rw [e0, e1]
    by_cases c : l0.getD j 0 = l1.getD j 0
    · have hw : wrap64 ((j : Int) + 1) = ((j + 1 : Nat) : Int) := by unfold wrap64; omega
      rw [if_pos c, hw, ih (j + 1) (by omega) (by omega) (fun i hi => by
        rcases Nat.lt_or_ge i j with h1 | h1
        · exact he i h1
        · rw [show i = j by omega]; exact c)]
    · rw [if_neg c, decide_eq_false (fun e => c (by rw [e]))]
theorem ints_f (l0 l1 : List Int) (hm : l0.length ≤ 100000) (hm1 : l1.length ≤ 100000) : beadlelaw17_ints.f (l0.length + 1) l0 l1 = some (decide (l0 = l1)) := by
  unfold beadlelaw17_ints.f
  by_cases h : l0.length = l1.length
  · rw [if_pos (by omega)]
    exact ints_l l0 l1 h hm l0.length 0 (by omega) (by omega) (fun i hi => by omega)
  · rw [if_neg (by omega), decide_eq_false (fun e => h (by rw [e]))]


theorem robin_turn {w0 W : World} {c : Nat → Nat} {i g : Nat} {room : Int} {l : List Int} {pv : Value} (hM : robin.M W w0.heap.size (fun k => c k = i) (room, l) (.pointer (some ⟨g, 0, none⟩))) (hA : At W w0.heap.size (fun k => c k = i) (room, l) g pv) :
    Calls Try.prog 23 #[pv] W fun e w' => ∃ r, e = .returned r ∧ ∃ c', robin.M w' w0.heap.size (fun k => c' k = i) (room, rot l) (.pointer (some ⟨g, 0, none⟩)) ∧ Turned c c' i w0 W w' := by
  obtain ⟨pv2, hA2⟩ := robin_at (St.mine (s := robin) hM)
  have e1 := hA.2.2.2.1
  have e2 := hA2.2.2.2.1
  rw [e1] at e2
  have hp : pv = pv2 := by simpa using e2
  subst hp
  refine (turn_calls hA2.fif).mono fun e w' ⟨he, hf, hw⟩ => ?_
  have h3 := hA2.after hf hw
  exact ⟨_, he, turned h3.1.toM h3.2 (robin_size hM)⟩
set_option maxHeartbeats 2000000 in
set_option maxRecDepth 100000 in
theorem take_calls {w0 W : World} {c : Nat → Nat} {room : Int} {l : List Int} {v : Value} (n : Int) (hM : robin.M W w0.heap.size (fun k => c k = 0) (room, l) v) (hB : Below w0.heap.size w0 W) :
    Calls Try.prog 14 #[v, .int .i64 n] W fun e w' => ∃ v1, e = .returned v1 ∧ ∃ c' : Nat → Nat, robin.M w' w0.heap.size (fun k => c' k = 0) (room, l.drop (heldN n l) ++ l.take (heldN n l)) v ∧ (crow .i64).M w' w0.heap.size (fun k => c' k = 1) (l.take (heldN n l)) v1 ∧ Below w0.heap.size w0 w' := by
  have HM := Aside0.mk hM
  have HB0 := Aside0.mk hB
  have hh := held_le n l
  have hl := (robin_len hM).2.1
  generalize hn : heldN n l = h at hh
  have HN := Aside0.mk hn
  have HTL := Aside0.mk (show (l.take h).length = h by rw [List.length_take]; omega)
  clear hM hB hn
  go_enter Try.func14, Try.ntmps14
  go_wp2_with (first | (go_at_call 12; (with_reducible refine (see_calls n HM.out).mono ?_); rintro e w3 ⟨v1, rfl, hO, hb⟩; rw [HN.out] at hO; obtain ⟨A1, c1, rfl, _⟩ := crow_reads hO; rw [HTL.out] at hO ⊢; obtain ⟨c3, k3, t3⟩ := turned_new (s := crow .i64) (w0 := w0) (c := c) (i := 1) hO hb HB0.out.size (fun hh => crow_lower hh HB0.out.size); have HC3 := Aside0.mk k3; have HM3 := Aside0.mk (t3.keep _ robin 0 _ _ (by decide) HM.out); have HB3 := Aside0.mk (t3.far HB0.out); clear hO hb k3 t3))
  go_loopw [11] (fun iv wr => RelT w0 c room l h v (.slice A1 h c1) iv wr) (fun iv _ => h - (intOf iv).toNat)
  case atStart => exact ⟨0, c3, Nat.zero_le _, rfl, by simpa using HM3.out, HC3.out, HB3.out⟩
  case round =>
    obtain ⟨j, c4, hj, rfl, hM4, hC4, hB4⟩ := hrel
    clear HM3 HC3 HB3
    have HM4 := Aside0.mk hM4
    have HC4 := Aside0.mk hC4
    have HB4 := Aside0.mk hB4
    clear hM4 hC4 hB4
    by_cases hlt : j < h
    · obtain ⟨g, hv⟩ : ∃ g, v = .pointer (some ⟨g, 0, none⟩) := by obtain ⟨g, pv, e, _⟩ := HM4.out; exact ⟨g, e⟩
      subst hv
      obtain ⟨pv4, hA4⟩ := robin_at HM4.out
      obtain ⟨gf4, hpv⟩ := hA4.form
      subst hpv
      have k1 := hA4.c1
      have HA4 := Aside0.mk hA4
      have HR4 := Aside0.mk (rot_step (l := l) (j := j) (by omega))
      clear hA4
      go_wp2_with (first | (go_at_call 23; (with_reducible refine (robin_turn HM4.out HA4.out).mono ?_); rintro e w5 ⟨r5, rfl, c5, k5, t5⟩; rw [HR4.out] at k5; have HM5 := Aside0.mk k5; have HC5 := Aside0.mk (t5.keep _ (crow .i64) 1 _ _ (by decide) HC4.out); have HB5 := Aside0.mk (t5.far HB4.out); clear k5 t5))
      go_roundw
      case rel => exact ⟨j + 1, c5, by omega, by go_num, HM5.out, HC5.out, HB5.out⟩
      case measure => simp [intOf]; omega
    · have hje : j = h := by omega
      subst hje
      go_wp2
      go_ret
      exact ⟨_, rfl, c4, HM4.out, HC4.out, HB4.out⟩

set_option maxHeartbeats 2000000 in
set_option maxRecDepth 100000 in
theorem awake_calls (w : World) : Calls Try.prog 7 #[] w fun e w' => e = .returned (.bool true) ∧ Below w.heap.size w w' := by
  have HI1 := Aside0.mk (show beadlelaw17_ints.f 3 [1, 2] [1, 2] = some true from ints_f [1, 2] [1, 2] (by simp) (by simp))
  have HI2 := Aside0.mk (show beadlelaw17_ints.f 2 [3] [3] = some true from ints_f [3] [3] (by simp) (by simp))
  go_enter Try.func7, Try.ntmps7
  go_wp2_with (first | (go_at_call 8; (with_reducible refine (newC (w0 := w) (fun _ => 9) 0 5 (Below.refl _ _)).mono ?_); rintro e w2 ⟨g2, rfl, c2, h2, t2⟩; have Hs2 := Aside0.mk (show robin.M w2 w.heap.size (fun k => c2 k = 0) (5, []) (Value.pointer (some ⟨g2, 0, none⟩)) from h2); have B2 := Aside0.mk (t2.far (Below.refl _ _)); clear h2 t2) | (go_at_call 9; (with_reducible refine (toC Hs2.out (add_ok 1 (St.mine (s := robin) Hs2.out) (by decide) (by decide) (by decide))).mono ?_); rintro e w3 ⟨rfl, c3, h3, t3⟩; have Hs3 := Aside0.mk (show robin.M w3 w.heap.size (fun k => c3 k = 0) (5, [1]) (Value.pointer (some ⟨g2, 0, none⟩)) from h3); have B3 := Aside0.mk (t3.far B2.out); clear h3 t3) | (go_at_call 9; (with_reducible refine (toC Hs3.out (add_ok 2 (St.mine (s := robin) Hs3.out) (by decide) (by decide) (by decide))).mono ?_); rintro e w4 ⟨rfl, c4, h4, t4⟩; have Hs4 := Aside0.mk (show robin.M w4 w.heap.size (fun k => c4 k = 0) (5, [1, 2]) (Value.pointer (some ⟨g2, 0, none⟩)) from h4); have B4 := Aside0.mk (t4.far B3.out); clear h4 t4) | (go_at_call 9; (with_reducible refine (toC Hs4.out (add_ok 3 (St.mine (s := robin) Hs4.out) (by decide) (by decide) (by decide))).mono ?_); rintro e w5 ⟨rfl, c5, h5, t5⟩; have Hs5 := Aside0.mk (show robin.M w5 w.heap.size (fun k => c5 k = 0) (5, [1, 2, 3]) (Value.pointer (some ⟨g2, 0, none⟩)) from h5); have B5 := Aside0.mk (t5.far B4.out); clear h5 t5) | (go_at_call 14; (with_reducible refine (take_calls 2 Hs5.out B5.out).mono ?_); rintro e w20 ⟨v20, rfl, c20, h20, k20, b20⟩; obtain ⟨A20, m20, hv20, j20, C20⟩ := crow_reads (show (crow .i64).M w20 w.heap.size (fun k => c20 k = 1) [1, 2] v20 from k20); subst hv20; have HM20 := Aside0.mk (show robin.M w20 w.heap.size (fun k => c20 k = 0) (5, [3, 1, 2]) (Value.pointer (some ⟨g2, 0, none⟩)) from h20); have B20 := Aside0.mk b20; have HJ20 := Aside0.mk j20; have HC20 := Aside0.mk C20; have HLT20 := Aside0.mk (show (Kd.int .i64).C (w20.alloc (.cells #[.int .i64 1, .int .i64 2] 3)) (some ⟨w20.heap.size, 0, none⟩) ([1, 2] : List Int).length [1, 2] from (Kd.R_reads' (lit_R .i64 w20 3 (Nat.le_refl _) [1, 2] (by decide))).2.2); clear h20 k20 b20 j20 C20) | (go_at_call 11; (with_reducible refine (show Calls Try.prog 11 #[.slice A20 2 m20, .slice (some ⟨w20.heap.size, 0, none⟩) 2 2] (w20.alloc (.cells #[.int .i64 1, .int .i64 2] 3)) _ from (beadlelaw17_ints.calls 3 A20 m20 [1, 2] (some ⟨w20.heap.size, 0, none⟩) 2 [1, 2] true _ (Kd.C_alloc HC20.out _) HJ20.out HLT20.out (by decide) HI1.out)).mono ?_); rintro e w21 ⟨rfl, ⟨nd21, hw21⟩⟩; have HM21 := Aside0.mk (show robin.M w21 w.heap.size (fun k => c20 k = 0) (5, [3, 1, 2]) (Value.pointer (some ⟨g2, 0, none⟩)) from by rw [hw21]; exact St.drewN (s := robin) (St.below (s := robin) HM20.out (below_alloc (Below.refl _ _) (.cells #[.int .i64 1, .int .i64 2] 3))) nd21); have B21 := Aside0.mk (show Below w.heap.size w w21 from by rw [hw21]; exact pw_below_drewN (B20.out.trans ((below_alloc (Below.refl _ _) (.cells #[.int .i64 1, .int .i64 2] 3)).mono B20.out.size)) nd21); clear hw21) | (go_at_call 12; (with_reducible refine (see_calls 1 HM21.out).mono ?_); rintro e w22 ⟨v22, rfl, k22, b22⟩; obtain ⟨A22, m22, hv22, j22, C22⟩ := crow_reads (show (crow .i64).M w22 w21.heap.size (fun k => w21.heap.size ≤ k) [3] v22 from k22); subst hv22; have HM22 := Aside0.mk (St.below (s := robin) HM21.out b22); have B22 := Aside0.mk (B21.out.trans (b22.mono B21.out.size)); have HJ22 := Aside0.mk j22; have HC22 := Aside0.mk C22; have HLT22 := Aside0.mk (show (Kd.int .i64).C (w22.alloc (.cells #[.int .i64 3] 3)) (some ⟨w22.heap.size, 0, none⟩) ([3] : List Int).length [3] from (Kd.R_reads' (lit_R .i64 w22 3 (Nat.le_refl _) [3] (by decide))).2.2); clear k22 b22 j22 C22) | (go_at_call 11; (with_reducible refine (show Calls Try.prog 11 #[.slice A22 1 m22, .slice (some ⟨w22.heap.size, 0, none⟩) 1 1] (w22.alloc (.cells #[.int .i64 3] 3)) _ from (beadlelaw17_ints.calls 2 A22 m22 [3] (some ⟨w22.heap.size, 0, none⟩) 1 [3] true _ (Kd.C_alloc HC22.out _) HJ22.out HLT22.out (by decide) HI2.out)).mono ?_); rintro e w23 ⟨rfl, ⟨nd23, hw23⟩⟩; have HM23 := Aside0.mk (show robin.M w23 w.heap.size (fun k => c20 k = 0) (5, [3, 1, 2]) (Value.pointer (some ⟨g2, 0, none⟩)) from by rw [hw23]; exact St.drewN (s := robin) (St.below (s := robin) HM22.out (below_alloc (Below.refl _ _) (.cells #[.int .i64 3] 3))) nd23); have B23 := Aside0.mk (show Below w.heap.size w w23 from by rw [hw23]; exact pw_below_drewN (B22.out.trans ((below_alloc (Below.refl _ _) (.cells #[.int .i64 3] 3)).mono B22.out.size)) nd23); clear hw23) | (go_at_call 15; (with_reducible refine (len_calls HM23.out).mono ?_); rintro e wz ⟨rfl, rfl⟩))
  go_ret
  exact ⟨rfl, B23.out⟩
end Go.Proofs.Ytmjmfkbdnhdafaa.Robin
