/- Many turns at once (robin.Many): how often each was, and who is next (no law is stated here; each says its conditions). -/
import Derived.Test.YtmjmfkbdnhdafaaRobin
import Derived.StillTailTactics
namespace Go.Proofs.Ytmjmfkbdnhdafaa.Robin
open Go.RowKit Go.Proofs.YtmjmfkbdnhdafaaW.PrintWords Go.Proofs.YtmjmfkbdnhdafaaW.PrintLast Go.Proofs.YtmjmfkbdnhdafaaW.PrintMore Go.Proofs.Ytmjmfkbdnhdafaa.St Go.Proofs.Ytmjmfkbdnhdafaa.Q Go.Proofs.Ytmjmfkbdnhdafaa.Fifo
set_option linter.unusedVariables false
set_option linter.unusedSimpArgs false
attribute [local go_sem] max2_int min2_int max_two min_two max_three min_three max_four min_four



theorem robin_at {W : World} {b g : Nat} {ok : Nat → Prop} {x : Int × List Int} (h : robin.M W b ok x (.pointer (some ⟨g, 0, none⟩))) : ∃ pv, At W b ok x g pv := by
  obtain ⟨g1, pv, e, hA⟩ := h
  injection e with e
  injection e with e
  injection e with e
  subst e
  exact ⟨pv, hA⟩
/-- A new fifo takes the place of the old one. -/
theorem robin_swap {w0 W W1 : World} {c : Nat → Nat} {i g g1 : Nat} {room : Int} {l : List Int} (hM : robin.M W w0.heap.size (fun k => c k = i) (room, l) (.pointer (some ⟨g, 0, none⟩)))
    (hF : fifo.M W1 W.heap.size (fun k => W.heap.size ≤ k) (clamp room, []) (.pointer (some ⟨g1, 0, none⟩))) (hb : Below W.heap.size W W1) :
    ∃ c', robin.M (W1.setCell ⟨g, 1, none⟩ (.pointer (some ⟨g1, 0, none⟩))) w0.heap.size (fun k => c' k = i) (room, []) (.pointer (some ⟨g, 0, none⟩)) ∧ Turned c c' i w0 W (W1.setCell ⟨g, 1, none⟩ (.pointer (some ⟨g1, 0, none⟩))) := by
  have hl := robin_len hM
  have hcl : clamp room = room := by unfold clamp; rw [if_neg (by omega : ¬ room < 1), if_neg (by omega)]
  rw [hcl] at hF
  have hs := robin_size hM
  obtain ⟨pv, hA⟩ := robin_at (St.mine (s := robin) hM)
  have hg : g < W.heap.size := hA.2.2.1
  have h9 := blk_put (blk_below hA.2.2.2.1 hb) 1 (.pointer (some ⟨g1, 0, none⟩)) (cs' := #[.int .i64 room, .pointer (some ⟨g1, 0, none⟩)]) rfl
  refine turned (s := robin) (c := c) (i := i) (x := (room, [])) ?_ ((Wrote.of_below hb _).setCell (Or.inl hA.1) _) hs
  refine ⟨g, _, rfl, Or.inl hA.1, hA.2.1, blk_lt h9, h9, ?_⟩
  obtain ⟨g2, sv2, e2, k1, k2, k3, k4, k5, k6⟩ := fifo.mono (ok' := fun k => (mineOf c i w0 k ∨ W.heap.size ≤ k) ∧ k ≠ g) (fun k hk => ⟨Or.inr hk, Nat.ne_of_gt (Nat.lt_of_lt_of_le hg hk)⟩) hF
  exact fifo.move (w := W1) (fun k hk => Below.heap_setCell _ _ _ k hk.2) ⟨g2, sv2, e2, k1, Nat.le_trans hs k2, k3, k4, Kd.R_lower k5 hs, k6⟩
/-- Put, behind the pointer. -/
theorem robin_put {w0 W : World} {c : Nat → Nat} {i g : Nat} {room : Int} {l : List Int} {pv : Value} (x : Int) (hM : robin.M W w0.heap.size (fun k => c k = i) (room, l) (.pointer (some ⟨g, 0, none⟩))) (hA : At W w0.heap.size (fun k => c k = i) (room, l) g pv) :
    Calls Try.prog 18 #[pv, .int .i64 x] W fun e w' => ∃ r, e = .returned r ∧ ∃ c', robin.M w' w0.heap.size (fun k => c' k = i) (room, putl room l x) (.pointer (some ⟨g, 0, none⟩)) ∧ Turned c c' i w0 W w' := by
  obtain ⟨pv2, hA2⟩ := robin_at (St.mine (s := robin) hM)
  have e1 := hA.2.2.2.1
  have e2 := hA2.2.2.2.1
  rw [e1] at e2
  have hp : pv = pv2 := by simpa using e2
  subst hp
  refine (put_calls x hA2.fif).mono fun e w' ⟨he, hf, hw⟩ => ?_
  have h3 := hA2.after hf hw
  exact ⟨_, he, turned h3.1.toM h3.2 (robin_size hM)⟩
/-- How many times, held to a limit. -/
def clampT (n : Int) : Int := if 1099511627776 < (if n < 0 then 0 else n) then 1099511627776 else (if n < 0 then 0 else n)
theorem clampT_le (n : Int) : 0 ≤ clampT n ∧ clampT n ≤ 1099511627776 := by unfold clampT; split <;> split at * <;> omega
def restOf (n : Int) (t : Int) (l : List Int) : Nat := ((heldN n l : Int) * clampT t % (l.length : Int)).toNat
def wholeOf (n : Int) (t : Int) (l : List Int) : Int := (heldN n l : Int) * clampT t / (l.length : Int)
/-- Each one's turns: so many, and one more for the first ones. -/
def Counts (whole : Int) (rest : Nat) (m : Nat) (xs : List Int) : Prop := ∀ k, k < m → xs.getD k 0 = whole + (if k < rest then 1 else 0)
def RelO (w0 : World) (c0 : Nat → Nat) (W : World) (i p q r : Nat) (room : Int) (l : List Int) (v vl : Value) (whole : Int) (rest : Nat) (g cap : Nat) (iv : Value) (wr : World) : Prop :=
  ∃ (j : Nat) (c : Nat → Nat) (xs : List Int), j ≤ l.length ∧ iv = .int .i64 (j : Int) ∧ xs.length = l.length ∧ Counts whole rest j xs ∧ robin.M wr w0.heap.size (fun k => c k = i) (room, l) v ∧ (crow .i64).M wr w0.heap.size (fun k => c k = p) l vl ∧
    (row 2 (Kd.int .i64)).M wr w0.heap.size (fun k => c k = q) xs (.slice (some ⟨g, 0, none⟩) l.length cap) ∧ TurnedL c0 c [i, p, q, r] w0 W wr ∧ Below w0.heap.size w0 wr
def RelP (w0 : World) (c0 : Nat → Nat) (W : World) (i p q r : Nat) (room : Int) (now xs : List Int) (v vn vo : Value) (iv : Value) (wr : World) : Prop :=
  ∃ (j : Nat) (c : Nat → Nat), j ≤ now.length ∧ iv = .int .i64 (j : Int) ∧ robin.M wr w0.heap.size (fun k => c k = i) (room, now.take j) v ∧ (row 3 (Kd.int .i64)).M wr w0.heap.size (fun k => c k = r) now vn ∧
    (row 2 (Kd.int .i64)).M wr w0.heap.size (fun k => c k = q) xs vo ∧ TurnedL c0 c [i, p, q, r] w0 W wr ∧ Below w0.heap.size w0 wr
theorem getD_set {l : List Int} {j k : Nat} (x : Int) (hj : j < l.length) : (l.set j x).getD k 0 = if k = j then x else l.getD k 0 := by
  rw [List.getD_eq_getElem?_getD, List.getD_eq_getElem?_getD, List.getElem?_set]
  by_cases h : j = k
  · subst h; simp [hj]
  · rw [if_neg h, if_neg (fun e => h e.symm)]
theorem info_int64 : (Try.prog.info? 2).map (fun i => (i.zero, i.size, i.bytes)) = some (some (.int .i64 0), 1, 8) := by kernel_rfl

set_option maxHeartbeats 4000000 in
set_option maxRecDepth 100000 in
theorem many_none {w0 W : World} {c : Nat → Nat} {i : Nat} {room : Int} {v : Value} (n t : Int) (hM : robin.M W w0.heap.size (fun k => c k = i) (room, []) v) :
    Calls Try.prog 10 #[v, .int .i64 n, .int .i64 t] W fun e w' => e = .returned (.tuple #[.slice none 0 0, .slice none 0 0]) ∧ Below W.heap.size W w' := by
  obtain ⟨g, pv, rfl, hA⟩ := hM
  have h1 := hA.c1
  have HF := Aside0.mk hA.fif
  obtain ⟨gf, hpv⟩ := hA.form
  subst hpv
  clear hA
  go_enter Try.func10, Try.ntmps10
  go_wp2_with (first | (go_at_call 19; (with_reducible refine (all_calls HF.out).mono ?_); rintro e w3 ⟨v1, rfl, hO, hb⟩; obtain ⟨A1, c1, rfl⟩ := Kd.R_slice hO; have HB := Aside0.mk hb; clear hO hb))
  go_ret2
  exact ⟨rfl, HB.out⟩

set_option maxHeartbeats 4000000 in
set_option maxRecDepth 100000 in
theorem many_calls {w0 W : World} {c : Nat → Nat} {i p q r : Nat} {room : Int} {l : List Int} {v : Value} (n t : Int) (hM : robin.M W w0.heap.size (fun k => c k = i) (room, l) v) (hB : Below w0.heap.size w0 W) (h0 : 0 < l.length)
    (d1 : p ≠ i) (d2 : q ≠ i) (d3 : r ≠ i) (d4 : q ≠ p) (d5 : r ≠ p) (d6 : r ≠ q) :
    Calls Try.prog 10 #[v, .int .i64 n, .int .i64 t] W fun e w' => ∃ v1 v2, e = .returned (.tuple #[v1, v2]) ∧ ∃ (c' : Nat → Nat) (xs : List Int), xs.length = l.length ∧ Counts (wholeOf n t l) (restOf n t l) l.length xs ∧
      robin.M w' w0.heap.size (fun k => c' k = i) (room, l.drop (restOf n t l) ++ l.take (restOf n t l)) v ∧ (row 2 (Kd.int .i64)).M w' w0.heap.size (fun k => c' k = q) xs v1 ∧ (row 3 (Kd.int .i64)).M w' w0.heap.size (fun k => c' k = r) (l.drop (restOf n t l) ++ l.take (restOf n t l)) v2 ∧ TurnedL c c' [i, p, q, r] w0 W w' := by
  have HM := Aside0.mk hM
  have HL := Aside0.mk (robin_len hM)
  have HB0 := Aside0.mk hB
  obtain ⟨g, pv, rfl, hA⟩ := hM
  have h1 := hA.c1
  have HF := Aside0.mk hA.fif
  obtain ⟨gf, hpv⟩ := hA.form
  subst hpv
  have hle := HL.out.2.1
  have hh := held_le n l
  have HR := Aside0.mk (show restOf n t l < l.length ∧ ((heldN n l : Int) * clampT t % (l.length : Int)) = (restOf n t l : Int) ∧ wholeOf n t l = (heldN n l : Int) * clampT t / (l.length : Int) ∧ 0 ≤ wholeOf n t l ∧ wholeOf n t l ≤ 281474976710656 ∧ 0 ≤ (heldN n l : Int) * clampT t ∧ (heldN n l : Int) * clampT t ≤ 281474976710656 from by
    have ht := clampT_le t
    have e0 : 0 ≤ (heldN n l : Int) * clampT t := Int.mul_nonneg (by omega) ht.1
    have e1 : (heldN n l : Int) * clampT t ≤ 256 * 1099511627776 := Int.mul_le_mul (by omega) ht.2 ht.1 (by decide)
    have hp : (0 : Int) < (l.length : Int) := by omega
    have e2 := Int.emod_nonneg ((heldN n l : Int) * clampT t) (show (l.length : Int) ≠ 0 by omega)
    have e3 := Int.emod_lt_of_pos ((heldN n l : Int) * clampT t) hp
    have e4 : 0 ≤ (heldN n l : Int) * clampT t / (l.length : Int) := Int.ediv_nonneg e0 (by omega)
    have e5 : (heldN n l : Int) * clampT t / (l.length : Int) ≤ (heldN n l : Int) * clampT t := Int.ediv_le_self _ e0
    unfold restOf wholeOf
    refine ⟨by omega, by omega, rfl, e4, by omega, e0, by omega⟩)
  have HH := Aside0.mk hh
  have HT := Aside0.mk (clampT_le t)
  obtain ⟨jt, hjt⟩ : ∃ j : Int, (if t < 0 then 0 else t) = j := ⟨_, rfl⟩
  have hct : (if 1099511627776 < jt then 1099511627776 else jt) = clampT t := by rw [← hjt]; rfl
  generalize hhn : heldN n l = h at HR HH
  have HN := Aside0.mk hhn
  generalize clampT t = ct at hct HR HT
  generalize hwh : wholeOf n t l = whole at HR
  generalize hre : restOf n t l = rest at HR
  obtain ⟨all, hall⟩ : ∃ a : Int, (h : Int) * ct = a := ⟨_, rfl⟩
  rw [hall] at HR
  have hw : wrap64 ((h : Int) * ct) = all := by rw [hall]; have := HR.out; unfold wrap64; omega
  have hq1 : wrap64 (Int.tdiv all (l.length : Int)) = whole := by
    have h2 := HR.out
    rw [Int.tdiv_eq_ediv_of_nonneg h2.2.2.2.2.2.1, ← h2.2.2.1]
    unfold wrap64
    omega
  have hq2 : Int.tmod all (l.length : Int) = (rest : Int) := by
    have h2 := HR.out
    rw [Int.tmod_eq_emod_of_nonneg h2.2.2.2.2.2.1, h2.2.1]
  have hrl : rest < l.length := HR.out.1
  have hw0 : 0 ≤ whole := HR.out.2.2.2.1
  have hw1 : whole ≤ 281474976710656 := HR.out.2.2.2.2.1
  have hz : ((l.length : Int) == 0) = false := beq_eq_false_iff_ne.mpr (by omega)
  have hne : ((l.length : Int) = 0) = False := eq_false (by omega)
  clear hA hB hh hhn hwh hre hall
  go_enter Try.func10, Try.ntmps10
  go_wp2_with (first | (go_at_call 19; (with_reducible refine (all_calls HF.out).mono ?_); rintro e w3 ⟨v1, rfl, hO, hb⟩; obtain ⟨A1, c1, rfl⟩ := Kd.R_slice hO; obtain ⟨c3, k3, t3⟩ := turned_new (s := crow .i64) (w0 := w0) (c := c) (i := p) (crow_of_R hO) hb HB0.out.size (fun hh => crow_lower hh HB0.out.size); have HC3 := Aside0.mk k3; have HM3 := Aside0.mk (t3.keep _ robin i _ _ (fun e => d1 e.symm) HM.out); have HB3 := Aside0.mk (t3.far HB0.out); have HT3 := Aside0.mk ((TurnedL.refl c [i, p, q, r] w0 W).step t3 (by simp)); clear hO hb k3 t3) | (go_at_call 20; (with_reducible refine (held_calls n HM3.out).mono ?_); rintro e w4 ⟨rfl, rfl⟩; rw [HN.out]))
  simp only [hw]
  go_quiet (fail)
  simp only [hq1, hq2]
  clear hw hq1 hq2 hjt hct
  obtain ⟨w5, hw5⟩ : ∃ w5, w5 = w4.drewN nq := ⟨_, rfl⟩
  rw [← hw5]
  have HM5 := Aside0.mk (show robin.M w5 w0.heap.size (fun k => c3 k = i) (room, l) (.pointer (some ⟨g, 0, none⟩)) from by rw [hw5]; exact St.drewN (s := robin) HM3.out nq)
  have HC5 := Aside0.mk (show (crow .i64).M w5 w0.heap.size (fun k => c3 k = p) l (.slice A1 l.length c1) from by rw [hw5]; exact St.drewN (s := crow .i64) HC3.out nq)
  have HB5 := Aside0.mk (show Below w0.heap.size w0 w5 from by rw [hw5]; exact pw_below_drewN HB3.out nq)
  have HT5 := Aside0.mk (show TurnedL c c3 [i, p, q, r] w0 W w5 from by rw [hw5]; exact HT3.out.below (pw_below_drewN (Below.refl _ _) nq))
  clear hw5 HM3 HC3 HB3 HT3
  go_wp2_with (first | ((with_reducible refine gate_dst (N := 42) rfl ?_); refine Kd.R_make (Kd.int .i64) (w0 := w5) w5.heap.size 2 rfl (N := 42) rfl 27 (.tmp 41) (.tmp 41) rfl (l.length : Int) rfl rfl Try.underlying27 (.int .i64 0) 8 info_int64 rfl (by decide) (by decide) 0 (ok := fun k => w5.heap.size ≤ k) (okp := fun _ => False) ?hz0 (fun k hk => hk.elim) (Nat.le_refl _) (by omega) (by simp; omega) (Below.refl _ _) (Nat.le_refl _) ?_; (case hz0 => rfl); intro v6 w6 hO hB6 hG6 hat6; obtain ⟨c6, k6, t6⟩ := row_new (w0 := w0) c3 q (Kd.R_lower hO HB5.out.size) hB6 HB5.out.size; obtain ⟨g6, cap6, hv6, _, _, _⟩ := Kd.R_form hO (by rw [List.length_replicate]; omega); subst hv6; rw [List.length_replicate] at k6 ⊢; rw [Int.toNat_natCast] at k6 ⊢; have HO6 := Aside0.mk k6; have HM6 := Aside0.mk (t6.keep _ robin i _ _ (fun e => d2 e.symm) HM5.out); have HC6 := Aside0.mk (t6.keep _ (crow .i64) p _ _ (fun e => d4 e.symm) HC5.out); have HB6 := Aside0.mk (t6.far HB5.out); have HT6 := Aside0.mk (HT5.out.step t6 (by simp)); clear hO hB6 hG6 hat6 k6 t6))
  generalize hvv : (Value.pointer (some ⟨g, 0, none⟩)) = v at HM6
  clear HM5 HC5 HB5 HT5 h1
  go_loopw [45] (fun iv wr => RelO w0 c W i p q r room l v (.slice A1 l.length c1) whole rest g6 cap6 iv wr) (fun iv _ => l.length - (intOf iv).toNat)
  case atStart => exact ⟨0, c6, _, Nat.zero_le _, rfl, List.length_replicate, fun k hk => absurd hk (Nat.not_lt_zero _), HM6.out, HC6.out, HO6.out, HT6.out, HB6.out⟩
  case round =>
    obtain ⟨j, c7, xs, hj, rfl, hxl, hcnt, hM7, hC7, hO7, hT7, hB7⟩ := hrel
    clear HM6 HC6 HO6 HT6 HB6
    have HM7 := Aside0.mk hM7
    have HC7 := Aside0.mk hC7
    have HO7 := Aside0.mk hO7
    have HT7 := Aside0.mk hT7
    have HB7 := Aside0.mk hB7
    have HX7 := Aside0.mk (And.intro hxl hcnt)
    clear hM7 hC7 hO7 hT7 hB7 hcnt hxl
    by_cases hlt : j < l.length
    · obtain ⟨hcell, hfr⟩ := Mine.row_get HO7.out (j := j) hlt
      have hs := Mine.row_set (show (Kd.int .i64).R 2 wr w0.heap.size (fun k => mineOf c7 q w0 k ∨ wr.heap.size ≤ k) (.slice (some ⟨g6, 0, none⟩) l.length cap6) xs from row_ready HO7.out) hlt whole
      by_cases hrs : j < rest
      · obtain ⟨c8, k8, t8⟩ := row_turned HO7.out hs.1 hs.2 HB7.out.size
        have hs2 := Mine.row_set (show (Kd.int .i64).R 2 (wr.setCell ⟨g6, j, none⟩ (.int .i64 whole)) w0.heap.size (fun k => mineOf c8 q w0 k ∨ (wr.setCell ⟨g6, j, none⟩ (.int .i64 whole)).heap.size ≤ k) (.slice (some ⟨g6, 0, none⟩) l.length cap6) (xs.set j whole) from row_ready k8) hlt (whole + 1)
        obtain ⟨c9, k9, t9⟩ := row_turned k8 hs2.1 hs2.2 (t8.far HB7.out).size
        have HO8 := Aside0.mk k9
        have HM8 := Aside0.mk (t9.keep _ robin i _ _ (fun e => d2 e.symm) (t8.keep _ robin i _ _ (fun e => d2 e.symm) HM7.out))
        have HC8 := Aside0.mk (t9.keep _ (crow .i64) p _ _ (fun e => d4 e.symm) (t8.keep _ (crow .i64) p _ _ (fun e => d4 e.symm) HC7.out))
        have HB8 := Aside0.mk (t9.far (t8.far HB7.out))
        have HT8 := Aside0.mk ((HT7.out.step t8 (by simp)).step t9 (by simp))
        clear k8 t8 k9 t9 hs hs2
        go_wp2
        refine ⟨⟨j + 1, c9, (xs.set j whole).set j (whole + 1), by omega, by go_num, by rw [List.length_set, List.length_set]; exact HX7.out.1, fun k hk => ?_, HM8.out, HC8.out, HO8.out, HT8.out, HB8.out⟩, by simp [intOf]; omega⟩
        rw [getD_set _ (by rw [List.length_set, HX7.out.1]; exact hlt), getD_set _ (by rw [HX7.out.1]; exact hlt)]
        by_cases hkj : k = j
        · rw [if_pos hkj, if_pos (by omega)]
        · rw [if_neg hkj, if_neg hkj, HX7.out.2 k (by omega)]
      · obtain ⟨c8, k8, t8⟩ := row_turned HO7.out hs.1 hs.2 HB7.out.size
        have HO8 := Aside0.mk k8
        have HM8 := Aside0.mk (t8.keep _ robin i _ _ (fun e => d2 e.symm) HM7.out)
        have HC8 := Aside0.mk (t8.keep _ (crow .i64) p _ _ (fun e => d4 e.symm) HC7.out)
        have HB8 := Aside0.mk (t8.far HB7.out)
        have HT8 := Aside0.mk (HT7.out.step t8 (by simp))
        clear k8 t8 hs
        go_wp2
        refine ⟨⟨j + 1, c8, xs.set j whole, by omega, by go_num, by rw [List.length_set]; exact HX7.out.1, fun k hk => ?_, HM8.out, HC8.out, HO8.out, HT8.out, HB8.out⟩, by simp [intOf]; omega⟩
        rw [getD_set _ (by rw [HX7.out.1]; exact hlt)]
        by_cases hkj : k = j
        · rw [if_pos hkj, if_neg (by omega), Int.add_zero]
        · rw [if_neg hkj, HX7.out.2 k (by omega)]
    · have hje : j = l.length := by omega
      subst hje
      have hc1 : l.length ≤ c1 := by obtain ⟨A', c', e1, e2, _⟩ := crow_reads HC7.out; injection e1 with _ _ e3; omega
      have s1 : (rest ≤ c1) = True := eq_true (by omega)
      have s2 : (0 ≤ (rest : Int) ∧ (rest : Int) ≤ (l.length : Int)) = True := eq_true ⟨by omega, by omega⟩
      have s3 : (l.length ≤ c1) = True := eq_true hc1
      have s4 : (rest ≤ l.length) = True := eq_true (by omega)
      go_wp2
      go_still_tail 6, (by kernel_rfl)
      change wpList _ _ _ _ _ wr.drew
      obtain ⟨w9, hw9⟩ : ∃ w9, w9 = wr.drew := ⟨_, rfl⟩
      rw [← hw9]
      have hB9 : Below wr.heap.size wr w9 := by rw [hw9]; exact below_drew (Below.refl _ _)
      have HM9 := Aside0.mk (St.below (s := robin) HM7.out hB9)
      have HC9 := Aside0.mk (St.below (s := crow .i64) HC7.out hB9)
      have HO9 := Aside0.mk (St.below (s := row 2 (Kd.int .i64)) HO7.out hB9)
      have HB9 := Aside0.mk (HB7.out.trans (hB9.mono HB7.out.size))
      have HT9 := Aside0.mk (HT7.out.below hB9)
      clear hB9 hw9 HM7 HC7 HO7 HB7 HT7
      have hcr : (c1 = rest) = False := eq_false (by omega)
      obtain ⟨A1', c1', e1', hcl, hC⟩ := crow_reads HC9.out
      injection e1' with e1a e1b e1c
      subst e1a; subst e1c
      obtain ⟨ad, had, _⟩ := hC.2.2 (by omega)
      subst had
      clear hC hcl e1b
      have hD := crow_drop HC9.out (m := rest) (by omega)
      rw [if_neg (by omega)] at hD
      have HD9 := Aside0.mk (show (Kd.int .i64).C w9 (some (ad.add rest)) (l.drop rest).length (l.drop rest) by
        obtain ⟨A', c', e1, _, h3⟩ := crow_reads hD
        injection e1 with e1 _ _
        rw [← e1] at h3
        rw [show rest * 1 = rest from Nat.mul_one _] at h3
        exact h3)
      have HE9 := Aside0.mk (show (Kd.int .i64).C w9 (some ad) (l.take rest).length (l.take rest) by
        obtain ⟨A', c', e1, _, h3⟩ := crow_reads (crow_take HC9.out (m := rest) (by omega))
        injection e1 with e1 _ _
        rw [← e1] at h3
        exact h3)
      have HNL := Aside0.mk (show (l.drop rest ++ l.take rest).length = l.length by rw [List.length_append, List.length_drop, List.length_take]; omega)
      clear hD
      go_wp2_with (first | (go_at_call 21; (with_reducible refine (concat_calls (l.drop rest) (l.take rest) (blk_new w9 _) List.length_drop.symm (by rw [List.length_take]; omega) (Kd.C_alloc HD9.out _) (Kd.C_alloc HE9.out _) (by rw [List.length_drop]; omega) (by rw [List.length_drop, List.length_take]; omega)).mono ?_); rintro e w10 ⟨v10, rfl, hR, hb⟩; obtain ⟨A10, k10, rfl⟩ := Kd.R_slice hR; rw [HNL.out] at hR ⊢; have hba := below_alloc (Below.refl w9.heap.size w9) (.cells #[.slice (some (ad.add rest)) (l.length - rest) (c1 - rest), .slice (some ad) rest c1] 28); obtain ⟨c10, k11, t10⟩ := row_new (w0 := w0) c7 r (Kd.R_lower hR (HB9.out.trans (hba.mono HB9.out.size)).size) hb (HB9.out.trans (hba.mono HB9.out.size)).size; have HR10 := Aside0.mk k11; have HM10 := Aside0.mk (t10.keep _ robin i _ _ (fun e => d3 e.symm) (St.below (s := robin) HM9.out hba)); have HO10 := Aside0.mk (t10.keep _ (row 2 (Kd.int .i64)) q _ _ (fun e => d6 e.symm) (St.below (s := row 2 (Kd.int .i64)) HO9.out hba)); have HB10 := Aside0.mk (t10.far (HB9.out.trans (hba.mono HB9.out.size))); have HT10 := Aside0.mk ((HT9.out.below hba).step t10 (by simp)); clear hR hb hba k11 t10; subst hvv; obtain ⟨pv10, hA10⟩ := robin_at HM10.out; have k0 := hA10.c0; have kf := hA10.f1; have k1 := hA10.c1; have HA10 := Aside0.mk hA10; clear hA10) | (go_at_call 16; (with_reducible refine (Fifo.new_calls room w10).mono ?_); rintro e w11 ⟨g11, rfl, hF, hb⟩; obtain ⟨c12, k12, t12⟩ := robin_swap HM10.out hF hb; have kf2 : w11.frozen? ⟨g, 1, none⟩ = false := blk_frozen (blk_below HA10.out.2.2.2.1 hb) 1; have k2 : w11.cell? ⟨g, 1, none⟩ = some pv10 := blk_cell (blk_below HA10.out.2.2.2.1 hb) 1; have HM12 := Aside0.mk k12; have HR12 := Aside0.mk (t12.keep _ (row 3 (Kd.int .i64)) r _ _ d3 HR10.out); have HO12 := Aside0.mk (t12.keep _ (row 2 (Kd.int .i64)) q _ _ d2 HO10.out); have HB12 := Aside0.mk (t12.far HB10.out); have HT12 := Aside0.mk (HT10.out.step t12 (by simp)); clear hF hb k12 t12))
      have hNP : 0 < (l.drop rest ++ l.take rest).length := by rw [HNL.out]; exact h0
      obtain ⟨now, hnow⟩ : ∃ now, l.drop rest ++ l.take rest = now := ⟨_, rfl⟩
      rw [hnow] at HR12 hNP HNL
      have HNW := Aside0.mk hnow
      have HLEN := Aside0.mk (show l.length = now.length from HNL.out.symm)
      clear hnow HM9 HC9 HO9 HB9 HT9 HM10 HR10 HO10 HB10 HT10 HD9 HE9 HA10 k0 kf k1 kf2 k2 s1 s2 s3 s4 hcr
      obtain ⟨ws, hws⟩ : ∃ ws, ws = w11.setCell ⟨g, 1, none⟩ (.pointer (some ⟨g11, 0, none⟩)) := ⟨_, rfl⟩
      rw [← hws] at HM12 HR12 HO12 HB12 HT12 ⊢
      clear hws
      generalize hvv : (Value.pointer (some ⟨g, 0, none⟩)) = v at HM12 ⊢
      go_loopw [80] (fun iv wr => RelP w0 c W i p q r room now xs v (.slice A10 l.length k10) (.slice (some ⟨g6, 0, none⟩) l.length cap6) iv wr) (fun iv _ => l.length - (intOf iv).toNat)
      case atStart => exact ⟨0, c12, Nat.zero_le _, rfl, HM12.out, HR12.out, HO12.out, HT12.out, HB12.out⟩
      case round =>
        obtain ⟨j, c13, hj, rfl, hM13, hR13, hO13, hT13, hB13⟩ := hrel
        clear HM12 HR12 HO12 HT12 HB12
        have HM13 := Aside0.mk hM13
        have HR13 := Aside0.mk hR13
        have HO13 := Aside0.mk hO13
        have HT13 := Aside0.mk hT13
        have HB13 := Aside0.mk hB13
        clear hM13 hR13 hO13 hT13 hB13
        by_cases hlt : j < l.length
        · obtain ⟨ad13, hA13, hcell⟩ := Mine.read_at (Kd.R_reads' HR13.out).2.2 (by rw [← HLEN.out]; exact hlt)
          subst hA13
          have HPT := Aside0.mk (putl_f (room := room) (l := now.take j) (x := now.getD j 0) (by have := HL.out; have := HLEN.out; rw [List.length_take]; omega))
          have HTK := Aside0.mk (Mine.take_at (Mine.getD_at (0 : Int) (show j < now.length by rw [← HLEN.out]; exact hlt)))
          generalize now.getD j 0 = x at hcell HPT HTK
          subst hvv
          obtain ⟨pv13, hA13⟩ := robin_at HM13.out
          obtain ⟨gf13, hpv⟩ := hA13.form
          subst hpv
          have k1 := hA13.c1
          have HA13 := Aside0.mk hA13
          clear hA13
          go_wp2_with (first | (go_at_call 18; (with_reducible refine (robin_put x HM13.out HA13.out).mono ?_); rintro e w14 ⟨r14, rfl, c14, k14, t14⟩; rw [HPT.out, ← HTK.out] at k14; have HM14 := Aside0.mk k14; have HR14 := Aside0.mk (t14.keep _ (row 3 (Kd.int .i64)) r _ _ d3 HR13.out); have HO14 := Aside0.mk (t14.keep _ (row 2 (Kd.int .i64)) q _ _ d2 HO13.out); have HB14 := Aside0.mk (t14.far HB13.out); have HT14 := Aside0.mk (HT13.out.step t14 (by simp)); clear k14 t14))
          go_roundw
          case rel => exact ⟨j + 1, c14, by have := HLEN.out; omega, by go_num, HM14.out, HR14.out, HO14.out, HT14.out, HB14.out⟩
          case measure => simp [intOf]; omega
        · have hje : j = now.length := by have := HLEN.out; omega
          subst hvv
          go_wp2
          go_ret2
          refine ⟨_, _, rfl, c13, xs, HX7.out.1, HX7.out.2, ?_, HO13.out, ?_, HT13.out⟩
          · rw [HNW.out]
            have h := HM13.out
            rw [hje, List.take_length] at h
            exact h
          · rw [HNW.out]
            exact HR13.out
end Go.Proofs.Ytmjmfkbdnhdafaa.Robin
