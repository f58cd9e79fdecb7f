/- What the methods of a fifo turn: Place, All, Get, Drop, Turn (no law is stated here; each says its conditions). -/
import Derived.Test.YtmjmfkbdnhdafaaFifo2
namespace Go.Proofs.Ytmjmfkbdnhdafaa.Fifo
open Go.RowKit Go.Proofs.YtmjmfkbdnhdafaaW.PrintWords Go.Proofs.YtmjmfkbdnhdafaaW.PrintLast Go.Proofs.YtmjmfkbdnhdafaaW.PrintMore Go.Proofs.Ytmjmfkbdnhdafaa.St Go.Proofs.Ytmjmfkbdnhdafaa.Q
set_option linter.unusedVariables false
set_option linter.unusedSimpArgs false
attribute [local go_sem] max2_int min2_int max_two min_two max_three min_three max_four min_four

theorem index_l (l : List Int) (v : Int) (hl : l.length ≤ 17592186044416) : ∀ (d j : Nat), l.length - j = d → j ≤ l.length → (∀ i, i < j → l.getD i 0 ≠ v) → slices_Index_int_int.l0 (d + 1) l v (l.length : Int) (j : Int) = some (if v ∈ l.drop j then ((j + (l.drop j).idxOf v : Nat) : Int) else -1) := by
  intro d
  induction d with
  | zero =>
    intro j hd hj _
    have : l.drop j = [] := List.drop_of_length_le (by omega)
    rw [slices_Index_int_int.l0.eq_2, if_neg (by omega), this]
    simp
  | succ d ih =>
    intro j hd hj hne
    have hlt : j < l.length := by omega
    have hx := Mine.getD_at (0 : Int) hlt
    have hdr := Mine.drop_at hx
    rw [slices_Index_int_int.l0.eq_2, if_pos (by omega), if_pos (by omega), if_pos (by omega)]
    have hrd : rd l (j : Int) = l.getD j 0 := by simp [rd]
    rw [hrd, hdr]
    by_cases c : v = l.getD j 0
    · rw [if_pos c, if_pos (by rw [c]; exact List.mem_cons_self), List.idxOf_cons, c]
      simp
    · rw [if_neg c]
      have hw : wrap64 ((j : Int) + 1) = ((j + 1 : Nat) : Int) := by unfold wrap64; omega
      rw [hw, ih (j + 1) (by omega) (by omega) (fun i hi => by
        rcases Nat.lt_or_ge i j with h1 | h1
        · exact hne i h1
        · rw [show i = j by omega]; exact fun e => c e.symm)]
      by_cases m : v ∈ l.drop (j + 1)
      · rw [if_pos m, if_pos (List.mem_cons_of_mem _ m), List.idxOf_cons]
        have : (l.getD j 0 == v) = false := by simp; exact fun e => c e.symm
        rw [this]
        simp only [cond_false]
        congr 1
        omega
      · rw [if_neg m, if_neg (by simp; exact ⟨c, m⟩)]
/-- Where a number is first; -1. -/
def placeOf (l : List Int) (v : Int) : Int := if v ∈ l then (l.idxOf v : Int) else -1
theorem index_f (l : List Int) (v : Int) (hl : l.length ≤ 17592186044416) : slices_Index_int_int.f (l.length + 1) l v = some (placeOf l v) := by
  unfold slices_Index_int_int.f placeOf
  have := index_l l v hl l.length 0 (by omega) (by omega) (fun i hi => by omega)
  simpa using this

theorem placeOf_lt {l : List Int} {v : Int} (h : v ∉ l) : placeOf l v = -1 := if_neg h
theorem placeOf_in {l : List Int} {v : Int} (h : v ∈ l) : placeOf l v = (l.idxOf v : Int) := if_pos h
set_option maxHeartbeats 1000000 in
set_option maxRecDepth 100000 in
theorem place_calls {w : World} {b : Nat} {ok : Nat → Prop} {room : Int} {l : List Int} {v : Value} (x : Int) (hM : fifo.M w b ok (room, l) v) :
    Calls Try.prog 17 #[v, .int .i64 x] w fun e w' => e = .returned (.int .i64 (placeOf l x)) ∧ ∃ nd, w' = w.drewN nd := by
  obtain ⟨g, sv, rfl, hA⟩ := hM
  obtain ⟨A, c, rfl⟩ := Kd.R_slice hA.row
  have h1 := hA.c1
  have HR := Aside0.mk (Kd.R_reads' hA.row)
  have HF := Aside0.mk (index_f l x (by have := hA.len; omega))
  clear hA
  go_enter Try.func17, Try.ntmps17
  go_wp2_with (first | (go_at_call 25; (with_reducible refine (slices_Index_int_int.calls (l.length + 1) A c l x (placeOf l x) _ HR.out.2.2 HR.out.2.1 HF.out).mono ?_); rintro e w3 ⟨rfl, ⟨nd, rfl⟩⟩))
  go_ret
  exact ⟨rfl, nd, rfl⟩

set_option maxHeartbeats 1000000 in
set_option maxRecDepth 100000 in
theorem all_calls {w : World} {b : Nat} {ok : Nat → Prop} {room : Int} {l : List Int} {v : Value} (hM : fifo.M w b ok (room, l) v) :
    Calls Try.prog 19 #[v] w fun e w' => ∃ v1, e = .returned v1 ∧ (Kd.int .i64).R 3 w' w.heap.size (fun k => w.heap.size ≤ k) v1 l ∧ Below w.heap.size w w' := by
  obtain ⟨g, sv, rfl, hA⟩ := hM
  obtain ⟨A, c, rfl⟩ := Kd.R_slice hA.row
  have h1 := hA.c1
  have HR := Aside0.mk (Kd.R_reads' hA.row)
  have HF := Aside0.mk (show slices_Clone_int_int.f l = some l by unfold slices_Clone_int_int.f; rw [if_pos (by have := hA.len; omega)])
  clear hA
  go_enter Try.func19, Try.ntmps19
  go_wp2_with (first | (go_at_call 26; (with_reducible refine (slices_Clone_int_int.calls A c l l _ HR.out.2.2 HR.out.2.1 HF.out).mono ?_); rintro e w3 ⟨v1, rfl, hO, hb⟩; have HO := Aside0.mk hO; have HB := Aside0.mk hb; clear hO hb))
  go_ret
  exact ⟨v1, rfl, Kd.R_mono (Kd.R_bound HO.out) (fun k hk => hk.2.1), HB.out⟩

set_option maxHeartbeats 1000000 in
set_option maxRecDepth 100000 in
theorem get_calls {w : World} {b : Nat} {ok : Nat → Prop} {room : Int} {l : List Int} {v : Value} (hM : fifo.M w b ok (room, l) v) :
    Calls Try.prog 29 #[v] w fun e w' => e = .returned (.tuple #[.int .i64 (front l), .bool (some_ l)]) ∧ fifo.M w' b ok (room, l.tail) v ∧ Wrote w w' ok := by
  obtain ⟨g, sv, rfl, hA⟩ := hM
  have HM := Aside0.mk (show fifo.M w b ok (room, l) (.pointer (some ⟨g, 0, none⟩)) from ⟨g, sv, rfl, hA⟩)
  by_cases hc : 0 < l.length
  · obtain ⟨g2, c2, he, hbg, hlt, _⟩ := Kd.R_form hA.row hc
    subst he
    have h1 := hA.c1
    have hb : b ≤ w.heap.size := by omega
    have hs : some_ l = true := decide_eq_true hc
    have HA := Aside0.mk hA
    have HC := Aside0.mk hc
    rw [hs]
    clear hc hA
    go_enter Try.func29, Try.ntmps29
    go_wp2_with (first | (go_at_call 30; (with_reducible refine (front_calls HM.out).mono ?_); rintro e w3 ⟨rfl, rfl⟩; rw [hs]) | (go_at_call 28; refine (delete_calls 0 HA.out.row hb HC.out).mono ?_; rintro e w4 ⟨rfl, hR, hW⟩; have HR := Aside0.mk hR; have HW := Aside0.mk hW; have k1 := Aside0.mk (hW.block g HA.out.2.2.1 (fun h => h.2 rfl)); clear hR hW; have hf1 := At.f1' HA.out k1.out; have hc1 := At.c1' HA.out k1.out))
    go_ret2
    refine ⟨rfl, ?_, ?_⟩
    · have := HA.out.put (l1 := l.tail) (fun k hk => hk) k1.out (by have h := HR.out; rw [List.eraseIdx_zero] at h; exact h) (by have := HA.out.2.2.2.2.2; simp only [List.length_tail] at *; omega)
      exact this
    · exact (HW.out.weaken (fun k hk => hk.1)).setCell (Or.inl HA.out.1) _
  · have hs : some_ l = false := decide_eq_false hc
    have hl : l = [] := List.length_eq_zero_iff.1 (by omega)
    subst hl
    rw [hs]
    clear hc hA
    go_enter Try.func29, Try.ntmps29
    go_wp2_with (first | (go_at_call 30; (with_reducible refine (front_calls HM.out).mono ?_); rintro e w3 ⟨rfl, rfl⟩; rw [hs]))
    go_ret2
    exact ⟨rfl, HM.out, Wrote.refl _ _⟩

theorem erase_at (x : Int) : ∀ l : List Int, l.eraseIdx (l.idxOf x) = l.erase x
  | [] => rfl
  | y :: t => by
    rw [List.idxOf_cons, List.erase_cons]
    by_cases h : y = x
    · subst h; simp
    · have : (y == x) = false := by simpa using h
      rw [this]
      simp [erase_at x t]
theorem fifo_drewN {w : World} {b : Nat} {ok : Nat → Prop} {x : Int × List Int} {v : Value} (h : fifo.M w b ok x v) (n : Nat) : fifo.M (w.drewN n) b ok x v := fifo.move (fun _ _ => rfl) h
set_option maxHeartbeats 1000000 in
set_option maxRecDepth 100000 in
theorem drop_calls {w : World} {b : Nat} {ok : Nat → Prop} {room : Int} {l : List Int} {v : Value} (x : Int) (hM : fifo.M w b ok (room, l) v) :
    Calls Try.prog 22 #[v, .int .i64 x] w fun e w' => e = .returned (.bool (decide (x ∈ l))) ∧ fifo.M w' b ok (room, l.erase x) v ∧ Wrote w w' ok := by
  obtain ⟨g, sv, rfl, hA⟩ := hM
  have HM := Aside0.mk (show fifo.M w b ok (room, l) (.pointer (some ⟨g, 0, none⟩)) from ⟨g, sv, rfl, hA⟩)
  by_cases hx : x ∈ l
  · have hq : l.idxOf x < l.length := List.idxOf_lt_length_of_mem hx
    have HE := Aside0.mk (erase_at x l)
    have HP := Aside0.mk (placeOf_in hx)
    obtain ⟨g2, c2, he, hbg, hlt, _⟩ := Kd.R_form hA.row (by omega)
    subst he
    have h1 := hA.c1
    have hl := hA.len
    have hb : b ≤ w.heap.size := by omega
    have hs : decide (x ∈ l) = true := decide_eq_true hx
    have HA := Aside0.mk hA
    rw [hs]
    clear hx hA hs
    generalize l.idxOf x = i at hq HE HP
    have hd : decide ((i : Int) < 0) = false := decide_eq_false (by omega)
    go_enter Try.func22, Try.ntmps22
    go_wp2_with (first | (go_at_call 17; (with_reducible refine (place_calls x HM.out).mono ?_); rintro e w3 ⟨rfl, ⟨nd, rfl⟩⟩; rw [HP.out]) | (go_at_call 28; refine (delete_calls i (Kd.R_drewN HA.out.row nd) hb hq).mono ?_; rintro e w4 ⟨rfl, hR, hW⟩; have HR := Aside0.mk hR; have HW := Aside0.mk hW; have k1 := Aside0.mk (hW.block g HA.out.2.2.1 (fun h => h.2 rfl)); clear hR hW; have hf1 := At.f1' HA.out k1.out; have hc1 := At.c1' HA.out k1.out))
    go_ret
    refine ⟨rfl, ?_, ?_⟩
    · exact HA.out.put (l1 := l.erase x) (fun k hk => hk) k1.out (by have h := HR.out; rw [HE.out] at h; exact h) (by have := HA.out.2.2.2.2.2; have h := List.length_erase_le (a := x) (l := l); simp only at *; omega)
    · exact (((Wrote.refl w _).drewN nd).trans HW.out (fun k hk => Or.inl hk) |>.weaken (fun k hk => hk.1)).setCell (Or.inl HA.out.1) _
  · have hs : decide (x ∈ l) = false := decide_eq_false hx
    have HP := Aside0.mk (placeOf_lt hx)
    have HE := Aside0.mk (List.erase_of_not_mem hx)
    rw [hs]
    clear hx hA hs
    go_enter Try.func22, Try.ntmps22
    go_wp2_with (first | (go_at_call 17; (with_reducible refine (place_calls x HM.out).mono ?_); rintro e w3 ⟨rfl, ⟨nd, rfl⟩⟩; rw [HP.out]))
    go_ret
    exact ⟨rfl, by rw [HE.out]; exact fifo_drewN HM.out nd, (Wrote.refl _ _).drewN nd⟩
/-- The first one, put last. -/
def rot : List Int → List Int
  | [] => []
  | x :: t => t ++ [x]
set_option maxHeartbeats 1000000 in
set_option maxRecDepth 100000 in
theorem turn_calls {w : World} {b : Nat} {ok : Nat → Prop} {room : Int} {l : List Int} {v : Value} (hM : fifo.M w b ok (room, l) v) :
    Calls Try.prog 23 #[v] w fun e w' => e = .returned (.bool (some_ l)) ∧ fifo.M w' b (more w ok) (room, rot l) v ∧ Wrote w w' ok := by
  have HM := Aside0.mk hM
  have hlen : (l.length : Int) ≤ room := by obtain ⟨g, sv, _, hA⟩ := hM; exact hA.2.2.2.2.2.2.2
  clear hM
  cases l with
  | nil =>
    go_enter Try.func23, Try.ntmps23
    go_wp2_with (first | (go_at_call 29; (with_reducible refine (get_calls HM.out).mono ?_); rintro e w3 ⟨rfl, hM3, hW3⟩; have HM3 := Aside0.mk hM3; have HW3 := Aside0.mk hW3; clear hM3 hW3; rw [show some_ ([] : List Int) = false from rfl]))
    go_ret
    exact ⟨rfl, fifo.mono (fun k hk => Or.inl hk) HM3.out, HW3.out⟩
  | cons x t =>
    have ht : ¬ (t.length : Int) = room := by rw [List.length_cons] at hlen; omega
    have HT := Aside0.mk (putl_f (x := x) ht)
    have HD := Aside0.mk (decide_eq_true (show (t.length : Int) ≠ room from ht))
    have HS : some_ (x :: t) = true := decide_eq_true (by simp)
    rw [HS]
    clear ht hlen
    go_enter Try.func23, Try.ntmps23
    go_wp2_with (first | (go_at_call 29; (with_reducible refine (get_calls HM.out).mono ?_); rintro e w3 ⟨rfl, hM3, hW3⟩; have HM3 := Aside0.mk hM3; have HW3 := Aside0.mk hW3; clear hM3 hW3; rw [HS, show front (x :: t) = x from rfl]) | (go_at_call 18; (with_reducible refine (put_calls x HM3.out).mono ?_); rintro e w4 ⟨rfl, hM4, hW4⟩; have HM4 := Aside0.mk hM4; have HW4 := Aside0.mk hW4; clear hM4 hW4; rw [List.tail_cons, HD.out]))
    go_ret
    refine ⟨rfl, ?_, HW3.out.trans HW4.out (fun k hk => Or.inl hk)⟩
    have h := HM4.out
    rw [List.tail_cons, HT.out] at h
    exact fifo.mono (fun k hk => hk.imp_right (fun h => Nat.le_trans HW3.out.size h)) h
end Go.Proofs.Ytmjmfkbdnhdafaa.Fifo
