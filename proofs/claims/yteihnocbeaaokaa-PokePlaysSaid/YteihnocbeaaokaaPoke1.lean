/- What the pokes' methods turn: New, All (no law is stated here; each says its conditions). -/
import Derived.Test.YteihnocbeaaokaaPoke
import Derived.Test.YteihnocbeaaokaaQx6
import Derived.Test.YteihnocbeaaokaaQx9
import Derived.Deep.QuietTactic
import Derived.BigQuiet
namespace Go.Proofs.Yteihnocbeaaokaa.Poke
open Go.RowKit Go.Proofs.YteihnocbeaaokaaW.PrintWords Go.Proofs.YteihnocbeaaokaaW.PrintLast Go.Proofs.YteihnocbeaaokaaW.PrintMore Go.Proofs.Yteihnocbeaaokaa.St Go.Proofs.Yteihnocbeaaokaa.Q
set_option linter.unusedVariables false
set_option linter.unusedSimpArgs false
attribute [local go_sem] max2_int min2_int max_two min_two max_three min_three max_four min_four


theorem info_box : (Try.prog.info? 56).map (fun i => (i.zero, i.size, i.bytes)) = some (some (.agg #[.int .i64 0, .int .u64 0, .int .i64 0]), 3, 24) := by kernel_rfl
set_option maxHeartbeats 1000000 in
set_option maxRecDepth 100000 in
theorem new_bad (n : Int) (w : World) (c : n < 1 ∨ 64 < n) : Calls Try.prog 7 #[.int .i64 n] w fun e w' => e = .returned (.tuple #[.pointer none, .int .i64 1]) ∧ w' = w := by
  by_cases c1 : n < 1
  · have d1 : decide (n < 1) = true := decide_eq_true c1
    clear c1 c
    go_enter Try.func7, Try.ntmps7
    go_wp2
    go_ret2
    exact ⟨rfl, rfl⟩
  · have d1 : decide (n < 1) = false := decide_eq_false c1
    have d2 : decide (64 < n) = true := decide_eq_true (c.resolve_left c1)
    clear c1 c
    go_enter Try.func7, Try.ntmps7
    go_wp2
    go_ret2
    exact ⟨rfl, rfl⟩
set_option maxHeartbeats 1000000 in
set_option maxRecDepth 100000 in
theorem new_calls (n : Nat) (w : World) (c : 1 ≤ n) (c2 : n ≤ 64) :
    Calls Try.prog 7 #[.int .i64 (n : Int)] w fun e w' => ∃ g : Nat, e = .returned (.tuple #[.pointer (some ⟨g, 0, none⟩), .int .i64 0]) ∧ poke.M w' w.heap.size (fun k => w.heap.size ≤ k) (List.replicate n z56) (.pointer (some ⟨g, 0, none⟩)) ∧ Below w.heap.size w w' := by
  have hu := Try.underlying51
  have d1 : decide ((n : Int) < 1) = false := decide_eq_false (by omega)
  have d2 : decide (64 < (n : Int)) = false := decide_eq_false (by omega)
  go_enter Try.func7, Try.ntmps7
  go_wp2_with (first | ((with_reducible refine gate_dst (N := 11) rfl ?_); refine Kd.R_make k56 (w0 := w) w.heap.size 56 rfl (N := 11) rfl 49 (.tmp 10) (.tmp 10) rfl (n : Int) rfl rfl Try.underlying49 (.agg #[.int .i64 0, .int .u64 0, .int .i64 0]) 24 info_box rfl (by decide) (by decide) z56 (ok := fun k => w.heap.size ≤ k) (okp := fun _ => False) (k56_mkM _ _ _ z56) (fun k hk => hk.elim) (Nat.le_refl _) (by omega) (by simp; omega) (Below.refl _ _) (Nat.le_refl _) ?_; intro v3 w3 hO hB hG hat; rw [Int.toNat_natCast] at hO; obtain ⟨A3, c3, hv3⟩ := Kd.R_slice hO; subst hv3; rw [List.length_replicate] at hO ⊢; have HO := Aside0.mk hO; have HB := Aside0.mk hB; clear hO hB hG hat) | ((with_reducible refine gate_dst (N := 13) rfl ?_); refine box_event ?hg (N := 13) ?hd (cs := #[.slice A3 n c3]) (t := 51) ?hr ?_; (case hd => rfl); (case hg => rfl); (case hr => first | (go_simp; done) | (go_simp; rfl)); intro gb hg w4 hbox hb; have HG := Aside0.mk hg; have HX := Aside0.mk hbox; have HB4 := Aside0.mk hb; clear hg hbox hb))
  go_ret2
  have hge : w.heap.size ≤ gb := by rw [HG.out]; exact HB.out.size
  refine ⟨gb, rfl, ⟨gb, _, rfl, hge, hge, blk_lt HX.out, HX.out, ?_, by rw [List.length_replicate]; exact c, by rw [List.length_replicate]; exact c2⟩, HB.out.trans (HB4.out.mono HB.out.size)⟩
  refine Kd.R_mono (Kd.R_step (Kd.R_bound HO.out) (fun k hk hlt => HB4.out.block k hlt)) (fun k hk => ⟨hk.1, fun e => ?_⟩)
  have h1 := hk.2.2.1
  have h2 := HG.out
  rw [e, h2] at h1
  exact absurd h1 (Nat.lt_irrefl _)

/-- A CPU's bit; a mask with it. -/
def bitv (c : Int) : Int := (mask_bit.f c).getD 0
def withv (m c : Int) : Int := Go.bits .or .u64 m (bitv c)
theorem bit_some (c : Int) : mask_bit.f c = some (bitv c) := by
  unfold bitv mask_bit.f
  by_cases h : c < 0
  · rw [if_pos h]; rfl
  · rw [if_neg h]
    by_cases h2 : c ≥ 64
    · rw [if_pos h2]; rfl
    · rw [if_neg h2, if_pos (by omega)]; rfl
theorem with_some (m c : Int) : mask_Mask_With.f m c = some (withv m c) := by
  unfold mask_Mask_With.f
  rw [bit_some]
  rfl
/-- All told up to j. -/
def allS (c what : Int) (l : List S56) : Nat → List S56 × Int
  | 0 => (l, 0)
  | j + 1 => if (j : Int) = c then allS c what l j else
    ((allS c what l j).1.set j (sendBox ((allS c what l j).1.getD j z56) what (withv ((allS c what l j).1.getD j z56).f1 c)), if ((allS c what l j).1.getD j z56).f0 = 0 then withv (allS c what l j).2 (j : Int) else (allS c what l j).2)
theorem allS_len (c what : Int) (l : List S56) : ∀ j, (allS c what l j).1.length = l.length
  | 0 => rfl
  | j + 1 => by
    rw [allS]
    split
    · exact allS_len c what l j
    · rw [List.length_set]
      exact allS_len c what l j
theorem mayv_len {l l' : List S56} (c what : Int) (h : l.length = l'.length) : mayv l c what = mayv l' c what := by unfold mayv isv; rw [h]
def RelA (w : World) (b : Nat) (ok : Nat → Prop) (c what : Int) (l : List S56) (v : Value) (i m : Value) (wr : World) : Prop :=
  ∃ j : Nat, j ≤ l.length ∧ i = .int .i64 (j : Int) ∧ m = .int .u64 (allS c what l j).2 ∧ poke.M wr b ok (allS c what l j).1 v ∧ Wrote w wr ok
set_option maxHeartbeats 2000000 in
set_option maxRecDepth 100000 in
theorem all_bad {w : World} {b : Nat} {ok : Nat → Prop} {l : List S56} {v : Value} (c what : Int) (hM : poke.M w b ok l v) (hm : mayv l c what = false) :
    Calls Try.prog 8 #[v, .int .i64 c, .int .i64 what] w fun e w' => e = .returned (.tuple #[.int .u64 0, .int .i64 1]) ∧ poke.M w' b ok l v ∧ Wrote w w' ok := by
  have HM := Aside0.mk hM
  have HI := Aside0.mk hm
  clear hM hm
  go_enter Try.func8, Try.ntmps8
  go_wp2_with (first | (go_at_call 17; (with_reducible refine (may_calls c what HM.out).mono ?_); rintro e w3 ⟨rfl, rfl⟩; rw [HI.out]))
  go_ret2
  exact ⟨rfl, HM.out, Wrote.refl _ _⟩
set_option maxHeartbeats 2000000 in
set_option maxRecDepth 100000 in
theorem all_ok {w : World} {b : Nat} {ok : Nat → Prop} {l : List S56} {v : Value} (c what : Int) (hM : poke.M w b ok l v) (hm : mayv l c what = true) :
    Calls Try.prog 8 #[v, .int .i64 c, .int .i64 what] w fun e w' => e = .returned (.tuple #[.int .u64 (allS c what l l.length).2, .int .i64 0]) ∧ poke.M w' b ok (allS c what l l.length).1 v ∧ Wrote w w' ok := by
  have HM := Aside0.mk hM
  have HI := Aside0.mk hm
  have HOF := Aside0.mk (show mask_Of.f 1 ([] : List Int) = some 0 from rfl)
  obtain ⟨g, sv, rfl, hA⟩ := hM
  obtain ⟨g2, k, rfl, hg2, hne⟩ := hA.form
  have HA := Aside0.mk hA
  have hl64 : l.length ≤ 64 := hA.2.2.2.2.2.2
  clear hm hA
  go_enter Try.func8, Try.ntmps8
  go_wp2_with (first | (go_at_call 17; (with_reducible refine (may_calls c what HM.out).mono ?_); rintro e w3 ⟨rfl, rfl⟩; rw [HI.out]) | (go_at_call 13; (with_reducible refine (show Calls Try.prog 13 #[.slice none 0 0] _ _ from (mask_Of.calls 1 none 0 ([] : List Int) 0 w3 (Kd.C_nil _ _) (Nat.le_refl _) HOF.out)).mono ?_); rintro e w4 ⟨rfl, hd4⟩; obtain ⟨nd4, hw4⟩ := hd4; have HM4 := Aside0.mk (show poke.M w4 b ok l (.pointer (some ⟨g, 0, none⟩)) from by rw [hw4]; exact poke.move (w := w3) (fun _ _ => rfl) HM.out); have h0 : w4.cell? ⟨g, 0, none⟩ = some (.slice (some ⟨g2, 0, none⟩) l.length k) := (by rw [hw4]; exact HA.out.c0); have HW4 := Aside0.mk (show Wrote w3 w4 ok from by rw [hw4]; exact (Wrote.refl _ _).drewN nd4); clear hw4))
  go_loopw [23, 8] (fun i m wr => RelA w3 b ok c what l (.pointer (some ⟨g, 0, none⟩)) i m wr) (fun i _ _ => l.length - (intOf i).toNat)
  case atStart => exact ⟨0, Nat.zero_le _, rfl, rfl, HM4.out, HW4.out⟩
  case round =>
    obtain ⟨j, hj, rfl, rfl, hP, hW⟩ := hrel
    clear HM4 HW4 h0
    have HP := Aside0.mk hP
    have HW := Aside0.mk hW
    clear hP hW
    by_cases hlt : j < l.length
    · by_cases hc : (j : Int) = c
      · have e1 : ((j : Int) == c) = true := beq_iff_eq.mpr hc
        have HS := Aside0.mk (show allS c what l (j + 1) = allS c what l j by rw [allS, if_pos hc])
        clear hc
        go_wp2
        exact ⟨⟨j + 1, by omega, by go_num, by rw [HS.out], by rw [HS.out]; exact HP.out, HW.out⟩, by simp [intOf]; omega⟩
      · have e1 : ((j : Int) == c) = false := beq_eq_false_iff_ne.mpr hc
        have HLL := Aside0.mk (allS_len c what l j)
        have HLJ := Aside0.mk (show j < (allS c what l j).1.length by rw [allS_len]; exact hlt)
        have HMJ := Aside0.mk (show mayv (allS c what l j).1 c what = true by rw [mayv_len c what (allS_len c what l j)]; exact HI.out)
        have hS : allS c what l (j + 1) = ((allS c what l j).1.set j (sendBox ((allS c what l j).1.getD j z56) what (withv ((allS c what l j).1.getD j z56).f1 c)), if ((allS c what l j).1.getD j z56).f0 = 0 then withv (allS c what l j).2 (j : Int) else (allS c what l j).2) := by rw [allS, if_neg hc]
        clear hc
        generalize allS c what l j = X at HP HLL HLJ HMJ hS ⊢
        obtain ⟨lj, mj⟩ := X
        generalize hxx : lj.getD j z56 = x at hS
        have HXX := Aside0.mk hxx
        have HWX := Aside0.mk (show mask_Mask_With.f (lj.getD j z56).f1 c = some (withv x.f1 c) by rw [hxx]; exact with_some _ _)
        by_cases hz : x.f0 = 0
        · have HB0 := Aside0.mk (show (x.f0 == 0) = true from beq_iff_eq.mpr hz)
          rw [if_pos hz] at hS
          have HS := Aside0.mk hS
          clear hS hz hxx
          go_wp2_with (first | (go_at_call 15; (with_reducible refine (send_ok c j what (withv x.f1 c) HP.out HMJ.out HLJ.out HWX.out).mono ?_); rintro e w6 ⟨rfl, hP6, hW6⟩; rw [HXX.out] at hP6; rw [HXX.out, HB0.out]; have HP6 := Aside0.mk hP6; have HW6 := Aside0.mk (HW.out.trans hW6 (fun k hk => Or.inl hk)); clear hP6 hW6) | (go_at_call 18; (with_reducible refine (mask_Mask_With.calls mj (j : Int) (withv mj (j : Int)) _ (with_some mj (j : Int))).mono ?_); rintro e w7 ⟨rfl, hd7⟩; obtain ⟨nd7, hw7⟩ := hd7; have HP7 := Aside0.mk (show poke.M w7 b ok _ (.pointer (some ⟨g, 0, none⟩)) from by rw [hw7]; exact poke.move (w := w6) (fun _ _ => rfl) HP6.out); have HW7 := Aside0.mk (show Wrote w3 w7 ok from by rw [hw7]; exact HW6.out.drewN nd7); clear hw7))
          exact ⟨⟨j + 1, by omega, by go_num, by rw [HS.out], by rw [HS.out]; exact HP7.out, HW7.out⟩, by simp [intOf]; omega⟩
        · have HB0 := Aside0.mk (show (x.f0 == 0) = false from beq_eq_false_iff_ne.mpr hz)
          rw [if_neg hz] at hS
          have HS := Aside0.mk hS
          clear hS hz hxx
          go_wp2_with (first | (go_at_call 15; (with_reducible refine (send_ok c j what (withv x.f1 c) HP.out HMJ.out HLJ.out HWX.out).mono ?_); rintro e w6 ⟨rfl, hP6, hW6⟩; rw [HXX.out] at hP6; rw [HXX.out, HB0.out]; have HP6 := Aside0.mk hP6; have HW6 := Aside0.mk (HW.out.trans hW6 (fun k hk => Or.inl hk)); clear hP6 hW6))
          exact ⟨⟨j + 1, by omega, by go_num, by rw [HS.out], by rw [HS.out]; exact HP6.out, HW6.out⟩, by simp [intOf]; omega⟩
    · have hje : j = l.length := by omega
      subst hje
      go_wp2
      go_ret2
      exact ⟨rfl, HP.out, HW.out⟩

theorem at_below {w w1 : World} {b : Nat} {ok : Nat → Prop} {l : List S56} {g : Nat} {sv : Value} (h : At w b ok l g sv) (hb : Below w.heap.size w w1) : At w1 b ok l g sv :=
  ⟨h.1, h.2.1, blk_lt (blk_below h.2.2.2.1 hb), blk_below h.2.2.2.1 hb, Kd.R_below h.2.2.2.2.1 hb, h.2.2.2.2.2⟩
/-- Who was told something, up to j. -/
def waitS (l : List S56) : Nat → Int
  | 0 => 0
  | j + 1 => if (l.getD j z56).f0 = 0 then waitS l j else withv (waitS l j) (j : Int)
def RelW (w : World) (b : Nat) (ok : Nat → Prop) (l : List S56) (v : Value) (i m : Value) (wr : World) : Prop :=
  ∃ j : Nat, j ≤ l.length ∧ i = .int .i64 (j : Int) ∧ m = .int .u64 (waitS l j) ∧ Below w.heap.size w wr
set_option maxHeartbeats 2000000 in
set_option maxRecDepth 100000 in
theorem waits_calls {w : World} {b : Nat} {ok : Nat → Prop} {l : List S56} {v : Value} (hM : poke.M w b ok l v) :
    Calls Try.prog 14 #[v] w fun e w' => e = .returned (.int .u64 (waitS l l.length)) ∧ Below w.heap.size w w' := by
  have HM := Aside0.mk hM
  have HOF := Aside0.mk (show mask_Of.f 1 ([] : List Int) = some 0 from rfl)
  obtain ⟨g, sv, rfl, hA⟩ := hM
  obtain ⟨g2, k, rfl, hg2, hne⟩ := hA.form
  have HA := Aside0.mk hA
  have hl64 : l.length ≤ 64 := hA.2.2.2.2.2.2
  clear hA
  go_enter Try.func14, Try.ntmps14
  go_wp2_with (first | (go_at_call 13; (with_reducible refine (show Calls Try.prog 13 #[.slice none 0 0] _ _ from (mask_Of.calls 1 none 0 ([] : List Int) 0 w (Kd.C_nil _ _) (Nat.le_refl _) HOF.out)).mono ?_); rintro e w4 ⟨rfl, hd4⟩; have hb4 := Drawn0.below hd4; obtain ⟨nd4, hw4⟩ := hd4; have HM4 := Aside0.mk (show poke.M w4 b ok l (.pointer (some ⟨g, 0, none⟩)) from by rw [hw4]; exact poke.move (w := w) (fun _ _ => rfl) HM.out); have h0 : w4.cell? ⟨g, 0, none⟩ = some (.slice (some ⟨g2, 0, none⟩) l.length k) := (by rw [hw4]; exact HA.out.c0); have HB4 := Aside0.mk hb4; clear hw4 hb4))
  go_loopw [12, 3] (fun i m wr => RelW w b ok l (.pointer (some ⟨g, 0, none⟩)) i m wr) (fun i _ _ => l.length - (intOf i).toNat)
  case atStart => exact ⟨0, Nat.zero_le _, rfl, rfl, HB4.out⟩
  case round =>
    obtain ⟨j, hj, rfl, rfl, hB⟩ := hrel
    clear HM4 HB4 h0
    have HB := Aside0.mk hB
    by_cases hlt : j < l.length
    · have hA9 := at_below HA.out hB
      obtain ⟨⟨q0, q1, q2⟩, _⟩ := box_get hA9.row hlt
      have hW : waitS l (j + 1) = if (l.getD j z56).f0 = 0 then waitS l j else withv (waitS l j) (j : Int) := rfl
      generalize l.getD j z56 = x at q0 q1 q2 hW
      have HWT := Aside0.mk hW
      clear hB hA9 hW
      by_cases hz : x.f0 = 0
      · have e1 : (x.f0 != 0) = false := bne_eq_false_iff_eq.mpr hz
        have HS := Aside0.mk (HWT.out.trans (if_pos hz))
        clear hz
        go_wp2
        exact ⟨⟨j + 1, by omega, by go_num, by rw [HS.out], below_alloc HB.out _⟩, by simp [intOf]; omega⟩
      · have e1 : (x.f0 != 0) = true := bne_iff_ne.mpr hz
        have HS := Aside0.mk (HWT.out.trans (if_neg hz))
        clear hz
        go_wp2_with (first | (go_at_call 18; (with_reducible refine (mask_Mask_With.calls (waitS l j) (j : Int) (withv (waitS l j) (j : Int)) _ (with_some _ _)).mono ?_); rintro e w7 ⟨rfl, hd7⟩; have hb7 := Drawn0.below hd7; have HB7 := Aside0.mk ((below_alloc HB.out (.cells #[.int .i64 x.f0, .int .u64 x.f1, .int .i64 x.f2] 56)).trans (hb7.mono (below_alloc HB.out (.cells #[.int .i64 x.f0, .int .u64 x.f1, .int .i64 x.f2] 56)).size)); clear hd7 hb7))
        exact ⟨⟨j + 1, by omega, by go_num, by rw [HS.out], HB7.out⟩, by simp [intOf]; omega⟩
    · have hje : j = l.length := by omega
      subst hje
      clear hB
      go_wp2
      go_ret
      exact ⟨rfl, HB.out⟩
end Go.Proofs.Yteihnocbeaaokaa.Poke
