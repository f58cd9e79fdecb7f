-- Written by myprint.py: the kit's print program with patches of this session; Lean checks it.
import Derived.Test.YtikpnpmhkllbpaaQx0
import Derived.Test.YtikpnpmhkllbpaaQx1
import Derived.Test.YtikpnpmhkllbpaaQx12
import Derived.Test.YtikpnpmhkllbpaaQx13
namespace Go.Proofs.Ytikpnpmhkllbpaa.Q
open Go.RowKit Go.Proofs.YtikpnpmhkllbpaaW.PrintWords Go.Proofs.YtikpnpmhkllbpaaW.PrintLast Go.Proofs.YtikpnpmhkllbpaaW.PrintMore
attribute [local go_sem] max2_int min2_int max_two min_two max_three min_three max_four min_four   -- for this text's walks alone
set_option linter.unusedVariables false
set_option linter.unusedSimpArgs false

/-! ### beadlelaw13_WinOrder: function 6 -/
mutual
def beadlelaw13_WinOrder.j0 : Nat → Int → List (S35) → Int → Bool → Int → Int → Option (Bool)
 | 0, _, _, _, _, _, _ => none
 | k + 1, x0, x1, x2, x43, x135000, x135001 => if x43 = true then (some true) else (beadlelaw13_WinOrder.l0 k x0 x1 x2 ([] : List (S35)) 0 x135000 x135001)
def beadlelaw13_WinOrder.l0 : Nat → Int → List (S35) → Int → List (S35) → Int → Int → Int → Option (Bool)
 | 0, _, _, _, _, _, _, _ => none
 | k + 1, x0, x1, x2, x9, x10, x135000, x135001 => if x10 < (x1.length : Int) then (if 0 ≤ x10 then ((win_Good.f ((rd_T35 x1 x10).f0) ((rd_T35 x1 x10).f1)).bind fun t138 => (if t138 = true then (if (x1.length : Int) = 0 then (none) else (if 0 ≤ (Int.tmod (wrap64 (x10 + (Int.tmod x2 (x1.length : Int)))) (x1.length : Int)) then (if (Int.tmod (wrap64 (x10 + (Int.tmod x2 (x1.length : Int)))) (x1.length : Int)) < (x1.length : Int) then ((some (([(⟨(rd_T35 x1 (Int.tmod (wrap64 (x10 + (Int.tmod x2 (x1.length : Int)))) (x1.length : Int))).f0, (rd_T35 x1 (Int.tmod (wrap64 (x10 + (Int.tmod x2 (x1.length : Int)))) (x1.length : Int))).f1⟩ : S35)] : List (S35)) : List (S35))).bind fun y140 => (if x9.length + y140.length < 8796093022208 then (beadlelaw13_WinOrder.l0 k x0 x1 x2 (x9 ++ y140) (wrap64 (x10 + 1)) x135000 x135001) else (none))) else (none)) else (none))) else (some true))) else (none)) else ((win_All.f k x0 x1).bind fun bt146 => ((win_All.f k x0 x9).bind fun bt148 => ((some (([] : List (S35)) : List (S35))).bind fun y150 => (if y150.length + x1.length < 8796093022208 then ((some (y150 ++ x1 : List (S35))).bind fun y153 => ((some (([(⟨x135000, x135001⟩ : S35)] : List (S35)) : List (S35))).bind fun y156 => (if y153.length + y156.length < 8796093022208 then ((win_All.f k x0 (y153 ++ y156)).bind fun bt162 => (if bt146.2 = 0 then (if bt148.2 = 0 then (if bt162.2 = 0 then (if (bt146.1 == bt148.1) = true then (if bt162.1 = true then (some bt146.1) else (some true)) else (some false)) else (some false)) else (some false)) else (some false))) else (none)))) else (none)))))
end
def beadlelaw13_WinOrder.f (k : Nat) (a0 : Int) (l1 : List (S35)) (a2 : Int) (a3_0 : Int) (a3_1 : Int) : Option (Bool) := (beadlelaw13_awake.f k).bind fun t135 => (if t135 = true then (if (l1.length : Int) < 1 then (beadlelaw13_WinOrder.j0 k a0 l1 a2 true a3_0 a3_1) else (if (l1.length : Int) > 60 then (beadlelaw13_WinOrder.j0 k a0 l1 a2 true a3_0 a3_1) else (if a0 < 1 then (beadlelaw13_WinOrder.j0 k a0 l1 a2 true a3_0 a3_1) else (if a0 > 64 then (beadlelaw13_WinOrder.j0 k a0 l1 a2 true a3_0 a3_1) else (if a2 < 0 then (beadlelaw13_WinOrder.j0 k a0 l1 a2 true a3_0 a3_1) else ((win_Good.f a3_0 a3_1).bind fun t136 => (beadlelaw13_WinOrder.j0 k a0 l1 a2 (!t136) a3_0 a3_1))))))) else (some false))
theorem beadlelaw13_WinOrder.mono_l : ∀ k, (∀ y0 y1 y2 y3 y4 y5, LeO (beadlelaw13_WinOrder.j0 k y0 y1 y2 y3 y4 y5) (beadlelaw13_WinOrder.j0 (k + 1) y0 y1 y2 y3 y4 y5)) ∧ (∀ y0 y1 y2 y3 y4 y5 y6, LeO (beadlelaw13_WinOrder.l0 k y0 y1 y2 y3 y4 y5 y6) (beadlelaw13_WinOrder.l0 (k + 1) y0 y1 y2 y3 y4 y5 y6))
 | 0 => ⟨fun _ _ _ _ _ _ r h => by simp [beadlelaw13_WinOrder.j0] at h, fun _ _ _ _ _ _ _ r h => by simp [beadlelaw13_WinOrder.l0] at h⟩
 | k + 1 => by
  obtain ⟨ih0, ih1⟩ := beadlelaw13_WinOrder.mono_l k
  refine ⟨?_, ?_⟩
  ·intro y0 y1 y2 y3 y4 y5
   unfold beadlelaw13_WinOrder.j0
   repeat' first
   | (with_reducible exact ih0 _ _ _ _ _ _)
   | (with_reducible exact ih1 _ _ _ _ _ _ _)
   | (with_reducible exact beadlelaw13_awake.mono _)
   | (with_reducible exact win_All.mono _ _ _)
   | (with_reducible exact LeO.refl _)
   | (with_reducible exact LeO.none _)
   | (with_reducible refine LeO.ite ?_ ?_)
   | (with_reducible refine LeO.bind ?_ (fun _ => ?_))
   | exact ih0 _ _ _ _ _ _
   | exact ih1 _ _ _ _ _ _ _
   | exact beadlelaw13_awake.mono _
   | exact win_All.mono _ _ _
   | exact LeO.none _
   | refine LeO.ite ?_ ?_
   | refine LeO.bind ?_ (fun _ => ?_)
  ·intro y0 y1 y2 y3 y4 y5 y6
   unfold beadlelaw13_WinOrder.l0
   repeat' first
   | (with_reducible exact ih0 _ _ _ _ _ _)
   | (with_reducible exact ih1 _ _ _ _ _ _ _)
   | (with_reducible exact beadlelaw13_awake.mono _)
   | (with_reducible exact win_All.mono _ _ _)
   | (with_reducible exact LeO.refl _)
   | (with_reducible exact LeO.none _)
   | (with_reducible refine LeO.ite ?_ ?_)
   | (with_reducible refine LeO.bind ?_ (fun _ => ?_))
   | exact ih0 _ _ _ _ _ _
   | exact ih1 _ _ _ _ _ _ _
   | exact beadlelaw13_awake.mono _
   | exact win_All.mono _ _ _
   | exact LeO.none _
   | refine LeO.ite ?_ ?_
   | refine LeO.bind ?_ (fun _ => ?_)
theorem beadlelaw13_WinOrder.mono : ∀ a0 a1 a2 a3 a4 k, LeO (beadlelaw13_WinOrder.f k a0 a1 a2 a3 a4) (beadlelaw13_WinOrder.f (k + 1) a0 a1 a2 a3 a4) := by
 intro a0 a1 a2 a3 a4 k
 obtain ⟨ih0, ih1⟩ := beadlelaw13_WinOrder.mono_l k
 unfold beadlelaw13_WinOrder.f
 repeat' first
   | (with_reducible exact ih0 _ _ _ _ _ _)
   | (with_reducible exact ih1 _ _ _ _ _ _ _)
   | (with_reducible exact beadlelaw13_awake.mono _)
   | (with_reducible exact win_All.mono _ _ _)
   | (with_reducible exact LeO.refl _)
   | (with_reducible exact LeO.none _)
   | (with_reducible refine LeO.ite ?_ ?_)
   | (with_reducible refine LeO.bind ?_ (fun _ => ?_))
   | exact ih0 _ _ _ _ _ _
   | exact ih1 _ _ _ _ _ _ _
   | exact beadlelaw13_awake.mono _
   | exact win_All.mono _ _ _
   | exact LeO.none _
   | refine LeO.ite ?_ ?_
   | refine LeO.bind ?_ (fun _ => ?_)
def beadlelaw13_WinOrder.T14 : Bool × List (List Nat × List Nat) := (true, [([], []), ([], []), ([], []), ([1, 2], [1, 2]), ([], []), ([4], [4]), ([3, 5, 3], [3, 5]), ([0, 6, 6], [0, 6]), ([7], [7]), ([8], [8]), ([8], [8]), ([9, 7, 0, 1, 2, 3, 4, 5, 6, 7, 8, 9], [9]), ([10, 11, 0, 1, 2, 3, 4, 5, 6, 7, 8, 9, 10, 11], [10])])
def beadlelaw13_WinOrder.B14 : List Nat := [0, 0, 0, 6, 0, 16, 62, 127, 255, 511, 511, 1023, 4095]
theorem beadlelaw13_WinOrder.tab14 : rtab .any (opsOf Try.f6 14) = beadlelaw13_WinOrder.T14 := by kernel_rfl
theorem beadlelaw13_WinOrder.bits14 : waitsOk beadlelaw13_WinOrder.T14.2 beadlelaw13_WinOrder.B14 = true := by kernel_rfl
set_option maxHeartbeats 8000000 in
set_option maxRecDepth 100000 in
theorem beadlelaw13_WinOrder.calls (k : Nat) (a0 : Int) (A1 : Option Addr) (c1 : Nat) (l1 : List (S35)) (a2 : Int) (a3_0 : Int) (a3_1 : Int) (r : Bool) (w : World) (hr1 : Kd.C k35 w A1 l1.length l1) (hc1 : l1.length ≤ c1) (h : beadlelaw13_WinOrder.f k a0 l1 a2 a3_0 a3_1 = some r) :
  Calls Try.prog 6 #[.int .i64 a0, .slice A1 l1.length c1, .int .i64 a2, .agg #[.int .i64 a3_0, .int .i64 a3_1]] w fun e w' => e = .returned (.bool r) ∧ Below w.heap.size w w' := by
 have hu35 := Try.underlying35
 have HR1 := Aside0.mk hr1
 have HC1 := Aside0.mk hc1
 clear hr1 hc1
 have HB := Aside0.mk (Below.refl w.heap.size w)
 have H : ((beadlelaw13_awake.f k).bind fun t135 => (if t135 = true then (if (l1.length : Int) < 1 then (beadlelaw13_WinOrder.j0 k a0 l1 a2 true a3_0 a3_1) else (if (l1.length : Int) > 60 then (beadlelaw13_WinOrder.j0 k a0 l1 a2 true a3_0 a3_1) else (if a0 < 1 then (beadlelaw13_WinOrder.j0 k a0 l1 a2 true a3_0 a3_1) else (if a0 > 64 then (beadlelaw13_WinOrder.j0 k a0 l1 a2 true a3_0 a3_1) else (if a2 < 0 then (beadlelaw13_WinOrder.j0 k a0 l1 a2 true a3_0 a3_1) else ((win_Good.f a3_0 a3_1).bind fun t136 => (beadlelaw13_WinOrder.j0 k a0 l1 a2 (!t136) a3_0 a3_1))))))) else (some false))) = some r := h
 clear h
 replace H := Option.bind_eq_some_iff.mp H
 obtain ⟨t135, A50, H⟩ := H
 replace H : (if t135 = true then (if (l1.length : Int) < 1 then (beadlelaw13_WinOrder.j0 k a0 l1 a2 true a3_0 a3_1) else (if (l1.length : Int) > 60 then (beadlelaw13_WinOrder.j0 k a0 l1 a2 true a3_0 a3_1) else (if a0 < 1 then (beadlelaw13_WinOrder.j0 k a0 l1 a2 true a3_0 a3_1) else (if a0 > 64 then (beadlelaw13_WinOrder.j0 k a0 l1 a2 true a3_0 a3_1) else (if a2 < 0 then (beadlelaw13_WinOrder.j0 k a0 l1 a2 true a3_0 a3_1) else ((win_Good.f a3_0 a3_1).bind fun t136 => (beadlelaw13_WinOrder.j0 k a0 l1 a2 (!t136) a3_0 a3_1))))))) else (some false)) = some r := H
 have A5 := Aside0.mk A50
 clear A50
 by_cases c6 : t135 = true
 ·subst c6
  have H1 : (if (l1.length : Int) < 1 then (beadlelaw13_WinOrder.j0 k a0 l1 a2 true a3_0 a3_1) else (if (l1.length : Int) > 60 then (beadlelaw13_WinOrder.j0 k a0 l1 a2 true a3_0 a3_1) else (if a0 < 1 then (beadlelaw13_WinOrder.j0 k a0 l1 a2 true a3_0 a3_1) else (if a0 > 64 then (beadlelaw13_WinOrder.j0 k a0 l1 a2 true a3_0 a3_1) else (if a2 < 0 then (beadlelaw13_WinOrder.j0 k a0 l1 a2 true a3_0 a3_1) else ((win_Good.f a3_0 a3_1).bind fun t136 => (beadlelaw13_WinOrder.j0 k a0 l1 a2 (!t136) a3_0 a3_1))))))) = some r := by rw [if_pos rfl] at H; exact H
  clear H
  have H := H1
  clear H1
  have HC7 := Aside0.mk H
  clear H
  go_enter Try.func6, Try.ntmps6
  go_upto_region 3 with (first | ((with_reducible refine gate_dst (N := 7) rfl ?_); (try (refine gate_guard (by rfl) ?_; dsimp only)); refine box_event ?hg (N := 7) ?hd (cs := #[.int .i64 a3_0, .int .i64 a3_1]) (t := 35) ?hr ?_; (case hd => rfl); (case hg => rfl); (case hr => first | (go_simp; done) | (go_simp; rfl)); intro gb134 hg w8 hbox hb; have n0_ := Aside0.mk (below_step (by repeat (first | (with_reducible first | exact HB.out | apply below_alloc | apply pw_below_drewN | apply below_drew1) | exact HB.out)) hb); have n1_ := Aside0.mk (hbox); have n2_ := Aside0.mk ((by rw [hg]; exact (below_size (by repeat (first | (with_reducible first | exact HB.out | apply below_alloc | apply pw_below_drewN | apply below_drew1) | exact HB.out))) : w.heap.size ≤ gb134)); have n3_ := Aside0.mk ((by rw [hg]; exact (below_size (by repeat (first | (with_reducible first | exact HB.out | apply below_alloc | apply pw_below_drewN | apply below_drew1) | exact HB.out))) : w.heap.size ≤ gb134)); clear HB; have HB := n0_; have BK134 := n1_; have GW134 := n2_; have GE134 := n3_; clear n0_ n1_ n2_ n3_; clear hb hbox hg) | ((with_reducible refine gate_callee (f := 10) rfl ?_); refine goesL_ (some 17) rfl rfl Try.func10 (by kernel_rfl) rfl #[] rfl (by (try simp only [List.map_toArray, List.map_cons, List.map_nil]); first | done | rfl | (simp only [List.length_drop, List.length_take]; rfl)) ?_; (with_reducible refine (beadlelaw13_awake.calls k  true _ A5.out).mono ?_); rintro e w9 ⟨rfl, hb⟩; refine ⟨_, rfl, ?_⟩; have n0_ := Aside0.mk (blk_below (g := gb134) (o := .cells #[.int .i64 a3_0, .int .i64 a3_1] 35 (0, 0)) BK134.out hb); have n1_ := Aside0.mk (below_step (by repeat (first | (with_reducible first | exact HB.out | apply below_alloc | apply pw_below_drewN | apply below_drew1 | refine below_set ?_ GE134.out) | exact HB.out)) hb); clear BK134; clear HB; have BK134 := n0_; have HB := n1_; clear n0_ n1_; (try clear hb); (try clear hb2); (try clear hk); (try clear hi)))
  (try simp only [Act.put, List.setIfInBounds_toArray, List.set_cons_zero, List.set_cons_succ])
  go_cut [43] (fun v43 wc => ∃ (kq : Nat) (x43_6 : Bool), v43 = .bool x43_6 ∧ Aside0 (beadlelaw13_WinOrder.j0 kq a0 l1 a2 x43_6 a3_0 a3_1 = some r) ∧ Aside0 (kq ≤ k) ∧ Aside0 (wc.heap[gb134]? = some (.cells #[.int .i64 a3_0, .int .i64 a3_1] 35 (0, 0))) ∧ Aside0 (Below w.heap.size w wc))
  case first =>
   have H := HC7.out
   clear HC7
   by_cases c10 : (l1.length : Int) < 1
   ·rw [if_pos c10] at H
    have c10b0 : decide ((l1.length : Int) < 1) = true := decide_eq_true c10
    have c10b1 : decide (l1.length < 1) = true := decide_eq_true (by omega)
    clear c10
    (first | rw [c10b0] | (simp only [i64_w, i32_w]; rw [c10b0]) | skip)
    have H' := Aside0.mk H
    clear H
    go_wp2
    go_meet
    case rel => exact ⟨_, (true), (by first | rfl | (simp; done) | (simp [*]; done)), H', ⟨by first | omega | exact Nat.le_refl _⟩, ⟨by (with_reducible repeat (first | refine blk_drewN ?_ _ | refine blk_drew ?_ | refine blk_alloc ?_ _)); exact BK134.out⟩, ⟨by repeat (first | (with_reducible first | exact HB.out | apply below_alloc | apply pw_below_drewN | apply below_drew1 | refine below_set ?_ GE134.out) | exact HB.out)⟩⟩
   ·rw [if_neg c10] at H
    have c10b0 : decide ((l1.length : Int) < 1) = false := decide_eq_false c10
    have c10b1 : decide (l1.length < 1) = false := decide_eq_false (by omega)
    clear c10
    (first | rw [c10b0] | (simp only [i64_w, i32_w]; rw [c10b0]) | skip)
    by_cases c11 : (l1.length : Int) > 60
    ·rw [if_pos c11] at H
     have c11b0 : decide (60 < (l1.length : Int)) = true := decide_eq_true c11
     have c11b1 : decide (60 < l1.length) = true := decide_eq_true (by omega)
     clear c11
     have H' := Aside0.mk H
     clear H
     go_wp2
     go_meet
     case rel => exact ⟨_, (true), (by first | rfl | (simp; done) | (simp [*]; done)), H', ⟨by first | omega | exact Nat.le_refl _⟩, ⟨by (with_reducible repeat (first | refine blk_drewN ?_ _ | refine blk_drew ?_ | refine blk_alloc ?_ _)); exact BK134.out⟩, ⟨by repeat (first | (with_reducible first | exact HB.out | apply below_alloc | apply pw_below_drewN | apply below_drew1 | refine below_set ?_ GE134.out) | exact HB.out)⟩⟩
    ·rw [if_neg c11] at H
     have c11b0 : decide (60 < (l1.length : Int)) = false := decide_eq_false c11
     have c11b1 : decide (60 < l1.length) = false := decide_eq_false (by omega)
     clear c11
     by_cases c12 : a0 < 1
     ·rw [if_pos c12] at H
      have c12b0 : decide (a0 < 1) = true := decide_eq_true c12
      clear c12
      have H' := Aside0.mk H
      clear H
      go_wp2
      go_meet
      case rel => exact ⟨_, (true), (by first | rfl | (simp; done) | (simp [*]; done)), H', ⟨by first | omega | exact Nat.le_refl _⟩, ⟨by (with_reducible repeat (first | refine blk_drewN ?_ _ | refine blk_drew ?_ | refine blk_alloc ?_ _)); exact BK134.out⟩, ⟨by repeat (first | (with_reducible first | exact HB.out | apply below_alloc | apply pw_below_drewN | apply below_drew1 | refine below_set ?_ GE134.out) | exact HB.out)⟩⟩
     ·rw [if_neg c12] at H
      have c12b0 : decide (a0 < 1) = false := decide_eq_false c12
      clear c12
      by_cases c13 : a0 > 64
      ·rw [if_pos c13] at H
       have c13b0 : decide (64 < a0) = true := decide_eq_true c13
       clear c13
       have H' := Aside0.mk H
       clear H
       go_wp2
       go_meet
       case rel => exact ⟨_, (true), (by first | rfl | (simp; done) | (simp [*]; done)), H', ⟨by first | omega | exact Nat.le_refl _⟩, ⟨by (with_reducible repeat (first | refine blk_drewN ?_ _ | refine blk_drew ?_ | refine blk_alloc ?_ _)); exact BK134.out⟩, ⟨by repeat (first | (with_reducible first | exact HB.out | apply below_alloc | apply pw_below_drewN | apply below_drew1 | refine below_set ?_ GE134.out) | exact HB.out)⟩⟩
      ·rw [if_neg c13] at H
       have c13b0 : decide (64 < a0) = false := decide_eq_false c13
       clear c13
       by_cases c14 : a2 < 0
       ·rw [if_pos c14] at H
        have c14b0 : decide (a2 < 0) = true := decide_eq_true c14
        clear c14
        have H' := Aside0.mk H
        clear H
        go_wp2
        go_meet
        case rel => exact ⟨_, (true), (by first | rfl | (simp; done) | (simp [*]; done)), H', ⟨by first | omega | exact Nat.le_refl _⟩, ⟨by (with_reducible repeat (first | refine blk_drewN ?_ _ | refine blk_drew ?_ | refine blk_alloc ?_ _)); exact BK134.out⟩, ⟨by repeat (first | (with_reducible first | exact HB.out | apply below_alloc | apply pw_below_drewN | apply below_drew1 | refine below_set ?_ GE134.out) | exact HB.out)⟩⟩
       ·rw [if_neg c14] at H
        have c14b0 : decide (a2 < 0) = false := decide_eq_false c14
        clear c14
        replace H := Option.bind_eq_some_iff.mp H
        obtain ⟨t136, A150, H⟩ := H
        replace H : (beadlelaw13_WinOrder.j0 k a0 l1 a2 (!t136) a3_0 a3_1) = some r := H
        have A15 := Aside0.mk A150
        clear A150
        have H' := Aside0.mk H
        clear H
        have hcz16_0 : w9.cell? ⟨gb134, 0, none⟩ = some (.int .i64 a3_0) := (blk_cell BK134.out 0).trans rfl
        have hcz16_1 : w9.cell? ⟨gb134, 1, none⟩ = some (.int .i64 a3_1) := (blk_cell BK134.out 1).trans rfl
        have hfz16_0 := blk_frozen BK134.out 0
        have hfz16_1 := blk_frozen BK134.out 1
        go_wp2_with (first | (go_at_call 20; (with_reducible refine (win_Good.calls a3_0 a3_1 t136 _ A15.out).mono ?_); rintro e w17 ⟨rfl, hb⟩; have n0_ := Aside0.mk (blk_below (g := gb134) (o := .cells #[.int .i64 a3_0, .int .i64 a3_1] 35 (0, 0)) BK134.out hb); have n1_ := Aside0.mk (below_step (by repeat (first | (with_reducible first | exact HB.out | apply below_alloc | apply pw_below_drewN | apply below_drew1 | refine below_set ?_ GE134.out) | exact HB.out)) hb); clear BK134; clear HB; have BK134 := n0_; have HB := n1_; clear n0_ n1_; (try clear hb); (try clear hb2); (try clear hk); (try clear hi)))
        go_meet
        case rel => exact ⟨_, (!t136), (by first | rfl | (simp; done) | (simp [*]; done)), H', ⟨by first | omega | exact Nat.le_refl _⟩, ⟨by (with_reducible repeat (first | refine blk_drewN ?_ _ | refine blk_drew ?_ | refine blk_alloc ?_ _)); exact BK134.out⟩, ⟨by repeat (first | (with_reducible first | exact HB.out | apply below_alloc | apply pw_below_drewN | apply below_drew1 | refine below_set ?_ GE134.out) | exact HB.out)⟩⟩
  case rest =>
   clear HC7
   try clear c1
   try clear p2
   try clear c6
   try clear c10
   try clear c10b0
   try clear c10b1
   try clear c11
   try clear c11b0
   try clear c11b1
   try clear c12
   try clear c12b0
   try clear c13
   try clear c13b0
   try clear c14
   try clear c14b0
   try clear hcz16_0
   try clear hcz16_1
   try clear hfz16_0
   try clear hfz16_1
   obtain ⟨kq, x43_6, rfl, HA, HJ6, BK134, HB⟩ := hcut
   cases kq with
   | zero => exact absurd HA.out (by simp [beadlelaw13_WinOrder.j0])
   | succ kj6 =>
    have H := HA.out
    clear HA
    simp only [beadlelaw13_WinOrder.j0] at H
    by_cases c18 : x43_6 = true
    ·subst c18
     have H1 : (some true) = some r := by rw [if_pos rfl] at H; exact H
     clear H
     have H := H1
     clear H1
     obtain rfl := Option.some.inj H
     go_wp2
     go_ret
     exact ⟨by first | rfl | (simp [errW_none, errW_some] <;> rfl) | (simp [*, errW_none, errW_some] <;> rfl), by repeat (first | (with_reducible first | exact HB.out | apply below_alloc | apply pw_below_drewN | apply below_drew1 | refine below_set ?_ GE134.out) | exact HB.out)⟩
    ·replace c18 := Bool.eq_false_iff.mpr c18
     subst c18
     have H1 : (beadlelaw13_WinOrder.l0 kj6 a0 l1 a2 ([] : List (S35)) 0 a3_0 a3_1) = some r := by rw [if_neg (show ¬ (false = true) by decide)] at H; exact H
     clear H
     have H := H1
     clear H1
     have H' := Aside0.mk H
     clear H
     go_wp2
     go_loopg [9, 10] kj6 (fun kq v9 v10 w' => ∃ (x9_2 : List (S35)) (x10_2 : Int), v10 = .int .i64 x10_2 ∧ Aside0 (beadlelaw13_WinOrder.l0 kq a0 l1 a2 x9_2 x10_2 a3_0 a3_1 = some r) ∧ Aside0 (kq ≤ kj6) ∧ Aside0 (Kd.R k35 35 w' w.heap.size (fun k_ => k_ ≠ gb134) v9 x9_2) ∧ Aside0 (w'.heap[gb134]? = some (.cells #[.int .i64 a3_0, .int .i64 a3_1] 35 (0, 0))) ∧ Aside0 (Below w.heap.size w w'))
     case atStart => exact ⟨(([] : List (S35))), (0), (by first | rfl | (simp; done) | (simp [*]; done)), H', ⟨Nat.le_refl _⟩, ⟨by first | exact Kd.R_nil _ _ _ _ _ | exact Kd.N_nil _ _ _ _ _ | exact Kd.V_nil _ _ _ _ _ | exact Kd.Q_nil _ _ _ _ _ | exact Kd.S_nil _ _ _ _ _⟩, ⟨by (with_reducible repeat (first | refine blk_drewN ?_ _ | refine blk_drew ?_ | refine blk_alloc ?_ _)); exact BK134.out⟩, ⟨by repeat (first | (with_reducible first | exact HB.out | apply below_alloc | apply pw_below_drewN | apply below_drew1 | refine below_set ?_ GE134.out) | exact HB.out)⟩⟩
     case round =>
      clear H'
      try clear c1
      try clear p2
      try clear c6
      try clear c10
      try clear c10b0
      try clear c10b1
      try clear c11
      try clear c11b0
      try clear c11b1
      try clear c12
      try clear c12b0
      try clear c13
      try clear c13b0
      try clear c14
      try clear c14b0
      try clear c18
      try clear hcz16_0
      try clear hcz16_1
      try clear hfz16_0
      try clear hfz16_1
      try clear p2
      obtain ⟨x9_2, x10_2, rfl, HA, HK2, HO_9, BK134, HB⟩ := hrel
      cases gk with
      | zero => exact absurd HA.out (by simp [beadlelaw13_WinOrder.l0])
      | succ k2 =>
       have H := HA.out
       clear HA
       simp only [beadlelaw13_WinOrder.l0] at H
       by_cases c19 : x10_2 < (l1.length : Int)
       ·rw [if_pos c19] at H
        have c19b0 : decide (x10_2 < (l1.length : Int)) = true := decide_eq_true c19
        clear c19
        by_cases c20 : 0 ≤ x10_2
        ·rw [if_pos c20] at H
         have c20b0 : decide (0 ≤ x10_2) = true := decide_eq_true c20
         clear c20
         replace H := Option.bind_eq_some_iff.mp H
         obtain ⟨t138, A210, H⟩ := H
         replace H : (if t138 = true then (if (l1.length : Int) = 0 then (none) else (if 0 ≤ (Int.tmod (wrap64 (x10_2 + (Int.tmod a2 (l1.length : Int)))) (l1.length : Int)) then (if (Int.tmod (wrap64 (x10_2 + (Int.tmod a2 (l1.length : Int)))) (l1.length : Int)) < (l1.length : Int) then ((some (([(⟨(rd_T35 l1 (Int.tmod (wrap64 (x10_2 + (Int.tmod a2 (l1.length : Int)))) (l1.length : Int))).f0, (rd_T35 l1 (Int.tmod (wrap64 (x10_2 + (Int.tmod a2 (l1.length : Int)))) (l1.length : Int))).f1⟩ : S35)] : List (S35)) : List (S35))).bind fun y140 => (if x9_2.length + y140.length < 8796093022208 then (beadlelaw13_WinOrder.l0 k2 a0 l1 a2 (x9_2 ++ y140) (wrap64 (x10_2 + 1)) a3_0 a3_1) else (none))) else (none)) else (none))) else (some true)) = some r := H
         have A21 := Aside0.mk A210
         clear A210
         by_cases c22 : t138 = true
         ·subst c22
          have H1 : (if (l1.length : Int) = 0 then (none) else (if 0 ≤ (Int.tmod (wrap64 (x10_2 + (Int.tmod a2 (l1.length : Int)))) (l1.length : Int)) then (if (Int.tmod (wrap64 (x10_2 + (Int.tmod a2 (l1.length : Int)))) (l1.length : Int)) < (l1.length : Int) then ((some (([(⟨(rd_T35 l1 (Int.tmod (wrap64 (x10_2 + (Int.tmod a2 (l1.length : Int)))) (l1.length : Int))).f0, (rd_T35 l1 (Int.tmod (wrap64 (x10_2 + (Int.tmod a2 (l1.length : Int)))) (l1.length : Int))).f1⟩ : S35)] : List (S35)) : List (S35))).bind fun y140 => (if x9_2.length + y140.length < 8796093022208 then (beadlelaw13_WinOrder.l0 k2 a0 l1 a2 (x9_2 ++ y140) (wrap64 (x10_2 + 1)) a3_0 a3_1) else (none))) else (none)) else (none))) = some r := by rw [if_pos rfl] at H; exact H
          clear H
          have H := H1
          clear H1
          by_cases c23 : (l1.length : Int) = 0
          ·rw [if_pos c23] at H
           exact absurd H (by simp)
          ·rw [if_neg c23] at H
           have c23b0 : ((l1.length : Int) == 0) = false := beq_eq_false_iff_ne.mpr c23
           have c23b1 : ((l1.length : Int) != 0) = true := bne_iff_ne.mpr c23
           have c23b2 : ¬ (l1 = []) := fun h_ => c23 (by rw [h_]; rfl)
           obtain ⟨ji24, hji24⟩ : ∃ j_ : Int, (Int.tmod (wrap64 (x10_2 + (Int.tmod a2 (l1.length : Int)))) (l1.length : Int)) = j_ := ⟨_, rfl⟩
           replace H : (if 0 ≤ (ji24) then (if (ji24) < (l1.length : Int) then ((some (([(⟨(rd_T35 l1 (ji24)).f0, (rd_T35 l1 (ji24)).f1⟩ : S35)] : List (S35)) : List (S35))).bind fun y140 => (if x9_2.length + y140.length < 8796093022208 then (beadlelaw13_WinOrder.l0 k2 a0 l1 a2 (x9_2 ++ y140) (wrap64 (x10_2 + 1)) a3_0 a3_1) else (none))) else (none)) else (none)) = some r := by first | (rw [hji24] at H; exact H) | (simp only [hji24] at H ⊢; exact H)
           (try rw [hji24] at A21)
           by_cases c25 : 0 ≤ (ji24)
           ·rw [if_pos c25] at H
            have c25b0 : decide (0 ≤ (ji24)) = true := decide_eq_true c25
            clear c25
            by_cases c26 : (ji24) < (l1.length : Int)
            ·rw [if_pos c26] at H
             have c26b0 : decide ((ji24) < (l1.length : Int)) = true := decide_eq_true c26
             clear c26
             obtain ⟨y140, hy140⟩ : ∃ y_ : List (S35), y_ = (([(⟨(rd_T35 l1 (ji24)).f0, (rd_T35 l1 (ji24)).f1⟩ : S35)] : List (S35))) := ⟨_, rfl⟩
             replace H : (if x9_2.length + y140.length < 8796093022208 then (beadlelaw13_WinOrder.l0 k2 a0 l1 a2 (x9_2 ++ y140) (wrap64 (x10_2 + 1)) a3_0 a3_1) else (none)) = some r := by first | (rw [hy140]; with_reducible exact H) | (have H2_ := (Option.bind_some _ _).symm.trans H; rw [hy140]; with_reducible exact H2_) | (have H2_ := (Option.bind_some _ _).symm.trans H; with_reducible exact H2_) | with_reducible exact H | (rw [hy140]; exact H) | exact H
             have Ny140 := Aside0.mk hy140
             clear hy140
             by_cases c27 : x9_2.length + y140.length < 8796093022208
             ·rw [if_pos c27] at H
              have LMc27 := Aside0.mk c27
              clear c27
              obtain ⟨y143, hy143⟩ : ∃ y_ : List (S35), y_ = (x9_2 ++ y140) := ⟨_, rfl⟩
              replace H : (beadlelaw13_WinOrder.l0 k2 a0 l1 a2 y143 (wrap64 (x10_2 + 1)) a3_0 a3_1) = some r := by first | (rw [hy143]; with_reducible exact H) | (have H2_ := (Option.bind_some _ _).symm.trans H; rw [hy143]; with_reducible exact H2_) | (have H2_ := (Option.bind_some _ _).symm.trans H; with_reducible exact H2_) | with_reducible exact H | (rw [hy143]; exact H) | exact H
              have Ny143 := Aside0.mk hy143
              clear hy143
              have H' := Aside0.mk H
              clear H
              have p137 : 0 ≤ (x10_2 : Int) := of_decide_eq_true (by first | (with_reducible assumption) | assumption)
              have q137 : x10_2 < (l1.length : Int) := of_decide_eq_true (by first | (with_reducible assumption) | assumption)
              obtain ⟨ad137, e137, hx137_0, hx137_1⟩ := at_T35 HR1.out x10_2 p137 q137
              cases e137
              replace hx137_0 := (HB.out.cell (World.block_lt_of_cell? w _ hx137_0)).trans hx137_0
              replace hx137_1 := (HB.out.cell (World.block_lt_of_cell? w _ hx137_1)).trans hx137_1
              replace p137 := eq_true p137
              replace q137 := eq_true q137
              go_wp2_with (first | ((with_reducible refine gate_callee (f := 20) rfl ?_); refine goesL_ (some 54) rfl rfl Try.func20 (by kernel_rfl) rfl #[.agg #[.int .i64 ((rd_T35 l1 x10_2).f0), .int .i64 ((rd_T35 l1 x10_2).f1)]] rfl (by (try simp only [List.map_toArray, List.map_cons, List.map_nil]); first | done | rfl | (simp only [List.length_drop, List.length_take]; rfl)) ?_; (with_reducible refine (win_Good.calls ((rd_T35 l1 x10_2).f0) ((rd_T35 l1 x10_2).f1) true _ A21.out).mono ?_); rintro e w28 ⟨rfl, hb⟩; refine ⟨_, rfl, ?_⟩; have n0_ := Aside0.mk (Kd.R_below HO_9.out hb); have n1_ := Aside0.mk (blk_below (g := gb134) (o := .cells #[.int .i64 a3_0, .int .i64 a3_1] 35 (0, 0)) BK134.out hb); have n2_ := Aside0.mk (below_step (by repeat (first | (with_reducible first | exact HB.out | apply below_alloc | apply pw_below_drewN | apply below_drew1 | refine below_set ?_ GE134.out) | exact HB.out)) hb); clear HO_9; clear BK134; clear HB; have HO_9 := n0_; have BK134 := n1_; have HB := n2_; clear n0_ n1_ n2_; (try clear hb); (try clear hb2); (try clear hk); (try clear hi); have p139 : 0 ≤ ((ji24) : Int) := of_decide_eq_true (by first | (with_reducible assumption) | assumption); have q139 : (ji24) < (l1.length : Int) := of_decide_eq_true (by first | (with_reducible assumption) | assumption); obtain ⟨ad139, e139, hx139_0, hx139_1⟩ := at_T35 HR1.out (ji24) p139 q139; obtain rfl : ad137 = ad139 := (by injection e139); replace hx139_0 := (HB.out.cell (World.block_lt_of_cell? w _ hx139_0)).trans hx139_0; replace hx139_1 := (HB.out.cell (World.block_lt_of_cell? w _ hx139_1)).trans hx139_1; replace p139 := eq_true p139; replace q139 := eq_true q139) | ((with_reducible refine gate_dst (N := 69) rfl ?_); (try (refine gate_guard (by rfl) ?_; dsimp only)); refine Kd.R_lit k35 _ 35 ?hg (N := 69) ?hd (xs := ([(⟨(rd_T35 l1 (ji24)).f0, (rd_T35 l1 (ji24)).f1⟩ : S35)] : List (S35))) (inner := [.int .i64 ((rd_T35 l1 (ji24)).f0), .int .i64 ((rd_T35 l1 (ji24)).f1)]) (ok := fun _ => True) (okp := fun _ => True) ?hr ?hp (fun _ hk => hk) trivial (Below.refl _ _) (Nat.le_refl _) (by simp) ?_; (case hd => rfl); (case hg => rfl); (case hr => first | (go_simp; done) | (go_simp; rfl)); (case hp => exact (Reps.c2 (show Kd.M k35 _ _ _ (⟨(rd_T35 l1 (ji24)).f0, (rd_T35 l1 (ji24)).f1⟩ : S35) [.int .i64 ((rd_T35 l1 (ji24)).f0), .int .i64 ((rd_T35 l1 (ji24)).f1)] from (k35_mkM _ _ _ (⟨(rd_T35 l1 (ji24)).f0, (rd_T35 l1 (ji24)).f1⟩ : S35) )) (Reps.none _ _))); intro v141 w29 ho30 hb hg_ hnew_; clear hg_ hnew_; (first | rw [← Ny140.out] at ho30 | (simp only [Int.reduceToNat] at ho30; rw [← Ny140.out] at ho30)); have n0_ := Aside0.mk (Kd.R_elder' HO_9.out (Kd.R_base ho30) hb); have n1_ := Aside0.mk (Kd.R_lower (Kd.R_newB (Kd.R_new' ho30 (Kd.R_lt HO_9.out)) (g := gb134) (o := .cells #[.int .i64 a3_0, .int .i64 a3_1] 35 (0, 0)) BK134.out) (below_size (by repeat (first | (with_reducible first | exact HB.out | apply below_alloc | apply pw_below_drewN | apply below_drew1 | refine below_set ?_ GE134.out) | exact HB.out)))); have n2_ := Aside0.mk (blk_below (g := gb134) (o := .cells #[.int .i64 a3_0, .int .i64 a3_1] 35 (0, 0)) BK134.out hb); have n3_ := Aside0.mk (below_step (by repeat (first | (with_reducible first | exact HB.out | apply below_alloc | apply pw_below_drewN | apply below_drew1 | refine below_set ?_ GE134.out) | exact HB.out)) hb); clear HO_9; clear BK134; clear HB; have HO_9 := n0_; have HO142 := n1_; have BK134 := n2_; have HB := n3_; clear n0_ n1_ n2_ n3_; clear hb ho30; obtain ⟨Ao32, co32, eo32⟩ := Kd.R_slice HO142.out; subst eo32) | ((with_reducible refine gate_builtin (b := .append) (xs := #[.tmp 56, .tmp 69]) rfl ?_); (try (refine gate_guard (by rfl) ?_; dsimp only)); at_builtin; refine Kd.R_append_rows k35 (w0 := w) w.heap.size rfl (.tmp 56) (.tmp 69) 22 35 (.agg #[(.int .i64 0), (.int .i64 0)]) 16 rfl Try.underlying22 info35 rfl (by decide) (by omega) u9 x9_2 y140 _ _ _ (fun k_ => some k_ ≠ (.slice Ao32 y140.length co32 : Value).ownBlock ∧ k_ ≠ gb134) (fun _ => False) rfl rfl ?aO ?aR (fun _ _ h => h) (fun _ h => h.elim) ?aF ?aB ?aS ?aL ?_; (case aR => repeat (first | exact (Kd.R_reads' HO142.out).2.2 | (with_reducible refine Kd.C_alloc ?_ _) | (with_reducible refine Kd.C_drewN ?_ _) | (with_reducible refine Kd.C_drew ?_))); (case aB => exact (by repeat (first | (with_reducible first | exact HB.out | apply below_alloc | apply pw_below_drewN | apply below_drew1 | refine below_set ?_ GE134.out) | exact HB.out))); (case aF => exact (fun k_ hk => ⟨Kd.fresh' (Kd.R_lt HO142.out) k_ hk, Kd.freshB (g := gb134) (o := .cells #[.int .i64 a3_0, .int .i64 a3_1] 35 (0, 0)) BK134.out k_ hk⟩)); (case aO => exact (by (with_reducible repeat (first | apply Kd.R_alloc | apply Kd.R_drewN | apply Kd.R_drew)); exact Kd.R_mono HO_9.out (fun _ hk => ⟨hk.2, hk.1⟩))); (case aS => exact (below_size (by repeat (first | (with_reducible first | exact HB.out | apply below_alloc | apply pw_below_drewN | apply below_drew1 | refine below_set ?_ GE134.out) | exact HB.out)))); (case aL => have := LMc27.out; omega); intro v144 w31 ho hb hg hat; rw [← Ny143.out] at ho; have n0_ := Aside0.mk (blk_grown (g := gb134) (o := .cells #[.int .i64 a3_0, .int .i64 a3_1] 35 (0, 0)) BK134.out hg (Kd.R_away HO_9.out (fun _ hk => hk.1))); have n1_ := Aside0.mk (Kd.R_after (ok := (fun k_ => k_ ≠ gb134)) (by (with_reducible repeat (first | apply Kd.R_alloc | apply Kd.R_drewN | apply Kd.R_drew)); exact Kd.R_mono HO142.out (fun _ hk => ⟨hk.2, hk.1.2⟩)) hg hat); have n2_ := Aside0.mk (hb); have n3_ := Aside0.mk (ho); clear BK134; clear HO142; clear HB; clear HO_9; have BK134 := n0_; have HO142 := n1_; have HB := n2_; have HO145 := n3_; clear n0_ n1_ n2_ n3_; clear ho hb hg hat))
              go_roundg k2
              case measure => have := HJ6.out; have := HK2.out; omega
              case rel => exact ⟨(y143), (wrap64 (x10_2 + 1)), (by first | rfl | (simp; done) | (simp [*]; done)), H', ⟨by have := HJ6.out; have := HK2.out; omega⟩, ⟨by (with_reducible repeat (first | apply Kd.R_alloc | apply Kd.R_drewN | apply Kd.R_drew)); exact Kd.R_mono HO145.out (fun _ hk => hk.2)⟩, ⟨by (with_reducible repeat (first | refine blk_drewN ?_ _ | refine blk_drew ?_ | refine blk_alloc ?_ _)); exact BK134.out⟩, ⟨by repeat (first | (with_reducible first | exact HB.out | apply below_alloc | apply pw_below_drewN | apply below_drew1 | refine below_set ?_ GE134.out) | exact HB.out)⟩⟩
             ·rw [if_neg c27] at H
              exact absurd H (by simp)
            ·rw [if_neg c26] at H
             exact absurd H (by simp)
           ·rw [if_neg c25] at H
            exact absurd H (by simp)
         ·replace c22 := Bool.eq_false_iff.mpr c22
          subst c22
          have H1 : (some true) = some r := by rw [if_neg (show ¬ (false = true) by decide)] at H; exact H
          clear H
          have H := H1
          clear H1
          obtain rfl := Option.some.inj H
          have p137 : 0 ≤ (x10_2 : Int) := of_decide_eq_true (by first | (with_reducible assumption) | assumption)
          have q137 : x10_2 < (l1.length : Int) := of_decide_eq_true (by first | (with_reducible assumption) | assumption)
          obtain ⟨ad137, e137, hx137_0, hx137_1⟩ := at_T35 HR1.out x10_2 p137 q137
          cases e137
          replace hx137_0 := (HB.out.cell (World.block_lt_of_cell? w _ hx137_0)).trans hx137_0
          replace hx137_1 := (HB.out.cell (World.block_lt_of_cell? w _ hx137_1)).trans hx137_1
          replace p137 := eq_true p137
          replace q137 := eq_true q137
          go_wp2_with (first | ((with_reducible refine gate_callee (f := 20) rfl ?_); refine goesL_ (some 54) rfl rfl Try.func20 (by kernel_rfl) rfl #[.agg #[.int .i64 ((rd_T35 l1 x10_2).f0), .int .i64 ((rd_T35 l1 x10_2).f1)]] rfl (by (try simp only [List.map_toArray, List.map_cons, List.map_nil]); first | done | rfl | (simp only [List.length_drop, List.length_take]; rfl)) ?_; (with_reducible refine (win_Good.calls ((rd_T35 l1 x10_2).f0) ((rd_T35 l1 x10_2).f1) false _ A21.out).mono ?_); rintro e w33 ⟨rfl, hb⟩; refine ⟨_, rfl, ?_⟩; have n0_ := Aside0.mk (Kd.R_below HO_9.out hb); have n1_ := Aside0.mk (blk_below (g := gb134) (o := .cells #[.int .i64 a3_0, .int .i64 a3_1] 35 (0, 0)) BK134.out hb); have n2_ := Aside0.mk (below_step (by repeat (first | (with_reducible first | exact HB.out | apply below_alloc | apply pw_below_drewN | apply below_drew1 | refine below_set ?_ GE134.out) | exact HB.out)) hb); clear HO_9; clear BK134; clear HB; have HO_9 := n0_; have BK134 := n1_; have HB := n2_; clear n0_ n1_ n2_; (try clear hb); (try clear hb2); (try clear hk); (try clear hi)))
          go_ret
          exact ⟨by first | rfl | (simp [errW_none, errW_some] <;> rfl) | (simp [*, errW_none, errW_some] <;> rfl), by repeat (first | (with_reducible first | exact HB.out | apply below_alloc | apply pw_below_drewN | apply below_drew1 | refine below_set ?_ GE134.out) | exact HB.out)⟩
        ·rw [if_neg c20] at H
         exact absurd H (by simp)
       ·rw [if_neg c19] at H
        have c19b0 : decide (x10_2 < (l1.length : Int)) = false := decide_eq_false c19
        clear c19
        replace H := Option.bind_eq_some_iff.mp H
        obtain ⟨⟨t146, t147⟩, A340, H⟩ := H
        replace H : ((win_All.f k2 a0 x9_2).bind fun bt148 => ((some (([] : List (S35)) : List (S35))).bind fun y150 => (if y150.length + l1.length < 8796093022208 then ((some (y150 ++ l1 : List (S35))).bind fun y153 => ((some (([(⟨a3_0, a3_1⟩ : S35)] : List (S35)) : List (S35))).bind fun y156 => (if y153.length + y156.length < 8796093022208 then ((win_All.f k2 a0 (y153 ++ y156)).bind fun bt162 => (if t147 = 0 then (if bt148.2 = 0 then (if bt162.2 = 0 then (if (t146 == bt148.1) = true then (if bt162.1 = true then (some t146) else (some true)) else (some false)) else (some false)) else (some false)) else (some false))) else (none)))) else (none)))) = some r := H
        have A34 := Aside0.mk A340
        clear A340
        replace H := Option.bind_eq_some_iff.mp H
        obtain ⟨⟨t148, t149⟩, A350, H⟩ := H
        replace H : ((some (([] : List (S35)) : List (S35))).bind fun y150 => (if y150.length + l1.length < 8796093022208 then ((some (y150 ++ l1 : List (S35))).bind fun y153 => ((some (([(⟨a3_0, a3_1⟩ : S35)] : List (S35)) : List (S35))).bind fun y156 => (if y153.length + y156.length < 8796093022208 then ((win_All.f k2 a0 (y153 ++ y156)).bind fun bt162 => (if t147 = 0 then (if t149 = 0 then (if bt162.2 = 0 then (if (t146 == t148) = true then (if bt162.1 = true then (some t146) else (some true)) else (some false)) else (some false)) else (some false)) else (some false))) else (none)))) else (none))) = some r := H
        have A35 := Aside0.mk A350
        clear A350
        obtain ⟨y150, hy150⟩ : ∃ y_ : List (S35), y_ = (([] : List (S35))) := ⟨_, rfl⟩
        replace H : (if y150.length + l1.length < 8796093022208 then ((some (y150 ++ l1 : List (S35))).bind fun y153 => ((some (([(⟨a3_0, a3_1⟩ : S35)] : List (S35)) : List (S35))).bind fun y156 => (if y153.length + y156.length < 8796093022208 then ((win_All.f k2 a0 (y153 ++ y156)).bind fun bt162 => (if t147 = 0 then (if t149 = 0 then (if bt162.2 = 0 then (if (t146 == t148) = true then (if bt162.1 = true then (some t146) else (some true)) else (some false)) else (some false)) else (some false)) else (some false))) else (none)))) else (none)) = some r := by first | (rw [hy150]; with_reducible exact H) | (have H2_ := (Option.bind_some _ _).symm.trans H; rw [hy150]; with_reducible exact H2_) | (have H2_ := (Option.bind_some _ _).symm.trans H; with_reducible exact H2_) | with_reducible exact H | (rw [hy150]; exact H) | exact H
        have Ny150 := Aside0.mk hy150
        clear hy150
        by_cases c36 : y150.length + l1.length < 8796093022208
        ·rw [if_pos c36] at H
         have LMc36 := Aside0.mk c36
         clear c36
         obtain ⟨y153, hy153⟩ : ∃ y_ : List (S35), y_ = (y150 ++ l1) := ⟨_, rfl⟩
         replace H : ((some (([(⟨a3_0, a3_1⟩ : S35)] : List (S35)) : List (S35))).bind fun y156 => (if y153.length + y156.length < 8796093022208 then ((win_All.f k2 a0 (y153 ++ y156)).bind fun bt162 => (if t147 = 0 then (if t149 = 0 then (if bt162.2 = 0 then (if (t146 == t148) = true then (if bt162.1 = true then (some t146) else (some true)) else (some false)) else (some false)) else (some false)) else (some false))) else (none))) = some r := by first | (rw [hy153]; with_reducible exact H) | (have H2_ := (Option.bind_some _ _).symm.trans H; rw [hy153]; with_reducible exact H2_) | (have H2_ := (Option.bind_some _ _).symm.trans H; with_reducible exact H2_) | with_reducible exact H | (rw [hy153]; exact H) | exact H
         have Ny153 := Aside0.mk hy153
         clear hy153
         obtain ⟨y156, hy156⟩ : ∃ y_ : List (S35), y_ = (([(⟨a3_0, a3_1⟩ : S35)] : List (S35))) := ⟨_, rfl⟩
         replace H : (if y153.length + y156.length < 8796093022208 then ((win_All.f k2 a0 (y153 ++ y156)).bind fun bt162 => (if t147 = 0 then (if t149 = 0 then (if bt162.2 = 0 then (if (t146 == t148) = true then (if bt162.1 = true then (some t146) else (some true)) else (some false)) else (some false)) else (some false)) else (some false))) else (none)) = some r := by first | (rw [hy156]; with_reducible exact H) | (have H2_ := (Option.bind_some _ _).symm.trans H; rw [hy156]; with_reducible exact H2_) | (have H2_ := (Option.bind_some _ _).symm.trans H; with_reducible exact H2_) | with_reducible exact H | (rw [hy156]; exact H) | exact H
         have Ny156 := Aside0.mk hy156
         clear hy156
         by_cases c37 : y153.length + y156.length < 8796093022208
         ·rw [if_pos c37] at H
          have LMc37 := Aside0.mk c37
          clear c37
          obtain ⟨y159, hy159⟩ : ∃ y_ : List (S35), y_ = (y153 ++ y156) := ⟨_, rfl⟩
          replace H : ((win_All.f k2 a0 y159).bind fun bt162 => (if t147 = 0 then (if t149 = 0 then (if bt162.2 = 0 then (if (t146 == t148) = true then (if bt162.1 = true then (some t146) else (some true)) else (some false)) else (some false)) else (some false)) else (some false))) = some r := by first | (rw [hy159]; with_reducible exact H) | (have H2_ := (Option.bind_some _ _).symm.trans H; rw [hy159]; with_reducible exact H2_) | (have H2_ := (Option.bind_some _ _).symm.trans H; with_reducible exact H2_) | with_reducible exact H | (rw [hy159]; exact H) | exact H
          have Ny159 := Aside0.mk hy159
          clear hy159
          replace H := Option.bind_eq_some_iff.mp H
          obtain ⟨⟨t162, t163⟩, A380, H⟩ := H
          replace H : (if t147 = 0 then (if t149 = 0 then (if t163 = 0 then (if (t146 == t148) = true then (if t162 = true then (some t146) else (some true)) else (some false)) else (some false)) else (some false)) else (some false)) = some r := H
          have A38 := Aside0.mk A380
          clear A380
          by_cases c39 : t147 = 0
          ·rw [if_pos c39] at H
           have c39b0 : (t147 == 0) = true := beq_iff_eq.mpr c39
           have c39b1 : (t147 != 0) = false := bne_eq_false_iff_eq.mpr c39
           clear c39
           by_cases c40 : t149 = 0
           ·rw [if_pos c40] at H
            have c40b0 : (t149 == 0) = true := beq_iff_eq.mpr c40
            have c40b1 : (t149 != 0) = false := bne_eq_false_iff_eq.mpr c40
            clear c40
            by_cases c41 : t163 = 0
            ·rw [if_pos c41] at H
             have c41b0 : (t163 == 0) = true := beq_iff_eq.mpr c41
             have c41b1 : (t163 != 0) = false := bne_eq_false_iff_eq.mpr c41
             clear c41
             by_cases c42 : (t146 == t148) = true
             ·rw [if_pos c42] at H
              have c42b0 : (t146 == t148) = true := c42
              (try (have c42b1 : decide (t146 = t148) = true := by simpa using c42))
              (try (have c42b2 : (t146 == t148) = true := by simpa using c42))
              clear c42
              by_cases c43 : t162 = true
              ·subst c43
               have H1 : (some t146) = some r := by rw [if_pos rfl] at H; exact H
               clear H
               have H := H1
               clear H1
               obtain rfl := Option.some.inj H
               try go_wp2_with (first | ((with_reducible refine gate_callee (f := 14) rfl ?_); refine goesL_ (some 74) rfl rfl Try.func14 (by kernel_rfl) rfl #[.int .i64 a0, .slice A1 l1.length c1] rfl (by (try simp only [List.map_toArray, List.map_cons, List.map_nil]); first | done | rfl | (simp only [List.length_drop, List.length_take]; rfl)) ?_; (with_reducible refine (win_All.calls k2 a0 _ _ l1 t146 t147 _ ?side1 ?side2 A34.out).mono ?_); (case side1 => repeat (first | exact (Kd.C_below HR1.out HB.out) | (with_reducible refine Kd.C_alloc ?_ _) | (with_reducible refine Kd.C_drewN ?_ _) | (with_reducible refine Kd.C_drew ?_))); (case side2 => exact HC1.out); rintro e w44 ⟨rfl, hb⟩; refine ⟨_, rfl, ?_⟩; have n0_ := Aside0.mk (Kd.R_below HO_9.out hb); have n1_ := Aside0.mk (blk_below (g := gb134) (o := .cells #[.int .i64 a3_0, .int .i64 a3_1] 35 (0, 0)) BK134.out hb); have n2_ := Aside0.mk (below_step (by repeat (first | (with_reducible first | exact HB.out | apply below_alloc | apply pw_below_drewN | apply below_drew1 | refine below_set ?_ GE134.out) | exact HB.out)) hb); clear HO_9; clear BK134; clear HB; have HO_9 := n0_; have BK134 := n1_; have HB := n2_; clear n0_ n1_ n2_; (try clear hb); (try clear hb2); (try clear hk); (try clear hi); obtain ⟨Ao45, co45, eo45⟩ := Kd.R_slice HO_9.out; subst eo45) | ((with_reducible refine gate_callee (f := 14) rfl ?_); refine goesL_ (some 80) rfl rfl Try.func14 (by kernel_rfl) rfl #[.int .i64 a0, .slice Ao45 x9_2.length co45] rfl (by (try simp only [List.map_toArray, List.map_cons, List.map_nil]); first | done | rfl | (simp only [List.length_drop, List.length_take]; rfl)) ?_; (with_reducible refine (win_All.calls k2 a0 _ _ x9_2 t148 t149 _ ?side1 ?side2 A35.out).mono ?_); (case side1 => repeat (first | exact (Kd.R_reads' HO_9.out).2.2 | (with_reducible refine Kd.C_alloc ?_ _) | (with_reducible refine Kd.C_drewN ?_ _) | (with_reducible refine Kd.C_drew ?_))); (case side2 => exact (Kd.R_reads' HO_9.out).2.1); rintro e w46 ⟨rfl, hb⟩; refine ⟨_, rfl, ?_⟩; have n0_ := Aside0.mk (Kd.R_below HO_9.out hb); have n1_ := Aside0.mk (blk_below (g := gb134) (o := .cells #[.int .i64 a3_0, .int .i64 a3_1] 35 (0, 0)) BK134.out hb); have n2_ := Aside0.mk (below_step (by repeat (first | (with_reducible first | exact HB.out | apply below_alloc | apply pw_below_drewN | apply below_drew1 | refine below_set ?_ GE134.out) | exact HB.out)) hb); clear HO_9; clear BK134; clear HB; have HO_9 := n0_; have BK134 := n1_; have HB := n2_; clear n0_ n1_ n2_; (try clear hb); (try clear hb2); (try clear hk); (try clear hi)))
               have n0_ := Aside0.mk (Kd.R_drew HO_9.out)
               have n1_ := Aside0.mk (blk_drew BK134.out)
               have n2_ := Aside0.mk (below_drew1 HB.out)
               clear HO_9
               clear BK134
               clear HB
               have HO_9 := n0_
               have BK134 := n1_
               have HB := n2_
               clear n0_ n1_ n2_
               refine start_ (n := 13) (S := fun w' => w'.cell? ⟨gb134, 0, none⟩ = some (.int .i64 a3_0) ∧ w'.cell? ⟨gb134, 1, none⟩ = some (.int .i64 a3_1)) (ds := []) #[false, false, false, false, false, false, false, false, false, false, false, false, false] (by kernel_rfl) rfl rfl ⟨(blk_cell BK134.out 0).trans rfl, (blk_cell BK134.out 1).trans rfl⟩ (fun hHeld => ?_); refine with_tabW beadlelaw13_WinOrder.tab14 beadlelaw13_WinOrder.bits14 (fun HT_ HW_ => ?_)
               generalize w46.drew = w47 at HO_9 BK134 HB hHeld ⊢
               refine pure_ (i := 0) (N := some 84) (v := ?_) (a' := ?_) #[true, false, false, false, false, false, false, false, false, false, false, false, false] rfl rfl (any_of HT_.out (by kernel_rfl)) (fun _ _ _ h => h) (Or.inl ⟨by rfl, ?_⟩) ?_ ?_
               rotate_left
               ·intro w'
                go_simp
                with_reducible rfl
               rotate_left
               ·simp only [Act.put, List.setIfInBounds_toArray, List.set_cons_zero, List.set_cons_succ, i64_w, i32_w]
                rfl
               refine pure_ (i := 2) (N := some 86) (v := ?_) (a' := ?_) #[true, false, true, false, false, false, false, false, false, false, false, false, false] rfl rfl (any_of HT_.out (by kernel_rfl)) (fun _ _ _ h => h) (Or.inl ⟨by rfl, ?_⟩) ?_ ?_
               rotate_left
               ·intro w'
                go_simp
                with_reducible rfl
               rotate_left
               ·simp only [Act.put, List.setIfInBounds_toArray, List.set_cons_zero, List.set_cons_succ, i64_w, i32_w]
                rfl
               refine take_ (i := 4) (N := some 88) (v := ?_) (a' := ?_) #[true, false, true, false, true, false, false, false, false, false, false, false, false] rfl rfl (take_ofW HT_.out HW_.out (by kernel_rfl)) (fun _ _ _ h => h) (Or.inl ⟨by rfl, ?_⟩) hHeld ?_ ?_
               rotate_left
               ·rintro w' ⟨s0, s1⟩
                go_simp
                with_reducible rfl
               rotate_left
               ·simp only [Act.put, List.setIfInBounds_toArray, List.set_cons_zero, List.set_cons_succ, i64_w, i32_w]
                rfl
               refine join_ (σ := Value × Value × Value) 7 #[true, true, true, true, true, true, false, false, false, false, false, false, false] (fun s_ => [(85, s_.1), (87, s_.2.1), (89, s_.2.2)]) (fun s_ w' => (w'.cell? ⟨gb134, 0, none⟩ = some (.int .i64 a3_0) ∧ w'.cell? ⟨gb134, 1, none⟩ = some (.int .i64 a3_1)) ∧ (Kd.R k35 35 w' w.heap.size (fun k_ => some k_ ≠ (s_.2.2 : Value).ownBlock ∧ some k_ ≠ (.slice Ao45 x9_2.length co45 : Value).ownBlock ∧ k_ ≠ gb134) s_.2.1 y153) ∧ (Kd.R k35 35 w' w.heap.size (fun k_ => some k_ ≠ (s_.2.1 : Value).ownBlock ∧ some k_ ≠ (.slice Ao45 x9_2.length co45 : Value).ownBlock ∧ k_ ≠ gb134) s_.2.2 y156) ∧ (Kd.R k35 35 w' w.heap.size (fun k_ => some k_ ≠ (s_.2.1 : Value).ownBlock ∧ some k_ ≠ (s_.2.2 : Value).ownBlock ∧ k_ ≠ gb134) (.slice Ao45 x9_2.length co45) x9_2) ∧ (w'.heap[gb134]? = some (.cells #[.int .i64 a3_0, .int .i64 a3_1] 35 (0, 0))) ∧ (Below w.heap.size w w')) ?_ ?_
               rotate_left
               ·intro hCont
                refine two_ (i := 1) (j := 5) (Ni := some 85) (Nj := some 89) #[true, true, true, false, true, false, false, false, false, false, false, false, false] #[true, false, true, false, true, true, false, false, false, false, false, false, false] rfl rfl rfl rfl (two_of HT_.out (by kernel_rfl)) (by decide) (by decide) (fun K hK => ?_) (fun K hK => ?_)
                ·skip
                 refine Kd.R_lit_step k35 _ 35 ?hg (N := 85) ?hd (xs := ([] : List (S35))) (inner := []) (ok := fun _ => True) (okp := fun _ => True) ?hr ?hp (fun _ hk => hk) trivial (Below.refl _ _) (Nat.le_refl _) (by simp) ?_; (case hd => rfl); (case hg => rfl); (case hr => first | (go_simp; done) | (go_simp; rfl)); (case hp => exact (Reps.none _ _))
                 intro v151 w48 ho49 hb hg_ hnew_
                 clear hg_ hnew_
                 (first | rw [← Ny150.out] at ho49 | (simp only [Int.reduceToNat] at ho49; rw [← Ny150.out] at ho49))
                 have n0_ := Aside0.mk (Kd.R_elder' HO_9.out (Kd.R_base ho49) hb)
                 have n1_ := Aside0.mk (Kd.R_lower (Kd.R_newB (Kd.R_new' ho49 (Kd.R_lt HO_9.out)) (g := gb134) (o := .cells #[.int .i64 a3_0, .int .i64 a3_1] 35 (0, 0)) BK134.out) (below_size (by repeat (first | (with_reducible first | exact HB.out | apply below_alloc | apply pw_below_drewN | apply below_drew1 | refine below_set ?_ GE134.out) | exact HB.out))))
                 have n2_ := Aside0.mk (blk_below (g := gb134) (o := .cells #[.int .i64 a3_0, .int .i64 a3_1] 35 (0, 0)) BK134.out hb)
                 have n3_ := Aside0.mk (below_step (by repeat (first | (with_reducible first | exact HB.out | apply below_alloc | apply pw_below_drewN | apply below_drew1 | refine below_set ?_ GE134.out) | exact HB.out)) hb)
                 clear HO_9
                 clear BK134
                 clear HB
                 have HO_9 := n0_
                 have HO152 := n1_
                 have BK134 := n2_
                 have HB := n3_
                 clear n0_ n1_ n2_ n3_
                 clear hb ho49
                 refine hK.out _ _ ⟨(blk_cell BK134.out 0).trans rfl, (blk_cell BK134.out 1).trans rfl⟩ (fun hHeld => ?_)
                 clear hK K
                 refine norm_ (a' := ?_) ?_ ?_
                 rotate_left
                 ·show Act.put _ (some 85) _ = _
                  simp only [Act.put, List.setIfInBounds_toArray, List.set_cons_zero, List.set_cons_succ, i64_w, i32_w]
                  rfl
                 refine two_ (i := 3) (j := 5) (Ni := some 87) (Nj := some 89) #[true, true, true, true, true, false, false, false, false, false, false, false, false] #[true, true, true, false, true, true, false, false, false, false, false, false, false] rfl rfl rfl rfl (two_of HT_.out (by kernel_rfl)) (by decide) (by decide) (fun K hK => ?_) (fun K hK => ?_)
                 ·skip
                  refine Kd.R_append_rows_step k35 (w0 := w) w.heap.size (by rfl) (.tmp 85) (.tmp 86) 22 35 (.agg #[(.int .i64 0), (.int .i64 0)]) 16 rfl Try.underlying22 info35 rfl (by decide) (by omega) v151 y150 l1 _ _ _ (fun k_ => some k_ ≠ (.slice Ao45 x9_2.length co45 : Value).ownBlock ∧ k_ ≠ gb134) (fun _ => False) rfl rfl ?aO ?aR (fun _ _ h => h) (fun _ h => h.elim) ?aF ?aB ?aS ?aL ?_
                  (case aR => repeat (first | exact (Kd.C_below HR1.out HB.out) | (with_reducible refine Kd.C_alloc ?_ _) | (with_reducible refine Kd.C_drewN ?_ _) | (with_reducible refine Kd.C_drew ?_)))
                  (case aB => exact (by repeat (first | (with_reducible first | exact HB.out | apply below_alloc | apply pw_below_drewN | apply below_drew1 | refine below_set ?_ GE134.out) | exact HB.out)))
                  (case aF => exact (fun k_ hk => ⟨Kd.fresh' (Kd.R_lt HO_9.out) k_ hk, Kd.freshB (g := gb134) (o := .cells #[.int .i64 a3_0, .int .i64 a3_1] 35 (0, 0)) BK134.out k_ hk⟩))
                  (case aO => exact (by (with_reducible repeat (first | apply Kd.R_alloc | apply Kd.R_drewN | apply Kd.R_drew)); exact Kd.R_mono HO152.out (fun _ hk => ⟨hk.1.2, hk.2⟩)))
                  (case aS => exact (below_size (by repeat (first | (with_reducible first | exact HB.out | apply below_alloc | apply pw_below_drewN | apply below_drew1 | refine below_set ?_ GE134.out) | exact HB.out))))
                  (case aL => have := LMc36.out; omega)
                  intro v154 w50 ho hb hg hat
                  rw [← Ny153.out] at ho
                  have n0_ := Aside0.mk (Kd.R_after (ok := (fun k_ => k_ ≠ gb134)) HO_9.out hg hat)
                  have n1_ := Aside0.mk (blk_grown (g := gb134) (o := .cells #[.int .i64 a3_0, .int .i64 a3_1] 35 (0, 0)) BK134.out hg (Kd.R_away HO152.out (fun _ hk => hk.2)))
                  have n2_ := Aside0.mk (hb)
                  have n3_ := Aside0.mk (ho)
                  clear HO_9
                  clear BK134
                  clear HB
                  clear HO152
                  have HO_9 := n0_
                  have BK134 := n1_
                  have HB := n2_
                  have HO155 := n3_
                  clear n0_ n1_ n2_ n3_
                  clear ho hb hg hat
                  refine hK.out _ _ ⟨(blk_cell BK134.out 0).trans rfl, (blk_cell BK134.out 1).trans rfl⟩ (fun hHeld => ?_)
                  clear hK K
                  refine norm_ (a' := ?_) ?_ ?_
                  rotate_left
                  ·show Act.put _ (some 87) _ = _
                   simp only [Act.put, List.setIfInBounds_toArray, List.set_cons_zero, List.set_cons_succ, i64_w, i32_w]
                   rfl
                  refine one_ (i := 5) (N := some 89) #[true, true, true, true, true, true, false, false, false, false, false, false, false] rfl rfl (one_of HT_.out (by kernel_rfl)) (by decide) (fun K hK => ?_)
                  refine Kd.R_lit_step k35 _ 35 ?hg (N := 89) ?hd (xs := ([(⟨a3_0, a3_1⟩ : S35)] : List (S35))) (inner := [.int .i64 a3_0, .int .i64 a3_1]) (ok := fun _ => True) (okp := fun _ => True) ?hr ?hp (fun _ hk => hk) trivial (Below.refl _ _) (Nat.le_refl _) (by simp) ?_; (case hd => rfl); (case hg => rfl); (case hr => first | (go_simp; done) | (go_simp; rfl)); (case hp => exact (Reps.c2 (show Kd.M k35 _ _ _ (⟨a3_0, a3_1⟩ : S35) [.int .i64 a3_0, .int .i64 a3_1] from (k35_mkM _ _ _ (⟨a3_0, a3_1⟩ : S35) )) (Reps.none _ _)))
                  intro v157 w51 ho52 hb hg_ hnew_
                  clear hg_ hnew_
                  (first | rw [← Ny156.out] at ho52 | (simp only [Int.reduceToNat] at ho52; rw [← Ny156.out] at ho52))
                  have n0_ := Aside0.mk (Kd.R_elder' HO_9.out (Kd.R_base ho52) hb)
                  have n1_ := Aside0.mk (Kd.R_elder' HO155.out (Kd.R_base ho52) hb)
                  have n2_ := Aside0.mk (Kd.R_lower (Kd.R_newB (Kd.R_new' (Kd.R_new' ho52 (Kd.R_lt HO_9.out)) (Kd.R_lt HO155.out)) (g := gb134) (o := .cells #[.int .i64 a3_0, .int .i64 a3_1] 35 (0, 0)) BK134.out) (below_size (by repeat (first | (with_reducible first | exact HB.out | apply below_alloc | apply pw_below_drewN | apply below_drew1 | refine below_set ?_ GE134.out) | exact HB.out))))
                  have n3_ := Aside0.mk (blk_below (g := gb134) (o := .cells #[.int .i64 a3_0, .int .i64 a3_1] 35 (0, 0)) BK134.out hb)
                  have n4_ := Aside0.mk (below_step (by repeat (first | (with_reducible first | exact HB.out | apply below_alloc | apply pw_below_drewN | apply below_drew1 | refine below_set ?_ GE134.out) | exact HB.out)) hb)
                  clear HO_9
                  clear HO155
                  clear BK134
                  clear HB
                  have HO_9 := n0_
                  have HO155 := n1_
                  have HO158 := n2_
                  have BK134 := n3_
                  have HB := n4_
                  clear n0_ n1_ n2_ n3_ n4_
                  clear hb ho52
                  refine hK.out _ _ ⟨(blk_cell BK134.out 0).trans rfl, (blk_cell BK134.out 1).trans rfl⟩ (fun hHeld => ?_)
                  clear hK K
                  refine norm_ (a' := ?_) ?_ ?_
                  rotate_left
                  ·show Act.put _ (some 89) _ = _
                   simp only [Act.put, List.setIfInBounds_toArray, List.set_cons_zero, List.set_cons_succ, i64_w, i32_w]
                   rfl
                  exact norm_ (by simp only [putAll, Act.put, List.setIfInBounds_toArray, List.set_cons_zero, List.set_cons_succ]) (hCont (v151, v154, v157) _ ⟨hHeld, (by (with_reducible repeat (first | apply Kd.R_alloc | apply Kd.R_drewN | apply Kd.R_drew)); exact Kd.R_mono HO155.out (fun _ hk => ⟨hk.2, ⟨hk.1.1, hk.1.2⟩⟩)), (by (with_reducible repeat (first | apply Kd.R_alloc | apply Kd.R_drewN | apply Kd.R_drew)); exact Kd.R_mono HO158.out (fun _ hk => ⟨hk.1.2, ⟨hk.1.1.2, hk.2⟩⟩)), (by (with_reducible repeat (first | apply Kd.R_alloc | apply Kd.R_drewN | apply Kd.R_drew)); exact Kd.R_mono HO_9.out (fun _ hk => ⟨hk.1.2, ⟨hk.2, hk.1.1⟩⟩)), BK134.out, (by repeat (first | (with_reducible first | exact HB.out | apply below_alloc | apply pw_below_drewN | apply below_drew1 | refine below_set ?_ GE134.out) | exact HB.out))⟩)
                 ·skip
                  refine Kd.R_lit_step k35 _ 35 ?hg (N := 89) ?hd (xs := ([(⟨a3_0, a3_1⟩ : S35)] : List (S35))) (inner := [.int .i64 a3_0, .int .i64 a3_1]) (ok := fun _ => True) (okp := fun _ => True) ?hr ?hp (fun _ hk => hk) trivial (Below.refl _ _) (Nat.le_refl _) (by simp) ?_; (case hd => rfl); (case hg => rfl); (case hr => first | (go_simp; done) | (go_simp; rfl)); (case hp => exact (Reps.c2 (show Kd.M k35 _ _ _ (⟨a3_0, a3_1⟩ : S35) [.int .i64 a3_0, .int .i64 a3_1] from (k35_mkM _ _ _ (⟨a3_0, a3_1⟩ : S35) )) (Reps.none _ _)))
                  intro v157 w50 ho51 hb hg_ hnew_
                  clear hg_ hnew_
                  (first | rw [← Ny156.out] at ho51 | (simp only [Int.reduceToNat] at ho51; rw [← Ny156.out] at ho51))
                  have n0_ := Aside0.mk (Kd.R_elder' HO_9.out (Kd.R_base ho51) hb)
                  have n1_ := Aside0.mk (Kd.R_elder' HO152.out (Kd.R_base ho51) hb)
                  have n2_ := Aside0.mk (Kd.R_lower (Kd.R_newB (Kd.R_new' (Kd.R_new' ho51 (Kd.R_lt HO_9.out)) (Kd.R_lt HO152.out)) (g := gb134) (o := .cells #[.int .i64 a3_0, .int .i64 a3_1] 35 (0, 0)) BK134.out) (below_size (by repeat (first | (with_reducible first | exact HB.out | apply below_alloc | apply pw_below_drewN | apply below_drew1 | refine below_set ?_ GE134.out) | exact HB.out))))
                  have n3_ := Aside0.mk (blk_below (g := gb134) (o := .cells #[.int .i64 a3_0, .int .i64 a3_1] 35 (0, 0)) BK134.out hb)
                  have n4_ := Aside0.mk (below_step (by repeat (first | (with_reducible first | exact HB.out | apply below_alloc | apply pw_below_drewN | apply below_drew1 | refine below_set ?_ GE134.out) | exact HB.out)) hb)
                  clear HO_9
                  clear HO152
                  clear BK134
                  clear HB
                  have HO_9 := n0_
                  have HO152 := n1_
                  have HO158 := n2_
                  have BK134 := n3_
                  have HB := n4_
                  clear n0_ n1_ n2_ n3_ n4_
                  clear hb ho51
                  refine hK.out _ _ ⟨(blk_cell BK134.out 0).trans rfl, (blk_cell BK134.out 1).trans rfl⟩ (fun hHeld => ?_)
                  clear hK K
                  refine norm_ (a' := ?_) ?_ ?_
                  rotate_left
                  ·show Act.put _ (some 89) _ = _
                   simp only [Act.put, List.setIfInBounds_toArray, List.set_cons_zero, List.set_cons_succ, i64_w, i32_w]
                   rfl
                  refine one_ (i := 3) (N := some 87) #[true, true, true, true, true, true, false, false, false, false, false, false, false] rfl rfl (one_of HT_.out (by kernel_rfl)) (by decide) (fun K hK => ?_)
                  refine Kd.R_append_rows_step k35 (w0 := w) w.heap.size (by rfl) (.tmp 85) (.tmp 86) 22 35 (.agg #[(.int .i64 0), (.int .i64 0)]) 16 rfl Try.underlying22 info35 rfl (by decide) (by omega) v151 y150 l1 _ _ _ (fun k_ => some k_ ≠ (.slice Ao45 x9_2.length co45 : Value).ownBlock ∧ some k_ ≠ (v157 : Value).ownBlock ∧ k_ ≠ gb134) (fun _ => False) rfl rfl ?aO ?aR (fun _ _ h => h) (fun _ h => h.elim) ?aF ?aB ?aS ?aL ?_
                  (case aR => repeat (first | exact (Kd.C_below HR1.out HB.out) | (with_reducible refine Kd.C_alloc ?_ _) | (with_reducible refine Kd.C_drewN ?_ _) | (with_reducible refine Kd.C_drew ?_)))
                  (case aB => exact (by repeat (first | (with_reducible first | exact HB.out | apply below_alloc | apply pw_below_drewN | apply below_drew1 | refine below_set ?_ GE134.out) | exact HB.out)))
                  (case aF => exact (fun k_ hk => ⟨Kd.fresh' (Kd.R_lt HO_9.out) k_ hk, Kd.fresh' (Kd.R_lt HO158.out) k_ hk, Kd.freshB (g := gb134) (o := .cells #[.int .i64 a3_0, .int .i64 a3_1] 35 (0, 0)) BK134.out k_ hk⟩))
                  (case aO => exact (by (with_reducible repeat (first | apply Kd.R_alloc | apply Kd.R_drewN | apply Kd.R_drew)); exact Kd.R_mono HO152.out (fun _ hk => ⟨hk.1.1.2, ⟨hk.2, hk.1.2⟩⟩)))
                  (case aS => exact (below_size (by repeat (first | (with_reducible first | exact HB.out | apply below_alloc | apply pw_below_drewN | apply below_drew1 | refine below_set ?_ GE134.out) | exact HB.out))))
                  (case aL => have := LMc36.out; omega)
                  intro v154 w52 ho hb hg hat
                  rw [← Ny153.out] at ho
                  have n0_ := Aside0.mk (Kd.R_after (ok := (fun k_ => some k_ ≠ (v157 : Value).ownBlock ∧ k_ ≠ gb134)) (by (with_reducible repeat (first | apply Kd.R_alloc | apply Kd.R_drewN | apply Kd.R_drew)); exact Kd.R_mono HO_9.out (fun _ hk => ⟨⟨hk.2, hk.1.1⟩, hk.1.2⟩)) hg hat)
                  have n1_ := Aside0.mk (blk_grown (g := gb134) (o := .cells #[.int .i64 a3_0, .int .i64 a3_1] 35 (0, 0)) BK134.out hg (Kd.R_away HO152.out (fun _ hk => hk.1.2)))
                  have n2_ := Aside0.mk (Kd.R_after (ok := (fun k_ => some k_ ≠ (.slice Ao45 x9_2.length co45 : Value).ownBlock ∧ k_ ≠ gb134)) (by (with_reducible repeat (first | apply Kd.R_alloc | apply Kd.R_drewN | apply Kd.R_drew)); exact Kd.R_mono HO158.out (fun _ hk => ⟨⟨hk.1.1.2, hk.2⟩, hk.1.2⟩)) hg hat)
                  have n3_ := Aside0.mk (hb)
                  have n4_ := Aside0.mk (ho)
                  clear HO_9
                  clear BK134
                  clear HO158
                  clear HB
                  clear HO152
                  have HO_9 := n0_
                  have BK134 := n1_
                  have HO158 := n2_
                  have HB := n3_
                  have HO155 := n4_
                  clear n0_ n1_ n2_ n3_ n4_
                  clear ho hb hg hat
                  refine hK.out _ _ ⟨(blk_cell BK134.out 0).trans rfl, (blk_cell BK134.out 1).trans rfl⟩ (fun hHeld => ?_)
                  clear hK K
                  refine norm_ (a' := ?_) ?_ ?_
                  rotate_left
                  ·show Act.put _ (some 87) _ = _
                   simp only [Act.put, List.setIfInBounds_toArray, List.set_cons_zero, List.set_cons_succ, i64_w, i32_w]
                   rfl
                  exact norm_ (by simp only [putAll, Act.put, List.setIfInBounds_toArray, List.set_cons_zero, List.set_cons_succ]) (hCont (v151, v154, v157) _ ⟨hHeld, (by (with_reducible repeat (first | apply Kd.R_alloc | apply Kd.R_drewN | apply Kd.R_drew)); exact Kd.R_mono HO155.out (fun _ hk => ⟨hk.2.1, ⟨hk.1, hk.2.2⟩⟩)), (by (with_reducible repeat (first | apply Kd.R_alloc | apply Kd.R_drewN | apply Kd.R_drew)); exact Kd.R_mono HO158.out (fun _ hk => ⟨hk.2, ⟨hk.1.1, hk.1.2⟩⟩)), (by (with_reducible repeat (first | apply Kd.R_alloc | apply Kd.R_drewN | apply Kd.R_drew)); exact Kd.R_mono HO_9.out (fun _ hk => ⟨hk.2, ⟨hk.1.1, hk.1.2⟩⟩)), BK134.out, (by repeat (first | (with_reducible first | exact HB.out | apply below_alloc | apply pw_below_drewN | apply below_drew1 | refine below_set ?_ GE134.out) | exact HB.out))⟩)
                ·skip
                 refine Kd.R_lit_step k35 _ 35 ?hg (N := 89) ?hd (xs := ([(⟨a3_0, a3_1⟩ : S35)] : List (S35))) (inner := [.int .i64 a3_0, .int .i64 a3_1]) (ok := fun _ => True) (okp := fun _ => True) ?hr ?hp (fun _ hk => hk) trivial (Below.refl _ _) (Nat.le_refl _) (by simp) ?_; (case hd => rfl); (case hg => rfl); (case hr => first | (go_simp; done) | (go_simp; rfl)); (case hp => exact (Reps.c2 (show Kd.M k35 _ _ _ (⟨a3_0, a3_1⟩ : S35) [.int .i64 a3_0, .int .i64 a3_1] from (k35_mkM _ _ _ (⟨a3_0, a3_1⟩ : S35) )) (Reps.none _ _)))
                 intro v157 w48 ho49 hb hg_ hnew_
                 clear hg_ hnew_
                 (first | rw [← Ny156.out] at ho49 | (simp only [Int.reduceToNat] at ho49; rw [← Ny156.out] at ho49))
                 have n0_ := Aside0.mk (Kd.R_elder' HO_9.out (Kd.R_base ho49) hb)
                 have n1_ := Aside0.mk (Kd.R_lower (Kd.R_newB (Kd.R_new' ho49 (Kd.R_lt HO_9.out)) (g := gb134) (o := .cells #[.int .i64 a3_0, .int .i64 a3_1] 35 (0, 0)) BK134.out) (below_size (by repeat (first | (with_reducible first | exact HB.out | apply below_alloc | apply pw_below_drewN | apply below_drew1 | refine below_set ?_ GE134.out) | exact HB.out))))
                 have n2_ := Aside0.mk (blk_below (g := gb134) (o := .cells #[.int .i64 a3_0, .int .i64 a3_1] 35 (0, 0)) BK134.out hb)
                 have n3_ := Aside0.mk (below_step (by repeat (first | (with_reducible first | exact HB.out | apply below_alloc | apply pw_below_drewN | apply below_drew1 | refine below_set ?_ GE134.out) | exact HB.out)) hb)
                 clear HO_9
                 clear BK134
                 clear HB
                 have HO_9 := n0_
                 have HO158 := n1_
                 have BK134 := n2_
                 have HB := n3_
                 clear n0_ n1_ n2_ n3_
                 clear hb ho49
                 refine hK.out _ _ ⟨(blk_cell BK134.out 0).trans rfl, (blk_cell BK134.out 1).trans rfl⟩ (fun hHeld => ?_)
                 clear hK K
                 refine norm_ (a' := ?_) ?_ ?_
                 rotate_left
                 ·show Act.put _ (some 89) _ = _
                  simp only [Act.put, List.setIfInBounds_toArray, List.set_cons_zero, List.set_cons_succ, i64_w, i32_w]
                  rfl
                 refine one_ (i := 1) (N := some 85) #[true, true, true, false, true, true, false, false, false, false, false, false, false] rfl rfl (one_of HT_.out (by kernel_rfl)) (by decide) (fun K hK => ?_)
                 refine Kd.R_lit_step k35 _ 35 ?hg (N := 85) ?hd (xs := ([] : List (S35))) (inner := []) (ok := fun _ => True) (okp := fun _ => True) ?hr ?hp (fun _ hk => hk) trivial (Below.refl _ _) (Nat.le_refl _) (by simp) ?_; (case hd => rfl); (case hg => rfl); (case hr => first | (go_simp; done) | (go_simp; rfl)); (case hp => exact (Reps.none _ _))
                 intro v151 w50 ho51 hb hg_ hnew_
                 clear hg_ hnew_
                 (first | rw [← Ny150.out] at ho51 | (simp only [Int.reduceToNat] at ho51; rw [← Ny150.out] at ho51))
                 have n0_ := Aside0.mk (Kd.R_elder' HO_9.out (Kd.R_base ho51) hb)
                 have n1_ := Aside0.mk (Kd.R_elder' HO158.out (Kd.R_base ho51) hb)
                 have n2_ := Aside0.mk (Kd.R_lower (Kd.R_newB (Kd.R_new' (Kd.R_new' ho51 (Kd.R_lt HO_9.out)) (Kd.R_lt HO158.out)) (g := gb134) (o := .cells #[.int .i64 a3_0, .int .i64 a3_1] 35 (0, 0)) BK134.out) (below_size (by repeat (first | (with_reducible first | exact HB.out | apply below_alloc | apply pw_below_drewN | apply below_drew1 | refine below_set ?_ GE134.out) | exact HB.out))))
                 have n3_ := Aside0.mk (blk_below (g := gb134) (o := .cells #[.int .i64 a3_0, .int .i64 a3_1] 35 (0, 0)) BK134.out hb)
                 have n4_ := Aside0.mk (below_step (by repeat (first | (with_reducible first | exact HB.out | apply below_alloc | apply pw_below_drewN | apply below_drew1 | refine below_set ?_ GE134.out) | exact HB.out)) hb)
                 clear HO_9
                 clear HO158
                 clear BK134
                 clear HB
                 have HO_9 := n0_
                 have HO158 := n1_
                 have HO152 := n2_
                 have BK134 := n3_
                 have HB := n4_
                 clear n0_ n1_ n2_ n3_ n4_
                 clear hb ho51
                 refine hK.out _ _ ⟨(blk_cell BK134.out 0).trans rfl, (blk_cell BK134.out 1).trans rfl⟩ (fun hHeld => ?_)
                 clear hK K
                 refine norm_ (a' := ?_) ?_ ?_
                 rotate_left
                 ·show Act.put _ (some 85) _ = _
                  simp only [Act.put, List.setIfInBounds_toArray, List.set_cons_zero, List.set_cons_succ, i64_w, i32_w]
                  rfl
                 refine one_ (i := 3) (N := some 87) #[true, true, true, true, true, true, false, false, false, false, false, false, false] rfl rfl (one_of HT_.out (by kernel_rfl)) (by decide) (fun K hK => ?_)
                 refine Kd.R_append_rows_step k35 (w0 := w) w.heap.size (by rfl) (.tmp 85) (.tmp 86) 22 35 (.agg #[(.int .i64 0), (.int .i64 0)]) 16 rfl Try.underlying22 info35 rfl (by decide) (by omega) v151 y150 l1 _ _ _ (fun k_ => some k_ ≠ (.slice Ao45 x9_2.length co45 : Value).ownBlock ∧ some k_ ≠ (v157 : Value).ownBlock ∧ k_ ≠ gb134) (fun _ => False) rfl rfl ?aO ?aR (fun _ _ h => h) (fun _ h => h.elim) ?aF ?aB ?aS ?aL ?_
                 (case aR => repeat (first | exact (Kd.C_below HR1.out HB.out) | (with_reducible refine Kd.C_alloc ?_ _) | (with_reducible refine Kd.C_drewN ?_ _) | (with_reducible refine Kd.C_drew ?_)))
                 (case aB => exact (by repeat (first | (with_reducible first | exact HB.out | apply below_alloc | apply pw_below_drewN | apply below_drew1 | refine below_set ?_ GE134.out) | exact HB.out)))
                 (case aF => exact (fun k_ hk => ⟨Kd.fresh' (Kd.R_lt HO_9.out) k_ hk, Kd.fresh' (Kd.R_lt HO158.out) k_ hk, Kd.freshB (g := gb134) (o := .cells #[.int .i64 a3_0, .int .i64 a3_1] 35 (0, 0)) BK134.out k_ hk⟩))
                 (case aO => exact (by (with_reducible repeat (first | apply Kd.R_alloc | apply Kd.R_drewN | apply Kd.R_drew)); exact Kd.R_mono HO152.out (fun _ hk => ⟨hk.1.1.2, ⟨hk.1.2, hk.2⟩⟩)))
                 (case aS => exact (below_size (by repeat (first | (with_reducible first | exact HB.out | apply below_alloc | apply pw_below_drewN | apply below_drew1 | refine below_set ?_ GE134.out) | exact HB.out))))
                 (case aL => have := LMc36.out; omega)
                 intro v154 w52 ho hb hg hat
                 rw [← Ny153.out] at ho
                 have n0_ := Aside0.mk (Kd.R_after (ok := (fun k_ => some k_ ≠ (v157 : Value).ownBlock ∧ k_ ≠ gb134)) (by (with_reducible repeat (first | apply Kd.R_alloc | apply Kd.R_drewN | apply Kd.R_drew)); exact Kd.R_mono HO_9.out (fun _ hk => ⟨⟨hk.1.2, hk.1.1⟩, hk.2⟩)) hg hat)
                 have n1_ := Aside0.mk (blk_grown (g := gb134) (o := .cells #[.int .i64 a3_0, .int .i64 a3_1] 35 (0, 0)) BK134.out hg (Kd.R_away HO152.out (fun _ hk => hk.2)))
                 have n2_ := Aside0.mk (Kd.R_after (ok := (fun k_ => some k_ ≠ (.slice Ao45 x9_2.length co45 : Value).ownBlock ∧ k_ ≠ gb134)) (by (with_reducible repeat (first | apply Kd.R_alloc | apply Kd.R_drewN | apply Kd.R_drew)); exact Kd.R_mono HO158.out (fun _ hk => ⟨⟨hk.1.1.2, hk.1.2⟩, hk.2⟩)) hg hat)
                 have n3_ := Aside0.mk (hb)
                 have n4_ := Aside0.mk (ho)
                 clear HO_9
                 clear BK134
                 clear HO158
                 clear HB
                 clear HO152
                 have HO_9 := n0_
                 have BK134 := n1_
                 have HO158 := n2_
                 have HB := n3_
                 have HO155 := n4_
                 clear n0_ n1_ n2_ n3_ n4_
                 clear ho hb hg hat
                 refine hK.out _ _ ⟨(blk_cell BK134.out 0).trans rfl, (blk_cell BK134.out 1).trans rfl⟩ (fun hHeld => ?_)
                 clear hK K
                 refine norm_ (a' := ?_) ?_ ?_
                 rotate_left
                 ·show Act.put _ (some 87) _ = _
                  simp only [Act.put, List.setIfInBounds_toArray, List.set_cons_zero, List.set_cons_succ, i64_w, i32_w]
                  rfl
                 exact norm_ (by simp only [putAll, Act.put, List.setIfInBounds_toArray, List.set_cons_zero, List.set_cons_succ]) (hCont (v151, v154, v157) _ ⟨hHeld, (by (with_reducible repeat (first | apply Kd.R_alloc | apply Kd.R_drewN | apply Kd.R_drew)); exact Kd.R_mono HO155.out (fun _ hk => ⟨hk.2.1, ⟨hk.1, hk.2.2⟩⟩)), (by (with_reducible repeat (first | apply Kd.R_alloc | apply Kd.R_drewN | apply Kd.R_drew)); exact Kd.R_mono HO158.out (fun _ hk => ⟨hk.2, ⟨hk.1.1, hk.1.2⟩⟩)), (by (with_reducible repeat (first | apply Kd.R_alloc | apply Kd.R_drewN | apply Kd.R_drew)); exact Kd.R_mono HO_9.out (fun _ hk => ⟨hk.2, ⟨hk.1.1, hk.1.2⟩⟩)), BK134.out, (by repeat (first | (with_reducible first | exact HB.out | apply below_alloc | apply pw_below_drewN | apply below_drew1 | refine below_set ?_ GE134.out) | exact HB.out))⟩)
               rintro ⟨v151, v154, v157⟩ w53 ⟨hS_, h0_, h1_, h2_, h3_, h4_⟩
               have n0_ : Aside0 (Kd.R k35 35 w53 w.heap.size (fun k_ => some k_ ≠ (v157 : Value).ownBlock ∧ some k_ ≠ (.slice Ao45 x9_2.length co45 : Value).ownBlock ∧ k_ ≠ gb134) v154 y153) := ⟨h0_⟩
               have n1_ : Aside0 (Kd.R k35 35 w53 w.heap.size (fun k_ => some k_ ≠ (v154 : Value).ownBlock ∧ some k_ ≠ (.slice Ao45 x9_2.length co45 : Value).ownBlock ∧ k_ ≠ gb134) v157 y156) := ⟨h1_⟩
               have n2_ : Aside0 (Kd.R k35 35 w53 w.heap.size (fun k_ => some k_ ≠ (v154 : Value).ownBlock ∧ some k_ ≠ (v157 : Value).ownBlock ∧ k_ ≠ gb134) (.slice Ao45 x9_2.length co45) x9_2) := ⟨h2_⟩
               have n3_ : Aside0 (w53.heap[gb134]? = some (.cells #[.int .i64 a3_0, .int .i64 a3_1] 35 (0, 0))) := ⟨h3_⟩
               have n4_ : Aside0 (Below w.heap.size w w53) := ⟨h4_⟩
               clear HO_9
               clear BK134
               clear HB
               clear h0_ h1_ h2_ h3_ h4_
               have HO155 := n0_
               have HO158 := n1_
               have HO_9 := n2_
               have BK134 := n3_
               have HB := n4_
               clear n0_ n1_ n2_ n3_ n4_
               have hHeld : w53.cell? ⟨gb134, 0, none⟩ = some (.int .i64 a3_0) ∧ w53.cell? ⟨gb134, 1, none⟩ = some (.int .i64 a3_1) := hS_
               obtain ⟨Ao55, co55, eo55⟩ := Kd.R_slice HO158.out
               (first | subst eo55 | (injection eo55 with f1_ f2_ f3_; have f4_ := f1_.symm; have f5_ := f3_.symm; clear f1_ f2_ f3_; subst f4_; subst f5_))
               refine norm_ (a' := ?_) ?_ ?_
               rotate_left
               ·simp only [putAll, Act.put, List.setIfInBounds_toArray, List.set_cons_zero, List.set_cons_succ]
                rfl
               refine one_ (i := 6) (N := some 90) #[true, true, true, true, true, true, true, false, false, false, false, false, false] rfl rfl (one_of HT_.out (by kernel_rfl)) (by decide) (fun K hK => ?_)
               refine Kd.R_append_rows_step k35 (w0 := w) w.heap.size (by rfl) (.tmp 87) (.tmp 89) 22 35 (.agg #[(.int .i64 0), (.int .i64 0)]) 16 rfl Try.underlying22 info35 rfl (by decide) (by omega) v154 y153 y156 _ _ _ (fun k_ => some k_ ≠ (.slice Ao45 x9_2.length co45 : Value).ownBlock ∧ some k_ ≠ (.slice Ao55 y156.length co55 : Value).ownBlock ∧ k_ ≠ gb134) (fun _ => False) rfl rfl ?aO ?aR (fun _ _ h => h) (fun _ h => h.elim) ?aF ?aB ?aS ?aL ?_
               (case aR => repeat (first | exact (Kd.R_reads' HO158.out).2.2 | (with_reducible refine Kd.C_alloc ?_ _) | (with_reducible refine Kd.C_drewN ?_ _) | (with_reducible refine Kd.C_drew ?_)))
               (case aB => exact (by repeat (first | (with_reducible first | exact HB.out | apply below_alloc | apply pw_below_drewN | apply below_drew1 | refine below_set ?_ GE134.out) | exact HB.out)))
               (case aF => exact (fun k_ hk => ⟨Kd.fresh' (Kd.R_lt HO_9.out) k_ hk, Kd.fresh' (Kd.R_lt HO158.out) k_ hk, Kd.freshB (g := gb134) (o := .cells #[.int .i64 a3_0, .int .i64 a3_1] 35 (0, 0)) BK134.out k_ hk⟩))
               (case aO => exact (by (with_reducible repeat (first | apply Kd.R_alloc | apply Kd.R_drewN | apply Kd.R_drew)); exact Kd.R_mono HO155.out (fun _ hk => ⟨hk.2.1, ⟨hk.1, hk.2.2⟩⟩)))
               (case aS => exact (below_size (by repeat (first | (with_reducible first | exact HB.out | apply below_alloc | apply pw_below_drewN | apply below_drew1 | refine below_set ?_ GE134.out) | exact HB.out))))
               (case aL => have := LMc37.out; omega)
               intro v160 w54 ho hb hg hat
               rw [← Ny159.out] at ho
               have n0_ := Aside0.mk (Kd.R_after (ok := (fun k_ => some k_ ≠ (.slice Ao55 y156.length co55 : Value).ownBlock ∧ k_ ≠ gb134)) (by (with_reducible repeat (first | apply Kd.R_alloc | apply Kd.R_drewN | apply Kd.R_drew)); exact Kd.R_mono HO_9.out (fun _ hk => ⟨⟨hk.2.1, hk.2.2⟩, hk.1⟩)) hg hat)
               have n1_ := Aside0.mk (blk_grown (g := gb134) (o := .cells #[.int .i64 a3_0, .int .i64 a3_1] 35 (0, 0)) BK134.out hg (Kd.R_away HO155.out (fun _ hk => hk.2.2)))
               have n2_ := Aside0.mk (Kd.R_after (ok := (fun k_ => some k_ ≠ (.slice Ao45 x9_2.length co45 : Value).ownBlock ∧ k_ ≠ gb134)) (by (with_reducible repeat (first | apply Kd.R_alloc | apply Kd.R_drewN | apply Kd.R_drew)); exact Kd.R_mono HO158.out (fun _ hk => ⟨⟨hk.2.1, hk.2.2⟩, hk.1⟩)) hg hat)
               have n3_ := Aside0.mk (hb)
               have n4_ := Aside0.mk (ho)
               clear HO_9
               clear BK134
               clear HO158
               clear HB
               clear HO155
               have HO_9 := n0_
               have BK134 := n1_
               have HO158 := n2_
               have HB := n3_
               have HO161 := n4_
               clear n0_ n1_ n2_ n3_ n4_
               clear ho hb hg hat
               obtain ⟨Ao56, co56, eo56⟩ := Kd.R_slice HO161.out
               (first | subst eo56 | (injection eo56 with f1_ f2_ f3_; have f4_ := f1_.symm; have f5_ := f3_.symm; clear f1_ f2_ f3_; subst f4_; subst f5_))
               refine hK.out _ _ ⟨(blk_cell BK134.out 0).trans rfl, (blk_cell BK134.out 1).trans rfl⟩ (fun hHeld => ?_)
               clear hK K
               refine norm_ (a' := ?_) ?_ ?_
               rotate_left
               ·show Act.put _ (some 90) _ = _
                simp only [Act.put, List.setIfInBounds_toArray, List.set_cons_zero, List.set_cons_succ, i64_w, i32_w]
                rfl
               refine one_ (i := 7) (N := some 91) #[true, true, true, true, true, true, true, true, false, false, false, false, false] rfl rfl (one_of HT_.out (by kernel_rfl)) (by decide) (fun K hK => ?_)
               refine goes_ Try.func14 (by kernel_rfl) rfl #[.int .i64 a0, .slice Ao56 y159.length co56] (by rfl) rfl rfl (by (try simp only [List.map_toArray, List.map_cons, List.map_nil]); first | done | rfl | (simp only [List.length_drop, List.length_take]; rfl)) ?_
               with_reducible refine (win_All.calls k2 a0 _ _ y159 true t163 _ ?side1 ?side2 A38.out).mono ?_
               (case side1 => repeat (first | exact (Kd.R_reads' HO161.out).2.2 | (with_reducible refine Kd.C_alloc ?_ _) | (with_reducible refine Kd.C_drewN ?_ _) | (with_reducible refine Kd.C_drew ?_)))
               (case side2 => exact (Kd.R_reads' HO161.out).2.1)
               rintro e w57 ⟨rfl, hb⟩
               refine ⟨_, rfl, ?_⟩
               have n0_ := Aside0.mk (Kd.R_below HO_9.out hb)
               have n1_ := Aside0.mk (Kd.R_below HO158.out hb)
               have n2_ := Aside0.mk (Kd.R_below HO161.out hb)
               have n3_ := Aside0.mk (blk_below (g := gb134) (o := .cells #[.int .i64 a3_0, .int .i64 a3_1] 35 (0, 0)) BK134.out hb)
               have n4_ := Aside0.mk (below_step (by repeat (first | (with_reducible first | exact HB.out | apply below_alloc | apply pw_below_drewN | apply below_drew1 | refine below_set ?_ GE134.out) | exact HB.out)) hb)
               clear HO_9
               clear HO158
               clear HO161
               clear BK134
               clear HB
               have HO_9 := n0_
               have HO158 := n1_
               have HO161 := n2_
               have BK134 := n3_
               have HB := n4_
               clear n0_ n1_ n2_ n3_ n4_
               (try clear hb)
               (try clear hb2)
               (try clear hk)
               (try clear hi)
               refine hK.out _ _ ⟨(blk_cell BK134.out 0).trans rfl, (blk_cell BK134.out 1).trans rfl⟩ (fun hHeld => ?_)
               clear hK K
               refine norm_ (a' := ?_) ?_ ?_
               rotate_left
               ·show Act.put _ (some 91) _ = _
                simp only [Act.put, List.setIfInBounds_toArray, List.set_cons_zero, List.set_cons_succ, i64_w, i32_w]
                rfl
               refine pure_ (i := 8) (N := some 83) (v := ?_) (a' := ?_) #[true, true, true, true, true, true, true, true, true, false, false, false, false] rfl rfl (any_of HT_.out (by kernel_rfl)) (fun _ _ _ h => h) (Or.inl ⟨by rfl, ?_⟩) ?_ ?_
               rotate_left
               ·intro w'
                go_simp
                with_reducible rfl
               rotate_left
               ·simp only [Act.put, List.setIfInBounds_toArray, List.set_cons_zero, List.set_cons_succ, i64_w, i32_w]
                rfl
               refine pure_ (i := 9) (N := some 92) (v := ?_) (a' := ?_) #[true, true, true, true, true, true, true, true, true, true, false, false, false] rfl rfl (any_of HT_.out (by kernel_rfl)) (fun _ _ _ h => h) (Or.inl ⟨by rfl, ?_⟩) ?_ ?_
               rotate_left
               ·intro w'
                go_simp
                with_reducible rfl
               rotate_left
               ·simp only [Act.put, List.setIfInBounds_toArray, List.set_cons_zero, List.set_cons_succ, i64_w, i32_w]
                rfl
               refine pure_ (i := 10) (N := some 93) (v := ?_) (a' := ?_) #[true, true, true, true, true, true, true, true, true, true, true, false, false] rfl rfl (any_of HT_.out (by kernel_rfl)) (fun _ _ _ h => h) (Or.inl ⟨by rfl, ?_⟩) ?_ ?_
               rotate_left
               ·intro w'
                go_simp
                with_reducible rfl
               rotate_left
               ·simp only [Act.put, List.setIfInBounds_toArray, List.set_cons_zero, List.set_cons_succ, i64_w, i32_w]
                rfl
               refine pure_ (i := 11) (N := some 15) (v := ?_) (a' := ?_) #[true, true, true, true, true, true, true, true, true, true, true, true, false] rfl rfl (any_of HT_.out (by kernel_rfl)) (fun _ _ _ h => h) (Or.inl ⟨by rfl, ?_⟩) ?_ ?_
               rotate_left
               ·intro w'
                go_simp
                with_reducible rfl
               rotate_left
               ·simp only [Act.put, List.setIfInBounds_toArray, List.set_cons_zero, List.set_cons_succ, i64_w, i32_w]
                rfl
               refine pure_ (i := 12) (N := some 16) (v := ?_) (a' := ?_) #[true, true, true, true, true, true, true, true, true, true, true, true, true] rfl rfl (any_of HT_.out (by kernel_rfl)) (fun _ _ _ h => h) (Or.inl ⟨by rfl, ?_⟩) ?_ ?_
               rotate_left
               ·intro w'
                go_simp
                with_reducible rfl
               rotate_left
               ·simp only [Act.put, List.setIfInBounds_toArray, List.set_cons_zero, List.set_cons_succ, i64_w, i32_w]
                rfl
               refine done_ (done_of HT_.out (by kernel_rfl)) ?_
               try go_wp2
               go_ret
               exact ⟨by first | rfl | (simp [errW_none, errW_some] <;> rfl) | (simp [*, errW_none, errW_some] <;> rfl), by repeat (first | (with_reducible first | exact HB.out | apply below_alloc | apply pw_below_drewN | apply below_drew1 | refine below_set ?_ GE134.out) | exact HB.out)⟩
              ·replace c43 := Bool.eq_false_iff.mpr c43
               subst c43
               have H1 : (some true) = some r := by rw [if_neg (show ¬ (false = true) by decide)] at H; exact H
               clear H
               have H := H1
               clear H1
               obtain rfl := Option.some.inj H
               try go_wp2_with (first | ((with_reducible refine gate_callee (f := 14) rfl ?_); refine goesL_ (some 74) rfl rfl Try.func14 (by kernel_rfl) rfl #[.int .i64 a0, .slice A1 l1.length c1] rfl (by (try simp only [List.map_toArray, List.map_cons, List.map_nil]); first | done | rfl | (simp only [List.length_drop, List.length_take]; rfl)) ?_; (with_reducible refine (win_All.calls k2 a0 _ _ l1 t146 t147 _ ?side1 ?side2 A34.out).mono ?_); (case side1 => repeat (first | exact (Kd.C_below HR1.out HB.out) | (with_reducible refine Kd.C_alloc ?_ _) | (with_reducible refine Kd.C_drewN ?_ _) | (with_reducible refine Kd.C_drew ?_))); (case side2 => exact HC1.out); rintro e w58 ⟨rfl, hb⟩; refine ⟨_, rfl, ?_⟩; have n0_ := Aside0.mk (Kd.R_below HO_9.out hb); have n1_ := Aside0.mk (blk_below (g := gb134) (o := .cells #[.int .i64 a3_0, .int .i64 a3_1] 35 (0, 0)) BK134.out hb); have n2_ := Aside0.mk (below_step (by repeat (first | (with_reducible first | exact HB.out | apply below_alloc | apply pw_below_drewN | apply below_drew1 | refine below_set ?_ GE134.out) | exact HB.out)) hb); clear HO_9; clear BK134; clear HB; have HO_9 := n0_; have BK134 := n1_; have HB := n2_; clear n0_ n1_ n2_; (try clear hb); (try clear hb2); (try clear hk); (try clear hi); obtain ⟨Ao59, co59, eo59⟩ := Kd.R_slice HO_9.out; subst eo59) | ((with_reducible refine gate_callee (f := 14) rfl ?_); refine goesL_ (some 80) rfl rfl Try.func14 (by kernel_rfl) rfl #[.int .i64 a0, .slice Ao59 x9_2.length co59] rfl (by (try simp only [List.map_toArray, List.map_cons, List.map_nil]); first | done | rfl | (simp only [List.length_drop, List.length_take]; rfl)) ?_; (with_reducible refine (win_All.calls k2 a0 _ _ x9_2 t148 t149 _ ?side1 ?side2 A35.out).mono ?_); (case side1 => repeat (first | exact (Kd.R_reads' HO_9.out).2.2 | (with_reducible refine Kd.C_alloc ?_ _) | (with_reducible refine Kd.C_drewN ?_ _) | (with_reducible refine Kd.C_drew ?_))); (case side2 => exact (Kd.R_reads' HO_9.out).2.1); rintro e w60 ⟨rfl, hb⟩; refine ⟨_, rfl, ?_⟩; have n0_ := Aside0.mk (Kd.R_below HO_9.out hb); have n1_ := Aside0.mk (blk_below (g := gb134) (o := .cells #[.int .i64 a3_0, .int .i64 a3_1] 35 (0, 0)) BK134.out hb); have n2_ := Aside0.mk (below_step (by repeat (first | (with_reducible first | exact HB.out | apply below_alloc | apply pw_below_drewN | apply below_drew1 | refine below_set ?_ GE134.out) | exact HB.out)) hb); clear HO_9; clear BK134; clear HB; have HO_9 := n0_; have BK134 := n1_; have HB := n2_; clear n0_ n1_ n2_; (try clear hb); (try clear hb2); (try clear hk); (try clear hi)))
               have n0_ := Aside0.mk (Kd.R_drew HO_9.out)
               have n1_ := Aside0.mk (blk_drew BK134.out)
               have n2_ := Aside0.mk (below_drew1 HB.out)
               clear HO_9
               clear BK134
               clear HB
               have HO_9 := n0_
               have BK134 := n1_
               have HB := n2_
               clear n0_ n1_ n2_
               refine start_ (n := 13) (S := fun w' => w'.cell? ⟨gb134, 0, none⟩ = some (.int .i64 a3_0) ∧ w'.cell? ⟨gb134, 1, none⟩ = some (.int .i64 a3_1)) (ds := []) #[false, false, false, false, false, false, false, false, false, false, false, false, false] (by kernel_rfl) rfl rfl ⟨(blk_cell BK134.out 0).trans rfl, (blk_cell BK134.out 1).trans rfl⟩ (fun hHeld => ?_); refine with_tabW beadlelaw13_WinOrder.tab14 beadlelaw13_WinOrder.bits14 (fun HT_ HW_ => ?_)
               generalize w60.drew = w61 at HO_9 BK134 HB hHeld ⊢
               refine pure_ (i := 0) (N := some 84) (v := ?_) (a' := ?_) #[true, false, false, false, false, false, false, false, false, false, false, false, false] rfl rfl (any_of HT_.out (by kernel_rfl)) (fun _ _ _ h => h) (Or.inl ⟨by rfl, ?_⟩) ?_ ?_
               rotate_left
               ·intro w'
                go_simp
                with_reducible rfl
               rotate_left
               ·simp only [Act.put, List.setIfInBounds_toArray, List.set_cons_zero, List.set_cons_succ, i64_w, i32_w]
                rfl
               refine pure_ (i := 2) (N := some 86) (v := ?_) (a' := ?_) #[true, false, true, false, false, false, false, false, false, false, false, false, false] rfl rfl (any_of HT_.out (by kernel_rfl)) (fun _ _ _ h => h) (Or.inl ⟨by rfl, ?_⟩) ?_ ?_
               rotate_left
               ·intro w'
                go_simp
                with_reducible rfl
               rotate_left
               ·simp only [Act.put, List.setIfInBounds_toArray, List.set_cons_zero, List.set_cons_succ, i64_w, i32_w]
                rfl
               refine take_ (i := 4) (N := some 88) (v := ?_) (a' := ?_) #[true, false, true, false, true, false, false, false, false, false, false, false, false] rfl rfl (take_ofW HT_.out HW_.out (by kernel_rfl)) (fun _ _ _ h => h) (Or.inl ⟨by rfl, ?_⟩) hHeld ?_ ?_
               rotate_left
               ·rintro w' ⟨s0, s1⟩
                go_simp
                with_reducible rfl
               rotate_left
               ·simp only [Act.put, List.setIfInBounds_toArray, List.set_cons_zero, List.set_cons_succ, i64_w, i32_w]
                rfl
               refine join_ (σ := Value × Value × Value) 7 #[true, true, true, true, true, true, false, false, false, false, false, false, false] (fun s_ => [(85, s_.1), (87, s_.2.1), (89, s_.2.2)]) (fun s_ w' => (w'.cell? ⟨gb134, 0, none⟩ = some (.int .i64 a3_0) ∧ w'.cell? ⟨gb134, 1, none⟩ = some (.int .i64 a3_1)) ∧ (Kd.R k35 35 w' w.heap.size (fun k_ => some k_ ≠ (s_.2.2 : Value).ownBlock ∧ some k_ ≠ (.slice Ao59 x9_2.length co59 : Value).ownBlock ∧ k_ ≠ gb134) s_.2.1 y153) ∧ (Kd.R k35 35 w' w.heap.size (fun k_ => some k_ ≠ (s_.2.1 : Value).ownBlock ∧ some k_ ≠ (.slice Ao59 x9_2.length co59 : Value).ownBlock ∧ k_ ≠ gb134) s_.2.2 y156) ∧ (Kd.R k35 35 w' w.heap.size (fun k_ => some k_ ≠ (s_.2.1 : Value).ownBlock ∧ some k_ ≠ (s_.2.2 : Value).ownBlock ∧ k_ ≠ gb134) (.slice Ao59 x9_2.length co59) x9_2) ∧ (w'.heap[gb134]? = some (.cells #[.int .i64 a3_0, .int .i64 a3_1] 35 (0, 0))) ∧ (Below w.heap.size w w')) ?_ ?_
               rotate_left
               ·intro hCont
                refine two_ (i := 1) (j := 5) (Ni := some 85) (Nj := some 89) #[true, true, true, false, true, false, false, false, false, false, false, false, false] #[true, false, true, false, true, true, false, false, false, false, false, false, false] rfl rfl rfl rfl (two_of HT_.out (by kernel_rfl)) (by decide) (by decide) (fun K hK => ?_) (fun K hK => ?_)
                ·skip
                 refine Kd.R_lit_step k35 _ 35 ?hg (N := 85) ?hd (xs := ([] : List (S35))) (inner := []) (ok := fun _ => True) (okp := fun _ => True) ?hr ?hp (fun _ hk => hk) trivial (Below.refl _ _) (Nat.le_refl _) (by simp) ?_; (case hd => rfl); (case hg => rfl); (case hr => first | (go_simp; done) | (go_simp; rfl)); (case hp => exact (Reps.none _ _))
                 intro v151 w62 ho63 hb hg_ hnew_
                 clear hg_ hnew_
                 (first | rw [← Ny150.out] at ho63 | (simp only [Int.reduceToNat] at ho63; rw [← Ny150.out] at ho63))
                 have n0_ := Aside0.mk (Kd.R_elder' HO_9.out (Kd.R_base ho63) hb)
                 have n1_ := Aside0.mk (Kd.R_lower (Kd.R_newB (Kd.R_new' ho63 (Kd.R_lt HO_9.out)) (g := gb134) (o := .cells #[.int .i64 a3_0, .int .i64 a3_1] 35 (0, 0)) BK134.out) (below_size (by repeat (first | (with_reducible first | exact HB.out | apply below_alloc | apply pw_below_drewN | apply below_drew1 | refine below_set ?_ GE134.out) | exact HB.out))))
                 have n2_ := Aside0.mk (blk_below (g := gb134) (o := .cells #[.int .i64 a3_0, .int .i64 a3_1] 35 (0, 0)) BK134.out hb)
                 have n3_ := Aside0.mk (below_step (by repeat (first | (with_reducible first | exact HB.out | apply below_alloc | apply pw_below_drewN | apply below_drew1 | refine below_set ?_ GE134.out) | exact HB.out)) hb)
                 clear HO_9
                 clear BK134
                 clear HB
                 have HO_9 := n0_
                 have HO152 := n1_
                 have BK134 := n2_
                 have HB := n3_
                 clear n0_ n1_ n2_ n3_
                 clear hb ho63
                 refine hK.out _ _ ⟨(blk_cell BK134.out 0).trans rfl, (blk_cell BK134.out 1).trans rfl⟩ (fun hHeld => ?_)
                 clear hK K
                 refine norm_ (a' := ?_) ?_ ?_
                 rotate_left
                 ·show Act.put _ (some 85) _ = _
                  simp only [Act.put, List.setIfInBounds_toArray, List.set_cons_zero, List.set_cons_succ, i64_w, i32_w]
                  rfl
                 refine two_ (i := 3) (j := 5) (Ni := some 87) (Nj := some 89) #[true, true, true, true, true, false, false, false, false, false, false, false, false] #[true, true, true, false, true, true, false, false, false, false, false, false, false] rfl rfl rfl rfl (two_of HT_.out (by kernel_rfl)) (by decide) (by decide) (fun K hK => ?_) (fun K hK => ?_)
                 ·skip
                  refine Kd.R_append_rows_step k35 (w0 := w) w.heap.size (by rfl) (.tmp 85) (.tmp 86) 22 35 (.agg #[(.int .i64 0), (.int .i64 0)]) 16 rfl Try.underlying22 info35 rfl (by decide) (by omega) v151 y150 l1 _ _ _ (fun k_ => some k_ ≠ (.slice Ao59 x9_2.length co59 : Value).ownBlock ∧ k_ ≠ gb134) (fun _ => False) rfl rfl ?aO ?aR (fun _ _ h => h) (fun _ h => h.elim) ?aF ?aB ?aS ?aL ?_
                  (case aR => repeat (first | exact (Kd.C_below HR1.out HB.out) | (with_reducible refine Kd.C_alloc ?_ _) | (with_reducible refine Kd.C_drewN ?_ _) | (with_reducible refine Kd.C_drew ?_)))
                  (case aB => exact (by repeat (first | (with_reducible first | exact HB.out | apply below_alloc | apply pw_below_drewN | apply below_drew1 | refine below_set ?_ GE134.out) | exact HB.out)))
                  (case aF => exact (fun k_ hk => ⟨Kd.fresh' (Kd.R_lt HO_9.out) k_ hk, Kd.freshB (g := gb134) (o := .cells #[.int .i64 a3_0, .int .i64 a3_1] 35 (0, 0)) BK134.out k_ hk⟩))
                  (case aO => exact (by (with_reducible repeat (first | apply Kd.R_alloc | apply Kd.R_drewN | apply Kd.R_drew)); exact Kd.R_mono HO152.out (fun _ hk => ⟨hk.1.2, hk.2⟩)))
                  (case aS => exact (below_size (by repeat (first | (with_reducible first | exact HB.out | apply below_alloc | apply pw_below_drewN | apply below_drew1 | refine below_set ?_ GE134.out) | exact HB.out))))
                  (case aL => have := LMc36.out; omega)
                  intro v154 w64 ho hb hg hat
                  rw [← Ny153.out] at ho
                  have n0_ := Aside0.mk (Kd.R_after (ok := (fun k_ => k_ ≠ gb134)) HO_9.out hg hat)
                  have n1_ := Aside0.mk (blk_grown (g := gb134) (o := .cells #[.int .i64 a3_0, .int .i64 a3_1] 35 (0, 0)) BK134.out hg (Kd.R_away HO152.out (fun _ hk => hk.2)))
                  have n2_ := Aside0.mk (hb)
                  have n3_ := Aside0.mk (ho)
                  clear HO_9
                  clear BK134
                  clear HB
                  clear HO152
                  have HO_9 := n0_
                  have BK134 := n1_
                  have HB := n2_
                  have HO155 := n3_
                  clear n0_ n1_ n2_ n3_
                  clear ho hb hg hat
                  refine hK.out _ _ ⟨(blk_cell BK134.out 0).trans rfl, (blk_cell BK134.out 1).trans rfl⟩ (fun hHeld => ?_)
                  clear hK K
                  refine norm_ (a' := ?_) ?_ ?_
                  rotate_left
                  ·show Act.put _ (some 87) _ = _
                   simp only [Act.put, List.setIfInBounds_toArray, List.set_cons_zero, List.set_cons_succ, i64_w, i32_w]
                   rfl
                  refine one_ (i := 5) (N := some 89) #[true, true, true, true, true, true, false, false, false, false, false, false, false] rfl rfl (one_of HT_.out (by kernel_rfl)) (by decide) (fun K hK => ?_)
                  refine Kd.R_lit_step k35 _ 35 ?hg (N := 89) ?hd (xs := ([(⟨a3_0, a3_1⟩ : S35)] : List (S35))) (inner := [.int .i64 a3_0, .int .i64 a3_1]) (ok := fun _ => True) (okp := fun _ => True) ?hr ?hp (fun _ hk => hk) trivial (Below.refl _ _) (Nat.le_refl _) (by simp) ?_; (case hd => rfl); (case hg => rfl); (case hr => first | (go_simp; done) | (go_simp; rfl)); (case hp => exact (Reps.c2 (show Kd.M k35 _ _ _ (⟨a3_0, a3_1⟩ : S35) [.int .i64 a3_0, .int .i64 a3_1] from (k35_mkM _ _ _ (⟨a3_0, a3_1⟩ : S35) )) (Reps.none _ _)))
                  intro v157 w65 ho66 hb hg_ hnew_
                  clear hg_ hnew_
                  (first | rw [← Ny156.out] at ho66 | (simp only [Int.reduceToNat] at ho66; rw [← Ny156.out] at ho66))
                  have n0_ := Aside0.mk (Kd.R_elder' HO_9.out (Kd.R_base ho66) hb)
                  have n1_ := Aside0.mk (Kd.R_elder' HO155.out (Kd.R_base ho66) hb)
                  have n2_ := Aside0.mk (Kd.R_lower (Kd.R_newB (Kd.R_new' (Kd.R_new' ho66 (Kd.R_lt HO_9.out)) (Kd.R_lt HO155.out)) (g := gb134) (o := .cells #[.int .i64 a3_0, .int .i64 a3_1] 35 (0, 0)) BK134.out) (below_size (by repeat (first | (with_reducible first | exact HB.out | apply below_alloc | apply pw_below_drewN | apply below_drew1 | refine below_set ?_ GE134.out) | exact HB.out))))
                  have n3_ := Aside0.mk (blk_below (g := gb134) (o := .cells #[.int .i64 a3_0, .int .i64 a3_1] 35 (0, 0)) BK134.out hb)
                  have n4_ := Aside0.mk (below_step (by repeat (first | (with_reducible first | exact HB.out | apply below_alloc | apply pw_below_drewN | apply below_drew1 | refine below_set ?_ GE134.out) | exact HB.out)) hb)
                  clear HO_9
                  clear HO155
                  clear BK134
                  clear HB
                  have HO_9 := n0_
                  have HO155 := n1_
                  have HO158 := n2_
                  have BK134 := n3_
                  have HB := n4_
                  clear n0_ n1_ n2_ n3_ n4_
                  clear hb ho66
                  refine hK.out _ _ ⟨(blk_cell BK134.out 0).trans rfl, (blk_cell BK134.out 1).trans rfl⟩ (fun hHeld => ?_)
                  clear hK K
                  refine norm_ (a' := ?_) ?_ ?_
                  rotate_left
                  ·show Act.put _ (some 89) _ = _
                   simp only [Act.put, List.setIfInBounds_toArray, List.set_cons_zero, List.set_cons_succ, i64_w, i32_w]
                   rfl
                  exact norm_ (by simp only [putAll, Act.put, List.setIfInBounds_toArray, List.set_cons_zero, List.set_cons_succ]) (hCont (v151, v154, v157) _ ⟨hHeld, (by (with_reducible repeat (first | apply Kd.R_alloc | apply Kd.R_drewN | apply Kd.R_drew)); exact Kd.R_mono HO155.out (fun _ hk => ⟨hk.2, ⟨hk.1.1, hk.1.2⟩⟩)), (by (with_reducible repeat (first | apply Kd.R_alloc | apply Kd.R_drewN | apply Kd.R_drew)); exact Kd.R_mono HO158.out (fun _ hk => ⟨hk.1.2, ⟨hk.1.1.2, hk.2⟩⟩)), (by (with_reducible repeat (first | apply Kd.R_alloc | apply Kd.R_drewN | apply Kd.R_drew)); exact Kd.R_mono HO_9.out (fun _ hk => ⟨hk.1.2, ⟨hk.2, hk.1.1⟩⟩)), BK134.out, (by repeat (first | (with_reducible first | exact HB.out | apply below_alloc | apply pw_below_drewN | apply below_drew1 | refine below_set ?_ GE134.out) | exact HB.out))⟩)
                 ·skip
                  refine Kd.R_lit_step k35 _ 35 ?hg (N := 89) ?hd (xs := ([(⟨a3_0, a3_1⟩ : S35)] : List (S35))) (inner := [.int .i64 a3_0, .int .i64 a3_1]) (ok := fun _ => True) (okp := fun _ => True) ?hr ?hp (fun _ hk => hk) trivial (Below.refl _ _) (Nat.le_refl _) (by simp) ?_; (case hd => rfl); (case hg => rfl); (case hr => first | (go_simp; done) | (go_simp; rfl)); (case hp => exact (Reps.c2 (show Kd.M k35 _ _ _ (⟨a3_0, a3_1⟩ : S35) [.int .i64 a3_0, .int .i64 a3_1] from (k35_mkM _ _ _ (⟨a3_0, a3_1⟩ : S35) )) (Reps.none _ _)))
                  intro v157 w64 ho65 hb hg_ hnew_
                  clear hg_ hnew_
                  (first | rw [← Ny156.out] at ho65 | (simp only [Int.reduceToNat] at ho65; rw [← Ny156.out] at ho65))
                  have n0_ := Aside0.mk (Kd.R_elder' HO_9.out (Kd.R_base ho65) hb)
                  have n1_ := Aside0.mk (Kd.R_elder' HO152.out (Kd.R_base ho65) hb)
                  have n2_ := Aside0.mk (Kd.R_lower (Kd.R_newB (Kd.R_new' (Kd.R_new' ho65 (Kd.R_lt HO_9.out)) (Kd.R_lt HO152.out)) (g := gb134) (o := .cells #[.int .i64 a3_0, .int .i64 a3_1] 35 (0, 0)) BK134.out) (below_size (by repeat (first | (with_reducible first | exact HB.out | apply below_alloc | apply pw_below_drewN | apply below_drew1 | refine below_set ?_ GE134.out) | exact HB.out))))
                  have n3_ := Aside0.mk (blk_below (g := gb134) (o := .cells #[.int .i64 a3_0, .int .i64 a3_1] 35 (0, 0)) BK134.out hb)
                  have n4_ := Aside0.mk (below_step (by repeat (first | (with_reducible first | exact HB.out | apply below_alloc | apply pw_below_drewN | apply below_drew1 | refine below_set ?_ GE134.out) | exact HB.out)) hb)
                  clear HO_9
                  clear HO152
                  clear BK134
                  clear HB
                  have HO_9 := n0_
                  have HO152 := n1_
                  have HO158 := n2_
                  have BK134 := n3_
                  have HB := n4_
                  clear n0_ n1_ n2_ n3_ n4_
                  clear hb ho65
                  refine hK.out _ _ ⟨(blk_cell BK134.out 0).trans rfl, (blk_cell BK134.out 1).trans rfl⟩ (fun hHeld => ?_)
                  clear hK K
                  refine norm_ (a' := ?_) ?_ ?_
                  rotate_left
                  ·show Act.put _ (some 89) _ = _
                   simp only [Act.put, List.setIfInBounds_toArray, List.set_cons_zero, List.set_cons_succ, i64_w, i32_w]
                   rfl
                  refine one_ (i := 3) (N := some 87) #[true, true, true, true, true, true, false, false, false, false, false, false, false] rfl rfl (one_of HT_.out (by kernel_rfl)) (by decide) (fun K hK => ?_)
                  refine Kd.R_append_rows_step k35 (w0 := w) w.heap.size (by rfl) (.tmp 85) (.tmp 86) 22 35 (.agg #[(.int .i64 0), (.int .i64 0)]) 16 rfl Try.underlying22 info35 rfl (by decide) (by omega) v151 y150 l1 _ _ _ (fun k_ => some k_ ≠ (.slice Ao59 x9_2.length co59 : Value).ownBlock ∧ some k_ ≠ (v157 : Value).ownBlock ∧ k_ ≠ gb134) (fun _ => False) rfl rfl ?aO ?aR (fun _ _ h => h) (fun _ h => h.elim) ?aF ?aB ?aS ?aL ?_
                  (case aR => repeat (first | exact (Kd.C_below HR1.out HB.out) | (with_reducible refine Kd.C_alloc ?_ _) | (with_reducible refine Kd.C_drewN ?_ _) | (with_reducible refine Kd.C_drew ?_)))
                  (case aB => exact (by repeat (first | (with_reducible first | exact HB.out | apply below_alloc | apply pw_below_drewN | apply below_drew1 | refine below_set ?_ GE134.out) | exact HB.out)))
                  (case aF => exact (fun k_ hk => ⟨Kd.fresh' (Kd.R_lt HO_9.out) k_ hk, Kd.fresh' (Kd.R_lt HO158.out) k_ hk, Kd.freshB (g := gb134) (o := .cells #[.int .i64 a3_0, .int .i64 a3_1] 35 (0, 0)) BK134.out k_ hk⟩))
                  (case aO => exact (by (with_reducible repeat (first | apply Kd.R_alloc | apply Kd.R_drewN | apply Kd.R_drew)); exact Kd.R_mono HO152.out (fun _ hk => ⟨hk.1.1.2, ⟨hk.2, hk.1.2⟩⟩)))
                  (case aS => exact (below_size (by repeat (first | (with_reducible first | exact HB.out | apply below_alloc | apply pw_below_drewN | apply below_drew1 | refine below_set ?_ GE134.out) | exact HB.out))))
                  (case aL => have := LMc36.out; omega)
                  intro v154 w66 ho hb hg hat
                  rw [← Ny153.out] at ho
                  have n0_ := Aside0.mk (Kd.R_after (ok := (fun k_ => some k_ ≠ (v157 : Value).ownBlock ∧ k_ ≠ gb134)) (by (with_reducible repeat (first | apply Kd.R_alloc | apply Kd.R_drewN | apply Kd.R_drew)); exact Kd.R_mono HO_9.out (fun _ hk => ⟨⟨hk.2, hk.1.1⟩, hk.1.2⟩)) hg hat)
                  have n1_ := Aside0.mk (blk_grown (g := gb134) (o := .cells #[.int .i64 a3_0, .int .i64 a3_1] 35 (0, 0)) BK134.out hg (Kd.R_away HO152.out (fun _ hk => hk.1.2)))
                  have n2_ := Aside0.mk (Kd.R_after (ok := (fun k_ => some k_ ≠ (.slice Ao59 x9_2.length co59 : Value).ownBlock ∧ k_ ≠ gb134)) (by (with_reducible repeat (first | apply Kd.R_alloc | apply Kd.R_drewN | apply Kd.R_drew)); exact Kd.R_mono HO158.out (fun _ hk => ⟨⟨hk.1.1.2, hk.2⟩, hk.1.2⟩)) hg hat)
                  have n3_ := Aside0.mk (hb)
                  have n4_ := Aside0.mk (ho)
                  clear HO_9
                  clear BK134
                  clear HO158
                  clear HB
                  clear HO152
                  have HO_9 := n0_
                  have BK134 := n1_
                  have HO158 := n2_
                  have HB := n3_
                  have HO155 := n4_
                  clear n0_ n1_ n2_ n3_ n4_
                  clear ho hb hg hat
                  refine hK.out _ _ ⟨(blk_cell BK134.out 0).trans rfl, (blk_cell BK134.out 1).trans rfl⟩ (fun hHeld => ?_)
                  clear hK K
                  refine norm_ (a' := ?_) ?_ ?_
                  rotate_left
                  ·show Act.put _ (some 87) _ = _
                   simp only [Act.put, List.setIfInBounds_toArray, List.set_cons_zero, List.set_cons_succ, i64_w, i32_w]
                   rfl
                  exact norm_ (by simp only [putAll, Act.put, List.setIfInBounds_toArray, List.set_cons_zero, List.set_cons_succ]) (hCont (v151, v154, v157) _ ⟨hHeld, (by (with_reducible repeat (first | apply Kd.R_alloc | apply Kd.R_drewN | apply Kd.R_drew)); exact Kd.R_mono HO155.out (fun _ hk => ⟨hk.2.1, ⟨hk.1, hk.2.2⟩⟩)), (by (with_reducible repeat (first | apply Kd.R_alloc | apply Kd.R_drewN | apply Kd.R_drew)); exact Kd.R_mono HO158.out (fun _ hk => ⟨hk.2, ⟨hk.1.1, hk.1.2⟩⟩)), (by (with_reducible repeat (first | apply Kd.R_alloc | apply Kd.R_drewN | apply Kd.R_drew)); exact Kd.R_mono HO_9.out (fun _ hk => ⟨hk.2, ⟨hk.1.1, hk.1.2⟩⟩)), BK134.out, (by repeat (first | (with_reducible first | exact HB.out | apply below_alloc | apply pw_below_drewN | apply below_drew1 | refine below_set ?_ GE134.out) | exact HB.out))⟩)
                ·skip
                 refine Kd.R_lit_step k35 _ 35 ?hg (N := 89) ?hd (xs := ([(⟨a3_0, a3_1⟩ : S35)] : List (S35))) (inner := [.int .i64 a3_0, .int .i64 a3_1]) (ok := fun _ => True) (okp := fun _ => True) ?hr ?hp (fun _ hk => hk) trivial (Below.refl _ _) (Nat.le_refl _) (by simp) ?_; (case hd => rfl); (case hg => rfl); (case hr => first | (go_simp; done) | (go_simp; rfl)); (case hp => exact (Reps.c2 (show Kd.M k35 _ _ _ (⟨a3_0, a3_1⟩ : S35) [.int .i64 a3_0, .int .i64 a3_1] from (k35_mkM _ _ _ (⟨a3_0, a3_1⟩ : S35) )) (Reps.none _ _)))
                 intro v157 w62 ho63 hb hg_ hnew_
                 clear hg_ hnew_
                 (first | rw [← Ny156.out] at ho63 | (simp only [Int.reduceToNat] at ho63; rw [← Ny156.out] at ho63))
                 have n0_ := Aside0.mk (Kd.R_elder' HO_9.out (Kd.R_base ho63) hb)
                 have n1_ := Aside0.mk (Kd.R_lower (Kd.R_newB (Kd.R_new' ho63 (Kd.R_lt HO_9.out)) (g := gb134) (o := .cells #[.int .i64 a3_0, .int .i64 a3_1] 35 (0, 0)) BK134.out) (below_size (by repeat (first | (with_reducible first | exact HB.out | apply below_alloc | apply pw_below_drewN | apply below_drew1 | refine below_set ?_ GE134.out) | exact HB.out))))
                 have n2_ := Aside0.mk (blk_below (g := gb134) (o := .cells #[.int .i64 a3_0, .int .i64 a3_1] 35 (0, 0)) BK134.out hb)
                 have n3_ := Aside0.mk (below_step (by repeat (first | (with_reducible first | exact HB.out | apply below_alloc | apply pw_below_drewN | apply below_drew1 | refine below_set ?_ GE134.out) | exact HB.out)) hb)
                 clear HO_9
                 clear BK134
                 clear HB
                 have HO_9 := n0_
                 have HO158 := n1_
                 have BK134 := n2_
                 have HB := n3_
                 clear n0_ n1_ n2_ n3_
                 clear hb ho63
                 refine hK.out _ _ ⟨(blk_cell BK134.out 0).trans rfl, (blk_cell BK134.out 1).trans rfl⟩ (fun hHeld => ?_)
                 clear hK K
                 refine norm_ (a' := ?_) ?_ ?_
                 rotate_left
                 ·show Act.put _ (some 89) _ = _
                  simp only [Act.put, List.setIfInBounds_toArray, List.set_cons_zero, List.set_cons_succ, i64_w, i32_w]
                  rfl
                 refine one_ (i := 1) (N := some 85) #[true, true, true, false, true, true, false, false, false, false, false, false, false] rfl rfl (one_of HT_.out (by kernel_rfl)) (by decide) (fun K hK => ?_)
                 refine Kd.R_lit_step k35 _ 35 ?hg (N := 85) ?hd (xs := ([] : List (S35))) (inner := []) (ok := fun _ => True) (okp := fun _ => True) ?hr ?hp (fun _ hk => hk) trivial (Below.refl _ _) (Nat.le_refl _) (by simp) ?_; (case hd => rfl); (case hg => rfl); (case hr => first | (go_simp; done) | (go_simp; rfl)); (case hp => exact (Reps.none _ _))
                 intro v151 w64 ho65 hb hg_ hnew_
                 clear hg_ hnew_
                 (first | rw [← Ny150.out] at ho65 | (simp only [Int.reduceToNat] at ho65; rw [← Ny150.out] at ho65))
                 have n0_ := Aside0.mk (Kd.R_elder' HO_9.out (Kd.R_base ho65) hb)
                 have n1_ := Aside0.mk (Kd.R_elder' HO158.out (Kd.R_base ho65) hb)
                 have n2_ := Aside0.mk (Kd.R_lower (Kd.R_newB (Kd.R_new' (Kd.R_new' ho65 (Kd.R_lt HO_9.out)) (Kd.R_lt HO158.out)) (g := gb134) (o := .cells #[.int .i64 a3_0, .int .i64 a3_1] 35 (0, 0)) BK134.out) (below_size (by repeat (first | (with_reducible first | exact HB.out | apply below_alloc | apply pw_below_drewN | apply below_drew1 | refine below_set ?_ GE134.out) | exact HB.out))))
                 have n3_ := Aside0.mk (blk_below (g := gb134) (o := .cells #[.int .i64 a3_0, .int .i64 a3_1] 35 (0, 0)) BK134.out hb)
                 have n4_ := Aside0.mk (below_step (by repeat (first | (with_reducible first | exact HB.out | apply below_alloc | apply pw_below_drewN | apply below_drew1 | refine below_set ?_ GE134.out) | exact HB.out)) hb)
                 clear HO_9
                 clear HO158
                 clear BK134
                 clear HB
                 have HO_9 := n0_
                 have HO158 := n1_
                 have HO152 := n2_
                 have BK134 := n3_
                 have HB := n4_
                 clear n0_ n1_ n2_ n3_ n4_
                 clear hb ho65
                 refine hK.out _ _ ⟨(blk_cell BK134.out 0).trans rfl, (blk_cell BK134.out 1).trans rfl⟩ (fun hHeld => ?_)
                 clear hK K
                 refine norm_ (a' := ?_) ?_ ?_
                 rotate_left
                 ·show Act.put _ (some 85) _ = _
                  simp only [Act.put, List.setIfInBounds_toArray, List.set_cons_zero, List.set_cons_succ, i64_w, i32_w]
                  rfl
                 refine one_ (i := 3) (N := some 87) #[true, true, true, true, true, true, false, false, false, false, false, false, false] rfl rfl (one_of HT_.out (by kernel_rfl)) (by decide) (fun K hK => ?_)
                 refine Kd.R_append_rows_step k35 (w0 := w) w.heap.size (by rfl) (.tmp 85) (.tmp 86) 22 35 (.agg #[(.int .i64 0), (.int .i64 0)]) 16 rfl Try.underlying22 info35 rfl (by decide) (by omega) v151 y150 l1 _ _ _ (fun k_ => some k_ ≠ (.slice Ao59 x9_2.length co59 : Value).ownBlock ∧ some k_ ≠ (v157 : Value).ownBlock ∧ k_ ≠ gb134) (fun _ => False) rfl rfl ?aO ?aR (fun _ _ h => h) (fun _ h => h.elim) ?aF ?aB ?aS ?aL ?_
                 (case aR => repeat (first | exact (Kd.C_below HR1.out HB.out) | (with_reducible refine Kd.C_alloc ?_ _) | (with_reducible refine Kd.C_drewN ?_ _) | (with_reducible refine Kd.C_drew ?_)))
                 (case aB => exact (by repeat (first | (with_reducible first | exact HB.out | apply below_alloc | apply pw_below_drewN | apply below_drew1 | refine below_set ?_ GE134.out) | exact HB.out)))
                 (case aF => exact (fun k_ hk => ⟨Kd.fresh' (Kd.R_lt HO_9.out) k_ hk, Kd.fresh' (Kd.R_lt HO158.out) k_ hk, Kd.freshB (g := gb134) (o := .cells #[.int .i64 a3_0, .int .i64 a3_1] 35 (0, 0)) BK134.out k_ hk⟩))
                 (case aO => exact (by (with_reducible repeat (first | apply Kd.R_alloc | apply Kd.R_drewN | apply Kd.R_drew)); exact Kd.R_mono HO152.out (fun _ hk => ⟨hk.1.1.2, ⟨hk.1.2, hk.2⟩⟩)))
                 (case aS => exact (below_size (by repeat (first | (with_reducible first | exact HB.out | apply below_alloc | apply pw_below_drewN | apply below_drew1 | refine below_set ?_ GE134.out) | exact HB.out))))
                 (case aL => have := LMc36.out; omega)
                 intro v154 w66 ho hb hg hat
                 rw [← Ny153.out] at ho
                 have n0_ := Aside0.mk (Kd.R_after (ok := (fun k_ => some k_ ≠ (v157 : Value).ownBlock ∧ k_ ≠ gb134)) (by (with_reducible repeat (first | apply Kd.R_alloc | apply Kd.R_drewN | apply Kd.R_drew)); exact Kd.R_mono HO_9.out (fun _ hk => ⟨⟨hk.1.2, hk.1.1⟩, hk.2⟩)) hg hat)
                 have n1_ := Aside0.mk (blk_grown (g := gb134) (o := .cells #[.int .i64 a3_0, .int .i64 a3_1] 35 (0, 0)) BK134.out hg (Kd.R_away HO152.out (fun _ hk => hk.2)))
                 have n2_ := Aside0.mk (Kd.R_after (ok := (fun k_ => some k_ ≠ (.slice Ao59 x9_2.length co59 : Value).ownBlock ∧ k_ ≠ gb134)) (by (with_reducible repeat (first | apply Kd.R_alloc | apply Kd.R_drewN | apply Kd.R_drew)); exact Kd.R_mono HO158.out (fun _ hk => ⟨⟨hk.1.1.2, hk.1.2⟩, hk.2⟩)) hg hat)
                 have n3_ := Aside0.mk (hb)
                 have n4_ := Aside0.mk (ho)
                 clear HO_9
                 clear BK134
                 clear HO158
                 clear HB
                 clear HO152
                 have HO_9 := n0_
                 have BK134 := n1_
                 have HO158 := n2_
                 have HB := n3_
                 have HO155 := n4_
                 clear n0_ n1_ n2_ n3_ n4_
                 clear ho hb hg hat
                 refine hK.out _ _ ⟨(blk_cell BK134.out 0).trans rfl, (blk_cell BK134.out 1).trans rfl⟩ (fun hHeld => ?_)
                 clear hK K
                 refine norm_ (a' := ?_) ?_ ?_
                 rotate_left
                 ·show Act.put _ (some 87) _ = _
                  simp only [Act.put, List.setIfInBounds_toArray, List.set_cons_zero, List.set_cons_succ, i64_w, i32_w]
                  rfl
                 exact norm_ (by simp only [putAll, Act.put, List.setIfInBounds_toArray, List.set_cons_zero, List.set_cons_succ]) (hCont (v151, v154, v157) _ ⟨hHeld, (by (with_reducible repeat (first | apply Kd.R_alloc | apply Kd.R_drewN | apply Kd.R_drew)); exact Kd.R_mono HO155.out (fun _ hk => ⟨hk.2.1, ⟨hk.1, hk.2.2⟩⟩)), (by (with_reducible repeat (first | apply Kd.R_alloc | apply Kd.R_drewN | apply Kd.R_drew)); exact Kd.R_mono HO158.out (fun _ hk => ⟨hk.2, ⟨hk.1.1, hk.1.2⟩⟩)), (by (with_reducible repeat (first | apply Kd.R_alloc | apply Kd.R_drewN | apply Kd.R_drew)); exact Kd.R_mono HO_9.out (fun _ hk => ⟨hk.2, ⟨hk.1.1, hk.1.2⟩⟩)), BK134.out, (by repeat (first | (with_reducible first | exact HB.out | apply below_alloc | apply pw_below_drewN | apply below_drew1 | refine below_set ?_ GE134.out) | exact HB.out))⟩)
               rintro ⟨v151, v154, v157⟩ w67 ⟨hS_, h0_, h1_, h2_, h3_, h4_⟩
               have n0_ : Aside0 (Kd.R k35 35 w67 w.heap.size (fun k_ => some k_ ≠ (v157 : Value).ownBlock ∧ some k_ ≠ (.slice Ao59 x9_2.length co59 : Value).ownBlock ∧ k_ ≠ gb134) v154 y153) := ⟨h0_⟩
               have n1_ : Aside0 (Kd.R k35 35 w67 w.heap.size (fun k_ => some k_ ≠ (v154 : Value).ownBlock ∧ some k_ ≠ (.slice Ao59 x9_2.length co59 : Value).ownBlock ∧ k_ ≠ gb134) v157 y156) := ⟨h1_⟩
               have n2_ : Aside0 (Kd.R k35 35 w67 w.heap.size (fun k_ => some k_ ≠ (v154 : Value).ownBlock ∧ some k_ ≠ (v157 : Value).ownBlock ∧ k_ ≠ gb134) (.slice Ao59 x9_2.length co59) x9_2) := ⟨h2_⟩
               have n3_ : Aside0 (w67.heap[gb134]? = some (.cells #[.int .i64 a3_0, .int .i64 a3_1] 35 (0, 0))) := ⟨h3_⟩
               have n4_ : Aside0 (Below w.heap.size w w67) := ⟨h4_⟩
               clear HO_9
               clear BK134
               clear HB
               clear h0_ h1_ h2_ h3_ h4_
               have HO155 := n0_
               have HO158 := n1_
               have HO_9 := n2_
               have BK134 := n3_
               have HB := n4_
               clear n0_ n1_ n2_ n3_ n4_
               have hHeld : w67.cell? ⟨gb134, 0, none⟩ = some (.int .i64 a3_0) ∧ w67.cell? ⟨gb134, 1, none⟩ = some (.int .i64 a3_1) := hS_
               obtain ⟨Ao69, co69, eo69⟩ := Kd.R_slice HO158.out
               (first | subst eo69 | (injection eo69 with f1_ f2_ f3_; have f4_ := f1_.symm; have f5_ := f3_.symm; clear f1_ f2_ f3_; subst f4_; subst f5_))
               refine norm_ (a' := ?_) ?_ ?_
               rotate_left
               ·simp only [putAll, Act.put, List.setIfInBounds_toArray, List.set_cons_zero, List.set_cons_succ]
                rfl
               refine one_ (i := 6) (N := some 90) #[true, true, true, true, true, true, true, false, false, false, false, false, false] rfl rfl (one_of HT_.out (by kernel_rfl)) (by decide) (fun K hK => ?_)
               refine Kd.R_append_rows_step k35 (w0 := w) w.heap.size (by rfl) (.tmp 87) (.tmp 89) 22 35 (.agg #[(.int .i64 0), (.int .i64 0)]) 16 rfl Try.underlying22 info35 rfl (by decide) (by omega) v154 y153 y156 _ _ _ (fun k_ => some k_ ≠ (.slice Ao59 x9_2.length co59 : Value).ownBlock ∧ some k_ ≠ (.slice Ao69 y156.length co69 : Value).ownBlock ∧ k_ ≠ gb134) (fun _ => False) rfl rfl ?aO ?aR (fun _ _ h => h) (fun _ h => h.elim) ?aF ?aB ?aS ?aL ?_
               (case aR => repeat (first | exact (Kd.R_reads' HO158.out).2.2 | (with_reducible refine Kd.C_alloc ?_ _) | (with_reducible refine Kd.C_drewN ?_ _) | (with_reducible refine Kd.C_drew ?_)))
               (case aB => exact (by repeat (first | (with_reducible first | exact HB.out | apply below_alloc | apply pw_below_drewN | apply below_drew1 | refine below_set ?_ GE134.out) | exact HB.out)))
               (case aF => exact (fun k_ hk => ⟨Kd.fresh' (Kd.R_lt HO_9.out) k_ hk, Kd.fresh' (Kd.R_lt HO158.out) k_ hk, Kd.freshB (g := gb134) (o := .cells #[.int .i64 a3_0, .int .i64 a3_1] 35 (0, 0)) BK134.out k_ hk⟩))
               (case aO => exact (by (with_reducible repeat (first | apply Kd.R_alloc | apply Kd.R_drewN | apply Kd.R_drew)); exact Kd.R_mono HO155.out (fun _ hk => ⟨hk.2.1, ⟨hk.1, hk.2.2⟩⟩)))
               (case aS => exact (below_size (by repeat (first | (with_reducible first | exact HB.out | apply below_alloc | apply pw_below_drewN | apply below_drew1 | refine below_set ?_ GE134.out) | exact HB.out))))
               (case aL => have := LMc37.out; omega)
               intro v160 w68 ho hb hg hat
               rw [← Ny159.out] at ho
               have n0_ := Aside0.mk (Kd.R_after (ok := (fun k_ => some k_ ≠ (.slice Ao69 y156.length co69 : Value).ownBlock ∧ k_ ≠ gb134)) (by (with_reducible repeat (first | apply Kd.R_alloc | apply Kd.R_drewN | apply Kd.R_drew)); exact Kd.R_mono HO_9.out (fun _ hk => ⟨⟨hk.2.1, hk.2.2⟩, hk.1⟩)) hg hat)
               have n1_ := Aside0.mk (blk_grown (g := gb134) (o := .cells #[.int .i64 a3_0, .int .i64 a3_1] 35 (0, 0)) BK134.out hg (Kd.R_away HO155.out (fun _ hk => hk.2.2)))
               have n2_ := Aside0.mk (Kd.R_after (ok := (fun k_ => some k_ ≠ (.slice Ao59 x9_2.length co59 : Value).ownBlock ∧ k_ ≠ gb134)) (by (with_reducible repeat (first | apply Kd.R_alloc | apply Kd.R_drewN | apply Kd.R_drew)); exact Kd.R_mono HO158.out (fun _ hk => ⟨⟨hk.2.1, hk.2.2⟩, hk.1⟩)) hg hat)
               have n3_ := Aside0.mk (hb)
               have n4_ := Aside0.mk (ho)
               clear HO_9
               clear BK134
               clear HO158
               clear HB
               clear HO155
               have HO_9 := n0_
               have BK134 := n1_
               have HO158 := n2_
               have HB := n3_
               have HO161 := n4_
               clear n0_ n1_ n2_ n3_ n4_
               clear ho hb hg hat
               obtain ⟨Ao70, co70, eo70⟩ := Kd.R_slice HO161.out
               (first | subst eo70 | (injection eo70 with f1_ f2_ f3_; have f4_ := f1_.symm; have f5_ := f3_.symm; clear f1_ f2_ f3_; subst f4_; subst f5_))
               refine hK.out _ _ ⟨(blk_cell BK134.out 0).trans rfl, (blk_cell BK134.out 1).trans rfl⟩ (fun hHeld => ?_)
               clear hK K
               refine norm_ (a' := ?_) ?_ ?_
               rotate_left
               ·show Act.put _ (some 90) _ = _
                simp only [Act.put, List.setIfInBounds_toArray, List.set_cons_zero, List.set_cons_succ, i64_w, i32_w]
                rfl
               refine one_ (i := 7) (N := some 91) #[true, true, true, true, true, true, true, true, false, false, false, false, false] rfl rfl (one_of HT_.out (by kernel_rfl)) (by decide) (fun K hK => ?_)
               refine goes_ Try.func14 (by kernel_rfl) rfl #[.int .i64 a0, .slice Ao70 y159.length co70] (by rfl) rfl rfl (by (try simp only [List.map_toArray, List.map_cons, List.map_nil]); first | done | rfl | (simp only [List.length_drop, List.length_take]; rfl)) ?_
               with_reducible refine (win_All.calls k2 a0 _ _ y159 false t163 _ ?side1 ?side2 A38.out).mono ?_
               (case side1 => repeat (first | exact (Kd.R_reads' HO161.out).2.2 | (with_reducible refine Kd.C_alloc ?_ _) | (with_reducible refine Kd.C_drewN ?_ _) | (with_reducible refine Kd.C_drew ?_)))
               (case side2 => exact (Kd.R_reads' HO161.out).2.1)
               rintro e w71 ⟨rfl, hb⟩
               refine ⟨_, rfl, ?_⟩
               have n0_ := Aside0.mk (Kd.R_below HO_9.out hb)
               have n1_ := Aside0.mk (Kd.R_below HO158.out hb)
               have n2_ := Aside0.mk (Kd.R_below HO161.out hb)
               have n3_ := Aside0.mk (blk_below (g := gb134) (o := .cells #[.int .i64 a3_0, .int .i64 a3_1] 35 (0, 0)) BK134.out hb)
               have n4_ := Aside0.mk (below_step (by repeat (first | (with_reducible first | exact HB.out | apply below_alloc | apply pw_below_drewN | apply below_drew1 | refine below_set ?_ GE134.out) | exact HB.out)) hb)
               clear HO_9
               clear HO158
               clear HO161
               clear BK134
               clear HB
               have HO_9 := n0_
               have HO158 := n1_
               have HO161 := n2_
               have BK134 := n3_
               have HB := n4_
               clear n0_ n1_ n2_ n3_ n4_
               (try clear hb)
               (try clear hb2)
               (try clear hk)
               (try clear hi)
               refine hK.out _ _ ⟨(blk_cell BK134.out 0).trans rfl, (blk_cell BK134.out 1).trans rfl⟩ (fun hHeld => ?_)
               clear hK K
               refine norm_ (a' := ?_) ?_ ?_
               rotate_left
               ·show Act.put _ (some 91) _ = _
                simp only [Act.put, List.setIfInBounds_toArray, List.set_cons_zero, List.set_cons_succ, i64_w, i32_w]
                rfl
               refine pure_ (i := 8) (N := some 83) (v := ?_) (a' := ?_) #[true, true, true, true, true, true, true, true, true, false, false, false, false] rfl rfl (any_of HT_.out (by kernel_rfl)) (fun _ _ _ h => h) (Or.inl ⟨by rfl, ?_⟩) ?_ ?_
               rotate_left
               ·intro w'
                go_simp
                with_reducible rfl
               rotate_left
               ·simp only [Act.put, List.setIfInBounds_toArray, List.set_cons_zero, List.set_cons_succ, i64_w, i32_w]
                rfl
               refine pure_ (i := 9) (N := some 92) (v := ?_) (a' := ?_) #[true, true, true, true, true, true, true, true, true, true, false, false, false] rfl rfl (any_of HT_.out (by kernel_rfl)) (fun _ _ _ h => h) (Or.inl ⟨by rfl, ?_⟩) ?_ ?_
               rotate_left
               ·intro w'
                go_simp
                with_reducible rfl
               rotate_left
               ·simp only [Act.put, List.setIfInBounds_toArray, List.set_cons_zero, List.set_cons_succ, i64_w, i32_w]
                rfl
               refine pure_ (i := 10) (N := some 93) (v := ?_) (a' := ?_) #[true, true, true, true, true, true, true, true, true, true, true, false, false] rfl rfl (any_of HT_.out (by kernel_rfl)) (fun _ _ _ h => h) (Or.inl ⟨by rfl, ?_⟩) ?_ ?_
               rotate_left
               ·intro w'
                go_simp
                with_reducible rfl
               rotate_left
               ·simp only [Act.put, List.setIfInBounds_toArray, List.set_cons_zero, List.set_cons_succ, i64_w, i32_w]
                rfl
               refine pure_ (i := 11) (N := some 15) (v := ?_) (a' := ?_) #[true, true, true, true, true, true, true, true, true, true, true, true, false] rfl rfl (any_of HT_.out (by kernel_rfl)) (fun _ _ _ h => h) (Or.inl ⟨by rfl, ?_⟩) ?_ ?_
               rotate_left
               ·intro w'
                go_simp
                with_reducible rfl
               rotate_left
               ·simp only [Act.put, List.setIfInBounds_toArray, List.set_cons_zero, List.set_cons_succ, i64_w, i32_w]
                rfl
               refine pure_ (i := 12) (N := some 16) (v := ?_) (a' := ?_) #[true, true, true, true, true, true, true, true, true, true, true, true, true] rfl rfl (any_of HT_.out (by kernel_rfl)) (fun _ _ _ h => h) (Or.inl ⟨by rfl, ?_⟩) ?_ ?_
               rotate_left
               ·intro w'
                go_simp
                with_reducible rfl
               rotate_left
               ·simp only [Act.put, List.setIfInBounds_toArray, List.set_cons_zero, List.set_cons_succ, i64_w, i32_w]
                rfl
               refine done_ (done_of HT_.out (by kernel_rfl)) ?_
               try go_wp2
               go_ret
               exact ⟨by first | rfl | (simp [errW_none, errW_some] <;> rfl) | (simp [*, errW_none, errW_some] <;> rfl), by repeat (first | (with_reducible first | exact HB.out | apply below_alloc | apply pw_below_drewN | apply below_drew1 | refine below_set ?_ GE134.out) | exact HB.out)⟩
             ·rw [if_neg c42] at H
              have c42b0 : (t146 == t148) = false := by simpa using c42
              (try (have c42b1 : decide (t146 = t148) = false := by simpa using c42))
              (try (have c42b2 : (t146 == t148) = false := by simpa using c42))
              (try (have c42b3 : ¬ (t146 = t148) := by simpa using c42))
              clear c42
              obtain rfl := Option.some.inj H
              try go_wp2_with (first | ((with_reducible refine gate_callee (f := 14) rfl ?_); refine goesL_ (some 74) rfl rfl Try.func14 (by kernel_rfl) rfl #[.int .i64 a0, .slice A1 l1.length c1] rfl (by (try simp only [List.map_toArray, List.map_cons, List.map_nil]); first | done | rfl | (simp only [List.length_drop, List.length_take]; rfl)) ?_; (with_reducible refine (win_All.calls k2 a0 _ _ l1 t146 t147 _ ?side1 ?side2 A34.out).mono ?_); (case side1 => repeat (first | exact (Kd.C_below HR1.out HB.out) | (with_reducible refine Kd.C_alloc ?_ _) | (with_reducible refine Kd.C_drewN ?_ _) | (with_reducible refine Kd.C_drew ?_))); (case side2 => exact HC1.out); rintro e w72 ⟨rfl, hb⟩; refine ⟨_, rfl, ?_⟩; have n0_ := Aside0.mk (Kd.R_below HO_9.out hb); have n1_ := Aside0.mk (blk_below (g := gb134) (o := .cells #[.int .i64 a3_0, .int .i64 a3_1] 35 (0, 0)) BK134.out hb); have n2_ := Aside0.mk (below_step (by repeat (first | (with_reducible first | exact HB.out | apply below_alloc | apply pw_below_drewN | apply below_drew1 | refine below_set ?_ GE134.out) | exact HB.out)) hb); clear HO_9; clear BK134; clear HB; have HO_9 := n0_; have BK134 := n1_; have HB := n2_; clear n0_ n1_ n2_; (try clear hb); (try clear hb2); (try clear hk); (try clear hi); obtain ⟨Ao73, co73, eo73⟩ := Kd.R_slice HO_9.out; subst eo73) | ((with_reducible refine gate_callee (f := 14) rfl ?_); refine goesL_ (some 80) rfl rfl Try.func14 (by kernel_rfl) rfl #[.int .i64 a0, .slice Ao73 x9_2.length co73] rfl (by (try simp only [List.map_toArray, List.map_cons, List.map_nil]); first | done | rfl | (simp only [List.length_drop, List.length_take]; rfl)) ?_; (with_reducible refine (win_All.calls k2 a0 _ _ x9_2 t148 t149 _ ?side1 ?side2 A35.out).mono ?_); (case side1 => repeat (first | exact (Kd.R_reads' HO_9.out).2.2 | (with_reducible refine Kd.C_alloc ?_ _) | (with_reducible refine Kd.C_drewN ?_ _) | (with_reducible refine Kd.C_drew ?_))); (case side2 => exact (Kd.R_reads' HO_9.out).2.1); rintro e w74 ⟨rfl, hb⟩; refine ⟨_, rfl, ?_⟩; have n0_ := Aside0.mk (Kd.R_below HO_9.out hb); have n1_ := Aside0.mk (blk_below (g := gb134) (o := .cells #[.int .i64 a3_0, .int .i64 a3_1] 35 (0, 0)) BK134.out hb); have n2_ := Aside0.mk (below_step (by repeat (first | (with_reducible first | exact HB.out | apply below_alloc | apply pw_below_drewN | apply below_drew1 | refine below_set ?_ GE134.out) | exact HB.out)) hb); clear HO_9; clear BK134; clear HB; have HO_9 := n0_; have BK134 := n1_; have HB := n2_; clear n0_ n1_ n2_; (try clear hb); (try clear hb2); (try clear hk); (try clear hi)))
              have n0_ := Aside0.mk (Kd.R_drew HO_9.out)
              have n1_ := Aside0.mk (blk_drew BK134.out)
              have n2_ := Aside0.mk (below_drew1 HB.out)
              clear HO_9
              clear BK134
              clear HB
              have HO_9 := n0_
              have BK134 := n1_
              have HB := n2_
              clear n0_ n1_ n2_
              refine start_ (n := 13) (S := fun w' => w'.cell? ⟨gb134, 0, none⟩ = some (.int .i64 a3_0) ∧ w'.cell? ⟨gb134, 1, none⟩ = some (.int .i64 a3_1)) (ds := []) #[false, false, false, false, false, false, false, false, false, false, false, false, false] (by kernel_rfl) rfl rfl ⟨(blk_cell BK134.out 0).trans rfl, (blk_cell BK134.out 1).trans rfl⟩ (fun hHeld => ?_); refine with_tabW beadlelaw13_WinOrder.tab14 beadlelaw13_WinOrder.bits14 (fun HT_ HW_ => ?_)
              generalize w74.drew = w75 at HO_9 BK134 HB hHeld ⊢
              refine pure_ (i := 0) (N := some 84) (v := ?_) (a' := ?_) #[true, false, false, false, false, false, false, false, false, false, false, false, false] rfl rfl (any_of HT_.out (by kernel_rfl)) (fun _ _ _ h => h) (Or.inl ⟨by rfl, ?_⟩) ?_ ?_
              rotate_left
              ·intro w'
               go_simp
               with_reducible rfl
              rotate_left
              ·simp only [Act.put, List.setIfInBounds_toArray, List.set_cons_zero, List.set_cons_succ, i64_w, i32_w]
               rfl
              refine pure_ (i := 2) (N := some 86) (v := ?_) (a' := ?_) #[true, false, true, false, false, false, false, false, false, false, false, false, false] rfl rfl (any_of HT_.out (by kernel_rfl)) (fun _ _ _ h => h) (Or.inl ⟨by rfl, ?_⟩) ?_ ?_
              rotate_left
              ·intro w'
               go_simp
               with_reducible rfl
              rotate_left
              ·simp only [Act.put, List.setIfInBounds_toArray, List.set_cons_zero, List.set_cons_succ, i64_w, i32_w]
               rfl
              refine take_ (i := 4) (N := some 88) (v := ?_) (a' := ?_) #[true, false, true, false, true, false, false, false, false, false, false, false, false] rfl rfl (take_ofW HT_.out HW_.out (by kernel_rfl)) (fun _ _ _ h => h) (Or.inl ⟨by rfl, ?_⟩) hHeld ?_ ?_
              rotate_left
              ·rintro w' ⟨s0, s1⟩
               go_simp
               with_reducible rfl
              rotate_left
              ·simp only [Act.put, List.setIfInBounds_toArray, List.set_cons_zero, List.set_cons_succ, i64_w, i32_w]
               rfl
              refine join_ (σ := Value × Value × Value) 7 #[true, true, true, true, true, true, false, false, false, false, false, false, false] (fun s_ => [(85, s_.1), (87, s_.2.1), (89, s_.2.2)]) (fun s_ w' => (w'.cell? ⟨gb134, 0, none⟩ = some (.int .i64 a3_0) ∧ w'.cell? ⟨gb134, 1, none⟩ = some (.int .i64 a3_1)) ∧ (Kd.R k35 35 w' w.heap.size (fun k_ => some k_ ≠ (s_.2.2 : Value).ownBlock ∧ some k_ ≠ (.slice Ao73 x9_2.length co73 : Value).ownBlock ∧ k_ ≠ gb134) s_.2.1 y153) ∧ (Kd.R k35 35 w' w.heap.size (fun k_ => some k_ ≠ (s_.2.1 : Value).ownBlock ∧ some k_ ≠ (.slice Ao73 x9_2.length co73 : Value).ownBlock ∧ k_ ≠ gb134) s_.2.2 y156) ∧ (Kd.R k35 35 w' w.heap.size (fun k_ => some k_ ≠ (s_.2.1 : Value).ownBlock ∧ some k_ ≠ (s_.2.2 : Value).ownBlock ∧ k_ ≠ gb134) (.slice Ao73 x9_2.length co73) x9_2) ∧ (w'.heap[gb134]? = some (.cells #[.int .i64 a3_0, .int .i64 a3_1] 35 (0, 0))) ∧ (Below w.heap.size w w')) ?_ ?_
              rotate_left
              ·intro hCont
               refine two_ (i := 1) (j := 5) (Ni := some 85) (Nj := some 89) #[true, true, true, false, true, false, false, false, false, false, false, false, false] #[true, false, true, false, true, true, false, false, false, false, false, false, false] rfl rfl rfl rfl (two_of HT_.out (by kernel_rfl)) (by decide) (by decide) (fun K hK => ?_) (fun K hK => ?_)
               ·skip
                refine Kd.R_lit_step k35 _ 35 ?hg (N := 85) ?hd (xs := ([] : List (S35))) (inner := []) (ok := fun _ => True) (okp := fun _ => True) ?hr ?hp (fun _ hk => hk) trivial (Below.refl _ _) (Nat.le_refl _) (by simp) ?_; (case hd => rfl); (case hg => rfl); (case hr => first | (go_simp; done) | (go_simp; rfl)); (case hp => exact (Reps.none _ _))
                intro v151 w76 ho77 hb hg_ hnew_
                clear hg_ hnew_
                (first | rw [← Ny150.out] at ho77 | (simp only [Int.reduceToNat] at ho77; rw [← Ny150.out] at ho77))
                have n0_ := Aside0.mk (Kd.R_elder' HO_9.out (Kd.R_base ho77) hb)
                have n1_ := Aside0.mk (Kd.R_lower (Kd.R_newB (Kd.R_new' ho77 (Kd.R_lt HO_9.out)) (g := gb134) (o := .cells #[.int .i64 a3_0, .int .i64 a3_1] 35 (0, 0)) BK134.out) (below_size (by repeat (first | (with_reducible first | exact HB.out | apply below_alloc | apply pw_below_drewN | apply below_drew1 | refine below_set ?_ GE134.out) | exact HB.out))))
                have n2_ := Aside0.mk (blk_below (g := gb134) (o := .cells #[.int .i64 a3_0, .int .i64 a3_1] 35 (0, 0)) BK134.out hb)
                have n3_ := Aside0.mk (below_step (by repeat (first | (with_reducible first | exact HB.out | apply below_alloc | apply pw_below_drewN | apply below_drew1 | refine below_set ?_ GE134.out) | exact HB.out)) hb)
                clear HO_9
                clear BK134
                clear HB
                have HO_9 := n0_
                have HO152 := n1_
                have BK134 := n2_
                have HB := n3_
                clear n0_ n1_ n2_ n3_
                clear hb ho77
                refine hK.out _ _ ⟨(blk_cell BK134.out 0).trans rfl, (blk_cell BK134.out 1).trans rfl⟩ (fun hHeld => ?_)
                clear hK K
                refine norm_ (a' := ?_) ?_ ?_
                rotate_left
                ·show Act.put _ (some 85) _ = _
                 simp only [Act.put, List.setIfInBounds_toArray, List.set_cons_zero, List.set_cons_succ, i64_w, i32_w]
                 rfl
                refine two_ (i := 3) (j := 5) (Ni := some 87) (Nj := some 89) #[true, true, true, true, true, false, false, false, false, false, false, false, false] #[true, true, true, false, true, true, false, false, false, false, false, false, false] rfl rfl rfl rfl (two_of HT_.out (by kernel_rfl)) (by decide) (by decide) (fun K hK => ?_) (fun K hK => ?_)
                ·skip
                 refine Kd.R_append_rows_step k35 (w0 := w) w.heap.size (by rfl) (.tmp 85) (.tmp 86) 22 35 (.agg #[(.int .i64 0), (.int .i64 0)]) 16 rfl Try.underlying22 info35 rfl (by decide) (by omega) v151 y150 l1 _ _ _ (fun k_ => some k_ ≠ (.slice Ao73 x9_2.length co73 : Value).ownBlock ∧ k_ ≠ gb134) (fun _ => False) rfl rfl ?aO ?aR (fun _ _ h => h) (fun _ h => h.elim) ?aF ?aB ?aS ?aL ?_
                 (case aR => repeat (first | exact (Kd.C_below HR1.out HB.out) | (with_reducible refine Kd.C_alloc ?_ _) | (with_reducible refine Kd.C_drewN ?_ _) | (with_reducible refine Kd.C_drew ?_)))
                 (case aB => exact (by repeat (first | (with_reducible first | exact HB.out | apply below_alloc | apply pw_below_drewN | apply below_drew1 | refine below_set ?_ GE134.out) | exact HB.out)))
                 (case aF => exact (fun k_ hk => ⟨Kd.fresh' (Kd.R_lt HO_9.out) k_ hk, Kd.freshB (g := gb134) (o := .cells #[.int .i64 a3_0, .int .i64 a3_1] 35 (0, 0)) BK134.out k_ hk⟩))
                 (case aO => exact (by (with_reducible repeat (first | apply Kd.R_alloc | apply Kd.R_drewN | apply Kd.R_drew)); exact Kd.R_mono HO152.out (fun _ hk => ⟨hk.1.2, hk.2⟩)))
                 (case aS => exact (below_size (by repeat (first | (with_reducible first | exact HB.out | apply below_alloc | apply pw_below_drewN | apply below_drew1 | refine below_set ?_ GE134.out) | exact HB.out))))
                 (case aL => have := LMc36.out; omega)
                 intro v154 w78 ho hb hg hat
                 rw [← Ny153.out] at ho
                 have n0_ := Aside0.mk (Kd.R_after (ok := (fun k_ => k_ ≠ gb134)) HO_9.out hg hat)
                 have n1_ := Aside0.mk (blk_grown (g := gb134) (o := .cells #[.int .i64 a3_0, .int .i64 a3_1] 35 (0, 0)) BK134.out hg (Kd.R_away HO152.out (fun _ hk => hk.2)))
                 have n2_ := Aside0.mk (hb)
                 have n3_ := Aside0.mk (ho)
                 clear HO_9
                 clear BK134
                 clear HB
                 clear HO152
                 have HO_9 := n0_
                 have BK134 := n1_
                 have HB := n2_
                 have HO155 := n3_
                 clear n0_ n1_ n2_ n3_
                 clear ho hb hg hat
                 refine hK.out _ _ ⟨(blk_cell BK134.out 0).trans rfl, (blk_cell BK134.out 1).trans rfl⟩ (fun hHeld => ?_)
                 clear hK K
                 refine norm_ (a' := ?_) ?_ ?_
                 rotate_left
                 ·show Act.put _ (some 87) _ = _
                  simp only [Act.put, List.setIfInBounds_toArray, List.set_cons_zero, List.set_cons_succ, i64_w, i32_w]
                  rfl
                 refine one_ (i := 5) (N := some 89) #[true, true, true, true, true, true, false, false, false, false, false, false, false] rfl rfl (one_of HT_.out (by kernel_rfl)) (by decide) (fun K hK => ?_)
                 refine Kd.R_lit_step k35 _ 35 ?hg (N := 89) ?hd (xs := ([(⟨a3_0, a3_1⟩ : S35)] : List (S35))) (inner := [.int .i64 a3_0, .int .i64 a3_1]) (ok := fun _ => True) (okp := fun _ => True) ?hr ?hp (fun _ hk => hk) trivial (Below.refl _ _) (Nat.le_refl _) (by simp) ?_; (case hd => rfl); (case hg => rfl); (case hr => first | (go_simp; done) | (go_simp; rfl)); (case hp => exact (Reps.c2 (show Kd.M k35 _ _ _ (⟨a3_0, a3_1⟩ : S35) [.int .i64 a3_0, .int .i64 a3_1] from (k35_mkM _ _ _ (⟨a3_0, a3_1⟩ : S35) )) (Reps.none _ _)))
                 intro v157 w79 ho80 hb hg_ hnew_
                 clear hg_ hnew_
                 (first | rw [← Ny156.out] at ho80 | (simp only [Int.reduceToNat] at ho80; rw [← Ny156.out] at ho80))
                 have n0_ := Aside0.mk (Kd.R_elder' HO_9.out (Kd.R_base ho80) hb)
                 have n1_ := Aside0.mk (Kd.R_elder' HO155.out (Kd.R_base ho80) hb)
                 have n2_ := Aside0.mk (Kd.R_lower (Kd.R_newB (Kd.R_new' (Kd.R_new' ho80 (Kd.R_lt HO_9.out)) (Kd.R_lt HO155.out)) (g := gb134) (o := .cells #[.int .i64 a3_0, .int .i64 a3_1] 35 (0, 0)) BK134.out) (below_size (by repeat (first | (with_reducible first | exact HB.out | apply below_alloc | apply pw_below_drewN | apply below_drew1 | refine below_set ?_ GE134.out) | exact HB.out))))
                 have n3_ := Aside0.mk (blk_below (g := gb134) (o := .cells #[.int .i64 a3_0, .int .i64 a3_1] 35 (0, 0)) BK134.out hb)
                 have n4_ := Aside0.mk (below_step (by repeat (first | (with_reducible first | exact HB.out | apply below_alloc | apply pw_below_drewN | apply below_drew1 | refine below_set ?_ GE134.out) | exact HB.out)) hb)
                 clear HO_9
                 clear HO155
                 clear BK134
                 clear HB
                 have HO_9 := n0_
                 have HO155 := n1_
                 have HO158 := n2_
                 have BK134 := n3_
                 have HB := n4_
                 clear n0_ n1_ n2_ n3_ n4_
                 clear hb ho80
                 refine hK.out _ _ ⟨(blk_cell BK134.out 0).trans rfl, (blk_cell BK134.out 1).trans rfl⟩ (fun hHeld => ?_)
                 clear hK K
                 refine norm_ (a' := ?_) ?_ ?_
                 rotate_left
                 ·show Act.put _ (some 89) _ = _
                  simp only [Act.put, List.setIfInBounds_toArray, List.set_cons_zero, List.set_cons_succ, i64_w, i32_w]
                  rfl
                 exact norm_ (by simp only [putAll, Act.put, List.setIfInBounds_toArray, List.set_cons_zero, List.set_cons_succ]) (hCont (v151, v154, v157) _ ⟨hHeld, (by (with_reducible repeat (first | apply Kd.R_alloc | apply Kd.R_drewN | apply Kd.R_drew)); exact Kd.R_mono HO155.out (fun _ hk => ⟨hk.2, ⟨hk.1.1, hk.1.2⟩⟩)), (by (with_reducible repeat (first | apply Kd.R_alloc | apply Kd.R_drewN | apply Kd.R_drew)); exact Kd.R_mono HO158.out (fun _ hk => ⟨hk.1.2, ⟨hk.1.1.2, hk.2⟩⟩)), (by (with_reducible repeat (first | apply Kd.R_alloc | apply Kd.R_drewN | apply Kd.R_drew)); exact Kd.R_mono HO_9.out (fun _ hk => ⟨hk.1.2, ⟨hk.2, hk.1.1⟩⟩)), BK134.out, (by repeat (first | (with_reducible first | exact HB.out | apply below_alloc | apply pw_below_drewN | apply below_drew1 | refine below_set ?_ GE134.out) | exact HB.out))⟩)
                ·skip
                 refine Kd.R_lit_step k35 _ 35 ?hg (N := 89) ?hd (xs := ([(⟨a3_0, a3_1⟩ : S35)] : List (S35))) (inner := [.int .i64 a3_0, .int .i64 a3_1]) (ok := fun _ => True) (okp := fun _ => True) ?hr ?hp (fun _ hk => hk) trivial (Below.refl _ _) (Nat.le_refl _) (by simp) ?_; (case hd => rfl); (case hg => rfl); (case hr => first | (go_simp; done) | (go_simp; rfl)); (case hp => exact (Reps.c2 (show Kd.M k35 _ _ _ (⟨a3_0, a3_1⟩ : S35) [.int .i64 a3_0, .int .i64 a3_1] from (k35_mkM _ _ _ (⟨a3_0, a3_1⟩ : S35) )) (Reps.none _ _)))
                 intro v157 w78 ho79 hb hg_ hnew_
                 clear hg_ hnew_
                 (first | rw [← Ny156.out] at ho79 | (simp only [Int.reduceToNat] at ho79; rw [← Ny156.out] at ho79))
                 have n0_ := Aside0.mk (Kd.R_elder' HO_9.out (Kd.R_base ho79) hb)
                 have n1_ := Aside0.mk (Kd.R_elder' HO152.out (Kd.R_base ho79) hb)
                 have n2_ := Aside0.mk (Kd.R_lower (Kd.R_newB (Kd.R_new' (Kd.R_new' ho79 (Kd.R_lt HO_9.out)) (Kd.R_lt HO152.out)) (g := gb134) (o := .cells #[.int .i64 a3_0, .int .i64 a3_1] 35 (0, 0)) BK134.out) (below_size (by repeat (first | (with_reducible first | exact HB.out | apply below_alloc | apply pw_below_drewN | apply below_drew1 | refine below_set ?_ GE134.out) | exact HB.out))))
                 have n3_ := Aside0.mk (blk_below (g := gb134) (o := .cells #[.int .i64 a3_0, .int .i64 a3_1] 35 (0, 0)) BK134.out hb)
                 have n4_ := Aside0.mk (below_step (by repeat (first | (with_reducible first | exact HB.out | apply below_alloc | apply pw_below_drewN | apply below_drew1 | refine below_set ?_ GE134.out) | exact HB.out)) hb)
                 clear HO_9
                 clear HO152
                 clear BK134
                 clear HB
                 have HO_9 := n0_
                 have HO152 := n1_
                 have HO158 := n2_
                 have BK134 := n3_
                 have HB := n4_
                 clear n0_ n1_ n2_ n3_ n4_
                 clear hb ho79
                 refine hK.out _ _ ⟨(blk_cell BK134.out 0).trans rfl, (blk_cell BK134.out 1).trans rfl⟩ (fun hHeld => ?_)
                 clear hK K
                 refine norm_ (a' := ?_) ?_ ?_
                 rotate_left
                 ·show Act.put _ (some 89) _ = _
                  simp only [Act.put, List.setIfInBounds_toArray, List.set_cons_zero, List.set_cons_succ, i64_w, i32_w]
                  rfl
                 refine one_ (i := 3) (N := some 87) #[true, true, true, true, true, true, false, false, false, false, false, false, false] rfl rfl (one_of HT_.out (by kernel_rfl)) (by decide) (fun K hK => ?_)
                 refine Kd.R_append_rows_step k35 (w0 := w) w.heap.size (by rfl) (.tmp 85) (.tmp 86) 22 35 (.agg #[(.int .i64 0), (.int .i64 0)]) 16 rfl Try.underlying22 info35 rfl (by decide) (by omega) v151 y150 l1 _ _ _ (fun k_ => some k_ ≠ (.slice Ao73 x9_2.length co73 : Value).ownBlock ∧ some k_ ≠ (v157 : Value).ownBlock ∧ k_ ≠ gb134) (fun _ => False) rfl rfl ?aO ?aR (fun _ _ h => h) (fun _ h => h.elim) ?aF ?aB ?aS ?aL ?_
                 (case aR => repeat (first | exact (Kd.C_below HR1.out HB.out) | (with_reducible refine Kd.C_alloc ?_ _) | (with_reducible refine Kd.C_drewN ?_ _) | (with_reducible refine Kd.C_drew ?_)))
                 (case aB => exact (by repeat (first | (with_reducible first | exact HB.out | apply below_alloc | apply pw_below_drewN | apply below_drew1 | refine below_set ?_ GE134.out) | exact HB.out)))
                 (case aF => exact (fun k_ hk => ⟨Kd.fresh' (Kd.R_lt HO_9.out) k_ hk, Kd.fresh' (Kd.R_lt HO158.out) k_ hk, Kd.freshB (g := gb134) (o := .cells #[.int .i64 a3_0, .int .i64 a3_1] 35 (0, 0)) BK134.out k_ hk⟩))
                 (case aO => exact (by (with_reducible repeat (first | apply Kd.R_alloc | apply Kd.R_drewN | apply Kd.R_drew)); exact Kd.R_mono HO152.out (fun _ hk => ⟨hk.1.1.2, ⟨hk.2, hk.1.2⟩⟩)))
                 (case aS => exact (below_size (by repeat (first | (with_reducible first | exact HB.out | apply below_alloc | apply pw_below_drewN | apply below_drew1 | refine below_set ?_ GE134.out) | exact HB.out))))
                 (case aL => have := LMc36.out; omega)
                 intro v154 w80 ho hb hg hat
                 rw [← Ny153.out] at ho
                 have n0_ := Aside0.mk (Kd.R_after (ok := (fun k_ => some k_ ≠ (v157 : Value).ownBlock ∧ k_ ≠ gb134)) (by (with_reducible repeat (first | apply Kd.R_alloc | apply Kd.R_drewN | apply Kd.R_drew)); exact Kd.R_mono HO_9.out (fun _ hk => ⟨⟨hk.2, hk.1.1⟩, hk.1.2⟩)) hg hat)
                 have n1_ := Aside0.mk (blk_grown (g := gb134) (o := .cells #[.int .i64 a3_0, .int .i64 a3_1] 35 (0, 0)) BK134.out hg (Kd.R_away HO152.out (fun _ hk => hk.1.2)))
                 have n2_ := Aside0.mk (Kd.R_after (ok := (fun k_ => some k_ ≠ (.slice Ao73 x9_2.length co73 : Value).ownBlock ∧ k_ ≠ gb134)) (by (with_reducible repeat (first | apply Kd.R_alloc | apply Kd.R_drewN | apply Kd.R_drew)); exact Kd.R_mono HO158.out (fun _ hk => ⟨⟨hk.1.1.2, hk.2⟩, hk.1.2⟩)) hg hat)
                 have n3_ := Aside0.mk (hb)
                 have n4_ := Aside0.mk (ho)
                 clear HO_9
                 clear BK134
                 clear HO158
                 clear HB
                 clear HO152
                 have HO_9 := n0_
                 have BK134 := n1_
                 have HO158 := n2_
                 have HB := n3_
                 have HO155 := n4_
                 clear n0_ n1_ n2_ n3_ n4_
                 clear ho hb hg hat
                 refine hK.out _ _ ⟨(blk_cell BK134.out 0).trans rfl, (blk_cell BK134.out 1).trans rfl⟩ (fun hHeld => ?_)
                 clear hK K
                 refine norm_ (a' := ?_) ?_ ?_
                 rotate_left
                 ·show Act.put _ (some 87) _ = _
                  simp only [Act.put, List.setIfInBounds_toArray, List.set_cons_zero, List.set_cons_succ, i64_w, i32_w]
                  rfl
                 exact norm_ (by simp only [putAll, Act.put, List.setIfInBounds_toArray, List.set_cons_zero, List.set_cons_succ]) (hCont (v151, v154, v157) _ ⟨hHeld, (by (with_reducible repeat (first | apply Kd.R_alloc | apply Kd.R_drewN | apply Kd.R_drew)); exact Kd.R_mono HO155.out (fun _ hk => ⟨hk.2.1, ⟨hk.1, hk.2.2⟩⟩)), (by (with_reducible repeat (first | apply Kd.R_alloc | apply Kd.R_drewN | apply Kd.R_drew)); exact Kd.R_mono HO158.out (fun _ hk => ⟨hk.2, ⟨hk.1.1, hk.1.2⟩⟩)), (by (with_reducible repeat (first | apply Kd.R_alloc | apply Kd.R_drewN | apply Kd.R_drew)); exact Kd.R_mono HO_9.out (fun _ hk => ⟨hk.2, ⟨hk.1.1, hk.1.2⟩⟩)), BK134.out, (by repeat (first | (with_reducible first | exact HB.out | apply below_alloc | apply pw_below_drewN | apply below_drew1 | refine below_set ?_ GE134.out) | exact HB.out))⟩)
               ·skip
                refine Kd.R_lit_step k35 _ 35 ?hg (N := 89) ?hd (xs := ([(⟨a3_0, a3_1⟩ : S35)] : List (S35))) (inner := [.int .i64 a3_0, .int .i64 a3_1]) (ok := fun _ => True) (okp := fun _ => True) ?hr ?hp (fun _ hk => hk) trivial (Below.refl _ _) (Nat.le_refl _) (by simp) ?_; (case hd => rfl); (case hg => rfl); (case hr => first | (go_simp; done) | (go_simp; rfl)); (case hp => exact (Reps.c2 (show Kd.M k35 _ _ _ (⟨a3_0, a3_1⟩ : S35) [.int .i64 a3_0, .int .i64 a3_1] from (k35_mkM _ _ _ (⟨a3_0, a3_1⟩ : S35) )) (Reps.none _ _)))
                intro v157 w76 ho77 hb hg_ hnew_
                clear hg_ hnew_
                (first | rw [← Ny156.out] at ho77 | (simp only [Int.reduceToNat] at ho77; rw [← Ny156.out] at ho77))
                have n0_ := Aside0.mk (Kd.R_elder' HO_9.out (Kd.R_base ho77) hb)
                have n1_ := Aside0.mk (Kd.R_lower (Kd.R_newB (Kd.R_new' ho77 (Kd.R_lt HO_9.out)) (g := gb134) (o := .cells #[.int .i64 a3_0, .int .i64 a3_1] 35 (0, 0)) BK134.out) (below_size (by repeat (first | (with_reducible first | exact HB.out | apply below_alloc | apply pw_below_drewN | apply below_drew1 | refine below_set ?_ GE134.out) | exact HB.out))))
                have n2_ := Aside0.mk (blk_below (g := gb134) (o := .cells #[.int .i64 a3_0, .int .i64 a3_1] 35 (0, 0)) BK134.out hb)
                have n3_ := Aside0.mk (below_step (by repeat (first | (with_reducible first | exact HB.out | apply below_alloc | apply pw_below_drewN | apply below_drew1 | refine below_set ?_ GE134.out) | exact HB.out)) hb)
                clear HO_9
                clear BK134
                clear HB
                have HO_9 := n0_
                have HO158 := n1_
                have BK134 := n2_
                have HB := n3_
                clear n0_ n1_ n2_ n3_
                clear hb ho77
                refine hK.out _ _ ⟨(blk_cell BK134.out 0).trans rfl, (blk_cell BK134.out 1).trans rfl⟩ (fun hHeld => ?_)
                clear hK K
                refine norm_ (a' := ?_) ?_ ?_
                rotate_left
                ·show Act.put _ (some 89) _ = _
                 simp only [Act.put, List.setIfInBounds_toArray, List.set_cons_zero, List.set_cons_succ, i64_w, i32_w]
                 rfl
                refine one_ (i := 1) (N := some 85) #[true, true, true, false, true, true, false, false, false, false, false, false, false] rfl rfl (one_of HT_.out (by kernel_rfl)) (by decide) (fun K hK => ?_)
                refine Kd.R_lit_step k35 _ 35 ?hg (N := 85) ?hd (xs := ([] : List (S35))) (inner := []) (ok := fun _ => True) (okp := fun _ => True) ?hr ?hp (fun _ hk => hk) trivial (Below.refl _ _) (Nat.le_refl _) (by simp) ?_; (case hd => rfl); (case hg => rfl); (case hr => first | (go_simp; done) | (go_simp; rfl)); (case hp => exact (Reps.none _ _))
                intro v151 w78 ho79 hb hg_ hnew_
                clear hg_ hnew_
                (first | rw [← Ny150.out] at ho79 | (simp only [Int.reduceToNat] at ho79; rw [← Ny150.out] at ho79))
                have n0_ := Aside0.mk (Kd.R_elder' HO_9.out (Kd.R_base ho79) hb)
                have n1_ := Aside0.mk (Kd.R_elder' HO158.out (Kd.R_base ho79) hb)
                have n2_ := Aside0.mk (Kd.R_lower (Kd.R_newB (Kd.R_new' (Kd.R_new' ho79 (Kd.R_lt HO_9.out)) (Kd.R_lt HO158.out)) (g := gb134) (o := .cells #[.int .i64 a3_0, .int .i64 a3_1] 35 (0, 0)) BK134.out) (below_size (by repeat (first | (with_reducible first | exact HB.out | apply below_alloc | apply pw_below_drewN | apply below_drew1 | refine below_set ?_ GE134.out) | exact HB.out))))
                have n3_ := Aside0.mk (blk_below (g := gb134) (o := .cells #[.int .i64 a3_0, .int .i64 a3_1] 35 (0, 0)) BK134.out hb)
                have n4_ := Aside0.mk (below_step (by repeat (first | (with_reducible first | exact HB.out | apply below_alloc | apply pw_below_drewN | apply below_drew1 | refine below_set ?_ GE134.out) | exact HB.out)) hb)
                clear HO_9
                clear HO158
                clear BK134
                clear HB
                have HO_9 := n0_
                have HO158 := n1_
                have HO152 := n2_
                have BK134 := n3_
                have HB := n4_
                clear n0_ n1_ n2_ n3_ n4_
                clear hb ho79
                refine hK.out _ _ ⟨(blk_cell BK134.out 0).trans rfl, (blk_cell BK134.out 1).trans rfl⟩ (fun hHeld => ?_)
                clear hK K
                refine norm_ (a' := ?_) ?_ ?_
                rotate_left
                ·show Act.put _ (some 85) _ = _
                 simp only [Act.put, List.setIfInBounds_toArray, List.set_cons_zero, List.set_cons_succ, i64_w, i32_w]
                 rfl
                refine one_ (i := 3) (N := some 87) #[true, true, true, true, true, true, false, false, false, false, false, false, false] rfl rfl (one_of HT_.out (by kernel_rfl)) (by decide) (fun K hK => ?_)
                refine Kd.R_append_rows_step k35 (w0 := w) w.heap.size (by rfl) (.tmp 85) (.tmp 86) 22 35 (.agg #[(.int .i64 0), (.int .i64 0)]) 16 rfl Try.underlying22 info35 rfl (by decide) (by omega) v151 y150 l1 _ _ _ (fun k_ => some k_ ≠ (.slice Ao73 x9_2.length co73 : Value).ownBlock ∧ some k_ ≠ (v157 : Value).ownBlock ∧ k_ ≠ gb134) (fun _ => False) rfl rfl ?aO ?aR (fun _ _ h => h) (fun _ h => h.elim) ?aF ?aB ?aS ?aL ?_
                (case aR => repeat (first | exact (Kd.C_below HR1.out HB.out) | (with_reducible refine Kd.C_alloc ?_ _) | (with_reducible refine Kd.C_drewN ?_ _) | (with_reducible refine Kd.C_drew ?_)))
                (case aB => exact (by repeat (first | (with_reducible first | exact HB.out | apply below_alloc | apply pw_below_drewN | apply below_drew1 | refine below_set ?_ GE134.out) | exact HB.out)))
                (case aF => exact (fun k_ hk => ⟨Kd.fresh' (Kd.R_lt HO_9.out) k_ hk, Kd.fresh' (Kd.R_lt HO158.out) k_ hk, Kd.freshB (g := gb134) (o := .cells #[.int .i64 a3_0, .int .i64 a3_1] 35 (0, 0)) BK134.out k_ hk⟩))
                (case aO => exact (by (with_reducible repeat (first | apply Kd.R_alloc | apply Kd.R_drewN | apply Kd.R_drew)); exact Kd.R_mono HO152.out (fun _ hk => ⟨hk.1.1.2, ⟨hk.1.2, hk.2⟩⟩)))
                (case aS => exact (below_size (by repeat (first | (with_reducible first | exact HB.out | apply below_alloc | apply pw_below_drewN | apply below_drew1 | refine below_set ?_ GE134.out) | exact HB.out))))
                (case aL => have := LMc36.out; omega)
                intro v154 w80 ho hb hg hat
                rw [← Ny153.out] at ho
                have n0_ := Aside0.mk (Kd.R_after (ok := (fun k_ => some k_ ≠ (v157 : Value).ownBlock ∧ k_ ≠ gb134)) (by (with_reducible repeat (first | apply Kd.R_alloc | apply Kd.R_drewN | apply Kd.R_drew)); exact Kd.R_mono HO_9.out (fun _ hk => ⟨⟨hk.1.2, hk.1.1⟩, hk.2⟩)) hg hat)
                have n1_ := Aside0.mk (blk_grown (g := gb134) (o := .cells #[.int .i64 a3_0, .int .i64 a3_1] 35 (0, 0)) BK134.out hg (Kd.R_away HO152.out (fun _ hk => hk.2)))
                have n2_ := Aside0.mk (Kd.R_after (ok := (fun k_ => some k_ ≠ (.slice Ao73 x9_2.length co73 : Value).ownBlock ∧ k_ ≠ gb134)) (by (with_reducible repeat (first | apply Kd.R_alloc | apply Kd.R_drewN | apply Kd.R_drew)); exact Kd.R_mono HO158.out (fun _ hk => ⟨⟨hk.1.1.2, hk.1.2⟩, hk.2⟩)) hg hat)
                have n3_ := Aside0.mk (hb)
                have n4_ := Aside0.mk (ho)
                clear HO_9
                clear BK134
                clear HO158
                clear HB
                clear HO152
                have HO_9 := n0_
                have BK134 := n1_
                have HO158 := n2_
                have HB := n3_
                have HO155 := n4_
                clear n0_ n1_ n2_ n3_ n4_
                clear ho hb hg hat
                refine hK.out _ _ ⟨(blk_cell BK134.out 0).trans rfl, (blk_cell BK134.out 1).trans rfl⟩ (fun hHeld => ?_)
                clear hK K
                refine norm_ (a' := ?_) ?_ ?_
                rotate_left
                ·show Act.put _ (some 87) _ = _
                 simp only [Act.put, List.setIfInBounds_toArray, List.set_cons_zero, List.set_cons_succ, i64_w, i32_w]
                 rfl
                exact norm_ (by simp only [putAll, Act.put, List.setIfInBounds_toArray, List.set_cons_zero, List.set_cons_succ]) (hCont (v151, v154, v157) _ ⟨hHeld, (by (with_reducible repeat (first | apply Kd.R_alloc | apply Kd.R_drewN | apply Kd.R_drew)); exact Kd.R_mono HO155.out (fun _ hk => ⟨hk.2.1, ⟨hk.1, hk.2.2⟩⟩)), (by (with_reducible repeat (first | apply Kd.R_alloc | apply Kd.R_drewN | apply Kd.R_drew)); exact Kd.R_mono HO158.out (fun _ hk => ⟨hk.2, ⟨hk.1.1, hk.1.2⟩⟩)), (by (with_reducible repeat (first | apply Kd.R_alloc | apply Kd.R_drewN | apply Kd.R_drew)); exact Kd.R_mono HO_9.out (fun _ hk => ⟨hk.2, ⟨hk.1.1, hk.1.2⟩⟩)), BK134.out, (by repeat (first | (with_reducible first | exact HB.out | apply below_alloc | apply pw_below_drewN | apply below_drew1 | refine below_set ?_ GE134.out) | exact HB.out))⟩)
              rintro ⟨v151, v154, v157⟩ w81 ⟨hS_, h0_, h1_, h2_, h3_, h4_⟩
              have n0_ : Aside0 (Kd.R k35 35 w81 w.heap.size (fun k_ => some k_ ≠ (v157 : Value).ownBlock ∧ some k_ ≠ (.slice Ao73 x9_2.length co73 : Value).ownBlock ∧ k_ ≠ gb134) v154 y153) := ⟨h0_⟩
              have n1_ : Aside0 (Kd.R k35 35 w81 w.heap.size (fun k_ => some k_ ≠ (v154 : Value).ownBlock ∧ some k_ ≠ (.slice Ao73 x9_2.length co73 : Value).ownBlock ∧ k_ ≠ gb134) v157 y156) := ⟨h1_⟩
              have n2_ : Aside0 (Kd.R k35 35 w81 w.heap.size (fun k_ => some k_ ≠ (v154 : Value).ownBlock ∧ some k_ ≠ (v157 : Value).ownBlock ∧ k_ ≠ gb134) (.slice Ao73 x9_2.length co73) x9_2) := ⟨h2_⟩
              have n3_ : Aside0 (w81.heap[gb134]? = some (.cells #[.int .i64 a3_0, .int .i64 a3_1] 35 (0, 0))) := ⟨h3_⟩
              have n4_ : Aside0 (Below w.heap.size w w81) := ⟨h4_⟩
              clear HO_9
              clear BK134
              clear HB
              clear h0_ h1_ h2_ h3_ h4_
              have HO155 := n0_
              have HO158 := n1_
              have HO_9 := n2_
              have BK134 := n3_
              have HB := n4_
              clear n0_ n1_ n2_ n3_ n4_
              have hHeld : w81.cell? ⟨gb134, 0, none⟩ = some (.int .i64 a3_0) ∧ w81.cell? ⟨gb134, 1, none⟩ = some (.int .i64 a3_1) := hS_
              obtain ⟨Ao83, co83, eo83⟩ := Kd.R_slice HO158.out
              (first | subst eo83 | (injection eo83 with f1_ f2_ f3_; have f4_ := f1_.symm; have f5_ := f3_.symm; clear f1_ f2_ f3_; subst f4_; subst f5_))
              refine norm_ (a' := ?_) ?_ ?_
              rotate_left
              ·simp only [putAll, Act.put, List.setIfInBounds_toArray, List.set_cons_zero, List.set_cons_succ]
               rfl
              refine one_ (i := 6) (N := some 90) #[true, true, true, true, true, true, true, false, false, false, false, false, false] rfl rfl (one_of HT_.out (by kernel_rfl)) (by decide) (fun K hK => ?_)
              refine Kd.R_append_rows_step k35 (w0 := w) w.heap.size (by rfl) (.tmp 87) (.tmp 89) 22 35 (.agg #[(.int .i64 0), (.int .i64 0)]) 16 rfl Try.underlying22 info35 rfl (by decide) (by omega) v154 y153 y156 _ _ _ (fun k_ => some k_ ≠ (.slice Ao73 x9_2.length co73 : Value).ownBlock ∧ some k_ ≠ (.slice Ao83 y156.length co83 : Value).ownBlock ∧ k_ ≠ gb134) (fun _ => False) rfl rfl ?aO ?aR (fun _ _ h => h) (fun _ h => h.elim) ?aF ?aB ?aS ?aL ?_
              (case aR => repeat (first | exact (Kd.R_reads' HO158.out).2.2 | (with_reducible refine Kd.C_alloc ?_ _) | (with_reducible refine Kd.C_drewN ?_ _) | (with_reducible refine Kd.C_drew ?_)))
              (case aB => exact (by repeat (first | (with_reducible first | exact HB.out | apply below_alloc | apply pw_below_drewN | apply below_drew1 | refine below_set ?_ GE134.out) | exact HB.out)))
              (case aF => exact (fun k_ hk => ⟨Kd.fresh' (Kd.R_lt HO_9.out) k_ hk, Kd.fresh' (Kd.R_lt HO158.out) k_ hk, Kd.freshB (g := gb134) (o := .cells #[.int .i64 a3_0, .int .i64 a3_1] 35 (0, 0)) BK134.out k_ hk⟩))
              (case aO => exact (by (with_reducible repeat (first | apply Kd.R_alloc | apply Kd.R_drewN | apply Kd.R_drew)); exact Kd.R_mono HO155.out (fun _ hk => ⟨hk.2.1, ⟨hk.1, hk.2.2⟩⟩)))
              (case aS => exact (below_size (by repeat (first | (with_reducible first | exact HB.out | apply below_alloc | apply pw_below_drewN | apply below_drew1 | refine below_set ?_ GE134.out) | exact HB.out))))
              (case aL => have := LMc37.out; omega)
              intro v160 w82 ho hb hg hat
              rw [← Ny159.out] at ho
              have n0_ := Aside0.mk (Kd.R_after (ok := (fun k_ => some k_ ≠ (.slice Ao83 y156.length co83 : Value).ownBlock ∧ k_ ≠ gb134)) (by (with_reducible repeat (first | apply Kd.R_alloc | apply Kd.R_drewN | apply Kd.R_drew)); exact Kd.R_mono HO_9.out (fun _ hk => ⟨⟨hk.2.1, hk.2.2⟩, hk.1⟩)) hg hat)
              have n1_ := Aside0.mk (blk_grown (g := gb134) (o := .cells #[.int .i64 a3_0, .int .i64 a3_1] 35 (0, 0)) BK134.out hg (Kd.R_away HO155.out (fun _ hk => hk.2.2)))
              have n2_ := Aside0.mk (Kd.R_after (ok := (fun k_ => some k_ ≠ (.slice Ao73 x9_2.length co73 : Value).ownBlock ∧ k_ ≠ gb134)) (by (with_reducible repeat (first | apply Kd.R_alloc | apply Kd.R_drewN | apply Kd.R_drew)); exact Kd.R_mono HO158.out (fun _ hk => ⟨⟨hk.2.1, hk.2.2⟩, hk.1⟩)) hg hat)
              have n3_ := Aside0.mk (hb)
              have n4_ := Aside0.mk (ho)
              clear HO_9
              clear BK134
              clear HO158
              clear HB
              clear HO155
              have HO_9 := n0_
              have BK134 := n1_
              have HO158 := n2_
              have HB := n3_
              have HO161 := n4_
              clear n0_ n1_ n2_ n3_ n4_
              clear ho hb hg hat
              obtain ⟨Ao84, co84, eo84⟩ := Kd.R_slice HO161.out
              (first | subst eo84 | (injection eo84 with f1_ f2_ f3_; have f4_ := f1_.symm; have f5_ := f3_.symm; clear f1_ f2_ f3_; subst f4_; subst f5_))
              refine hK.out _ _ ⟨(blk_cell BK134.out 0).trans rfl, (blk_cell BK134.out 1).trans rfl⟩ (fun hHeld => ?_)
              clear hK K
              refine norm_ (a' := ?_) ?_ ?_
              rotate_left
              ·show Act.put _ (some 90) _ = _
               simp only [Act.put, List.setIfInBounds_toArray, List.set_cons_zero, List.set_cons_succ, i64_w, i32_w]
               rfl
              refine one_ (i := 7) (N := some 91) #[true, true, true, true, true, true, true, true, false, false, false, false, false] rfl rfl (one_of HT_.out (by kernel_rfl)) (by decide) (fun K hK => ?_)
              refine goes_ Try.func14 (by kernel_rfl) rfl #[.int .i64 a0, .slice Ao84 y159.length co84] (by rfl) rfl rfl (by (try simp only [List.map_toArray, List.map_cons, List.map_nil]); first | done | rfl | (simp only [List.length_drop, List.length_take]; rfl)) ?_
              with_reducible refine (win_All.calls k2 a0 _ _ y159 t162 t163 _ ?side1 ?side2 A38.out).mono ?_
              (case side1 => repeat (first | exact (Kd.R_reads' HO161.out).2.2 | (with_reducible refine Kd.C_alloc ?_ _) | (with_reducible refine Kd.C_drewN ?_ _) | (with_reducible refine Kd.C_drew ?_)))
              (case side2 => exact (Kd.R_reads' HO161.out).2.1)
              rintro e w85 ⟨rfl, hb⟩
              refine ⟨_, rfl, ?_⟩
              have n0_ := Aside0.mk (Kd.R_below HO_9.out hb)
              have n1_ := Aside0.mk (Kd.R_below HO158.out hb)
              have n2_ := Aside0.mk (Kd.R_below HO161.out hb)
              have n3_ := Aside0.mk (blk_below (g := gb134) (o := .cells #[.int .i64 a3_0, .int .i64 a3_1] 35 (0, 0)) BK134.out hb)
              have n4_ := Aside0.mk (below_step (by repeat (first | (with_reducible first | exact HB.out | apply below_alloc | apply pw_below_drewN | apply below_drew1 | refine below_set ?_ GE134.out) | exact HB.out)) hb)
              clear HO_9
              clear HO158
              clear HO161
              clear BK134
              clear HB
              have HO_9 := n0_
              have HO158 := n1_
              have HO161 := n2_
              have BK134 := n3_
              have HB := n4_
              clear n0_ n1_ n2_ n3_ n4_
              (try clear hb)
              (try clear hb2)
              (try clear hk)
              (try clear hi)
              refine hK.out _ _ ⟨(blk_cell BK134.out 0).trans rfl, (blk_cell BK134.out 1).trans rfl⟩ (fun hHeld => ?_)
              clear hK K
              refine norm_ (a' := ?_) ?_ ?_
              rotate_left
              ·show Act.put _ (some 91) _ = _
               simp only [Act.put, List.setIfInBounds_toArray, List.set_cons_zero, List.set_cons_succ, i64_w, i32_w]
               rfl
              refine pure_ (i := 8) (N := some 83) (v := ?_) (a' := ?_) #[true, true, true, true, true, true, true, true, true, false, false, false, false] rfl rfl (any_of HT_.out (by kernel_rfl)) (fun _ _ _ h => h) (Or.inl ⟨by rfl, ?_⟩) ?_ ?_
              rotate_left
              ·intro w'
               go_simp
               with_reducible rfl
              rotate_left
              ·simp only [Act.put, List.setIfInBounds_toArray, List.set_cons_zero, List.set_cons_succ, i64_w, i32_w]
               rfl
              refine pure_ (i := 9) (N := some 92) (v := ?_) (a' := ?_) #[true, true, true, true, true, true, true, true, true, true, false, false, false] rfl rfl (any_of HT_.out (by kernel_rfl)) (fun _ _ _ h => h) (Or.inl ⟨by rfl, ?_⟩) ?_ ?_
              rotate_left
              ·intro w'
               go_simp
               with_reducible rfl
              rotate_left
              ·simp only [Act.put, List.setIfInBounds_toArray, List.set_cons_zero, List.set_cons_succ, i64_w, i32_w]
               rfl
              refine pure_ (i := 10) (N := some 93) (v := ?_) (a' := ?_) #[true, true, true, true, true, true, true, true, true, true, true, false, false] rfl rfl (any_of HT_.out (by kernel_rfl)) (fun _ _ _ h => h) (Or.inl ⟨by rfl, ?_⟩) ?_ ?_
              rotate_left
              ·intro w'
               go_simp
               with_reducible rfl
              rotate_left
              ·simp only [Act.put, List.setIfInBounds_toArray, List.set_cons_zero, List.set_cons_succ, i64_w, i32_w]
               rfl
              refine pure_ (i := 11) (N := some 15) (v := ?_) (a' := ?_) #[true, true, true, true, true, true, true, true, true, true, true, true, false] rfl rfl (any_of HT_.out (by kernel_rfl)) (fun _ _ _ h => h) (Or.inl ⟨by rfl, ?_⟩) ?_ ?_
              rotate_left
              ·intro w'
               go_simp
               with_reducible rfl
              rotate_left
              ·simp only [Act.put, List.setIfInBounds_toArray, List.set_cons_zero, List.set_cons_succ, i64_w, i32_w]
               rfl
              refine pure_ (i := 12) (N := some 16) (v := ?_) (a' := ?_) #[true, true, true, true, true, true, true, true, true, true, true, true, true] rfl rfl (any_of HT_.out (by kernel_rfl)) (fun _ _ _ h => h) (Or.inl ⟨by rfl, ?_⟩) ?_ ?_
              rotate_left
              ·intro w'
               go_simp
               with_reducible rfl
              rotate_left
              ·simp only [Act.put, List.setIfInBounds_toArray, List.set_cons_zero, List.set_cons_succ, i64_w, i32_w]
               rfl
              refine done_ (done_of HT_.out (by kernel_rfl)) ?_
              try go_wp2
              go_ret
              exact ⟨by first | rfl | (simp [errW_none, errW_some] <;> rfl) | (simp [*, errW_none, errW_some] <;> rfl), by repeat (first | (with_reducible first | exact HB.out | apply below_alloc | apply pw_below_drewN | apply below_drew1 | refine below_set ?_ GE134.out) | exact HB.out)⟩
            ·rw [if_neg c41] at H
             have c41b0 : (t163 == 0) = false := beq_eq_false_iff_ne.mpr c41
             have c41b1 : (t163 != 0) = true := bne_iff_ne.mpr c41
             obtain rfl := Option.some.inj H
             try go_wp2_with (first | ((with_reducible refine gate_callee (f := 14) rfl ?_); refine goesL_ (some 74) rfl rfl Try.func14 (by kernel_rfl) rfl #[.int .i64 a0, .slice A1 l1.length c1] rfl (by (try simp only [List.map_toArray, List.map_cons, List.map_nil]); first | done | rfl | (simp only [List.length_drop, List.length_take]; rfl)) ?_; (with_reducible refine (win_All.calls k2 a0 _ _ l1 t146 t147 _ ?side1 ?side2 A34.out).mono ?_); (case side1 => repeat (first | exact (Kd.C_below HR1.out HB.out) | (with_reducible refine Kd.C_alloc ?_ _) | (with_reducible refine Kd.C_drewN ?_ _) | (with_reducible refine Kd.C_drew ?_))); (case side2 => exact HC1.out); rintro e w86 ⟨rfl, hb⟩; refine ⟨_, rfl, ?_⟩; have n0_ := Aside0.mk (Kd.R_below HO_9.out hb); have n1_ := Aside0.mk (blk_below (g := gb134) (o := .cells #[.int .i64 a3_0, .int .i64 a3_1] 35 (0, 0)) BK134.out hb); have n2_ := Aside0.mk (below_step (by repeat (first | (with_reducible first | exact HB.out | apply below_alloc | apply pw_below_drewN | apply below_drew1 | refine below_set ?_ GE134.out) | exact HB.out)) hb); clear HO_9; clear BK134; clear HB; have HO_9 := n0_; have BK134 := n1_; have HB := n2_; clear n0_ n1_ n2_; (try clear hb); (try clear hb2); (try clear hk); (try clear hi); obtain ⟨Ao87, co87, eo87⟩ := Kd.R_slice HO_9.out; subst eo87) | ((with_reducible refine gate_callee (f := 14) rfl ?_); refine goesL_ (some 80) rfl rfl Try.func14 (by kernel_rfl) rfl #[.int .i64 a0, .slice Ao87 x9_2.length co87] rfl (by (try simp only [List.map_toArray, List.map_cons, List.map_nil]); first | done | rfl | (simp only [List.length_drop, List.length_take]; rfl)) ?_; (with_reducible refine (win_All.calls k2 a0 _ _ x9_2 t148 t149 _ ?side1 ?side2 A35.out).mono ?_); (case side1 => repeat (first | exact (Kd.R_reads' HO_9.out).2.2 | (with_reducible refine Kd.C_alloc ?_ _) | (with_reducible refine Kd.C_drewN ?_ _) | (with_reducible refine Kd.C_drew ?_))); (case side2 => exact (Kd.R_reads' HO_9.out).2.1); rintro e w88 ⟨rfl, hb⟩; refine ⟨_, rfl, ?_⟩; have n0_ := Aside0.mk (Kd.R_below HO_9.out hb); have n1_ := Aside0.mk (blk_below (g := gb134) (o := .cells #[.int .i64 a3_0, .int .i64 a3_1] 35 (0, 0)) BK134.out hb); have n2_ := Aside0.mk (below_step (by repeat (first | (with_reducible first | exact HB.out | apply below_alloc | apply pw_below_drewN | apply below_drew1 | refine below_set ?_ GE134.out) | exact HB.out)) hb); clear HO_9; clear BK134; clear HB; have HO_9 := n0_; have BK134 := n1_; have HB := n2_; clear n0_ n1_ n2_; (try clear hb); (try clear hb2); (try clear hk); (try clear hi)))
             have n0_ := Aside0.mk (Kd.R_drew HO_9.out)
             have n1_ := Aside0.mk (blk_drew BK134.out)
             have n2_ := Aside0.mk (below_drew1 HB.out)
             clear HO_9
             clear BK134
             clear HB
             have HO_9 := n0_
             have BK134 := n1_
             have HB := n2_
             clear n0_ n1_ n2_
             refine start_ (n := 13) (S := fun w' => w'.cell? ⟨gb134, 0, none⟩ = some (.int .i64 a3_0) ∧ w'.cell? ⟨gb134, 1, none⟩ = some (.int .i64 a3_1)) (ds := []) #[false, false, false, false, false, false, false, false, false, false, false, false, false] (by kernel_rfl) rfl rfl ⟨(blk_cell BK134.out 0).trans rfl, (blk_cell BK134.out 1).trans rfl⟩ (fun hHeld => ?_); refine with_tabW beadlelaw13_WinOrder.tab14 beadlelaw13_WinOrder.bits14 (fun HT_ HW_ => ?_)
             generalize w88.drew = w89 at HO_9 BK134 HB hHeld ⊢
             refine pure_ (i := 0) (N := some 84) (v := ?_) (a' := ?_) #[true, false, false, false, false, false, false, false, false, false, false, false, false] rfl rfl (any_of HT_.out (by kernel_rfl)) (fun _ _ _ h => h) (Or.inl ⟨by rfl, ?_⟩) ?_ ?_
             rotate_left
             ·intro w'
              go_simp
              with_reducible rfl
             rotate_left
             ·simp only [Act.put, List.setIfInBounds_toArray, List.set_cons_zero, List.set_cons_succ, i64_w, i32_w]
              rfl
             refine pure_ (i := 2) (N := some 86) (v := ?_) (a' := ?_) #[true, false, true, false, false, false, false, false, false, false, false, false, false] rfl rfl (any_of HT_.out (by kernel_rfl)) (fun _ _ _ h => h) (Or.inl ⟨by rfl, ?_⟩) ?_ ?_
             rotate_left
             ·intro w'
              go_simp
              with_reducible rfl
             rotate_left
             ·simp only [Act.put, List.setIfInBounds_toArray, List.set_cons_zero, List.set_cons_succ, i64_w, i32_w]
              rfl
             refine take_ (i := 4) (N := some 88) (v := ?_) (a' := ?_) #[true, false, true, false, true, false, false, false, false, false, false, false, false] rfl rfl (take_ofW HT_.out HW_.out (by kernel_rfl)) (fun _ _ _ h => h) (Or.inl ⟨by rfl, ?_⟩) hHeld ?_ ?_
             rotate_left
             ·rintro w' ⟨s0, s1⟩
              go_simp
              with_reducible rfl
             rotate_left
             ·simp only [Act.put, List.setIfInBounds_toArray, List.set_cons_zero, List.set_cons_succ, i64_w, i32_w]
              rfl
             refine join_ (σ := Value × Value × Value) 7 #[true, true, true, true, true, true, false, false, false, false, false, false, false] (fun s_ => [(85, s_.1), (87, s_.2.1), (89, s_.2.2)]) (fun s_ w' => (w'.cell? ⟨gb134, 0, none⟩ = some (.int .i64 a3_0) ∧ w'.cell? ⟨gb134, 1, none⟩ = some (.int .i64 a3_1)) ∧ (Kd.R k35 35 w' w.heap.size (fun k_ => some k_ ≠ (s_.2.2 : Value).ownBlock ∧ some k_ ≠ (.slice Ao87 x9_2.length co87 : Value).ownBlock ∧ k_ ≠ gb134) s_.2.1 y153) ∧ (Kd.R k35 35 w' w.heap.size (fun k_ => some k_ ≠ (s_.2.1 : Value).ownBlock ∧ some k_ ≠ (.slice Ao87 x9_2.length co87 : Value).ownBlock ∧ k_ ≠ gb134) s_.2.2 y156) ∧ (Kd.R k35 35 w' w.heap.size (fun k_ => some k_ ≠ (s_.2.1 : Value).ownBlock ∧ some k_ ≠ (s_.2.2 : Value).ownBlock ∧ k_ ≠ gb134) (.slice Ao87 x9_2.length co87) x9_2) ∧ (w'.heap[gb134]? = some (.cells #[.int .i64 a3_0, .int .i64 a3_1] 35 (0, 0))) ∧ (Below w.heap.size w w')) ?_ ?_
             rotate_left
             ·intro hCont
              refine two_ (i := 1) (j := 5) (Ni := some 85) (Nj := some 89) #[true, true, true, false, true, false, false, false, false, false, false, false, false] #[true, false, true, false, true, true, false, false, false, false, false, false, false] rfl rfl rfl rfl (two_of HT_.out (by kernel_rfl)) (by decide) (by decide) (fun K hK => ?_) (fun K hK => ?_)
              ·skip
               refine Kd.R_lit_step k35 _ 35 ?hg (N := 85) ?hd (xs := ([] : List (S35))) (inner := []) (ok := fun _ => True) (okp := fun _ => True) ?hr ?hp (fun _ hk => hk) trivial (Below.refl _ _) (Nat.le_refl _) (by simp) ?_; (case hd => rfl); (case hg => rfl); (case hr => first | (go_simp; done) | (go_simp; rfl)); (case hp => exact (Reps.none _ _))
               intro v151 w90 ho91 hb hg_ hnew_
               clear hg_ hnew_
               (first | rw [← Ny150.out] at ho91 | (simp only [Int.reduceToNat] at ho91; rw [← Ny150.out] at ho91))
               have n0_ := Aside0.mk (Kd.R_elder' HO_9.out (Kd.R_base ho91) hb)
               have n1_ := Aside0.mk (Kd.R_lower (Kd.R_newB (Kd.R_new' ho91 (Kd.R_lt HO_9.out)) (g := gb134) (o := .cells #[.int .i64 a3_0, .int .i64 a3_1] 35 (0, 0)) BK134.out) (below_size (by repeat (first | (with_reducible first | exact HB.out | apply below_alloc | apply pw_below_drewN | apply below_drew1 | refine below_set ?_ GE134.out) | exact HB.out))))
               have n2_ := Aside0.mk (blk_below (g := gb134) (o := .cells #[.int .i64 a3_0, .int .i64 a3_1] 35 (0, 0)) BK134.out hb)
               have n3_ := Aside0.mk (below_step (by repeat (first | (with_reducible first | exact HB.out | apply below_alloc | apply pw_below_drewN | apply below_drew1 | refine below_set ?_ GE134.out) | exact HB.out)) hb)
               clear HO_9
               clear BK134
               clear HB
               have HO_9 := n0_
               have HO152 := n1_
               have BK134 := n2_
               have HB := n3_
               clear n0_ n1_ n2_ n3_
               clear hb ho91
               refine hK.out _ _ ⟨(blk_cell BK134.out 0).trans rfl, (blk_cell BK134.out 1).trans rfl⟩ (fun hHeld => ?_)
               clear hK K
               refine norm_ (a' := ?_) ?_ ?_
               rotate_left
               ·show Act.put _ (some 85) _ = _
                simp only [Act.put, List.setIfInBounds_toArray, List.set_cons_zero, List.set_cons_succ, i64_w, i32_w]
                rfl
               refine two_ (i := 3) (j := 5) (Ni := some 87) (Nj := some 89) #[true, true, true, true, true, false, false, false, false, false, false, false, false] #[true, true, true, false, true, true, false, false, false, false, false, false, false] rfl rfl rfl rfl (two_of HT_.out (by kernel_rfl)) (by decide) (by decide) (fun K hK => ?_) (fun K hK => ?_)
               ·skip
                refine Kd.R_append_rows_step k35 (w0 := w) w.heap.size (by rfl) (.tmp 85) (.tmp 86) 22 35 (.agg #[(.int .i64 0), (.int .i64 0)]) 16 rfl Try.underlying22 info35 rfl (by decide) (by omega) v151 y150 l1 _ _ _ (fun k_ => some k_ ≠ (.slice Ao87 x9_2.length co87 : Value).ownBlock ∧ k_ ≠ gb134) (fun _ => False) rfl rfl ?aO ?aR (fun _ _ h => h) (fun _ h => h.elim) ?aF ?aB ?aS ?aL ?_
                (case aR => repeat (first | exact (Kd.C_below HR1.out HB.out) | (with_reducible refine Kd.C_alloc ?_ _) | (with_reducible refine Kd.C_drewN ?_ _) | (with_reducible refine Kd.C_drew ?_)))
                (case aB => exact (by repeat (first | (with_reducible first | exact HB.out | apply below_alloc | apply pw_below_drewN | apply below_drew1 | refine below_set ?_ GE134.out) | exact HB.out)))
                (case aF => exact (fun k_ hk => ⟨Kd.fresh' (Kd.R_lt HO_9.out) k_ hk, Kd.freshB (g := gb134) (o := .cells #[.int .i64 a3_0, .int .i64 a3_1] 35 (0, 0)) BK134.out k_ hk⟩))
                (case aO => exact (by (with_reducible repeat (first | apply Kd.R_alloc | apply Kd.R_drewN | apply Kd.R_drew)); exact Kd.R_mono HO152.out (fun _ hk => ⟨hk.1.2, hk.2⟩)))
                (case aS => exact (below_size (by repeat (first | (with_reducible first | exact HB.out | apply below_alloc | apply pw_below_drewN | apply below_drew1 | refine below_set ?_ GE134.out) | exact HB.out))))
                (case aL => have := LMc36.out; omega)
                intro v154 w92 ho hb hg hat
                rw [← Ny153.out] at ho
                have n0_ := Aside0.mk (Kd.R_after (ok := (fun k_ => k_ ≠ gb134)) HO_9.out hg hat)
                have n1_ := Aside0.mk (blk_grown (g := gb134) (o := .cells #[.int .i64 a3_0, .int .i64 a3_1] 35 (0, 0)) BK134.out hg (Kd.R_away HO152.out (fun _ hk => hk.2)))
                have n2_ := Aside0.mk (hb)
                have n3_ := Aside0.mk (ho)
                clear HO_9
                clear BK134
                clear HB
                clear HO152
                have HO_9 := n0_
                have BK134 := n1_
                have HB := n2_
                have HO155 := n3_
                clear n0_ n1_ n2_ n3_
                clear ho hb hg hat
                refine hK.out _ _ ⟨(blk_cell BK134.out 0).trans rfl, (blk_cell BK134.out 1).trans rfl⟩ (fun hHeld => ?_)
                clear hK K
                refine norm_ (a' := ?_) ?_ ?_
                rotate_left
                ·show Act.put _ (some 87) _ = _
                 simp only [Act.put, List.setIfInBounds_toArray, List.set_cons_zero, List.set_cons_succ, i64_w, i32_w]
                 rfl
                refine one_ (i := 5) (N := some 89) #[true, true, true, true, true, true, false, false, false, false, false, false, false] rfl rfl (one_of HT_.out (by kernel_rfl)) (by decide) (fun K hK => ?_)
                refine Kd.R_lit_step k35 _ 35 ?hg (N := 89) ?hd (xs := ([(⟨a3_0, a3_1⟩ : S35)] : List (S35))) (inner := [.int .i64 a3_0, .int .i64 a3_1]) (ok := fun _ => True) (okp := fun _ => True) ?hr ?hp (fun _ hk => hk) trivial (Below.refl _ _) (Nat.le_refl _) (by simp) ?_; (case hd => rfl); (case hg => rfl); (case hr => first | (go_simp; done) | (go_simp; rfl)); (case hp => exact (Reps.c2 (show Kd.M k35 _ _ _ (⟨a3_0, a3_1⟩ : S35) [.int .i64 a3_0, .int .i64 a3_1] from (k35_mkM _ _ _ (⟨a3_0, a3_1⟩ : S35) )) (Reps.none _ _)))
                intro v157 w93 ho94 hb hg_ hnew_
                clear hg_ hnew_
                (first | rw [← Ny156.out] at ho94 | (simp only [Int.reduceToNat] at ho94; rw [← Ny156.out] at ho94))
                have n0_ := Aside0.mk (Kd.R_elder' HO_9.out (Kd.R_base ho94) hb)
                have n1_ := Aside0.mk (Kd.R_elder' HO155.out (Kd.R_base ho94) hb)
                have n2_ := Aside0.mk (Kd.R_lower (Kd.R_newB (Kd.R_new' (Kd.R_new' ho94 (Kd.R_lt HO_9.out)) (Kd.R_lt HO155.out)) (g := gb134) (o := .cells #[.int .i64 a3_0, .int .i64 a3_1] 35 (0, 0)) BK134.out) (below_size (by repeat (first | (with_reducible first | exact HB.out | apply below_alloc | apply pw_below_drewN | apply below_drew1 | refine below_set ?_ GE134.out) | exact HB.out))))
                have n3_ := Aside0.mk (blk_below (g := gb134) (o := .cells #[.int .i64 a3_0, .int .i64 a3_1] 35 (0, 0)) BK134.out hb)
                have n4_ := Aside0.mk (below_step (by repeat (first | (with_reducible first | exact HB.out | apply below_alloc | apply pw_below_drewN | apply below_drew1 | refine below_set ?_ GE134.out) | exact HB.out)) hb)
                clear HO_9
                clear HO155
                clear BK134
                clear HB
                have HO_9 := n0_
                have HO155 := n1_
                have HO158 := n2_
                have BK134 := n3_
                have HB := n4_
                clear n0_ n1_ n2_ n3_ n4_
                clear hb ho94
                refine hK.out _ _ ⟨(blk_cell BK134.out 0).trans rfl, (blk_cell BK134.out 1).trans rfl⟩ (fun hHeld => ?_)
                clear hK K
                refine norm_ (a' := ?_) ?_ ?_
                rotate_left
                ·show Act.put _ (some 89) _ = _
                 simp only [Act.put, List.setIfInBounds_toArray, List.set_cons_zero, List.set_cons_succ, i64_w, i32_w]
                 rfl
                exact norm_ (by simp only [putAll, Act.put, List.setIfInBounds_toArray, List.set_cons_zero, List.set_cons_succ]) (hCont (v151, v154, v157) _ ⟨hHeld, (by (with_reducible repeat (first | apply Kd.R_alloc | apply Kd.R_drewN | apply Kd.R_drew)); exact Kd.R_mono HO155.out (fun _ hk => ⟨hk.2, ⟨hk.1.1, hk.1.2⟩⟩)), (by (with_reducible repeat (first | apply Kd.R_alloc | apply Kd.R_drewN | apply Kd.R_drew)); exact Kd.R_mono HO158.out (fun _ hk => ⟨hk.1.2, ⟨hk.1.1.2, hk.2⟩⟩)), (by (with_reducible repeat (first | apply Kd.R_alloc | apply Kd.R_drewN | apply Kd.R_drew)); exact Kd.R_mono HO_9.out (fun _ hk => ⟨hk.1.2, ⟨hk.2, hk.1.1⟩⟩)), BK134.out, (by repeat (first | (with_reducible first | exact HB.out | apply below_alloc | apply pw_below_drewN | apply below_drew1 | refine below_set ?_ GE134.out) | exact HB.out))⟩)
               ·skip
                refine Kd.R_lit_step k35 _ 35 ?hg (N := 89) ?hd (xs := ([(⟨a3_0, a3_1⟩ : S35)] : List (S35))) (inner := [.int .i64 a3_0, .int .i64 a3_1]) (ok := fun _ => True) (okp := fun _ => True) ?hr ?hp (fun _ hk => hk) trivial (Below.refl _ _) (Nat.le_refl _) (by simp) ?_; (case hd => rfl); (case hg => rfl); (case hr => first | (go_simp; done) | (go_simp; rfl)); (case hp => exact (Reps.c2 (show Kd.M k35 _ _ _ (⟨a3_0, a3_1⟩ : S35) [.int .i64 a3_0, .int .i64 a3_1] from (k35_mkM _ _ _ (⟨a3_0, a3_1⟩ : S35) )) (Reps.none _ _)))
                intro v157 w92 ho93 hb hg_ hnew_
                clear hg_ hnew_
                (first | rw [← Ny156.out] at ho93 | (simp only [Int.reduceToNat] at ho93; rw [← Ny156.out] at ho93))
                have n0_ := Aside0.mk (Kd.R_elder' HO_9.out (Kd.R_base ho93) hb)
                have n1_ := Aside0.mk (Kd.R_elder' HO152.out (Kd.R_base ho93) hb)
                have n2_ := Aside0.mk (Kd.R_lower (Kd.R_newB (Kd.R_new' (Kd.R_new' ho93 (Kd.R_lt HO_9.out)) (Kd.R_lt HO152.out)) (g := gb134) (o := .cells #[.int .i64 a3_0, .int .i64 a3_1] 35 (0, 0)) BK134.out) (below_size (by repeat (first | (with_reducible first | exact HB.out | apply below_alloc | apply pw_below_drewN | apply below_drew1 | refine below_set ?_ GE134.out) | exact HB.out))))
                have n3_ := Aside0.mk (blk_below (g := gb134) (o := .cells #[.int .i64 a3_0, .int .i64 a3_1] 35 (0, 0)) BK134.out hb)
                have n4_ := Aside0.mk (below_step (by repeat (first | (with_reducible first | exact HB.out | apply below_alloc | apply pw_below_drewN | apply below_drew1 | refine below_set ?_ GE134.out) | exact HB.out)) hb)
                clear HO_9
                clear HO152
                clear BK134
                clear HB
                have HO_9 := n0_
                have HO152 := n1_
                have HO158 := n2_
                have BK134 := n3_
                have HB := n4_
                clear n0_ n1_ n2_ n3_ n4_
                clear hb ho93
                refine hK.out _ _ ⟨(blk_cell BK134.out 0).trans rfl, (blk_cell BK134.out 1).trans rfl⟩ (fun hHeld => ?_)
                clear hK K
                refine norm_ (a' := ?_) ?_ ?_
                rotate_left
                ·show Act.put _ (some 89) _ = _
                 simp only [Act.put, List.setIfInBounds_toArray, List.set_cons_zero, List.set_cons_succ, i64_w, i32_w]
                 rfl
                refine one_ (i := 3) (N := some 87) #[true, true, true, true, true, true, false, false, false, false, false, false, false] rfl rfl (one_of HT_.out (by kernel_rfl)) (by decide) (fun K hK => ?_)
                refine Kd.R_append_rows_step k35 (w0 := w) w.heap.size (by rfl) (.tmp 85) (.tmp 86) 22 35 (.agg #[(.int .i64 0), (.int .i64 0)]) 16 rfl Try.underlying22 info35 rfl (by decide) (by omega) v151 y150 l1 _ _ _ (fun k_ => some k_ ≠ (.slice Ao87 x9_2.length co87 : Value).ownBlock ∧ some k_ ≠ (v157 : Value).ownBlock ∧ k_ ≠ gb134) (fun _ => False) rfl rfl ?aO ?aR (fun _ _ h => h) (fun _ h => h.elim) ?aF ?aB ?aS ?aL ?_
                (case aR => repeat (first | exact (Kd.C_below HR1.out HB.out) | (with_reducible refine Kd.C_alloc ?_ _) | (with_reducible refine Kd.C_drewN ?_ _) | (with_reducible refine Kd.C_drew ?_)))
                (case aB => exact (by repeat (first | (with_reducible first | exact HB.out | apply below_alloc | apply pw_below_drewN | apply below_drew1 | refine below_set ?_ GE134.out) | exact HB.out)))
                (case aF => exact (fun k_ hk => ⟨Kd.fresh' (Kd.R_lt HO_9.out) k_ hk, Kd.fresh' (Kd.R_lt HO158.out) k_ hk, Kd.freshB (g := gb134) (o := .cells #[.int .i64 a3_0, .int .i64 a3_1] 35 (0, 0)) BK134.out k_ hk⟩))
                (case aO => exact (by (with_reducible repeat (first | apply Kd.R_alloc | apply Kd.R_drewN | apply Kd.R_drew)); exact Kd.R_mono HO152.out (fun _ hk => ⟨hk.1.1.2, ⟨hk.2, hk.1.2⟩⟩)))
                (case aS => exact (below_size (by repeat (first | (with_reducible first | exact HB.out | apply below_alloc | apply pw_below_drewN | apply below_drew1 | refine below_set ?_ GE134.out) | exact HB.out))))
                (case aL => have := LMc36.out; omega)
                intro v154 w94 ho hb hg hat
                rw [← Ny153.out] at ho
                have n0_ := Aside0.mk (Kd.R_after (ok := (fun k_ => some k_ ≠ (v157 : Value).ownBlock ∧ k_ ≠ gb134)) (by (with_reducible repeat (first | apply Kd.R_alloc | apply Kd.R_drewN | apply Kd.R_drew)); exact Kd.R_mono HO_9.out (fun _ hk => ⟨⟨hk.2, hk.1.1⟩, hk.1.2⟩)) hg hat)
                have n1_ := Aside0.mk (blk_grown (g := gb134) (o := .cells #[.int .i64 a3_0, .int .i64 a3_1] 35 (0, 0)) BK134.out hg (Kd.R_away HO152.out (fun _ hk => hk.1.2)))
                have n2_ := Aside0.mk (Kd.R_after (ok := (fun k_ => some k_ ≠ (.slice Ao87 x9_2.length co87 : Value).ownBlock ∧ k_ ≠ gb134)) (by (with_reducible repeat (first | apply Kd.R_alloc | apply Kd.R_drewN | apply Kd.R_drew)); exact Kd.R_mono HO158.out (fun _ hk => ⟨⟨hk.1.1.2, hk.2⟩, hk.1.2⟩)) hg hat)
                have n3_ := Aside0.mk (hb)
                have n4_ := Aside0.mk (ho)
                clear HO_9
                clear BK134
                clear HO158
                clear HB
                clear HO152
                have HO_9 := n0_
                have BK134 := n1_
                have HO158 := n2_
                have HB := n3_
                have HO155 := n4_
                clear n0_ n1_ n2_ n3_ n4_
                clear ho hb hg hat
                refine hK.out _ _ ⟨(blk_cell BK134.out 0).trans rfl, (blk_cell BK134.out 1).trans rfl⟩ (fun hHeld => ?_)
                clear hK K
                refine norm_ (a' := ?_) ?_ ?_
                rotate_left
                ·show Act.put _ (some 87) _ = _
                 simp only [Act.put, List.setIfInBounds_toArray, List.set_cons_zero, List.set_cons_succ, i64_w, i32_w]
                 rfl
                exact norm_ (by simp only [putAll, Act.put, List.setIfInBounds_toArray, List.set_cons_zero, List.set_cons_succ]) (hCont (v151, v154, v157) _ ⟨hHeld, (by (with_reducible repeat (first | apply Kd.R_alloc | apply Kd.R_drewN | apply Kd.R_drew)); exact Kd.R_mono HO155.out (fun _ hk => ⟨hk.2.1, ⟨hk.1, hk.2.2⟩⟩)), (by (with_reducible repeat (first | apply Kd.R_alloc | apply Kd.R_drewN | apply Kd.R_drew)); exact Kd.R_mono HO158.out (fun _ hk => ⟨hk.2, ⟨hk.1.1, hk.1.2⟩⟩)), (by (with_reducible repeat (first | apply Kd.R_alloc | apply Kd.R_drewN | apply Kd.R_drew)); exact Kd.R_mono HO_9.out (fun _ hk => ⟨hk.2, ⟨hk.1.1, hk.1.2⟩⟩)), BK134.out, (by repeat (first | (with_reducible first | exact HB.out | apply below_alloc | apply pw_below_drewN | apply below_drew1 | refine below_set ?_ GE134.out) | exact HB.out))⟩)
              ·skip
               refine Kd.R_lit_step k35 _ 35 ?hg (N := 89) ?hd (xs := ([(⟨a3_0, a3_1⟩ : S35)] : List (S35))) (inner := [.int .i64 a3_0, .int .i64 a3_1]) (ok := fun _ => True) (okp := fun _ => True) ?hr ?hp (fun _ hk => hk) trivial (Below.refl _ _) (Nat.le_refl _) (by simp) ?_; (case hd => rfl); (case hg => rfl); (case hr => first | (go_simp; done) | (go_simp; rfl)); (case hp => exact (Reps.c2 (show Kd.M k35 _ _ _ (⟨a3_0, a3_1⟩ : S35) [.int .i64 a3_0, .int .i64 a3_1] from (k35_mkM _ _ _ (⟨a3_0, a3_1⟩ : S35) )) (Reps.none _ _)))
               intro v157 w90 ho91 hb hg_ hnew_
               clear hg_ hnew_
               (first | rw [← Ny156.out] at ho91 | (simp only [Int.reduceToNat] at ho91; rw [← Ny156.out] at ho91))
               have n0_ := Aside0.mk (Kd.R_elder' HO_9.out (Kd.R_base ho91) hb)
               have n1_ := Aside0.mk (Kd.R_lower (Kd.R_newB (Kd.R_new' ho91 (Kd.R_lt HO_9.out)) (g := gb134) (o := .cells #[.int .i64 a3_0, .int .i64 a3_1] 35 (0, 0)) BK134.out) (below_size (by repeat (first | (with_reducible first | exact HB.out | apply below_alloc | apply pw_below_drewN | apply below_drew1 | refine below_set ?_ GE134.out) | exact HB.out))))
               have n2_ := Aside0.mk (blk_below (g := gb134) (o := .cells #[.int .i64 a3_0, .int .i64 a3_1] 35 (0, 0)) BK134.out hb)
               have n3_ := Aside0.mk (below_step (by repeat (first | (with_reducible first | exact HB.out | apply below_alloc | apply pw_below_drewN | apply below_drew1 | refine below_set ?_ GE134.out) | exact HB.out)) hb)
               clear HO_9
               clear BK134
               clear HB
               have HO_9 := n0_
               have HO158 := n1_
               have BK134 := n2_
               have HB := n3_
               clear n0_ n1_ n2_ n3_
               clear hb ho91
               refine hK.out _ _ ⟨(blk_cell BK134.out 0).trans rfl, (blk_cell BK134.out 1).trans rfl⟩ (fun hHeld => ?_)
               clear hK K
               refine norm_ (a' := ?_) ?_ ?_
               rotate_left
               ·show Act.put _ (some 89) _ = _
                simp only [Act.put, List.setIfInBounds_toArray, List.set_cons_zero, List.set_cons_succ, i64_w, i32_w]
                rfl
               refine one_ (i := 1) (N := some 85) #[true, true, true, false, true, true, false, false, false, false, false, false, false] rfl rfl (one_of HT_.out (by kernel_rfl)) (by decide) (fun K hK => ?_)
               refine Kd.R_lit_step k35 _ 35 ?hg (N := 85) ?hd (xs := ([] : List (S35))) (inner := []) (ok := fun _ => True) (okp := fun _ => True) ?hr ?hp (fun _ hk => hk) trivial (Below.refl _ _) (Nat.le_refl _) (by simp) ?_; (case hd => rfl); (case hg => rfl); (case hr => first | (go_simp; done) | (go_simp; rfl)); (case hp => exact (Reps.none _ _))
               intro v151 w92 ho93 hb hg_ hnew_
               clear hg_ hnew_
               (first | rw [← Ny150.out] at ho93 | (simp only [Int.reduceToNat] at ho93; rw [← Ny150.out] at ho93))
               have n0_ := Aside0.mk (Kd.R_elder' HO_9.out (Kd.R_base ho93) hb)
               have n1_ := Aside0.mk (Kd.R_elder' HO158.out (Kd.R_base ho93) hb)
               have n2_ := Aside0.mk (Kd.R_lower (Kd.R_newB (Kd.R_new' (Kd.R_new' ho93 (Kd.R_lt HO_9.out)) (Kd.R_lt HO158.out)) (g := gb134) (o := .cells #[.int .i64 a3_0, .int .i64 a3_1] 35 (0, 0)) BK134.out) (below_size (by repeat (first | (with_reducible first | exact HB.out | apply below_alloc | apply pw_below_drewN | apply below_drew1 | refine below_set ?_ GE134.out) | exact HB.out))))
               have n3_ := Aside0.mk (blk_below (g := gb134) (o := .cells #[.int .i64 a3_0, .int .i64 a3_1] 35 (0, 0)) BK134.out hb)
               have n4_ := Aside0.mk (below_step (by repeat (first | (with_reducible first | exact HB.out | apply below_alloc | apply pw_below_drewN | apply below_drew1 | refine below_set ?_ GE134.out) | exact HB.out)) hb)
               clear HO_9
               clear HO158
               clear BK134
               clear HB
               have HO_9 := n0_
               have HO158 := n1_
               have HO152 := n2_
               have BK134 := n3_
               have HB := n4_
               clear n0_ n1_ n2_ n3_ n4_
               clear hb ho93
               refine hK.out _ _ ⟨(blk_cell BK134.out 0).trans rfl, (blk_cell BK134.out 1).trans rfl⟩ (fun hHeld => ?_)
               clear hK K
               refine norm_ (a' := ?_) ?_ ?_
               rotate_left
               ·show Act.put _ (some 85) _ = _
                simp only [Act.put, List.setIfInBounds_toArray, List.set_cons_zero, List.set_cons_succ, i64_w, i32_w]
                rfl
               refine one_ (i := 3) (N := some 87) #[true, true, true, true, true, true, false, false, false, false, false, false, false] rfl rfl (one_of HT_.out (by kernel_rfl)) (by decide) (fun K hK => ?_)
               refine Kd.R_append_rows_step k35 (w0 := w) w.heap.size (by rfl) (.tmp 85) (.tmp 86) 22 35 (.agg #[(.int .i64 0), (.int .i64 0)]) 16 rfl Try.underlying22 info35 rfl (by decide) (by omega) v151 y150 l1 _ _ _ (fun k_ => some k_ ≠ (.slice Ao87 x9_2.length co87 : Value).ownBlock ∧ some k_ ≠ (v157 : Value).ownBlock ∧ k_ ≠ gb134) (fun _ => False) rfl rfl ?aO ?aR (fun _ _ h => h) (fun _ h => h.elim) ?aF ?aB ?aS ?aL ?_
               (case aR => repeat (first | exact (Kd.C_below HR1.out HB.out) | (with_reducible refine Kd.C_alloc ?_ _) | (with_reducible refine Kd.C_drewN ?_ _) | (with_reducible refine Kd.C_drew ?_)))
               (case aB => exact (by repeat (first | (with_reducible first | exact HB.out | apply below_alloc | apply pw_below_drewN | apply below_drew1 | refine below_set ?_ GE134.out) | exact HB.out)))
               (case aF => exact (fun k_ hk => ⟨Kd.fresh' (Kd.R_lt HO_9.out) k_ hk, Kd.fresh' (Kd.R_lt HO158.out) k_ hk, Kd.freshB (g := gb134) (o := .cells #[.int .i64 a3_0, .int .i64 a3_1] 35 (0, 0)) BK134.out k_ hk⟩))
               (case aO => exact (by (with_reducible repeat (first | apply Kd.R_alloc | apply Kd.R_drewN | apply Kd.R_drew)); exact Kd.R_mono HO152.out (fun _ hk => ⟨hk.1.1.2, ⟨hk.1.2, hk.2⟩⟩)))
               (case aS => exact (below_size (by repeat (first | (with_reducible first | exact HB.out | apply below_alloc | apply pw_below_drewN | apply below_drew1 | refine below_set ?_ GE134.out) | exact HB.out))))
               (case aL => have := LMc36.out; omega)
               intro v154 w94 ho hb hg hat
               rw [← Ny153.out] at ho
               have n0_ := Aside0.mk (Kd.R_after (ok := (fun k_ => some k_ ≠ (v157 : Value).ownBlock ∧ k_ ≠ gb134)) (by (with_reducible repeat (first | apply Kd.R_alloc | apply Kd.R_drewN | apply Kd.R_drew)); exact Kd.R_mono HO_9.out (fun _ hk => ⟨⟨hk.1.2, hk.1.1⟩, hk.2⟩)) hg hat)
               have n1_ := Aside0.mk (blk_grown (g := gb134) (o := .cells #[.int .i64 a3_0, .int .i64 a3_1] 35 (0, 0)) BK134.out hg (Kd.R_away HO152.out (fun _ hk => hk.2)))
               have n2_ := Aside0.mk (Kd.R_after (ok := (fun k_ => some k_ ≠ (.slice Ao87 x9_2.length co87 : Value).ownBlock ∧ k_ ≠ gb134)) (by (with_reducible repeat (first | apply Kd.R_alloc | apply Kd.R_drewN | apply Kd.R_drew)); exact Kd.R_mono HO158.out (fun _ hk => ⟨⟨hk.1.1.2, hk.1.2⟩, hk.2⟩)) hg hat)
               have n3_ := Aside0.mk (hb)
               have n4_ := Aside0.mk (ho)
               clear HO_9
               clear BK134
               clear HO158
               clear HB
               clear HO152
               have HO_9 := n0_
               have BK134 := n1_
               have HO158 := n2_
               have HB := n3_
               have HO155 := n4_
               clear n0_ n1_ n2_ n3_ n4_
               clear ho hb hg hat
               refine hK.out _ _ ⟨(blk_cell BK134.out 0).trans rfl, (blk_cell BK134.out 1).trans rfl⟩ (fun hHeld => ?_)
               clear hK K
               refine norm_ (a' := ?_) ?_ ?_
               rotate_left
               ·show Act.put _ (some 87) _ = _
                simp only [Act.put, List.setIfInBounds_toArray, List.set_cons_zero, List.set_cons_succ, i64_w, i32_w]
                rfl
               exact norm_ (by simp only [putAll, Act.put, List.setIfInBounds_toArray, List.set_cons_zero, List.set_cons_succ]) (hCont (v151, v154, v157) _ ⟨hHeld, (by (with_reducible repeat (first | apply Kd.R_alloc | apply Kd.R_drewN | apply Kd.R_drew)); exact Kd.R_mono HO155.out (fun _ hk => ⟨hk.2.1, ⟨hk.1, hk.2.2⟩⟩)), (by (with_reducible repeat (first | apply Kd.R_alloc | apply Kd.R_drewN | apply Kd.R_drew)); exact Kd.R_mono HO158.out (fun _ hk => ⟨hk.2, ⟨hk.1.1, hk.1.2⟩⟩)), (by (with_reducible repeat (first | apply Kd.R_alloc | apply Kd.R_drewN | apply Kd.R_drew)); exact Kd.R_mono HO_9.out (fun _ hk => ⟨hk.2, ⟨hk.1.1, hk.1.2⟩⟩)), BK134.out, (by repeat (first | (with_reducible first | exact HB.out | apply below_alloc | apply pw_below_drewN | apply below_drew1 | refine below_set ?_ GE134.out) | exact HB.out))⟩)
             rintro ⟨v151, v154, v157⟩ w95 ⟨hS_, h0_, h1_, h2_, h3_, h4_⟩
             have n0_ : Aside0 (Kd.R k35 35 w95 w.heap.size (fun k_ => some k_ ≠ (v157 : Value).ownBlock ∧ some k_ ≠ (.slice Ao87 x9_2.length co87 : Value).ownBlock ∧ k_ ≠ gb134) v154 y153) := ⟨h0_⟩
             have n1_ : Aside0 (Kd.R k35 35 w95 w.heap.size (fun k_ => some k_ ≠ (v154 : Value).ownBlock ∧ some k_ ≠ (.slice Ao87 x9_2.length co87 : Value).ownBlock ∧ k_ ≠ gb134) v157 y156) := ⟨h1_⟩
             have n2_ : Aside0 (Kd.R k35 35 w95 w.heap.size (fun k_ => some k_ ≠ (v154 : Value).ownBlock ∧ some k_ ≠ (v157 : Value).ownBlock ∧ k_ ≠ gb134) (.slice Ao87 x9_2.length co87) x9_2) := ⟨h2_⟩
             have n3_ : Aside0 (w95.heap[gb134]? = some (.cells #[.int .i64 a3_0, .int .i64 a3_1] 35 (0, 0))) := ⟨h3_⟩
             have n4_ : Aside0 (Below w.heap.size w w95) := ⟨h4_⟩
             clear HO_9
             clear BK134
             clear HB
             clear h0_ h1_ h2_ h3_ h4_
             have HO155 := n0_
             have HO158 := n1_
             have HO_9 := n2_
             have BK134 := n3_
             have HB := n4_
             clear n0_ n1_ n2_ n3_ n4_
             have hHeld : w95.cell? ⟨gb134, 0, none⟩ = some (.int .i64 a3_0) ∧ w95.cell? ⟨gb134, 1, none⟩ = some (.int .i64 a3_1) := hS_
             obtain ⟨Ao97, co97, eo97⟩ := Kd.R_slice HO158.out
             (first | subst eo97 | (injection eo97 with f1_ f2_ f3_; have f4_ := f1_.symm; have f5_ := f3_.symm; clear f1_ f2_ f3_; subst f4_; subst f5_))
             refine norm_ (a' := ?_) ?_ ?_
             rotate_left
             ·simp only [putAll, Act.put, List.setIfInBounds_toArray, List.set_cons_zero, List.set_cons_succ]
              rfl
             refine one_ (i := 6) (N := some 90) #[true, true, true, true, true, true, true, false, false, false, false, false, false] rfl rfl (one_of HT_.out (by kernel_rfl)) (by decide) (fun K hK => ?_)
             refine Kd.R_append_rows_step k35 (w0 := w) w.heap.size (by rfl) (.tmp 87) (.tmp 89) 22 35 (.agg #[(.int .i64 0), (.int .i64 0)]) 16 rfl Try.underlying22 info35 rfl (by decide) (by omega) v154 y153 y156 _ _ _ (fun k_ => some k_ ≠ (.slice Ao87 x9_2.length co87 : Value).ownBlock ∧ some k_ ≠ (.slice Ao97 y156.length co97 : Value).ownBlock ∧ k_ ≠ gb134) (fun _ => False) rfl rfl ?aO ?aR (fun _ _ h => h) (fun _ h => h.elim) ?aF ?aB ?aS ?aL ?_
             (case aR => repeat (first | exact (Kd.R_reads' HO158.out).2.2 | (with_reducible refine Kd.C_alloc ?_ _) | (with_reducible refine Kd.C_drewN ?_ _) | (with_reducible refine Kd.C_drew ?_)))
             (case aB => exact (by repeat (first | (with_reducible first | exact HB.out | apply below_alloc | apply pw_below_drewN | apply below_drew1 | refine below_set ?_ GE134.out) | exact HB.out)))
             (case aF => exact (fun k_ hk => ⟨Kd.fresh' (Kd.R_lt HO_9.out) k_ hk, Kd.fresh' (Kd.R_lt HO158.out) k_ hk, Kd.freshB (g := gb134) (o := .cells #[.int .i64 a3_0, .int .i64 a3_1] 35 (0, 0)) BK134.out k_ hk⟩))
             (case aO => exact (by (with_reducible repeat (first | apply Kd.R_alloc | apply Kd.R_drewN | apply Kd.R_drew)); exact Kd.R_mono HO155.out (fun _ hk => ⟨hk.2.1, ⟨hk.1, hk.2.2⟩⟩)))
             (case aS => exact (below_size (by repeat (first | (with_reducible first | exact HB.out | apply below_alloc | apply pw_below_drewN | apply below_drew1 | refine below_set ?_ GE134.out) | exact HB.out))))
             (case aL => have := LMc37.out; omega)
             intro v160 w96 ho hb hg hat
             rw [← Ny159.out] at ho
             have n0_ := Aside0.mk (Kd.R_after (ok := (fun k_ => some k_ ≠ (.slice Ao97 y156.length co97 : Value).ownBlock ∧ k_ ≠ gb134)) (by (with_reducible repeat (first | apply Kd.R_alloc | apply Kd.R_drewN | apply Kd.R_drew)); exact Kd.R_mono HO_9.out (fun _ hk => ⟨⟨hk.2.1, hk.2.2⟩, hk.1⟩)) hg hat)
             have n1_ := Aside0.mk (blk_grown (g := gb134) (o := .cells #[.int .i64 a3_0, .int .i64 a3_1] 35 (0, 0)) BK134.out hg (Kd.R_away HO155.out (fun _ hk => hk.2.2)))
             have n2_ := Aside0.mk (Kd.R_after (ok := (fun k_ => some k_ ≠ (.slice Ao87 x9_2.length co87 : Value).ownBlock ∧ k_ ≠ gb134)) (by (with_reducible repeat (first | apply Kd.R_alloc | apply Kd.R_drewN | apply Kd.R_drew)); exact Kd.R_mono HO158.out (fun _ hk => ⟨⟨hk.2.1, hk.2.2⟩, hk.1⟩)) hg hat)
             have n3_ := Aside0.mk (hb)
             have n4_ := Aside0.mk (ho)
             clear HO_9
             clear BK134
             clear HO158
             clear HB
             clear HO155
             have HO_9 := n0_
             have BK134 := n1_
             have HO158 := n2_
             have HB := n3_
             have HO161 := n4_
             clear n0_ n1_ n2_ n3_ n4_
             clear ho hb hg hat
             obtain ⟨Ao98, co98, eo98⟩ := Kd.R_slice HO161.out
             (first | subst eo98 | (injection eo98 with f1_ f2_ f3_; have f4_ := f1_.symm; have f5_ := f3_.symm; clear f1_ f2_ f3_; subst f4_; subst f5_))
             refine hK.out _ _ ⟨(blk_cell BK134.out 0).trans rfl, (blk_cell BK134.out 1).trans rfl⟩ (fun hHeld => ?_)
             clear hK K
             refine norm_ (a' := ?_) ?_ ?_
             rotate_left
             ·show Act.put _ (some 90) _ = _
              simp only [Act.put, List.setIfInBounds_toArray, List.set_cons_zero, List.set_cons_succ, i64_w, i32_w]
              rfl
             refine one_ (i := 7) (N := some 91) #[true, true, true, true, true, true, true, true, false, false, false, false, false] rfl rfl (one_of HT_.out (by kernel_rfl)) (by decide) (fun K hK => ?_)
             refine goes_ Try.func14 (by kernel_rfl) rfl #[.int .i64 a0, .slice Ao98 y159.length co98] (by rfl) rfl rfl (by (try simp only [List.map_toArray, List.map_cons, List.map_nil]); first | done | rfl | (simp only [List.length_drop, List.length_take]; rfl)) ?_
             with_reducible refine (win_All.calls k2 a0 _ _ y159 t162 t163 _ ?side1 ?side2 A38.out).mono ?_
             (case side1 => repeat (first | exact (Kd.R_reads' HO161.out).2.2 | (with_reducible refine Kd.C_alloc ?_ _) | (with_reducible refine Kd.C_drewN ?_ _) | (with_reducible refine Kd.C_drew ?_)))
             (case side2 => exact (Kd.R_reads' HO161.out).2.1)
             rintro e w99 ⟨rfl, hb⟩
             refine ⟨_, rfl, ?_⟩
             have n0_ := Aside0.mk (Kd.R_below HO_9.out hb)
             have n1_ := Aside0.mk (Kd.R_below HO158.out hb)
             have n2_ := Aside0.mk (Kd.R_below HO161.out hb)
             have n3_ := Aside0.mk (blk_below (g := gb134) (o := .cells #[.int .i64 a3_0, .int .i64 a3_1] 35 (0, 0)) BK134.out hb)
             have n4_ := Aside0.mk (below_step (by repeat (first | (with_reducible first | exact HB.out | apply below_alloc | apply pw_below_drewN | apply below_drew1 | refine below_set ?_ GE134.out) | exact HB.out)) hb)
             clear HO_9
             clear HO158
             clear HO161
             clear BK134
             clear HB
             have HO_9 := n0_
             have HO158 := n1_
             have HO161 := n2_
             have BK134 := n3_
             have HB := n4_
             clear n0_ n1_ n2_ n3_ n4_
             (try clear hb)
             (try clear hb2)
             (try clear hk)
             (try clear hi)
             refine hK.out _ _ ⟨(blk_cell BK134.out 0).trans rfl, (blk_cell BK134.out 1).trans rfl⟩ (fun hHeld => ?_)
             clear hK K
             refine norm_ (a' := ?_) ?_ ?_
             rotate_left
             ·show Act.put _ (some 91) _ = _
              simp only [Act.put, List.setIfInBounds_toArray, List.set_cons_zero, List.set_cons_succ, i64_w, i32_w]
              rfl
             refine pure_ (i := 8) (N := some 83) (v := ?_) (a' := ?_) #[true, true, true, true, true, true, true, true, true, false, false, false, false] rfl rfl (any_of HT_.out (by kernel_rfl)) (fun _ _ _ h => h) (Or.inl ⟨by rfl, ?_⟩) ?_ ?_
             rotate_left
             ·intro w'
              go_simp
              with_reducible rfl
             rotate_left
             ·simp only [Act.put, List.setIfInBounds_toArray, List.set_cons_zero, List.set_cons_succ, i64_w, i32_w]
              rfl
             refine pure_ (i := 9) (N := some 92) (v := ?_) (a' := ?_) #[true, true, true, true, true, true, true, true, true, true, false, false, false] rfl rfl (any_of HT_.out (by kernel_rfl)) (fun _ _ _ h => h) (Or.inl ⟨by rfl, ?_⟩) ?_ ?_
             rotate_left
             ·intro w'
              go_simp
              with_reducible rfl
             rotate_left
             ·simp only [Act.put, List.setIfInBounds_toArray, List.set_cons_zero, List.set_cons_succ, i64_w, i32_w]
              rfl
             refine pure_ (i := 10) (N := some 93) (v := ?_) (a' := ?_) #[true, true, true, true, true, true, true, true, true, true, true, false, false] rfl rfl (any_of HT_.out (by kernel_rfl)) (fun _ _ _ h => h) (Or.inl ⟨by rfl, ?_⟩) ?_ ?_
             rotate_left
             ·intro w'
              go_simp
              with_reducible rfl
             rotate_left
             ·simp only [Act.put, List.setIfInBounds_toArray, List.set_cons_zero, List.set_cons_succ, i64_w, i32_w]
              rfl
             refine pure_ (i := 11) (N := some 15) (v := ?_) (a' := ?_) #[true, true, true, true, true, true, true, true, true, true, true, true, false] rfl rfl (any_of HT_.out (by kernel_rfl)) (fun _ _ _ h => h) (Or.inl ⟨by rfl, ?_⟩) ?_ ?_
             rotate_left
             ·intro w'
              go_simp
              with_reducible rfl
             rotate_left
             ·simp only [Act.put, List.setIfInBounds_toArray, List.set_cons_zero, List.set_cons_succ, i64_w, i32_w]
              rfl
             refine pure_ (i := 12) (N := some 16) (v := ?_) (a' := ?_) #[true, true, true, true, true, true, true, true, true, true, true, true, true] rfl rfl (any_of HT_.out (by kernel_rfl)) (fun _ _ _ h => h) (Or.inl ⟨by rfl, ?_⟩) ?_ ?_
             rotate_left
             ·intro w'
              go_simp
              with_reducible rfl
             rotate_left
             ·simp only [Act.put, List.setIfInBounds_toArray, List.set_cons_zero, List.set_cons_succ, i64_w, i32_w]
              rfl
             refine done_ (done_of HT_.out (by kernel_rfl)) ?_
             try go_wp2
             go_ret
             exact ⟨by first | rfl | (simp [errW_none, errW_some] <;> rfl) | (simp [*, errW_none, errW_some] <;> rfl), by repeat (first | (with_reducible first | exact HB.out | apply below_alloc | apply pw_below_drewN | apply below_drew1 | refine below_set ?_ GE134.out) | exact HB.out)⟩
           ·rw [if_neg c40] at H
            have c40b0 : (t149 == 0) = false := beq_eq_false_iff_ne.mpr c40
            have c40b1 : (t149 != 0) = true := bne_iff_ne.mpr c40
            obtain rfl := Option.some.inj H
            try go_wp2_with (first | ((with_reducible refine gate_callee (f := 14) rfl ?_); refine goesL_ (some 74) rfl rfl Try.func14 (by kernel_rfl) rfl #[.int .i64 a0, .slice A1 l1.length c1] rfl (by (try simp only [List.map_toArray, List.map_cons, List.map_nil]); first | done | rfl | (simp only [List.length_drop, List.length_take]; rfl)) ?_; (with_reducible refine (win_All.calls k2 a0 _ _ l1 t146 t147 _ ?side1 ?side2 A34.out).mono ?_); (case side1 => repeat (first | exact (Kd.C_below HR1.out HB.out) | (with_reducible refine Kd.C_alloc ?_ _) | (with_reducible refine Kd.C_drewN ?_ _) | (with_reducible refine Kd.C_drew ?_))); (case side2 => exact HC1.out); rintro e w100 ⟨rfl, hb⟩; refine ⟨_, rfl, ?_⟩; have n0_ := Aside0.mk (Kd.R_below HO_9.out hb); have n1_ := Aside0.mk (blk_below (g := gb134) (o := .cells #[.int .i64 a3_0, .int .i64 a3_1] 35 (0, 0)) BK134.out hb); have n2_ := Aside0.mk (below_step (by repeat (first | (with_reducible first | exact HB.out | apply below_alloc | apply pw_below_drewN | apply below_drew1 | refine below_set ?_ GE134.out) | exact HB.out)) hb); clear HO_9; clear BK134; clear HB; have HO_9 := n0_; have BK134 := n1_; have HB := n2_; clear n0_ n1_ n2_; (try clear hb); (try clear hb2); (try clear hk); (try clear hi); obtain ⟨Ao101, co101, eo101⟩ := Kd.R_slice HO_9.out; subst eo101) | ((with_reducible refine gate_callee (f := 14) rfl ?_); refine goesL_ (some 80) rfl rfl Try.func14 (by kernel_rfl) rfl #[.int .i64 a0, .slice Ao101 x9_2.length co101] rfl (by (try simp only [List.map_toArray, List.map_cons, List.map_nil]); first | done | rfl | (simp only [List.length_drop, List.length_take]; rfl)) ?_; (with_reducible refine (win_All.calls k2 a0 _ _ x9_2 t148 t149 _ ?side1 ?side2 A35.out).mono ?_); (case side1 => repeat (first | exact (Kd.R_reads' HO_9.out).2.2 | (with_reducible refine Kd.C_alloc ?_ _) | (with_reducible refine Kd.C_drewN ?_ _) | (with_reducible refine Kd.C_drew ?_))); (case side2 => exact (Kd.R_reads' HO_9.out).2.1); rintro e w102 ⟨rfl, hb⟩; refine ⟨_, rfl, ?_⟩; have n0_ := Aside0.mk (Kd.R_below HO_9.out hb); have n1_ := Aside0.mk (blk_below (g := gb134) (o := .cells #[.int .i64 a3_0, .int .i64 a3_1] 35 (0, 0)) BK134.out hb); have n2_ := Aside0.mk (below_step (by repeat (first | (with_reducible first | exact HB.out | apply below_alloc | apply pw_below_drewN | apply below_drew1 | refine below_set ?_ GE134.out) | exact HB.out)) hb); clear HO_9; clear BK134; clear HB; have HO_9 := n0_; have BK134 := n1_; have HB := n2_; clear n0_ n1_ n2_; (try clear hb); (try clear hb2); (try clear hk); (try clear hi)))
            have n0_ := Aside0.mk (Kd.R_drew HO_9.out)
            have n1_ := Aside0.mk (blk_drew BK134.out)
            have n2_ := Aside0.mk (below_drew1 HB.out)
            clear HO_9
            clear BK134
            clear HB
            have HO_9 := n0_
            have BK134 := n1_
            have HB := n2_
            clear n0_ n1_ n2_
            refine start_ (n := 13) (S := fun w' => w'.cell? ⟨gb134, 0, none⟩ = some (.int .i64 a3_0) ∧ w'.cell? ⟨gb134, 1, none⟩ = some (.int .i64 a3_1)) (ds := []) #[false, false, false, false, false, false, false, false, false, false, false, false, false] (by kernel_rfl) rfl rfl ⟨(blk_cell BK134.out 0).trans rfl, (blk_cell BK134.out 1).trans rfl⟩ (fun hHeld => ?_); refine with_tabW beadlelaw13_WinOrder.tab14 beadlelaw13_WinOrder.bits14 (fun HT_ HW_ => ?_)
            generalize w102.drew = w103 at HO_9 BK134 HB hHeld ⊢
            refine pure_ (i := 0) (N := some 84) (v := ?_) (a' := ?_) #[true, false, false, false, false, false, false, false, false, false, false, false, false] rfl rfl (any_of HT_.out (by kernel_rfl)) (fun _ _ _ h => h) (Or.inl ⟨by rfl, ?_⟩) ?_ ?_
            rotate_left
            ·intro w'
             go_simp
             with_reducible rfl
            rotate_left
            ·simp only [Act.put, List.setIfInBounds_toArray, List.set_cons_zero, List.set_cons_succ, i64_w, i32_w]
             rfl
            refine pure_ (i := 2) (N := some 86) (v := ?_) (a' := ?_) #[true, false, true, false, false, false, false, false, false, false, false, false, false] rfl rfl (any_of HT_.out (by kernel_rfl)) (fun _ _ _ h => h) (Or.inl ⟨by rfl, ?_⟩) ?_ ?_
            rotate_left
            ·intro w'
             go_simp
             with_reducible rfl
            rotate_left
            ·simp only [Act.put, List.setIfInBounds_toArray, List.set_cons_zero, List.set_cons_succ, i64_w, i32_w]
             rfl
            refine take_ (i := 4) (N := some 88) (v := ?_) (a' := ?_) #[true, false, true, false, true, false, false, false, false, false, false, false, false] rfl rfl (take_ofW HT_.out HW_.out (by kernel_rfl)) (fun _ _ _ h => h) (Or.inl ⟨by rfl, ?_⟩) hHeld ?_ ?_
            rotate_left
            ·rintro w' ⟨s0, s1⟩
             go_simp
             with_reducible rfl
            rotate_left
            ·simp only [Act.put, List.setIfInBounds_toArray, List.set_cons_zero, List.set_cons_succ, i64_w, i32_w]
             rfl
            refine join_ (σ := Value × Value × Value) 7 #[true, true, true, true, true, true, false, false, false, false, false, false, false] (fun s_ => [(85, s_.1), (87, s_.2.1), (89, s_.2.2)]) (fun s_ w' => (w'.cell? ⟨gb134, 0, none⟩ = some (.int .i64 a3_0) ∧ w'.cell? ⟨gb134, 1, none⟩ = some (.int .i64 a3_1)) ∧ (Kd.R k35 35 w' w.heap.size (fun k_ => some k_ ≠ (s_.2.2 : Value).ownBlock ∧ some k_ ≠ (.slice Ao101 x9_2.length co101 : Value).ownBlock ∧ k_ ≠ gb134) s_.2.1 y153) ∧ (Kd.R k35 35 w' w.heap.size (fun k_ => some k_ ≠ (s_.2.1 : Value).ownBlock ∧ some k_ ≠ (.slice Ao101 x9_2.length co101 : Value).ownBlock ∧ k_ ≠ gb134) s_.2.2 y156) ∧ (Kd.R k35 35 w' w.heap.size (fun k_ => some k_ ≠ (s_.2.1 : Value).ownBlock ∧ some k_ ≠ (s_.2.2 : Value).ownBlock ∧ k_ ≠ gb134) (.slice Ao101 x9_2.length co101) x9_2) ∧ (w'.heap[gb134]? = some (.cells #[.int .i64 a3_0, .int .i64 a3_1] 35 (0, 0))) ∧ (Below w.heap.size w w')) ?_ ?_
            rotate_left
            ·intro hCont
             refine two_ (i := 1) (j := 5) (Ni := some 85) (Nj := some 89) #[true, true, true, false, true, false, false, false, false, false, false, false, false] #[true, false, true, false, true, true, false, false, false, false, false, false, false] rfl rfl rfl rfl (two_of HT_.out (by kernel_rfl)) (by decide) (by decide) (fun K hK => ?_) (fun K hK => ?_)
             ·skip
              refine Kd.R_lit_step k35 _ 35 ?hg (N := 85) ?hd (xs := ([] : List (S35))) (inner := []) (ok := fun _ => True) (okp := fun _ => True) ?hr ?hp (fun _ hk => hk) trivial (Below.refl _ _) (Nat.le_refl _) (by simp) ?_; (case hd => rfl); (case hg => rfl); (case hr => first | (go_simp; done) | (go_simp; rfl)); (case hp => exact (Reps.none _ _))
              intro v151 w104 ho105 hb hg_ hnew_
              clear hg_ hnew_
              (first | rw [← Ny150.out] at ho105 | (simp only [Int.reduceToNat] at ho105; rw [← Ny150.out] at ho105))
              have n0_ := Aside0.mk (Kd.R_elder' HO_9.out (Kd.R_base ho105) hb)
              have n1_ := Aside0.mk (Kd.R_lower (Kd.R_newB (Kd.R_new' ho105 (Kd.R_lt HO_9.out)) (g := gb134) (o := .cells #[.int .i64 a3_0, .int .i64 a3_1] 35 (0, 0)) BK134.out) (below_size (by repeat (first | (with_reducible first | exact HB.out | apply below_alloc | apply pw_below_drewN | apply below_drew1 | refine below_set ?_ GE134.out) | exact HB.out))))
              have n2_ := Aside0.mk (blk_below (g := gb134) (o := .cells #[.int .i64 a3_0, .int .i64 a3_1] 35 (0, 0)) BK134.out hb)
              have n3_ := Aside0.mk (below_step (by repeat (first | (with_reducible first | exact HB.out | apply below_alloc | apply pw_below_drewN | apply below_drew1 | refine below_set ?_ GE134.out) | exact HB.out)) hb)
              clear HO_9
              clear BK134
              clear HB
              have HO_9 := n0_
              have HO152 := n1_
              have BK134 := n2_
              have HB := n3_
              clear n0_ n1_ n2_ n3_
              clear hb ho105
              refine hK.out _ _ ⟨(blk_cell BK134.out 0).trans rfl, (blk_cell BK134.out 1).trans rfl⟩ (fun hHeld => ?_)
              clear hK K
              refine norm_ (a' := ?_) ?_ ?_
              rotate_left
              ·show Act.put _ (some 85) _ = _
               simp only [Act.put, List.setIfInBounds_toArray, List.set_cons_zero, List.set_cons_succ, i64_w, i32_w]
               rfl
              refine two_ (i := 3) (j := 5) (Ni := some 87) (Nj := some 89) #[true, true, true, true, true, false, false, false, false, false, false, false, false] #[true, true, true, false, true, true, false, false, false, false, false, false, false] rfl rfl rfl rfl (two_of HT_.out (by kernel_rfl)) (by decide) (by decide) (fun K hK => ?_) (fun K hK => ?_)
              ·skip
               refine Kd.R_append_rows_step k35 (w0 := w) w.heap.size (by rfl) (.tmp 85) (.tmp 86) 22 35 (.agg #[(.int .i64 0), (.int .i64 0)]) 16 rfl Try.underlying22 info35 rfl (by decide) (by omega) v151 y150 l1 _ _ _ (fun k_ => some k_ ≠ (.slice Ao101 x9_2.length co101 : Value).ownBlock ∧ k_ ≠ gb134) (fun _ => False) rfl rfl ?aO ?aR (fun _ _ h => h) (fun _ h => h.elim) ?aF ?aB ?aS ?aL ?_
               (case aR => repeat (first | exact (Kd.C_below HR1.out HB.out) | (with_reducible refine Kd.C_alloc ?_ _) | (with_reducible refine Kd.C_drewN ?_ _) | (with_reducible refine Kd.C_drew ?_)))
               (case aB => exact (by repeat (first | (with_reducible first | exact HB.out | apply below_alloc | apply pw_below_drewN | apply below_drew1 | refine below_set ?_ GE134.out) | exact HB.out)))
               (case aF => exact (fun k_ hk => ⟨Kd.fresh' (Kd.R_lt HO_9.out) k_ hk, Kd.freshB (g := gb134) (o := .cells #[.int .i64 a3_0, .int .i64 a3_1] 35 (0, 0)) BK134.out k_ hk⟩))
               (case aO => exact (by (with_reducible repeat (first | apply Kd.R_alloc | apply Kd.R_drewN | apply Kd.R_drew)); exact Kd.R_mono HO152.out (fun _ hk => ⟨hk.1.2, hk.2⟩)))
               (case aS => exact (below_size (by repeat (first | (with_reducible first | exact HB.out | apply below_alloc | apply pw_below_drewN | apply below_drew1 | refine below_set ?_ GE134.out) | exact HB.out))))
               (case aL => have := LMc36.out; omega)
               intro v154 w106 ho hb hg hat
               rw [← Ny153.out] at ho
               have n0_ := Aside0.mk (Kd.R_after (ok := (fun k_ => k_ ≠ gb134)) HO_9.out hg hat)
               have n1_ := Aside0.mk (blk_grown (g := gb134) (o := .cells #[.int .i64 a3_0, .int .i64 a3_1] 35 (0, 0)) BK134.out hg (Kd.R_away HO152.out (fun _ hk => hk.2)))
               have n2_ := Aside0.mk (hb)
               have n3_ := Aside0.mk (ho)
               clear HO_9
               clear BK134
               clear HB
               clear HO152
               have HO_9 := n0_
               have BK134 := n1_
               have HB := n2_
               have HO155 := n3_
               clear n0_ n1_ n2_ n3_
               clear ho hb hg hat
               refine hK.out _ _ ⟨(blk_cell BK134.out 0).trans rfl, (blk_cell BK134.out 1).trans rfl⟩ (fun hHeld => ?_)
               clear hK K
               refine norm_ (a' := ?_) ?_ ?_
               rotate_left
               ·show Act.put _ (some 87) _ = _
                simp only [Act.put, List.setIfInBounds_toArray, List.set_cons_zero, List.set_cons_succ, i64_w, i32_w]
                rfl
               refine one_ (i := 5) (N := some 89) #[true, true, true, true, true, true, false, false, false, false, false, false, false] rfl rfl (one_of HT_.out (by kernel_rfl)) (by decide) (fun K hK => ?_)
               refine Kd.R_lit_step k35 _ 35 ?hg (N := 89) ?hd (xs := ([(⟨a3_0, a3_1⟩ : S35)] : List (S35))) (inner := [.int .i64 a3_0, .int .i64 a3_1]) (ok := fun _ => True) (okp := fun _ => True) ?hr ?hp (fun _ hk => hk) trivial (Below.refl _ _) (Nat.le_refl _) (by simp) ?_; (case hd => rfl); (case hg => rfl); (case hr => first | (go_simp; done) | (go_simp; rfl)); (case hp => exact (Reps.c2 (show Kd.M k35 _ _ _ (⟨a3_0, a3_1⟩ : S35) [.int .i64 a3_0, .int .i64 a3_1] from (k35_mkM _ _ _ (⟨a3_0, a3_1⟩ : S35) )) (Reps.none _ _)))
               intro v157 w107 ho108 hb hg_ hnew_
               clear hg_ hnew_
               (first | rw [← Ny156.out] at ho108 | (simp only [Int.reduceToNat] at ho108; rw [← Ny156.out] at ho108))
               have n0_ := Aside0.mk (Kd.R_elder' HO_9.out (Kd.R_base ho108) hb)
               have n1_ := Aside0.mk (Kd.R_elder' HO155.out (Kd.R_base ho108) hb)
               have n2_ := Aside0.mk (Kd.R_lower (Kd.R_newB (Kd.R_new' (Kd.R_new' ho108 (Kd.R_lt HO_9.out)) (Kd.R_lt HO155.out)) (g := gb134) (o := .cells #[.int .i64 a3_0, .int .i64 a3_1] 35 (0, 0)) BK134.out) (below_size (by repeat (first | (with_reducible first | exact HB.out | apply below_alloc | apply pw_below_drewN | apply below_drew1 | refine below_set ?_ GE134.out) | exact HB.out))))
               have n3_ := Aside0.mk (blk_below (g := gb134) (o := .cells #[.int .i64 a3_0, .int .i64 a3_1] 35 (0, 0)) BK134.out hb)
               have n4_ := Aside0.mk (below_step (by repeat (first | (with_reducible first | exact HB.out | apply below_alloc | apply pw_below_drewN | apply below_drew1 | refine below_set ?_ GE134.out) | exact HB.out)) hb)
               clear HO_9
               clear HO155
               clear BK134
               clear HB
               have HO_9 := n0_
               have HO155 := n1_
               have HO158 := n2_
               have BK134 := n3_
               have HB := n4_
               clear n0_ n1_ n2_ n3_ n4_
               clear hb ho108
               refine hK.out _ _ ⟨(blk_cell BK134.out 0).trans rfl, (blk_cell BK134.out 1).trans rfl⟩ (fun hHeld => ?_)
               clear hK K
               refine norm_ (a' := ?_) ?_ ?_
               rotate_left
               ·show Act.put _ (some 89) _ = _
                simp only [Act.put, List.setIfInBounds_toArray, List.set_cons_zero, List.set_cons_succ, i64_w, i32_w]
                rfl
               exact norm_ (by simp only [putAll, Act.put, List.setIfInBounds_toArray, List.set_cons_zero, List.set_cons_succ]) (hCont (v151, v154, v157) _ ⟨hHeld, (by (with_reducible repeat (first | apply Kd.R_alloc | apply Kd.R_drewN | apply Kd.R_drew)); exact Kd.R_mono HO155.out (fun _ hk => ⟨hk.2, ⟨hk.1.1, hk.1.2⟩⟩)), (by (with_reducible repeat (first | apply Kd.R_alloc | apply Kd.R_drewN | apply Kd.R_drew)); exact Kd.R_mono HO158.out (fun _ hk => ⟨hk.1.2, ⟨hk.1.1.2, hk.2⟩⟩)), (by (with_reducible repeat (first | apply Kd.R_alloc | apply Kd.R_drewN | apply Kd.R_drew)); exact Kd.R_mono HO_9.out (fun _ hk => ⟨hk.1.2, ⟨hk.2, hk.1.1⟩⟩)), BK134.out, (by repeat (first | (with_reducible first | exact HB.out | apply below_alloc | apply pw_below_drewN | apply below_drew1 | refine below_set ?_ GE134.out) | exact HB.out))⟩)
              ·skip
               refine Kd.R_lit_step k35 _ 35 ?hg (N := 89) ?hd (xs := ([(⟨a3_0, a3_1⟩ : S35)] : List (S35))) (inner := [.int .i64 a3_0, .int .i64 a3_1]) (ok := fun _ => True) (okp := fun _ => True) ?hr ?hp (fun _ hk => hk) trivial (Below.refl _ _) (Nat.le_refl _) (by simp) ?_; (case hd => rfl); (case hg => rfl); (case hr => first | (go_simp; done) | (go_simp; rfl)); (case hp => exact (Reps.c2 (show Kd.M k35 _ _ _ (⟨a3_0, a3_1⟩ : S35) [.int .i64 a3_0, .int .i64 a3_1] from (k35_mkM _ _ _ (⟨a3_0, a3_1⟩ : S35) )) (Reps.none _ _)))
               intro v157 w106 ho107 hb hg_ hnew_
               clear hg_ hnew_
               (first | rw [← Ny156.out] at ho107 | (simp only [Int.reduceToNat] at ho107; rw [← Ny156.out] at ho107))
               have n0_ := Aside0.mk (Kd.R_elder' HO_9.out (Kd.R_base ho107) hb)
               have n1_ := Aside0.mk (Kd.R_elder' HO152.out (Kd.R_base ho107) hb)
               have n2_ := Aside0.mk (Kd.R_lower (Kd.R_newB (Kd.R_new' (Kd.R_new' ho107 (Kd.R_lt HO_9.out)) (Kd.R_lt HO152.out)) (g := gb134) (o := .cells #[.int .i64 a3_0, .int .i64 a3_1] 35 (0, 0)) BK134.out) (below_size (by repeat (first | (with_reducible first | exact HB.out | apply below_alloc | apply pw_below_drewN | apply below_drew1 | refine below_set ?_ GE134.out) | exact HB.out))))
               have n3_ := Aside0.mk (blk_below (g := gb134) (o := .cells #[.int .i64 a3_0, .int .i64 a3_1] 35 (0, 0)) BK134.out hb)
               have n4_ := Aside0.mk (below_step (by repeat (first | (with_reducible first | exact HB.out | apply below_alloc | apply pw_below_drewN | apply below_drew1 | refine below_set ?_ GE134.out) | exact HB.out)) hb)
               clear HO_9
               clear HO152
               clear BK134
               clear HB
               have HO_9 := n0_
               have HO152 := n1_
               have HO158 := n2_
               have BK134 := n3_
               have HB := n4_
               clear n0_ n1_ n2_ n3_ n4_
               clear hb ho107
               refine hK.out _ _ ⟨(blk_cell BK134.out 0).trans rfl, (blk_cell BK134.out 1).trans rfl⟩ (fun hHeld => ?_)
               clear hK K
               refine norm_ (a' := ?_) ?_ ?_
               rotate_left
               ·show Act.put _ (some 89) _ = _
                simp only [Act.put, List.setIfInBounds_toArray, List.set_cons_zero, List.set_cons_succ, i64_w, i32_w]
                rfl
               refine one_ (i := 3) (N := some 87) #[true, true, true, true, true, true, false, false, false, false, false, false, false] rfl rfl (one_of HT_.out (by kernel_rfl)) (by decide) (fun K hK => ?_)
               refine Kd.R_append_rows_step k35 (w0 := w) w.heap.size (by rfl) (.tmp 85) (.tmp 86) 22 35 (.agg #[(.int .i64 0), (.int .i64 0)]) 16 rfl Try.underlying22 info35 rfl (by decide) (by omega) v151 y150 l1 _ _ _ (fun k_ => some k_ ≠ (.slice Ao101 x9_2.length co101 : Value).ownBlock ∧ some k_ ≠ (v157 : Value).ownBlock ∧ k_ ≠ gb134) (fun _ => False) rfl rfl ?aO ?aR (fun _ _ h => h) (fun _ h => h.elim) ?aF ?aB ?aS ?aL ?_
               (case aR => repeat (first | exact (Kd.C_below HR1.out HB.out) | (with_reducible refine Kd.C_alloc ?_ _) | (with_reducible refine Kd.C_drewN ?_ _) | (with_reducible refine Kd.C_drew ?_)))
               (case aB => exact (by repeat (first | (with_reducible first | exact HB.out | apply below_alloc | apply pw_below_drewN | apply below_drew1 | refine below_set ?_ GE134.out) | exact HB.out)))
               (case aF => exact (fun k_ hk => ⟨Kd.fresh' (Kd.R_lt HO_9.out) k_ hk, Kd.fresh' (Kd.R_lt HO158.out) k_ hk, Kd.freshB (g := gb134) (o := .cells #[.int .i64 a3_0, .int .i64 a3_1] 35 (0, 0)) BK134.out k_ hk⟩))
               (case aO => exact (by (with_reducible repeat (first | apply Kd.R_alloc | apply Kd.R_drewN | apply Kd.R_drew)); exact Kd.R_mono HO152.out (fun _ hk => ⟨hk.1.1.2, ⟨hk.2, hk.1.2⟩⟩)))
               (case aS => exact (below_size (by repeat (first | (with_reducible first | exact HB.out | apply below_alloc | apply pw_below_drewN | apply below_drew1 | refine below_set ?_ GE134.out) | exact HB.out))))
               (case aL => have := LMc36.out; omega)
               intro v154 w108 ho hb hg hat
               rw [← Ny153.out] at ho
               have n0_ := Aside0.mk (Kd.R_after (ok := (fun k_ => some k_ ≠ (v157 : Value).ownBlock ∧ k_ ≠ gb134)) (by (with_reducible repeat (first | apply Kd.R_alloc | apply Kd.R_drewN | apply Kd.R_drew)); exact Kd.R_mono HO_9.out (fun _ hk => ⟨⟨hk.2, hk.1.1⟩, hk.1.2⟩)) hg hat)
               have n1_ := Aside0.mk (blk_grown (g := gb134) (o := .cells #[.int .i64 a3_0, .int .i64 a3_1] 35 (0, 0)) BK134.out hg (Kd.R_away HO152.out (fun _ hk => hk.1.2)))
               have n2_ := Aside0.mk (Kd.R_after (ok := (fun k_ => some k_ ≠ (.slice Ao101 x9_2.length co101 : Value).ownBlock ∧ k_ ≠ gb134)) (by (with_reducible repeat (first | apply Kd.R_alloc | apply Kd.R_drewN | apply Kd.R_drew)); exact Kd.R_mono HO158.out (fun _ hk => ⟨⟨hk.1.1.2, hk.2⟩, hk.1.2⟩)) hg hat)
               have n3_ := Aside0.mk (hb)
               have n4_ := Aside0.mk (ho)
               clear HO_9
               clear BK134
               clear HO158
               clear HB
               clear HO152
               have HO_9 := n0_
               have BK134 := n1_
               have HO158 := n2_
               have HB := n3_
               have HO155 := n4_
               clear n0_ n1_ n2_ n3_ n4_
               clear ho hb hg hat
               refine hK.out _ _ ⟨(blk_cell BK134.out 0).trans rfl, (blk_cell BK134.out 1).trans rfl⟩ (fun hHeld => ?_)
               clear hK K
               refine norm_ (a' := ?_) ?_ ?_
               rotate_left
               ·show Act.put _ (some 87) _ = _
                simp only [Act.put, List.setIfInBounds_toArray, List.set_cons_zero, List.set_cons_succ, i64_w, i32_w]
                rfl
               exact norm_ (by simp only [putAll, Act.put, List.setIfInBounds_toArray, List.set_cons_zero, List.set_cons_succ]) (hCont (v151, v154, v157) _ ⟨hHeld, (by (with_reducible repeat (first | apply Kd.R_alloc | apply Kd.R_drewN | apply Kd.R_drew)); exact Kd.R_mono HO155.out (fun _ hk => ⟨hk.2.1, ⟨hk.1, hk.2.2⟩⟩)), (by (with_reducible repeat (first | apply Kd.R_alloc | apply Kd.R_drewN | apply Kd.R_drew)); exact Kd.R_mono HO158.out (fun _ hk => ⟨hk.2, ⟨hk.1.1, hk.1.2⟩⟩)), (by (with_reducible repeat (first | apply Kd.R_alloc | apply Kd.R_drewN | apply Kd.R_drew)); exact Kd.R_mono HO_9.out (fun _ hk => ⟨hk.2, ⟨hk.1.1, hk.1.2⟩⟩)), BK134.out, (by repeat (first | (with_reducible first | exact HB.out | apply below_alloc | apply pw_below_drewN | apply below_drew1 | refine below_set ?_ GE134.out) | exact HB.out))⟩)
             ·skip
              refine Kd.R_lit_step k35 _ 35 ?hg (N := 89) ?hd (xs := ([(⟨a3_0, a3_1⟩ : S35)] : List (S35))) (inner := [.int .i64 a3_0, .int .i64 a3_1]) (ok := fun _ => True) (okp := fun _ => True) ?hr ?hp (fun _ hk => hk) trivial (Below.refl _ _) (Nat.le_refl _) (by simp) ?_; (case hd => rfl); (case hg => rfl); (case hr => first | (go_simp; done) | (go_simp; rfl)); (case hp => exact (Reps.c2 (show Kd.M k35 _ _ _ (⟨a3_0, a3_1⟩ : S35) [.int .i64 a3_0, .int .i64 a3_1] from (k35_mkM _ _ _ (⟨a3_0, a3_1⟩ : S35) )) (Reps.none _ _)))
              intro v157 w104 ho105 hb hg_ hnew_
              clear hg_ hnew_
              (first | rw [← Ny156.out] at ho105 | (simp only [Int.reduceToNat] at ho105; rw [← Ny156.out] at ho105))
              have n0_ := Aside0.mk (Kd.R_elder' HO_9.out (Kd.R_base ho105) hb)
              have n1_ := Aside0.mk (Kd.R_lower (Kd.R_newB (Kd.R_new' ho105 (Kd.R_lt HO_9.out)) (g := gb134) (o := .cells #[.int .i64 a3_0, .int .i64 a3_1] 35 (0, 0)) BK134.out) (below_size (by repeat (first | (with_reducible first | exact HB.out | apply below_alloc | apply pw_below_drewN | apply below_drew1 | refine below_set ?_ GE134.out) | exact HB.out))))
              have n2_ := Aside0.mk (blk_below (g := gb134) (o := .cells #[.int .i64 a3_0, .int .i64 a3_1] 35 (0, 0)) BK134.out hb)
              have n3_ := Aside0.mk (below_step (by repeat (first | (with_reducible first | exact HB.out | apply below_alloc | apply pw_below_drewN | apply below_drew1 | refine below_set ?_ GE134.out) | exact HB.out)) hb)
              clear HO_9
              clear BK134
              clear HB
              have HO_9 := n0_
              have HO158 := n1_
              have BK134 := n2_
              have HB := n3_
              clear n0_ n1_ n2_ n3_
              clear hb ho105
              refine hK.out _ _ ⟨(blk_cell BK134.out 0).trans rfl, (blk_cell BK134.out 1).trans rfl⟩ (fun hHeld => ?_)
              clear hK K
              refine norm_ (a' := ?_) ?_ ?_
              rotate_left
              ·show Act.put _ (some 89) _ = _
               simp only [Act.put, List.setIfInBounds_toArray, List.set_cons_zero, List.set_cons_succ, i64_w, i32_w]
               rfl
              refine one_ (i := 1) (N := some 85) #[true, true, true, false, true, true, false, false, false, false, false, false, false] rfl rfl (one_of HT_.out (by kernel_rfl)) (by decide) (fun K hK => ?_)
              refine Kd.R_lit_step k35 _ 35 ?hg (N := 85) ?hd (xs := ([] : List (S35))) (inner := []) (ok := fun _ => True) (okp := fun _ => True) ?hr ?hp (fun _ hk => hk) trivial (Below.refl _ _) (Nat.le_refl _) (by simp) ?_; (case hd => rfl); (case hg => rfl); (case hr => first | (go_simp; done) | (go_simp; rfl)); (case hp => exact (Reps.none _ _))
              intro v151 w106 ho107 hb hg_ hnew_
              clear hg_ hnew_
              (first | rw [← Ny150.out] at ho107 | (simp only [Int.reduceToNat] at ho107; rw [← Ny150.out] at ho107))
              have n0_ := Aside0.mk (Kd.R_elder' HO_9.out (Kd.R_base ho107) hb)
              have n1_ := Aside0.mk (Kd.R_elder' HO158.out (Kd.R_base ho107) hb)
              have n2_ := Aside0.mk (Kd.R_lower (Kd.R_newB (Kd.R_new' (Kd.R_new' ho107 (Kd.R_lt HO_9.out)) (Kd.R_lt HO158.out)) (g := gb134) (o := .cells #[.int .i64 a3_0, .int .i64 a3_1] 35 (0, 0)) BK134.out) (below_size (by repeat (first | (with_reducible first | exact HB.out | apply below_alloc | apply pw_below_drewN | apply below_drew1 | refine below_set ?_ GE134.out) | exact HB.out))))
              have n3_ := Aside0.mk (blk_below (g := gb134) (o := .cells #[.int .i64 a3_0, .int .i64 a3_1] 35 (0, 0)) BK134.out hb)
              have n4_ := Aside0.mk (below_step (by repeat (first | (with_reducible first | exact HB.out | apply below_alloc | apply pw_below_drewN | apply below_drew1 | refine below_set ?_ GE134.out) | exact HB.out)) hb)
              clear HO_9
              clear HO158
              clear BK134
              clear HB
              have HO_9 := n0_
              have HO158 := n1_
              have HO152 := n2_
              have BK134 := n3_
              have HB := n4_
              clear n0_ n1_ n2_ n3_ n4_
              clear hb ho107
              refine hK.out _ _ ⟨(blk_cell BK134.out 0).trans rfl, (blk_cell BK134.out 1).trans rfl⟩ (fun hHeld => ?_)
              clear hK K
              refine norm_ (a' := ?_) ?_ ?_
              rotate_left
              ·show Act.put _ (some 85) _ = _
               simp only [Act.put, List.setIfInBounds_toArray, List.set_cons_zero, List.set_cons_succ, i64_w, i32_w]
               rfl
              refine one_ (i := 3) (N := some 87) #[true, true, true, true, true, true, false, false, false, false, false, false, false] rfl rfl (one_of HT_.out (by kernel_rfl)) (by decide) (fun K hK => ?_)
              refine Kd.R_append_rows_step k35 (w0 := w) w.heap.size (by rfl) (.tmp 85) (.tmp 86) 22 35 (.agg #[(.int .i64 0), (.int .i64 0)]) 16 rfl Try.underlying22 info35 rfl (by decide) (by omega) v151 y150 l1 _ _ _ (fun k_ => some k_ ≠ (.slice Ao101 x9_2.length co101 : Value).ownBlock ∧ some k_ ≠ (v157 : Value).ownBlock ∧ k_ ≠ gb134) (fun _ => False) rfl rfl ?aO ?aR (fun _ _ h => h) (fun _ h => h.elim) ?aF ?aB ?aS ?aL ?_
              (case aR => repeat (first | exact (Kd.C_below HR1.out HB.out) | (with_reducible refine Kd.C_alloc ?_ _) | (with_reducible refine Kd.C_drewN ?_ _) | (with_reducible refine Kd.C_drew ?_)))
              (case aB => exact (by repeat (first | (with_reducible first | exact HB.out | apply below_alloc | apply pw_below_drewN | apply below_drew1 | refine below_set ?_ GE134.out) | exact HB.out)))
              (case aF => exact (fun k_ hk => ⟨Kd.fresh' (Kd.R_lt HO_9.out) k_ hk, Kd.fresh' (Kd.R_lt HO158.out) k_ hk, Kd.freshB (g := gb134) (o := .cells #[.int .i64 a3_0, .int .i64 a3_1] 35 (0, 0)) BK134.out k_ hk⟩))
              (case aO => exact (by (with_reducible repeat (first | apply Kd.R_alloc | apply Kd.R_drewN | apply Kd.R_drew)); exact Kd.R_mono HO152.out (fun _ hk => ⟨hk.1.1.2, ⟨hk.1.2, hk.2⟩⟩)))
              (case aS => exact (below_size (by repeat (first | (with_reducible first | exact HB.out | apply below_alloc | apply pw_below_drewN | apply below_drew1 | refine below_set ?_ GE134.out) | exact HB.out))))
              (case aL => have := LMc36.out; omega)
              intro v154 w108 ho hb hg hat
              rw [← Ny153.out] at ho
              have n0_ := Aside0.mk (Kd.R_after (ok := (fun k_ => some k_ ≠ (v157 : Value).ownBlock ∧ k_ ≠ gb134)) (by (with_reducible repeat (first | apply Kd.R_alloc | apply Kd.R_drewN | apply Kd.R_drew)); exact Kd.R_mono HO_9.out (fun _ hk => ⟨⟨hk.1.2, hk.1.1⟩, hk.2⟩)) hg hat)
              have n1_ := Aside0.mk (blk_grown (g := gb134) (o := .cells #[.int .i64 a3_0, .int .i64 a3_1] 35 (0, 0)) BK134.out hg (Kd.R_away HO152.out (fun _ hk => hk.2)))
              have n2_ := Aside0.mk (Kd.R_after (ok := (fun k_ => some k_ ≠ (.slice Ao101 x9_2.length co101 : Value).ownBlock ∧ k_ ≠ gb134)) (by (with_reducible repeat (first | apply Kd.R_alloc | apply Kd.R_drewN | apply Kd.R_drew)); exact Kd.R_mono HO158.out (fun _ hk => ⟨⟨hk.1.1.2, hk.1.2⟩, hk.2⟩)) hg hat)
              have n3_ := Aside0.mk (hb)
              have n4_ := Aside0.mk (ho)
              clear HO_9
              clear BK134
              clear HO158
              clear HB
              clear HO152
              have HO_9 := n0_
              have BK134 := n1_
              have HO158 := n2_
              have HB := n3_
              have HO155 := n4_
              clear n0_ n1_ n2_ n3_ n4_
              clear ho hb hg hat
              refine hK.out _ _ ⟨(blk_cell BK134.out 0).trans rfl, (blk_cell BK134.out 1).trans rfl⟩ (fun hHeld => ?_)
              clear hK K
              refine norm_ (a' := ?_) ?_ ?_
              rotate_left
              ·show Act.put _ (some 87) _ = _
               simp only [Act.put, List.setIfInBounds_toArray, List.set_cons_zero, List.set_cons_succ, i64_w, i32_w]
               rfl
              exact norm_ (by simp only [putAll, Act.put, List.setIfInBounds_toArray, List.set_cons_zero, List.set_cons_succ]) (hCont (v151, v154, v157) _ ⟨hHeld, (by (with_reducible repeat (first | apply Kd.R_alloc | apply Kd.R_drewN | apply Kd.R_drew)); exact Kd.R_mono HO155.out (fun _ hk => ⟨hk.2.1, ⟨hk.1, hk.2.2⟩⟩)), (by (with_reducible repeat (first | apply Kd.R_alloc | apply Kd.R_drewN | apply Kd.R_drew)); exact Kd.R_mono HO158.out (fun _ hk => ⟨hk.2, ⟨hk.1.1, hk.1.2⟩⟩)), (by (with_reducible repeat (first | apply Kd.R_alloc | apply Kd.R_drewN | apply Kd.R_drew)); exact Kd.R_mono HO_9.out (fun _ hk => ⟨hk.2, ⟨hk.1.1, hk.1.2⟩⟩)), BK134.out, (by repeat (first | (with_reducible first | exact HB.out | apply below_alloc | apply pw_below_drewN | apply below_drew1 | refine below_set ?_ GE134.out) | exact HB.out))⟩)
            rintro ⟨v151, v154, v157⟩ w109 ⟨hS_, h0_, h1_, h2_, h3_, h4_⟩
            have n0_ : Aside0 (Kd.R k35 35 w109 w.heap.size (fun k_ => some k_ ≠ (v157 : Value).ownBlock ∧ some k_ ≠ (.slice Ao101 x9_2.length co101 : Value).ownBlock ∧ k_ ≠ gb134) v154 y153) := ⟨h0_⟩
            have n1_ : Aside0 (Kd.R k35 35 w109 w.heap.size (fun k_ => some k_ ≠ (v154 : Value).ownBlock ∧ some k_ ≠ (.slice Ao101 x9_2.length co101 : Value).ownBlock ∧ k_ ≠ gb134) v157 y156) := ⟨h1_⟩
            have n2_ : Aside0 (Kd.R k35 35 w109 w.heap.size (fun k_ => some k_ ≠ (v154 : Value).ownBlock ∧ some k_ ≠ (v157 : Value).ownBlock ∧ k_ ≠ gb134) (.slice Ao101 x9_2.length co101) x9_2) := ⟨h2_⟩
            have n3_ : Aside0 (w109.heap[gb134]? = some (.cells #[.int .i64 a3_0, .int .i64 a3_1] 35 (0, 0))) := ⟨h3_⟩
            have n4_ : Aside0 (Below w.heap.size w w109) := ⟨h4_⟩
            clear HO_9
            clear BK134
            clear HB
            clear h0_ h1_ h2_ h3_ h4_
            have HO155 := n0_
            have HO158 := n1_
            have HO_9 := n2_
            have BK134 := n3_
            have HB := n4_
            clear n0_ n1_ n2_ n3_ n4_
            have hHeld : w109.cell? ⟨gb134, 0, none⟩ = some (.int .i64 a3_0) ∧ w109.cell? ⟨gb134, 1, none⟩ = some (.int .i64 a3_1) := hS_
            obtain ⟨Ao111, co111, eo111⟩ := Kd.R_slice HO158.out
            (first | subst eo111 | (injection eo111 with f1_ f2_ f3_; have f4_ := f1_.symm; have f5_ := f3_.symm; clear f1_ f2_ f3_; subst f4_; subst f5_))
            refine norm_ (a' := ?_) ?_ ?_
            rotate_left
            ·simp only [putAll, Act.put, List.setIfInBounds_toArray, List.set_cons_zero, List.set_cons_succ]
             rfl
            refine one_ (i := 6) (N := some 90) #[true, true, true, true, true, true, true, false, false, false, false, false, false] rfl rfl (one_of HT_.out (by kernel_rfl)) (by decide) (fun K hK => ?_)
            refine Kd.R_append_rows_step k35 (w0 := w) w.heap.size (by rfl) (.tmp 87) (.tmp 89) 22 35 (.agg #[(.int .i64 0), (.int .i64 0)]) 16 rfl Try.underlying22 info35 rfl (by decide) (by omega) v154 y153 y156 _ _ _ (fun k_ => some k_ ≠ (.slice Ao101 x9_2.length co101 : Value).ownBlock ∧ some k_ ≠ (.slice Ao111 y156.length co111 : Value).ownBlock ∧ k_ ≠ gb134) (fun _ => False) rfl rfl ?aO ?aR (fun _ _ h => h) (fun _ h => h.elim) ?aF ?aB ?aS ?aL ?_
            (case aR => repeat (first | exact (Kd.R_reads' HO158.out).2.2 | (with_reducible refine Kd.C_alloc ?_ _) | (with_reducible refine Kd.C_drewN ?_ _) | (with_reducible refine Kd.C_drew ?_)))
            (case aB => exact (by repeat (first | (with_reducible first | exact HB.out | apply below_alloc | apply pw_below_drewN | apply below_drew1 | refine below_set ?_ GE134.out) | exact HB.out)))
            (case aF => exact (fun k_ hk => ⟨Kd.fresh' (Kd.R_lt HO_9.out) k_ hk, Kd.fresh' (Kd.R_lt HO158.out) k_ hk, Kd.freshB (g := gb134) (o := .cells #[.int .i64 a3_0, .int .i64 a3_1] 35 (0, 0)) BK134.out k_ hk⟩))
            (case aO => exact (by (with_reducible repeat (first | apply Kd.R_alloc | apply Kd.R_drewN | apply Kd.R_drew)); exact Kd.R_mono HO155.out (fun _ hk => ⟨hk.2.1, ⟨hk.1, hk.2.2⟩⟩)))
            (case aS => exact (below_size (by repeat (first | (with_reducible first | exact HB.out | apply below_alloc | apply pw_below_drewN | apply below_drew1 | refine below_set ?_ GE134.out) | exact HB.out))))
            (case aL => have := LMc37.out; omega)
            intro v160 w110 ho hb hg hat
            rw [← Ny159.out] at ho
            have n0_ := Aside0.mk (Kd.R_after (ok := (fun k_ => some k_ ≠ (.slice Ao111 y156.length co111 : Value).ownBlock ∧ k_ ≠ gb134)) (by (with_reducible repeat (first | apply Kd.R_alloc | apply Kd.R_drewN | apply Kd.R_drew)); exact Kd.R_mono HO_9.out (fun _ hk => ⟨⟨hk.2.1, hk.2.2⟩, hk.1⟩)) hg hat)
            have n1_ := Aside0.mk (blk_grown (g := gb134) (o := .cells #[.int .i64 a3_0, .int .i64 a3_1] 35 (0, 0)) BK134.out hg (Kd.R_away HO155.out (fun _ hk => hk.2.2)))
            have n2_ := Aside0.mk (Kd.R_after (ok := (fun k_ => some k_ ≠ (.slice Ao101 x9_2.length co101 : Value).ownBlock ∧ k_ ≠ gb134)) (by (with_reducible repeat (first | apply Kd.R_alloc | apply Kd.R_drewN | apply Kd.R_drew)); exact Kd.R_mono HO158.out (fun _ hk => ⟨⟨hk.2.1, hk.2.2⟩, hk.1⟩)) hg hat)
            have n3_ := Aside0.mk (hb)
            have n4_ := Aside0.mk (ho)
            clear HO_9
            clear BK134
            clear HO158
            clear HB
            clear HO155
            have HO_9 := n0_
            have BK134 := n1_
            have HO158 := n2_
            have HB := n3_
            have HO161 := n4_
            clear n0_ n1_ n2_ n3_ n4_
            clear ho hb hg hat
            obtain ⟨Ao112, co112, eo112⟩ := Kd.R_slice HO161.out
            (first | subst eo112 | (injection eo112 with f1_ f2_ f3_; have f4_ := f1_.symm; have f5_ := f3_.symm; clear f1_ f2_ f3_; subst f4_; subst f5_))
            refine hK.out _ _ ⟨(blk_cell BK134.out 0).trans rfl, (blk_cell BK134.out 1).trans rfl⟩ (fun hHeld => ?_)
            clear hK K
            refine norm_ (a' := ?_) ?_ ?_
            rotate_left
            ·show Act.put _ (some 90) _ = _
             simp only [Act.put, List.setIfInBounds_toArray, List.set_cons_zero, List.set_cons_succ, i64_w, i32_w]
             rfl
            refine one_ (i := 7) (N := some 91) #[true, true, true, true, true, true, true, true, false, false, false, false, false] rfl rfl (one_of HT_.out (by kernel_rfl)) (by decide) (fun K hK => ?_)
            refine goes_ Try.func14 (by kernel_rfl) rfl #[.int .i64 a0, .slice Ao112 y159.length co112] (by rfl) rfl rfl (by (try simp only [List.map_toArray, List.map_cons, List.map_nil]); first | done | rfl | (simp only [List.length_drop, List.length_take]; rfl)) ?_
            with_reducible refine (win_All.calls k2 a0 _ _ y159 t162 t163 _ ?side1 ?side2 A38.out).mono ?_
            (case side1 => repeat (first | exact (Kd.R_reads' HO161.out).2.2 | (with_reducible refine Kd.C_alloc ?_ _) | (with_reducible refine Kd.C_drewN ?_ _) | (with_reducible refine Kd.C_drew ?_)))
            (case side2 => exact (Kd.R_reads' HO161.out).2.1)
            rintro e w113 ⟨rfl, hb⟩
            refine ⟨_, rfl, ?_⟩
            have n0_ := Aside0.mk (Kd.R_below HO_9.out hb)
            have n1_ := Aside0.mk (Kd.R_below HO158.out hb)
            have n2_ := Aside0.mk (Kd.R_below HO161.out hb)
            have n3_ := Aside0.mk (blk_below (g := gb134) (o := .cells #[.int .i64 a3_0, .int .i64 a3_1] 35 (0, 0)) BK134.out hb)
            have n4_ := Aside0.mk (below_step (by repeat (first | (with_reducible first | exact HB.out | apply below_alloc | apply pw_below_drewN | apply below_drew1 | refine below_set ?_ GE134.out) | exact HB.out)) hb)
            clear HO_9
            clear HO158
            clear HO161
            clear BK134
            clear HB
            have HO_9 := n0_
            have HO158 := n1_
            have HO161 := n2_
            have BK134 := n3_
            have HB := n4_
            clear n0_ n1_ n2_ n3_ n4_
            (try clear hb)
            (try clear hb2)
            (try clear hk)
            (try clear hi)
            refine hK.out _ _ ⟨(blk_cell BK134.out 0).trans rfl, (blk_cell BK134.out 1).trans rfl⟩ (fun hHeld => ?_)
            clear hK K
            refine norm_ (a' := ?_) ?_ ?_
            rotate_left
            ·show Act.put _ (some 91) _ = _
             simp only [Act.put, List.setIfInBounds_toArray, List.set_cons_zero, List.set_cons_succ, i64_w, i32_w]
             rfl
            refine pure_ (i := 8) (N := some 83) (v := ?_) (a' := ?_) #[true, true, true, true, true, true, true, true, true, false, false, false, false] rfl rfl (any_of HT_.out (by kernel_rfl)) (fun _ _ _ h => h) (Or.inl ⟨by rfl, ?_⟩) ?_ ?_
            rotate_left
            ·intro w'
             go_simp
             with_reducible rfl
            rotate_left
            ·simp only [Act.put, List.setIfInBounds_toArray, List.set_cons_zero, List.set_cons_succ, i64_w, i32_w]
             rfl
            refine pure_ (i := 9) (N := some 92) (v := ?_) (a' := ?_) #[true, true, true, true, true, true, true, true, true, true, false, false, false] rfl rfl (any_of HT_.out (by kernel_rfl)) (fun _ _ _ h => h) (Or.inl ⟨by rfl, ?_⟩) ?_ ?_
            rotate_left
            ·intro w'
             go_simp
             with_reducible rfl
            rotate_left
            ·simp only [Act.put, List.setIfInBounds_toArray, List.set_cons_zero, List.set_cons_succ, i64_w, i32_w]
             rfl
            refine pure_ (i := 10) (N := some 93) (v := ?_) (a' := ?_) #[true, true, true, true, true, true, true, true, true, true, true, false, false] rfl rfl (any_of HT_.out (by kernel_rfl)) (fun _ _ _ h => h) (Or.inl ⟨by rfl, ?_⟩) ?_ ?_
            rotate_left
            ·intro w'
             go_simp
             with_reducible rfl
            rotate_left
            ·simp only [Act.put, List.setIfInBounds_toArray, List.set_cons_zero, List.set_cons_succ, i64_w, i32_w]
             rfl
            refine pure_ (i := 11) (N := some 15) (v := ?_) (a' := ?_) #[true, true, true, true, true, true, true, true, true, true, true, true, false] rfl rfl (any_of HT_.out (by kernel_rfl)) (fun _ _ _ h => h) (Or.inl ⟨by rfl, ?_⟩) ?_ ?_
            rotate_left
            ·intro w'
             go_simp
             with_reducible rfl
            rotate_left
            ·simp only [Act.put, List.setIfInBounds_toArray, List.set_cons_zero, List.set_cons_succ, i64_w, i32_w]
             rfl
            refine pure_ (i := 12) (N := some 16) (v := ?_) (a' := ?_) #[true, true, true, true, true, true, true, true, true, true, true, true, true] rfl rfl (any_of HT_.out (by kernel_rfl)) (fun _ _ _ h => h) (Or.inl ⟨by rfl, ?_⟩) ?_ ?_
            rotate_left
            ·intro w'
             go_simp
             with_reducible rfl
            rotate_left
            ·simp only [Act.put, List.setIfInBounds_toArray, List.set_cons_zero, List.set_cons_succ, i64_w, i32_w]
             rfl
            refine done_ (done_of HT_.out (by kernel_rfl)) ?_
            try go_wp2
            go_ret
            exact ⟨by first | rfl | (simp [errW_none, errW_some] <;> rfl) | (simp [*, errW_none, errW_some] <;> rfl), by repeat (first | (with_reducible first | exact HB.out | apply below_alloc | apply pw_below_drewN | apply below_drew1 | refine below_set ?_ GE134.out) | exact HB.out)⟩
          ·rw [if_neg c39] at H
           have c39b0 : (t147 == 0) = false := beq_eq_false_iff_ne.mpr c39
           have c39b1 : (t147 != 0) = true := bne_iff_ne.mpr c39
           obtain rfl := Option.some.inj H
           try go_wp2_with (first | ((with_reducible refine gate_callee (f := 14) rfl ?_); refine goesL_ (some 74) rfl rfl Try.func14 (by kernel_rfl) rfl #[.int .i64 a0, .slice A1 l1.length c1] rfl (by (try simp only [List.map_toArray, List.map_cons, List.map_nil]); first | done | rfl | (simp only [List.length_drop, List.length_take]; rfl)) ?_; (with_reducible refine (win_All.calls k2 a0 _ _ l1 t146 t147 _ ?side1 ?side2 A34.out).mono ?_); (case side1 => repeat (first | exact (Kd.C_below HR1.out HB.out) | (with_reducible refine Kd.C_alloc ?_ _) | (with_reducible refine Kd.C_drewN ?_ _) | (with_reducible refine Kd.C_drew ?_))); (case side2 => exact HC1.out); rintro e w114 ⟨rfl, hb⟩; refine ⟨_, rfl, ?_⟩; have n0_ := Aside0.mk (Kd.R_below HO_9.out hb); have n1_ := Aside0.mk (blk_below (g := gb134) (o := .cells #[.int .i64 a3_0, .int .i64 a3_1] 35 (0, 0)) BK134.out hb); have n2_ := Aside0.mk (below_step (by repeat (first | (with_reducible first | exact HB.out | apply below_alloc | apply pw_below_drewN | apply below_drew1 | refine below_set ?_ GE134.out) | exact HB.out)) hb); clear HO_9; clear BK134; clear HB; have HO_9 := n0_; have BK134 := n1_; have HB := n2_; clear n0_ n1_ n2_; (try clear hb); (try clear hb2); (try clear hk); (try clear hi); obtain ⟨Ao115, co115, eo115⟩ := Kd.R_slice HO_9.out; subst eo115) | ((with_reducible refine gate_callee (f := 14) rfl ?_); refine goesL_ (some 80) rfl rfl Try.func14 (by kernel_rfl) rfl #[.int .i64 a0, .slice Ao115 x9_2.length co115] rfl (by (try simp only [List.map_toArray, List.map_cons, List.map_nil]); first | done | rfl | (simp only [List.length_drop, List.length_take]; rfl)) ?_; (with_reducible refine (win_All.calls k2 a0 _ _ x9_2 t148 t149 _ ?side1 ?side2 A35.out).mono ?_); (case side1 => repeat (first | exact (Kd.R_reads' HO_9.out).2.2 | (with_reducible refine Kd.C_alloc ?_ _) | (with_reducible refine Kd.C_drewN ?_ _) | (with_reducible refine Kd.C_drew ?_))); (case side2 => exact (Kd.R_reads' HO_9.out).2.1); rintro e w116 ⟨rfl, hb⟩; refine ⟨_, rfl, ?_⟩; have n0_ := Aside0.mk (Kd.R_below HO_9.out hb); have n1_ := Aside0.mk (blk_below (g := gb134) (o := .cells #[.int .i64 a3_0, .int .i64 a3_1] 35 (0, 0)) BK134.out hb); have n2_ := Aside0.mk (below_step (by repeat (first | (with_reducible first | exact HB.out | apply below_alloc | apply pw_below_drewN | apply below_drew1 | refine below_set ?_ GE134.out) | exact HB.out)) hb); clear HO_9; clear BK134; clear HB; have HO_9 := n0_; have BK134 := n1_; have HB := n2_; clear n0_ n1_ n2_; (try clear hb); (try clear hb2); (try clear hk); (try clear hi)))
           have n0_ := Aside0.mk (Kd.R_drew HO_9.out)
           have n1_ := Aside0.mk (blk_drew BK134.out)
           have n2_ := Aside0.mk (below_drew1 HB.out)
           clear HO_9
           clear BK134
           clear HB
           have HO_9 := n0_
           have BK134 := n1_
           have HB := n2_
           clear n0_ n1_ n2_
           refine start_ (n := 13) (S := fun w' => w'.cell? ⟨gb134, 0, none⟩ = some (.int .i64 a3_0) ∧ w'.cell? ⟨gb134, 1, none⟩ = some (.int .i64 a3_1)) (ds := []) #[false, false, false, false, false, false, false, false, false, false, false, false, false] (by kernel_rfl) rfl rfl ⟨(blk_cell BK134.out 0).trans rfl, (blk_cell BK134.out 1).trans rfl⟩ (fun hHeld => ?_); refine with_tabW beadlelaw13_WinOrder.tab14 beadlelaw13_WinOrder.bits14 (fun HT_ HW_ => ?_)
           generalize w116.drew = w117 at HO_9 BK134 HB hHeld ⊢
           refine pure_ (i := 0) (N := some 84) (v := ?_) (a' := ?_) #[true, false, false, false, false, false, false, false, false, false, false, false, false] rfl rfl (any_of HT_.out (by kernel_rfl)) (fun _ _ _ h => h) (Or.inl ⟨by rfl, ?_⟩) ?_ ?_
           rotate_left
           ·intro w'
            go_simp
            with_reducible rfl
           rotate_left
           ·simp only [Act.put, List.setIfInBounds_toArray, List.set_cons_zero, List.set_cons_succ, i64_w, i32_w]
            rfl
           refine pure_ (i := 2) (N := some 86) (v := ?_) (a' := ?_) #[true, false, true, false, false, false, false, false, false, false, false, false, false] rfl rfl (any_of HT_.out (by kernel_rfl)) (fun _ _ _ h => h) (Or.inl ⟨by rfl, ?_⟩) ?_ ?_
           rotate_left
           ·intro w'
            go_simp
            with_reducible rfl
           rotate_left
           ·simp only [Act.put, List.setIfInBounds_toArray, List.set_cons_zero, List.set_cons_succ, i64_w, i32_w]
            rfl
           refine take_ (i := 4) (N := some 88) (v := ?_) (a' := ?_) #[true, false, true, false, true, false, false, false, false, false, false, false, false] rfl rfl (take_ofW HT_.out HW_.out (by kernel_rfl)) (fun _ _ _ h => h) (Or.inl ⟨by rfl, ?_⟩) hHeld ?_ ?_
           rotate_left
           ·rintro w' ⟨s0, s1⟩
            go_simp
            with_reducible rfl
           rotate_left
           ·simp only [Act.put, List.setIfInBounds_toArray, List.set_cons_zero, List.set_cons_succ, i64_w, i32_w]
            rfl
           refine join_ (σ := Value × Value × Value) 7 #[true, true, true, true, true, true, false, false, false, false, false, false, false] (fun s_ => [(85, s_.1), (87, s_.2.1), (89, s_.2.2)]) (fun s_ w' => (w'.cell? ⟨gb134, 0, none⟩ = some (.int .i64 a3_0) ∧ w'.cell? ⟨gb134, 1, none⟩ = some (.int .i64 a3_1)) ∧ (Kd.R k35 35 w' w.heap.size (fun k_ => some k_ ≠ (s_.2.2 : Value).ownBlock ∧ some k_ ≠ (.slice Ao115 x9_2.length co115 : Value).ownBlock ∧ k_ ≠ gb134) s_.2.1 y153) ∧ (Kd.R k35 35 w' w.heap.size (fun k_ => some k_ ≠ (s_.2.1 : Value).ownBlock ∧ some k_ ≠ (.slice Ao115 x9_2.length co115 : Value).ownBlock ∧ k_ ≠ gb134) s_.2.2 y156) ∧ (Kd.R k35 35 w' w.heap.size (fun k_ => some k_ ≠ (s_.2.1 : Value).ownBlock ∧ some k_ ≠ (s_.2.2 : Value).ownBlock ∧ k_ ≠ gb134) (.slice Ao115 x9_2.length co115) x9_2) ∧ (w'.heap[gb134]? = some (.cells #[.int .i64 a3_0, .int .i64 a3_1] 35 (0, 0))) ∧ (Below w.heap.size w w')) ?_ ?_
           rotate_left
           ·intro hCont
            refine two_ (i := 1) (j := 5) (Ni := some 85) (Nj := some 89) #[true, true, true, false, true, false, false, false, false, false, false, false, false] #[true, false, true, false, true, true, false, false, false, false, false, false, false] rfl rfl rfl rfl (two_of HT_.out (by kernel_rfl)) (by decide) (by decide) (fun K hK => ?_) (fun K hK => ?_)
            ·skip
             refine Kd.R_lit_step k35 _ 35 ?hg (N := 85) ?hd (xs := ([] : List (S35))) (inner := []) (ok := fun _ => True) (okp := fun _ => True) ?hr ?hp (fun _ hk => hk) trivial (Below.refl _ _) (Nat.le_refl _) (by simp) ?_; (case hd => rfl); (case hg => rfl); (case hr => first | (go_simp; done) | (go_simp; rfl)); (case hp => exact (Reps.none _ _))
             intro v151 w118 ho119 hb hg_ hnew_
             clear hg_ hnew_
             (first | rw [← Ny150.out] at ho119 | (simp only [Int.reduceToNat] at ho119; rw [← Ny150.out] at ho119))
             have n0_ := Aside0.mk (Kd.R_elder' HO_9.out (Kd.R_base ho119) hb)
             have n1_ := Aside0.mk (Kd.R_lower (Kd.R_newB (Kd.R_new' ho119 (Kd.R_lt HO_9.out)) (g := gb134) (o := .cells #[.int .i64 a3_0, .int .i64 a3_1] 35 (0, 0)) BK134.out) (below_size (by repeat (first | (with_reducible first | exact HB.out | apply below_alloc | apply pw_below_drewN | apply below_drew1 | refine below_set ?_ GE134.out) | exact HB.out))))
             have n2_ := Aside0.mk (blk_below (g := gb134) (o := .cells #[.int .i64 a3_0, .int .i64 a3_1] 35 (0, 0)) BK134.out hb)
             have n3_ := Aside0.mk (below_step (by repeat (first | (with_reducible first | exact HB.out | apply below_alloc | apply pw_below_drewN | apply below_drew1 | refine below_set ?_ GE134.out) | exact HB.out)) hb)
             clear HO_9
             clear BK134
             clear HB
             have HO_9 := n0_
             have HO152 := n1_
             have BK134 := n2_
             have HB := n3_
             clear n0_ n1_ n2_ n3_
             clear hb ho119
             refine hK.out _ _ ⟨(blk_cell BK134.out 0).trans rfl, (blk_cell BK134.out 1).trans rfl⟩ (fun hHeld => ?_)
             clear hK K
             refine norm_ (a' := ?_) ?_ ?_
             rotate_left
             ·show Act.put _ (some 85) _ = _
              simp only [Act.put, List.setIfInBounds_toArray, List.set_cons_zero, List.set_cons_succ, i64_w, i32_w]
              rfl
             refine two_ (i := 3) (j := 5) (Ni := some 87) (Nj := some 89) #[true, true, true, true, true, false, false, false, false, false, false, false, false] #[true, true, true, false, true, true, false, false, false, false, false, false, false] rfl rfl rfl rfl (two_of HT_.out (by kernel_rfl)) (by decide) (by decide) (fun K hK => ?_) (fun K hK => ?_)
             ·skip
              refine Kd.R_append_rows_step k35 (w0 := w) w.heap.size (by rfl) (.tmp 85) (.tmp 86) 22 35 (.agg #[(.int .i64 0), (.int .i64 0)]) 16 rfl Try.underlying22 info35 rfl (by decide) (by omega) v151 y150 l1 _ _ _ (fun k_ => some k_ ≠ (.slice Ao115 x9_2.length co115 : Value).ownBlock ∧ k_ ≠ gb134) (fun _ => False) rfl rfl ?aO ?aR (fun _ _ h => h) (fun _ h => h.elim) ?aF ?aB ?aS ?aL ?_
              (case aR => repeat (first | exact (Kd.C_below HR1.out HB.out) | (with_reducible refine Kd.C_alloc ?_ _) | (with_reducible refine Kd.C_drewN ?_ _) | (with_reducible refine Kd.C_drew ?_)))
              (case aB => exact (by repeat (first | (with_reducible first | exact HB.out | apply below_alloc | apply pw_below_drewN | apply below_drew1 | refine below_set ?_ GE134.out) | exact HB.out)))
              (case aF => exact (fun k_ hk => ⟨Kd.fresh' (Kd.R_lt HO_9.out) k_ hk, Kd.freshB (g := gb134) (o := .cells #[.int .i64 a3_0, .int .i64 a3_1] 35 (0, 0)) BK134.out k_ hk⟩))
              (case aO => exact (by (with_reducible repeat (first | apply Kd.R_alloc | apply Kd.R_drewN | apply Kd.R_drew)); exact Kd.R_mono HO152.out (fun _ hk => ⟨hk.1.2, hk.2⟩)))
              (case aS => exact (below_size (by repeat (first | (with_reducible first | exact HB.out | apply below_alloc | apply pw_below_drewN | apply below_drew1 | refine below_set ?_ GE134.out) | exact HB.out))))
              (case aL => have := LMc36.out; omega)
              intro v154 w120 ho hb hg hat
              rw [← Ny153.out] at ho
              have n0_ := Aside0.mk (Kd.R_after (ok := (fun k_ => k_ ≠ gb134)) HO_9.out hg hat)
              have n1_ := Aside0.mk (blk_grown (g := gb134) (o := .cells #[.int .i64 a3_0, .int .i64 a3_1] 35 (0, 0)) BK134.out hg (Kd.R_away HO152.out (fun _ hk => hk.2)))
              have n2_ := Aside0.mk (hb)
              have n3_ := Aside0.mk (ho)
              clear HO_9
              clear BK134
              clear HB
              clear HO152
              have HO_9 := n0_
              have BK134 := n1_
              have HB := n2_
              have HO155 := n3_
              clear n0_ n1_ n2_ n3_
              clear ho hb hg hat
              refine hK.out _ _ ⟨(blk_cell BK134.out 0).trans rfl, (blk_cell BK134.out 1).trans rfl⟩ (fun hHeld => ?_)
              clear hK K
              refine norm_ (a' := ?_) ?_ ?_
              rotate_left
              ·show Act.put _ (some 87) _ = _
               simp only [Act.put, List.setIfInBounds_toArray, List.set_cons_zero, List.set_cons_succ, i64_w, i32_w]
               rfl
              refine one_ (i := 5) (N := some 89) #[true, true, true, true, true, true, false, false, false, false, false, false, false] rfl rfl (one_of HT_.out (by kernel_rfl)) (by decide) (fun K hK => ?_)
              refine Kd.R_lit_step k35 _ 35 ?hg (N := 89) ?hd (xs := ([(⟨a3_0, a3_1⟩ : S35)] : List (S35))) (inner := [.int .i64 a3_0, .int .i64 a3_1]) (ok := fun _ => True) (okp := fun _ => True) ?hr ?hp (fun _ hk => hk) trivial (Below.refl _ _) (Nat.le_refl _) (by simp) ?_; (case hd => rfl); (case hg => rfl); (case hr => first | (go_simp; done) | (go_simp; rfl)); (case hp => exact (Reps.c2 (show Kd.M k35 _ _ _ (⟨a3_0, a3_1⟩ : S35) [.int .i64 a3_0, .int .i64 a3_1] from (k35_mkM _ _ _ (⟨a3_0, a3_1⟩ : S35) )) (Reps.none _ _)))
              intro v157 w121 ho122 hb hg_ hnew_
              clear hg_ hnew_
              (first | rw [← Ny156.out] at ho122 | (simp only [Int.reduceToNat] at ho122; rw [← Ny156.out] at ho122))
              have n0_ := Aside0.mk (Kd.R_elder' HO_9.out (Kd.R_base ho122) hb)
              have n1_ := Aside0.mk (Kd.R_elder' HO155.out (Kd.R_base ho122) hb)
              have n2_ := Aside0.mk (Kd.R_lower (Kd.R_newB (Kd.R_new' (Kd.R_new' ho122 (Kd.R_lt HO_9.out)) (Kd.R_lt HO155.out)) (g := gb134) (o := .cells #[.int .i64 a3_0, .int .i64 a3_1] 35 (0, 0)) BK134.out) (below_size (by repeat (first | (with_reducible first | exact HB.out | apply below_alloc | apply pw_below_drewN | apply below_drew1 | refine below_set ?_ GE134.out) | exact HB.out))))
              have n3_ := Aside0.mk (blk_below (g := gb134) (o := .cells #[.int .i64 a3_0, .int .i64 a3_1] 35 (0, 0)) BK134.out hb)
              have n4_ := Aside0.mk (below_step (by repeat (first | (with_reducible first | exact HB.out | apply below_alloc | apply pw_below_drewN | apply below_drew1 | refine below_set ?_ GE134.out) | exact HB.out)) hb)
              clear HO_9
              clear HO155
              clear BK134
              clear HB
              have HO_9 := n0_
              have HO155 := n1_
              have HO158 := n2_
              have BK134 := n3_
              have HB := n4_
              clear n0_ n1_ n2_ n3_ n4_
              clear hb ho122
              refine hK.out _ _ ⟨(blk_cell BK134.out 0).trans rfl, (blk_cell BK134.out 1).trans rfl⟩ (fun hHeld => ?_)
              clear hK K
              refine norm_ (a' := ?_) ?_ ?_
              rotate_left
              ·show Act.put _ (some 89) _ = _
               simp only [Act.put, List.setIfInBounds_toArray, List.set_cons_zero, List.set_cons_succ, i64_w, i32_w]
               rfl
              exact norm_ (by simp only [putAll, Act.put, List.setIfInBounds_toArray, List.set_cons_zero, List.set_cons_succ]) (hCont (v151, v154, v157) _ ⟨hHeld, (by (with_reducible repeat (first | apply Kd.R_alloc | apply Kd.R_drewN | apply Kd.R_drew)); exact Kd.R_mono HO155.out (fun _ hk => ⟨hk.2, ⟨hk.1.1, hk.1.2⟩⟩)), (by (with_reducible repeat (first | apply Kd.R_alloc | apply Kd.R_drewN | apply Kd.R_drew)); exact Kd.R_mono HO158.out (fun _ hk => ⟨hk.1.2, ⟨hk.1.1.2, hk.2⟩⟩)), (by (with_reducible repeat (first | apply Kd.R_alloc | apply Kd.R_drewN | apply Kd.R_drew)); exact Kd.R_mono HO_9.out (fun _ hk => ⟨hk.1.2, ⟨hk.2, hk.1.1⟩⟩)), BK134.out, (by repeat (first | (with_reducible first | exact HB.out | apply below_alloc | apply pw_below_drewN | apply below_drew1 | refine below_set ?_ GE134.out) | exact HB.out))⟩)
             ·skip
              refine Kd.R_lit_step k35 _ 35 ?hg (N := 89) ?hd (xs := ([(⟨a3_0, a3_1⟩ : S35)] : List (S35))) (inner := [.int .i64 a3_0, .int .i64 a3_1]) (ok := fun _ => True) (okp := fun _ => True) ?hr ?hp (fun _ hk => hk) trivial (Below.refl _ _) (Nat.le_refl _) (by simp) ?_; (case hd => rfl); (case hg => rfl); (case hr => first | (go_simp; done) | (go_simp; rfl)); (case hp => exact (Reps.c2 (show Kd.M k35 _ _ _ (⟨a3_0, a3_1⟩ : S35) [.int .i64 a3_0, .int .i64 a3_1] from (k35_mkM _ _ _ (⟨a3_0, a3_1⟩ : S35) )) (Reps.none _ _)))
              intro v157 w120 ho121 hb hg_ hnew_
              clear hg_ hnew_
              (first | rw [← Ny156.out] at ho121 | (simp only [Int.reduceToNat] at ho121; rw [← Ny156.out] at ho121))
              have n0_ := Aside0.mk (Kd.R_elder' HO_9.out (Kd.R_base ho121) hb)
              have n1_ := Aside0.mk (Kd.R_elder' HO152.out (Kd.R_base ho121) hb)
              have n2_ := Aside0.mk (Kd.R_lower (Kd.R_newB (Kd.R_new' (Kd.R_new' ho121 (Kd.R_lt HO_9.out)) (Kd.R_lt HO152.out)) (g := gb134) (o := .cells #[.int .i64 a3_0, .int .i64 a3_1] 35 (0, 0)) BK134.out) (below_size (by repeat (first | (with_reducible first | exact HB.out | apply below_alloc | apply pw_below_drewN | apply below_drew1 | refine below_set ?_ GE134.out) | exact HB.out))))
              have n3_ := Aside0.mk (blk_below (g := gb134) (o := .cells #[.int .i64 a3_0, .int .i64 a3_1] 35 (0, 0)) BK134.out hb)
              have n4_ := Aside0.mk (below_step (by repeat (first | (with_reducible first | exact HB.out | apply below_alloc | apply pw_below_drewN | apply below_drew1 | refine below_set ?_ GE134.out) | exact HB.out)) hb)
              clear HO_9
              clear HO152
              clear BK134
              clear HB
              have HO_9 := n0_
              have HO152 := n1_
              have HO158 := n2_
              have BK134 := n3_
              have HB := n4_
              clear n0_ n1_ n2_ n3_ n4_
              clear hb ho121
              refine hK.out _ _ ⟨(blk_cell BK134.out 0).trans rfl, (blk_cell BK134.out 1).trans rfl⟩ (fun hHeld => ?_)
              clear hK K
              refine norm_ (a' := ?_) ?_ ?_
              rotate_left
              ·show Act.put _ (some 89) _ = _
               simp only [Act.put, List.setIfInBounds_toArray, List.set_cons_zero, List.set_cons_succ, i64_w, i32_w]
               rfl
              refine one_ (i := 3) (N := some 87) #[true, true, true, true, true, true, false, false, false, false, false, false, false] rfl rfl (one_of HT_.out (by kernel_rfl)) (by decide) (fun K hK => ?_)
              refine Kd.R_append_rows_step k35 (w0 := w) w.heap.size (by rfl) (.tmp 85) (.tmp 86) 22 35 (.agg #[(.int .i64 0), (.int .i64 0)]) 16 rfl Try.underlying22 info35 rfl (by decide) (by omega) v151 y150 l1 _ _ _ (fun k_ => some k_ ≠ (.slice Ao115 x9_2.length co115 : Value).ownBlock ∧ some k_ ≠ (v157 : Value).ownBlock ∧ k_ ≠ gb134) (fun _ => False) rfl rfl ?aO ?aR (fun _ _ h => h) (fun _ h => h.elim) ?aF ?aB ?aS ?aL ?_
              (case aR => repeat (first | exact (Kd.C_below HR1.out HB.out) | (with_reducible refine Kd.C_alloc ?_ _) | (with_reducible refine Kd.C_drewN ?_ _) | (with_reducible refine Kd.C_drew ?_)))
              (case aB => exact (by repeat (first | (with_reducible first | exact HB.out | apply below_alloc | apply pw_below_drewN | apply below_drew1 | refine below_set ?_ GE134.out) | exact HB.out)))
              (case aF => exact (fun k_ hk => ⟨Kd.fresh' (Kd.R_lt HO_9.out) k_ hk, Kd.fresh' (Kd.R_lt HO158.out) k_ hk, Kd.freshB (g := gb134) (o := .cells #[.int .i64 a3_0, .int .i64 a3_1] 35 (0, 0)) BK134.out k_ hk⟩))
              (case aO => exact (by (with_reducible repeat (first | apply Kd.R_alloc | apply Kd.R_drewN | apply Kd.R_drew)); exact Kd.R_mono HO152.out (fun _ hk => ⟨hk.1.1.2, ⟨hk.2, hk.1.2⟩⟩)))
              (case aS => exact (below_size (by repeat (first | (with_reducible first | exact HB.out | apply below_alloc | apply pw_below_drewN | apply below_drew1 | refine below_set ?_ GE134.out) | exact HB.out))))
              (case aL => have := LMc36.out; omega)
              intro v154 w122 ho hb hg hat
              rw [← Ny153.out] at ho
              have n0_ := Aside0.mk (Kd.R_after (ok := (fun k_ => some k_ ≠ (v157 : Value).ownBlock ∧ k_ ≠ gb134)) (by (with_reducible repeat (first | apply Kd.R_alloc | apply Kd.R_drewN | apply Kd.R_drew)); exact Kd.R_mono HO_9.out (fun _ hk => ⟨⟨hk.2, hk.1.1⟩, hk.1.2⟩)) hg hat)
              have n1_ := Aside0.mk (blk_grown (g := gb134) (o := .cells #[.int .i64 a3_0, .int .i64 a3_1] 35 (0, 0)) BK134.out hg (Kd.R_away HO152.out (fun _ hk => hk.1.2)))
              have n2_ := Aside0.mk (Kd.R_after (ok := (fun k_ => some k_ ≠ (.slice Ao115 x9_2.length co115 : Value).ownBlock ∧ k_ ≠ gb134)) (by (with_reducible repeat (first | apply Kd.R_alloc | apply Kd.R_drewN | apply Kd.R_drew)); exact Kd.R_mono HO158.out (fun _ hk => ⟨⟨hk.1.1.2, hk.2⟩, hk.1.2⟩)) hg hat)
              have n3_ := Aside0.mk (hb)
              have n4_ := Aside0.mk (ho)
              clear HO_9
              clear BK134
              clear HO158
              clear HB
              clear HO152
              have HO_9 := n0_
              have BK134 := n1_
              have HO158 := n2_
              have HB := n3_
              have HO155 := n4_
              clear n0_ n1_ n2_ n3_ n4_
              clear ho hb hg hat
              refine hK.out _ _ ⟨(blk_cell BK134.out 0).trans rfl, (blk_cell BK134.out 1).trans rfl⟩ (fun hHeld => ?_)
              clear hK K
              refine norm_ (a' := ?_) ?_ ?_
              rotate_left
              ·show Act.put _ (some 87) _ = _
               simp only [Act.put, List.setIfInBounds_toArray, List.set_cons_zero, List.set_cons_succ, i64_w, i32_w]
               rfl
              exact norm_ (by simp only [putAll, Act.put, List.setIfInBounds_toArray, List.set_cons_zero, List.set_cons_succ]) (hCont (v151, v154, v157) _ ⟨hHeld, (by (with_reducible repeat (first | apply Kd.R_alloc | apply Kd.R_drewN | apply Kd.R_drew)); exact Kd.R_mono HO155.out (fun _ hk => ⟨hk.2.1, ⟨hk.1, hk.2.2⟩⟩)), (by (with_reducible repeat (first | apply Kd.R_alloc | apply Kd.R_drewN | apply Kd.R_drew)); exact Kd.R_mono HO158.out (fun _ hk => ⟨hk.2, ⟨hk.1.1, hk.1.2⟩⟩)), (by (with_reducible repeat (first | apply Kd.R_alloc | apply Kd.R_drewN | apply Kd.R_drew)); exact Kd.R_mono HO_9.out (fun _ hk => ⟨hk.2, ⟨hk.1.1, hk.1.2⟩⟩)), BK134.out, (by repeat (first | (with_reducible first | exact HB.out | apply below_alloc | apply pw_below_drewN | apply below_drew1 | refine below_set ?_ GE134.out) | exact HB.out))⟩)
            ·skip
             refine Kd.R_lit_step k35 _ 35 ?hg (N := 89) ?hd (xs := ([(⟨a3_0, a3_1⟩ : S35)] : List (S35))) (inner := [.int .i64 a3_0, .int .i64 a3_1]) (ok := fun _ => True) (okp := fun _ => True) ?hr ?hp (fun _ hk => hk) trivial (Below.refl _ _) (Nat.le_refl _) (by simp) ?_; (case hd => rfl); (case hg => rfl); (case hr => first | (go_simp; done) | (go_simp; rfl)); (case hp => exact (Reps.c2 (show Kd.M k35 _ _ _ (⟨a3_0, a3_1⟩ : S35) [.int .i64 a3_0, .int .i64 a3_1] from (k35_mkM _ _ _ (⟨a3_0, a3_1⟩ : S35) )) (Reps.none _ _)))
             intro v157 w118 ho119 hb hg_ hnew_
             clear hg_ hnew_
             (first | rw [← Ny156.out] at ho119 | (simp only [Int.reduceToNat] at ho119; rw [← Ny156.out] at ho119))
             have n0_ := Aside0.mk (Kd.R_elder' HO_9.out (Kd.R_base ho119) hb)
             have n1_ := Aside0.mk (Kd.R_lower (Kd.R_newB (Kd.R_new' ho119 (Kd.R_lt HO_9.out)) (g := gb134) (o := .cells #[.int .i64 a3_0, .int .i64 a3_1] 35 (0, 0)) BK134.out) (below_size (by repeat (first | (with_reducible first | exact HB.out | apply below_alloc | apply pw_below_drewN | apply below_drew1 | refine below_set ?_ GE134.out) | exact HB.out))))
             have n2_ := Aside0.mk (blk_below (g := gb134) (o := .cells #[.int .i64 a3_0, .int .i64 a3_1] 35 (0, 0)) BK134.out hb)
             have n3_ := Aside0.mk (below_step (by repeat (first | (with_reducible first | exact HB.out | apply below_alloc | apply pw_below_drewN | apply below_drew1 | refine below_set ?_ GE134.out) | exact HB.out)) hb)
             clear HO_9
             clear BK134
             clear HB
             have HO_9 := n0_
             have HO158 := n1_
             have BK134 := n2_
             have HB := n3_
             clear n0_ n1_ n2_ n3_
             clear hb ho119
             refine hK.out _ _ ⟨(blk_cell BK134.out 0).trans rfl, (blk_cell BK134.out 1).trans rfl⟩ (fun hHeld => ?_)
             clear hK K
             refine norm_ (a' := ?_) ?_ ?_
             rotate_left
             ·show Act.put _ (some 89) _ = _
              simp only [Act.put, List.setIfInBounds_toArray, List.set_cons_zero, List.set_cons_succ, i64_w, i32_w]
              rfl
             refine one_ (i := 1) (N := some 85) #[true, true, true, false, true, true, false, false, false, false, false, false, false] rfl rfl (one_of HT_.out (by kernel_rfl)) (by decide) (fun K hK => ?_)
             refine Kd.R_lit_step k35 _ 35 ?hg (N := 85) ?hd (xs := ([] : List (S35))) (inner := []) (ok := fun _ => True) (okp := fun _ => True) ?hr ?hp (fun _ hk => hk) trivial (Below.refl _ _) (Nat.le_refl _) (by simp) ?_; (case hd => rfl); (case hg => rfl); (case hr => first | (go_simp; done) | (go_simp; rfl)); (case hp => exact (Reps.none _ _))
             intro v151 w120 ho121 hb hg_ hnew_
             clear hg_ hnew_
             (first | rw [← Ny150.out] at ho121 | (simp only [Int.reduceToNat] at ho121; rw [← Ny150.out] at ho121))
             have n0_ := Aside0.mk (Kd.R_elder' HO_9.out (Kd.R_base ho121) hb)
             have n1_ := Aside0.mk (Kd.R_elder' HO158.out (Kd.R_base ho121) hb)
             have n2_ := Aside0.mk (Kd.R_lower (Kd.R_newB (Kd.R_new' (Kd.R_new' ho121 (Kd.R_lt HO_9.out)) (Kd.R_lt HO158.out)) (g := gb134) (o := .cells #[.int .i64 a3_0, .int .i64 a3_1] 35 (0, 0)) BK134.out) (below_size (by repeat (first | (with_reducible first | exact HB.out | apply below_alloc | apply pw_below_drewN | apply below_drew1 | refine below_set ?_ GE134.out) | exact HB.out))))
             have n3_ := Aside0.mk (blk_below (g := gb134) (o := .cells #[.int .i64 a3_0, .int .i64 a3_1] 35 (0, 0)) BK134.out hb)
             have n4_ := Aside0.mk (below_step (by repeat (first | (with_reducible first | exact HB.out | apply below_alloc | apply pw_below_drewN | apply below_drew1 | refine below_set ?_ GE134.out) | exact HB.out)) hb)
             clear HO_9
             clear HO158
             clear BK134
             clear HB
             have HO_9 := n0_
             have HO158 := n1_
             have HO152 := n2_
             have BK134 := n3_
             have HB := n4_
             clear n0_ n1_ n2_ n3_ n4_
             clear hb ho121
             refine hK.out _ _ ⟨(blk_cell BK134.out 0).trans rfl, (blk_cell BK134.out 1).trans rfl⟩ (fun hHeld => ?_)
             clear hK K
             refine norm_ (a' := ?_) ?_ ?_
             rotate_left
             ·show Act.put _ (some 85) _ = _
              simp only [Act.put, List.setIfInBounds_toArray, List.set_cons_zero, List.set_cons_succ, i64_w, i32_w]
              rfl
             refine one_ (i := 3) (N := some 87) #[true, true, true, true, true, true, false, false, false, false, false, false, false] rfl rfl (one_of HT_.out (by kernel_rfl)) (by decide) (fun K hK => ?_)
             refine Kd.R_append_rows_step k35 (w0 := w) w.heap.size (by rfl) (.tmp 85) (.tmp 86) 22 35 (.agg #[(.int .i64 0), (.int .i64 0)]) 16 rfl Try.underlying22 info35 rfl (by decide) (by omega) v151 y150 l1 _ _ _ (fun k_ => some k_ ≠ (.slice Ao115 x9_2.length co115 : Value).ownBlock ∧ some k_ ≠ (v157 : Value).ownBlock ∧ k_ ≠ gb134) (fun _ => False) rfl rfl ?aO ?aR (fun _ _ h => h) (fun _ h => h.elim) ?aF ?aB ?aS ?aL ?_
             (case aR => repeat (first | exact (Kd.C_below HR1.out HB.out) | (with_reducible refine Kd.C_alloc ?_ _) | (with_reducible refine Kd.C_drewN ?_ _) | (with_reducible refine Kd.C_drew ?_)))
             (case aB => exact (by repeat (first | (with_reducible first | exact HB.out | apply below_alloc | apply pw_below_drewN | apply below_drew1 | refine below_set ?_ GE134.out) | exact HB.out)))
             (case aF => exact (fun k_ hk => ⟨Kd.fresh' (Kd.R_lt HO_9.out) k_ hk, Kd.fresh' (Kd.R_lt HO158.out) k_ hk, Kd.freshB (g := gb134) (o := .cells #[.int .i64 a3_0, .int .i64 a3_1] 35 (0, 0)) BK134.out k_ hk⟩))
             (case aO => exact (by (with_reducible repeat (first | apply Kd.R_alloc | apply Kd.R_drewN | apply Kd.R_drew)); exact Kd.R_mono HO152.out (fun _ hk => ⟨hk.1.1.2, ⟨hk.1.2, hk.2⟩⟩)))
             (case aS => exact (below_size (by repeat (first | (with_reducible first | exact HB.out | apply below_alloc | apply pw_below_drewN | apply below_drew1 | refine below_set ?_ GE134.out) | exact HB.out))))
             (case aL => have := LMc36.out; omega)
             intro v154 w122 ho hb hg hat
             rw [← Ny153.out] at ho
             have n0_ := Aside0.mk (Kd.R_after (ok := (fun k_ => some k_ ≠ (v157 : Value).ownBlock ∧ k_ ≠ gb134)) (by (with_reducible repeat (first | apply Kd.R_alloc | apply Kd.R_drewN | apply Kd.R_drew)); exact Kd.R_mono HO_9.out (fun _ hk => ⟨⟨hk.1.2, hk.1.1⟩, hk.2⟩)) hg hat)
             have n1_ := Aside0.mk (blk_grown (g := gb134) (o := .cells #[.int .i64 a3_0, .int .i64 a3_1] 35 (0, 0)) BK134.out hg (Kd.R_away HO152.out (fun _ hk => hk.2)))
             have n2_ := Aside0.mk (Kd.R_after (ok := (fun k_ => some k_ ≠ (.slice Ao115 x9_2.length co115 : Value).ownBlock ∧ k_ ≠ gb134)) (by (with_reducible repeat (first | apply Kd.R_alloc | apply Kd.R_drewN | apply Kd.R_drew)); exact Kd.R_mono HO158.out (fun _ hk => ⟨⟨hk.1.1.2, hk.1.2⟩, hk.2⟩)) hg hat)
             have n3_ := Aside0.mk (hb)
             have n4_ := Aside0.mk (ho)
             clear HO_9
             clear BK134
             clear HO158
             clear HB
             clear HO152
             have HO_9 := n0_
             have BK134 := n1_
             have HO158 := n2_
             have HB := n3_
             have HO155 := n4_
             clear n0_ n1_ n2_ n3_ n4_
             clear ho hb hg hat
             refine hK.out _ _ ⟨(blk_cell BK134.out 0).trans rfl, (blk_cell BK134.out 1).trans rfl⟩ (fun hHeld => ?_)
             clear hK K
             refine norm_ (a' := ?_) ?_ ?_
             rotate_left
             ·show Act.put _ (some 87) _ = _
              simp only [Act.put, List.setIfInBounds_toArray, List.set_cons_zero, List.set_cons_succ, i64_w, i32_w]
              rfl
             exact norm_ (by simp only [putAll, Act.put, List.setIfInBounds_toArray, List.set_cons_zero, List.set_cons_succ]) (hCont (v151, v154, v157) _ ⟨hHeld, (by (with_reducible repeat (first | apply Kd.R_alloc | apply Kd.R_drewN | apply Kd.R_drew)); exact Kd.R_mono HO155.out (fun _ hk => ⟨hk.2.1, ⟨hk.1, hk.2.2⟩⟩)), (by (with_reducible repeat (first | apply Kd.R_alloc | apply Kd.R_drewN | apply Kd.R_drew)); exact Kd.R_mono HO158.out (fun _ hk => ⟨hk.2, ⟨hk.1.1, hk.1.2⟩⟩)), (by (with_reducible repeat (first | apply Kd.R_alloc | apply Kd.R_drewN | apply Kd.R_drew)); exact Kd.R_mono HO_9.out (fun _ hk => ⟨hk.2, ⟨hk.1.1, hk.1.2⟩⟩)), BK134.out, (by repeat (first | (with_reducible first | exact HB.out | apply below_alloc | apply pw_below_drewN | apply below_drew1 | refine below_set ?_ GE134.out) | exact HB.out))⟩)
           rintro ⟨v151, v154, v157⟩ w123 ⟨hS_, h0_, h1_, h2_, h3_, h4_⟩
           have n0_ : Aside0 (Kd.R k35 35 w123 w.heap.size (fun k_ => some k_ ≠ (v157 : Value).ownBlock ∧ some k_ ≠ (.slice Ao115 x9_2.length co115 : Value).ownBlock ∧ k_ ≠ gb134) v154 y153) := ⟨h0_⟩
           have n1_ : Aside0 (Kd.R k35 35 w123 w.heap.size (fun k_ => some k_ ≠ (v154 : Value).ownBlock ∧ some k_ ≠ (.slice Ao115 x9_2.length co115 : Value).ownBlock ∧ k_ ≠ gb134) v157 y156) := ⟨h1_⟩
           have n2_ : Aside0 (Kd.R k35 35 w123 w.heap.size (fun k_ => some k_ ≠ (v154 : Value).ownBlock ∧ some k_ ≠ (v157 : Value).ownBlock ∧ k_ ≠ gb134) (.slice Ao115 x9_2.length co115) x9_2) := ⟨h2_⟩
           have n3_ : Aside0 (w123.heap[gb134]? = some (.cells #[.int .i64 a3_0, .int .i64 a3_1] 35 (0, 0))) := ⟨h3_⟩
           have n4_ : Aside0 (Below w.heap.size w w123) := ⟨h4_⟩
           clear HO_9
           clear BK134
           clear HB
           clear h0_ h1_ h2_ h3_ h4_
           have HO155 := n0_
           have HO158 := n1_
           have HO_9 := n2_
           have BK134 := n3_
           have HB := n4_
           clear n0_ n1_ n2_ n3_ n4_
           have hHeld : w123.cell? ⟨gb134, 0, none⟩ = some (.int .i64 a3_0) ∧ w123.cell? ⟨gb134, 1, none⟩ = some (.int .i64 a3_1) := hS_
           obtain ⟨Ao125, co125, eo125⟩ := Kd.R_slice HO158.out
           (first | subst eo125 | (injection eo125 with f1_ f2_ f3_; have f4_ := f1_.symm; have f5_ := f3_.symm; clear f1_ f2_ f3_; subst f4_; subst f5_))
           refine norm_ (a' := ?_) ?_ ?_
           rotate_left
           ·simp only [putAll, Act.put, List.setIfInBounds_toArray, List.set_cons_zero, List.set_cons_succ]
            rfl
           refine one_ (i := 6) (N := some 90) #[true, true, true, true, true, true, true, false, false, false, false, false, false] rfl rfl (one_of HT_.out (by kernel_rfl)) (by decide) (fun K hK => ?_)
           refine Kd.R_append_rows_step k35 (w0 := w) w.heap.size (by rfl) (.tmp 87) (.tmp 89) 22 35 (.agg #[(.int .i64 0), (.int .i64 0)]) 16 rfl Try.underlying22 info35 rfl (by decide) (by omega) v154 y153 y156 _ _ _ (fun k_ => some k_ ≠ (.slice Ao115 x9_2.length co115 : Value).ownBlock ∧ some k_ ≠ (.slice Ao125 y156.length co125 : Value).ownBlock ∧ k_ ≠ gb134) (fun _ => False) rfl rfl ?aO ?aR (fun _ _ h => h) (fun _ h => h.elim) ?aF ?aB ?aS ?aL ?_
           (case aR => repeat (first | exact (Kd.R_reads' HO158.out).2.2 | (with_reducible refine Kd.C_alloc ?_ _) | (with_reducible refine Kd.C_drewN ?_ _) | (with_reducible refine Kd.C_drew ?_)))
           (case aB => exact (by repeat (first | (with_reducible first | exact HB.out | apply below_alloc | apply pw_below_drewN | apply below_drew1 | refine below_set ?_ GE134.out) | exact HB.out)))
           (case aF => exact (fun k_ hk => ⟨Kd.fresh' (Kd.R_lt HO_9.out) k_ hk, Kd.fresh' (Kd.R_lt HO158.out) k_ hk, Kd.freshB (g := gb134) (o := .cells #[.int .i64 a3_0, .int .i64 a3_1] 35 (0, 0)) BK134.out k_ hk⟩))
           (case aO => exact (by (with_reducible repeat (first | apply Kd.R_alloc | apply Kd.R_drewN | apply Kd.R_drew)); exact Kd.R_mono HO155.out (fun _ hk => ⟨hk.2.1, ⟨hk.1, hk.2.2⟩⟩)))
           (case aS => exact (below_size (by repeat (first | (with_reducible first | exact HB.out | apply below_alloc | apply pw_below_drewN | apply below_drew1 | refine below_set ?_ GE134.out) | exact HB.out))))
           (case aL => have := LMc37.out; omega)
           intro v160 w124 ho hb hg hat
           rw [← Ny159.out] at ho
           have n0_ := Aside0.mk (Kd.R_after (ok := (fun k_ => some k_ ≠ (.slice Ao125 y156.length co125 : Value).ownBlock ∧ k_ ≠ gb134)) (by (with_reducible repeat (first | apply Kd.R_alloc | apply Kd.R_drewN | apply Kd.R_drew)); exact Kd.R_mono HO_9.out (fun _ hk => ⟨⟨hk.2.1, hk.2.2⟩, hk.1⟩)) hg hat)
           have n1_ := Aside0.mk (blk_grown (g := gb134) (o := .cells #[.int .i64 a3_0, .int .i64 a3_1] 35 (0, 0)) BK134.out hg (Kd.R_away HO155.out (fun _ hk => hk.2.2)))
           have n2_ := Aside0.mk (Kd.R_after (ok := (fun k_ => some k_ ≠ (.slice Ao115 x9_2.length co115 : Value).ownBlock ∧ k_ ≠ gb134)) (by (with_reducible repeat (first | apply Kd.R_alloc | apply Kd.R_drewN | apply Kd.R_drew)); exact Kd.R_mono HO158.out (fun _ hk => ⟨⟨hk.2.1, hk.2.2⟩, hk.1⟩)) hg hat)
           have n3_ := Aside0.mk (hb)
           have n4_ := Aside0.mk (ho)
           clear HO_9
           clear BK134
           clear HO158
           clear HB
           clear HO155
           have HO_9 := n0_
           have BK134 := n1_
           have HO158 := n2_
           have HB := n3_
           have HO161 := n4_
           clear n0_ n1_ n2_ n3_ n4_
           clear ho hb hg hat
           obtain ⟨Ao126, co126, eo126⟩ := Kd.R_slice HO161.out
           (first | subst eo126 | (injection eo126 with f1_ f2_ f3_; have f4_ := f1_.symm; have f5_ := f3_.symm; clear f1_ f2_ f3_; subst f4_; subst f5_))
           refine hK.out _ _ ⟨(blk_cell BK134.out 0).trans rfl, (blk_cell BK134.out 1).trans rfl⟩ (fun hHeld => ?_)
           clear hK K
           refine norm_ (a' := ?_) ?_ ?_
           rotate_left
           ·show Act.put _ (some 90) _ = _
            simp only [Act.put, List.setIfInBounds_toArray, List.set_cons_zero, List.set_cons_succ, i64_w, i32_w]
            rfl
           refine one_ (i := 7) (N := some 91) #[true, true, true, true, true, true, true, true, false, false, false, false, false] rfl rfl (one_of HT_.out (by kernel_rfl)) (by decide) (fun K hK => ?_)
           refine goes_ Try.func14 (by kernel_rfl) rfl #[.int .i64 a0, .slice Ao126 y159.length co126] (by rfl) rfl rfl (by (try simp only [List.map_toArray, List.map_cons, List.map_nil]); first | done | rfl | (simp only [List.length_drop, List.length_take]; rfl)) ?_
           with_reducible refine (win_All.calls k2 a0 _ _ y159 t162 t163 _ ?side1 ?side2 A38.out).mono ?_
           (case side1 => repeat (first | exact (Kd.R_reads' HO161.out).2.2 | (with_reducible refine Kd.C_alloc ?_ _) | (with_reducible refine Kd.C_drewN ?_ _) | (with_reducible refine Kd.C_drew ?_)))
           (case side2 => exact (Kd.R_reads' HO161.out).2.1)
           rintro e w127 ⟨rfl, hb⟩
           refine ⟨_, rfl, ?_⟩
           have n0_ := Aside0.mk (Kd.R_below HO_9.out hb)
           have n1_ := Aside0.mk (Kd.R_below HO158.out hb)
           have n2_ := Aside0.mk (Kd.R_below HO161.out hb)
           have n3_ := Aside0.mk (blk_below (g := gb134) (o := .cells #[.int .i64 a3_0, .int .i64 a3_1] 35 (0, 0)) BK134.out hb)
           have n4_ := Aside0.mk (below_step (by repeat (first | (with_reducible first | exact HB.out | apply below_alloc | apply pw_below_drewN | apply below_drew1 | refine below_set ?_ GE134.out) | exact HB.out)) hb)
           clear HO_9
           clear HO158
           clear HO161
           clear BK134
           clear HB
           have HO_9 := n0_
           have HO158 := n1_
           have HO161 := n2_
           have BK134 := n3_
           have HB := n4_
           clear n0_ n1_ n2_ n3_ n4_
           (try clear hb)
           (try clear hb2)
           (try clear hk)
           (try clear hi)
           refine hK.out _ _ ⟨(blk_cell BK134.out 0).trans rfl, (blk_cell BK134.out 1).trans rfl⟩ (fun hHeld => ?_)
           clear hK K
           refine norm_ (a' := ?_) ?_ ?_
           rotate_left
           ·show Act.put _ (some 91) _ = _
            simp only [Act.put, List.setIfInBounds_toArray, List.set_cons_zero, List.set_cons_succ, i64_w, i32_w]
            rfl
           refine pure_ (i := 8) (N := some 83) (v := ?_) (a' := ?_) #[true, true, true, true, true, true, true, true, true, false, false, false, false] rfl rfl (any_of HT_.out (by kernel_rfl)) (fun _ _ _ h => h) (Or.inl ⟨by rfl, ?_⟩) ?_ ?_
           rotate_left
           ·intro w'
            go_simp
            with_reducible rfl
           rotate_left
           ·simp only [Act.put, List.setIfInBounds_toArray, List.set_cons_zero, List.set_cons_succ, i64_w, i32_w]
            rfl
           refine pure_ (i := 9) (N := some 92) (v := ?_) (a' := ?_) #[true, true, true, true, true, true, true, true, true, true, false, false, false] rfl rfl (any_of HT_.out (by kernel_rfl)) (fun _ _ _ h => h) (Or.inl ⟨by rfl, ?_⟩) ?_ ?_
           rotate_left
           ·intro w'
            go_simp
            with_reducible rfl
           rotate_left
           ·simp only [Act.put, List.setIfInBounds_toArray, List.set_cons_zero, List.set_cons_succ, i64_w, i32_w]
            rfl
           refine pure_ (i := 10) (N := some 93) (v := ?_) (a' := ?_) #[true, true, true, true, true, true, true, true, true, true, true, false, false] rfl rfl (any_of HT_.out (by kernel_rfl)) (fun _ _ _ h => h) (Or.inl ⟨by rfl, ?_⟩) ?_ ?_
           rotate_left
           ·intro w'
            go_simp
            with_reducible rfl
           rotate_left
           ·simp only [Act.put, List.setIfInBounds_toArray, List.set_cons_zero, List.set_cons_succ, i64_w, i32_w]
            rfl
           refine pure_ (i := 11) (N := some 15) (v := ?_) (a' := ?_) #[true, true, true, true, true, true, true, true, true, true, true, true, false] rfl rfl (any_of HT_.out (by kernel_rfl)) (fun _ _ _ h => h) (Or.inl ⟨by rfl, ?_⟩) ?_ ?_
           rotate_left
           ·intro w'
            go_simp
            with_reducible rfl
           rotate_left
           ·simp only [Act.put, List.setIfInBounds_toArray, List.set_cons_zero, List.set_cons_succ, i64_w, i32_w]
            rfl
           refine pure_ (i := 12) (N := some 16) (v := ?_) (a' := ?_) #[true, true, true, true, true, true, true, true, true, true, true, true, true] rfl rfl (any_of HT_.out (by kernel_rfl)) (fun _ _ _ h => h) (Or.inl ⟨by rfl, ?_⟩) ?_ ?_
           rotate_left
           ·intro w'
            go_simp
            with_reducible rfl
           rotate_left
           ·simp only [Act.put, List.setIfInBounds_toArray, List.set_cons_zero, List.set_cons_succ, i64_w, i32_w]
            rfl
           refine done_ (done_of HT_.out (by kernel_rfl)) ?_
           try go_wp2
           go_ret
           exact ⟨by first | rfl | (simp [errW_none, errW_some] <;> rfl) | (simp [*, errW_none, errW_some] <;> rfl), by repeat (first | (with_reducible first | exact HB.out | apply below_alloc | apply pw_below_drewN | apply below_drew1 | refine below_set ?_ GE134.out) | exact HB.out)⟩
         ·rw [if_neg c37] at H
          exact absurd H (by simp)
        ·rw [if_neg c36] at H
         exact absurd H (by simp)
 ·replace c6 := Bool.eq_false_iff.mpr c6
  subst c6
  have H1 : (some false) = some r := by rw [if_neg (show ¬ (false = true) by decide)] at H; exact H
  clear H
  have H := H1
  clear H1
  obtain rfl := Option.some.inj H
  go_enter Try.func6, Try.ntmps6
  go_wp2_with (first | ((with_reducible refine gate_dst (N := 7) rfl ?_); (try (refine gate_guard (by rfl) ?_; dsimp only)); refine box_event ?hg (N := 7) ?hd (cs := #[.int .i64 a3_0, .int .i64 a3_1]) (t := 35) ?hr ?_; (case hd => rfl); (case hg => rfl); (case hr => first | (go_simp; done) | (go_simp; rfl)); intro gb134 hg w128 hbox hb; have n0_ := Aside0.mk (below_step (by repeat (first | (with_reducible first | exact HB.out | apply below_alloc | apply pw_below_drewN | apply below_drew1) | exact HB.out)) hb); have n1_ := Aside0.mk (hbox); have n2_ := Aside0.mk ((by rw [hg]; exact (below_size (by repeat (first | (with_reducible first | exact HB.out | apply below_alloc | apply pw_below_drewN | apply below_drew1) | exact HB.out))) : w.heap.size ≤ gb134)); have n3_ := Aside0.mk ((by rw [hg]; exact (below_size (by repeat (first | (with_reducible first | exact HB.out | apply below_alloc | apply pw_below_drewN | apply below_drew1) | exact HB.out))) : w.heap.size ≤ gb134)); clear HB; have HB := n0_; have BK134 := n1_; have GW134 := n2_; have GE134 := n3_; clear n0_ n1_ n2_ n3_; clear hb hbox hg) | ((with_reducible refine gate_callee (f := 10) rfl ?_); refine goesL_ (some 17) rfl rfl Try.func10 (by kernel_rfl) rfl #[] rfl (by (try simp only [List.map_toArray, List.map_cons, List.map_nil]); first | done | rfl | (simp only [List.length_drop, List.length_take]; rfl)) ?_; (with_reducible refine (beadlelaw13_awake.calls k  false _ A5.out).mono ?_); rintro e w129 ⟨rfl, hb⟩; refine ⟨_, rfl, ?_⟩; have n0_ := Aside0.mk (blk_below (g := gb134) (o := .cells #[.int .i64 a3_0, .int .i64 a3_1] 35 (0, 0)) BK134.out hb); have n1_ := Aside0.mk (below_step (by repeat (first | (with_reducible first | exact HB.out | apply below_alloc | apply pw_below_drewN | apply below_drew1 | refine below_set ?_ GE134.out) | exact HB.out)) hb); clear BK134; clear HB; have BK134 := n0_; have HB := n1_; clear n0_ n1_; (try clear hb); (try clear hb2); (try clear hk); (try clear hi)))
  go_ret
  exact ⟨by first | rfl | (simp [errW_none, errW_some] <;> rfl) | (simp [*, errW_none, errW_some] <;> rfl), by repeat (first | (with_reducible first | exact HB.out | apply below_alloc | apply pw_below_drewN | apply below_drew1 | refine below_set ?_ GE134.out) | exact HB.out)⟩

end Go.Proofs.Ytikpnpmhkllbpaa.Q
