/- The heap's methods: compare, put (no law is stated here; each says its conditions). -/
import Derived.Test.YtdmoembbgcoeaaaHeapSt
import Derived.Test.YtdmoembbgcoeaaaQx6
import Derived.Test.YtdmoembbgcoeaaaQx8
import Derived.Test.YtdmoembbgcoeaaaQx4
import Derived.StillTailTactics
import Derived.Deep.DeepCutAuto
namespace Go.Proofs.Ytdmoembbgcoeaaa.Heap
open Go.RowKit Go.Proofs.YtdmoembbgcoeaaaW.PrintWords Go.Proofs.YtdmoembbgcoeaaaW.PrintLast Go.Proofs.YtdmoembbgcoeaaaW.PrintMore Go.Proofs.Ytdmoembbgcoeaaa.St Go.Proofs.Ytdmoembbgcoeaaa.Q
set_option linter.unusedVariables false
set_option linter.unusedSimpArgs false
attribute [local go_sem] max2_int min2_int max_two min_two max_three min_three max_four min_four

/-- What comes ahead of what. -/
def lt (great : Bool) (a b : Int × Int) : Bool := if a.2 = b.2 then decide (a.1 < b.1) else (decide (a.2 < b.2) != great)
/-- A comparison of two numbers. -/
def cmpi (a b : Int) : Int := if a < b then -1 else if a > b then 1 else 0
def keyv (great : Bool) (a b : Int × Int) : Int := if great then -(cmpi a.2 b.2) else cmpi a.2 b.2
def cmpv (great : Bool) (a b : Int × Int) : Int := if keyv great a b = 0 then cmpi a.1 b.1 else keyv great a b
theorem cmpi_64 (a b : Int) : cmp_Compare_int64.f a b = some (cmpi a b) := by
  unfold cmp_Compare_int64.f cmp_isNaN_int64.f cmpi
  simp
  split <;> try rfl
  split <;> rfl
theorem cmpi_int (a b : Int) : cmp_Compare_int.f a b = some (cmpi a b) := by
  unfold cmp_Compare_int.f cmp_isNaN_int.f cmpi
  simp
  split <;> try rfl
  split <;> rfl
theorem or_two (a b : Int) : cmp_Or_int.f 4 [a, b] = some (if a = 0 then b else a) := by
  unfold cmp_Or_int.f
  rw [cmp_Or_int.l0.eq_2, if_pos (by simp), if_pos (by omega), if_pos (by simp)]
  rw [show rd [a, b] 0 = a from rfl]
  by_cases h : a = 0
  · rw [if_pos h, if_pos h, show wrap64 (0 + 1) = 1 from by unfold wrap64; omega, cmp_Or_int.l0.eq_2, if_pos (by simp), if_pos (by omega), if_pos (by simp), show rd [a, b] 1 = b from rfl]
    by_cases h2 : b = 0
    · rw [if_pos h2, show wrap64 (1 + 1) = 2 from by unfold wrap64; omega, cmp_Or_int.l0.eq_2, if_neg (by simp), h2]
    · rw [if_neg h2]
  · rw [if_neg h, if_neg h]
theorem cmpi_bound (a b : Int) : -1 ≤ cmpi a b ∧ cmpi a b ≤ 1 := by
  unfold cmpi
  by_cases h : a < b
  · rw [if_pos h]; omega
  · rw [if_neg h]
    by_cases h2 : a > b
    · rw [if_pos h2]; omega
    · rw [if_neg h2]; omega
theorem cmpi_neg (a b : Int) : cmpi a b < 0 ↔ a < b := by
  unfold cmpi
  by_cases h : a < b
  · rw [if_pos h]; simp [h]
  · rw [if_neg h]
    by_cases h2 : a > b
    · rw [if_pos h2]; simp [h]
    · rw [if_neg h2]; simp [h]
theorem cmpi_pos (a b : Int) : 0 < cmpi a b ↔ b < a := by
  unfold cmpi
  by_cases h : a < b
  · rw [if_pos h]; exact ⟨fun h3 => by omega, fun h3 => by omega⟩
  · rw [if_neg h]
    by_cases h2 : a > b
    · rw [if_pos h2]; simp; exact h2
    · rw [if_neg h2]; simp; omega
theorem cmpi_zero (a b : Int) : cmpi a b = 0 ↔ a = b := by
  have h1 := cmpi_neg a b
  have h2 := cmpi_pos a b
  omega
theorem lt_iff (great : Bool) (a b : Int × Int) : decide (cmpv great a b < 0) = lt great a b := by
  have n1 := cmpi_neg a.2 b.2
  have p1 := cmpi_pos a.2 b.2
  have z1 := cmpi_zero a.2 b.2
  have n2 := cmpi_neg a.1 b.1
  unfold cmpv keyv lt
  generalize cmpi a.2 b.2 = p at *
  generalize cmpi a.1 b.1 = q at *
  cases great
  · simp only [Bool.false_eq_true, if_false]
    by_cases h : a.2 = b.2
    · rw [if_pos (z1.2 h), if_pos h]
      exact decide_eq_decide.2 n2
    · rw [if_neg (fun e => h (z1.1 e)), if_neg h]
      by_cases c : a.2 < b.2
      · rw [decide_eq_true (n1.2 c), decide_eq_true c]; rfl
      · rw [decide_eq_false (fun e => c (n1.1 e)), decide_eq_false c]; rfl
  · simp only [if_true]
    by_cases h : a.2 = b.2
    · rw [if_pos (by have := z1.2 h; omega), if_pos h]
      exact decide_eq_decide.2 n2
    · rw [if_neg (fun e => h (z1.1 (by omega))), if_neg h]
      by_cases c : a.2 < b.2
      · have := n1.2 c
        rw [decide_eq_false (by omega), decide_eq_true c]
        rfl
      · have := p1.2 (by omega)
        rw [decide_eq_true (by omega), decide_eq_false c]
        rfl
set_option maxHeartbeats 1000000 in
set_option maxRecDepth 100000 in
theorem compare_up {w : World} {b : Nat} {ok : Nat → Prop} {x : H} {v : Value} (y z : Int × Int) (hM : heap.M w b ok x v) (hgr : x.great = false) :
    Calls Try.prog 51 #[v, .agg #[.int .i64 y.1, .int .i64 y.2], .agg #[.int .i64 z.1, .int .i64 z.2]] w fun e w' => e = .returned (.int .i64 (cmpv x.great y z)) ∧ Below w.heap.size w w' := by
  obtain ⟨g, sv, bm, rfl, hA⟩ := hM
  have HA := Aside0.mk hA
  have HK := Aside0.mk (cmpi_64 y.2 z.2)
  have HI := Aside0.mk (cmpi_int y.1 z.1)
  have hkb := cmpi_bound y.2 z.2
  have hib := cmpi_bound y.1 z.1
  have hv : cmpv x.great y z = if (if x.great = true then -(cmpi y.2 z.2) else cmpi y.2 z.2) = 0 then cmpi y.1 z.1 else (if x.great = true then -(cmpi y.2 z.2) else cmpi y.2 z.2) := rfl
  rw [hgr] at hv ⊢
  simp only [if_true, Bool.false_eq_true, if_false] at hv
  have HV := Aside0.mk hv
  have HGR := Aside0.mk hgr
  clear hv hgr
  generalize cmpv false y z = r at HV
  generalize cmpi y.2 z.2 = p at HK HV hkb
  generalize cmpi y.1 z.1 = q at HI HV hib
  have HO := Aside0.mk (or_two (p) q)
  rw [← HV.out] at HO
  obtain ⟨y1, y2⟩ := y
  obtain ⟨z1, z2⟩ := z
  clear hA
  go_enter Try.func51, Try.ntmps51
  go_wp2_with (first | ((with_reducible refine gate_dst (N := 4) rfl ?_); refine box_event ?hg (N := 4) ?hd (cs := #[.int .i64 y1, .int .i64 y2]) (t := 62) ?hr ?_; (case hd => rfl); (case hg => rfl); (case hr => first | (go_simp; done) | (go_simp; rfl)); intro g4 hg4 w4 hx4 hb4; have HX4 := Aside0.mk hx4; have HB4 := Aside0.mk hb4; have HG4 := Aside0.mk hg4; clear hx4 hb4 hg4) | ((with_reducible refine gate_dst (N := 5) rfl ?_); refine box_event ?hg (N := 5) ?hd (cs := #[.int .i64 z1, .int .i64 z2]) (t := 62) ?hr ?_; (case hd => rfl); (case hg => rfl); (case hr => first | (go_simp; done) | (go_simp; rfl)); intro g5 hg5 w5 hx5 hb5; have HX5 := Aside0.mk hx5; have HB5 := Aside0.mk (HB4.out.trans (hb5.mono HB4.out.size)); have HX45 := Aside0.mk ((hb5.block g4 (blk_lt HX4.out)).trans HX4.out); have hc1 := blk_cell HX45.out 1; have hc2 := blk_cell HX5.out 1; clear hx5 hb5 hg5) | (go_at_call 30; (with_reducible refine (cmp_Compare_int64.calls _ _ p _ HK.out).mono ?_); rintro e w6 ⟨rfl, ⟨nd6, hw6⟩⟩; have hc3 : w6.cell? ⟨g, 1, none⟩ = some (.bool false) := (by rw [hw6, ← HGR.out]; exact (HA.out.below HB5.out).c1); have HB6 := Aside0.mk (show Below w.heap.size w w6 from by rw [hw6]; exact pw_below_drewN HB5.out nd6); have HX46 := Aside0.mk (show w6.heap[g4]? = some (.cells #[.int .i64 y1, .int .i64 y2] 62 (0, 0)) from by rw [hw6]; exact HX45.out); have HX56 := Aside0.mk (show w6.heap[g5]? = some (.cells #[.int .i64 z1, .int .i64 z2] 62 (0, 0)) from by rw [hw6]; exact HX5.out); have hc4 := blk_cell HX46.out 0; have hc5 := blk_cell HX56.out 0; clear hw6) | (go_at_call 31; (with_reducible refine (cmp_Compare_int.calls _ _ q _ HI.out).mono ?_); rintro e w7 ⟨rfl, ⟨nd7, hw7⟩⟩; have HB7 := Aside0.mk (show Below w.heap.size w w7 from by rw [hw7]; exact pw_below_drewN HB6.out nd7); have HL := Aside0.mk (show (Kd.int .i64).C (w7.alloc (.cells #[.int .i64 (p), .int .i64 q] 3)) (some ⟨w7.heap.size, 0, none⟩) ([p, q] : List Int).length [p, q] from (Kd.R_reads' (lit_R .i64 w7 3 (Nat.le_refl _) [p, q] (by simp))).2.2); clear hw7) | (go_at_call 29; (with_reducible refine (show Calls Try.prog 29 #[.slice (some ⟨w7.heap.size, 0, none⟩) 2 2] (w7.alloc (.cells #[.int .i64 (p), .int .i64 q] 3)) _ from cmp_Or_int.calls 4 (some ⟨w7.heap.size, 0, none⟩) 2 [p, q] r _ HL.out (by simp) HO.out).mono ?_); rintro e w8 ⟨rfl, ⟨nd8, hw8⟩⟩; have HB8 := Aside0.mk (show Below w.heap.size w w8 from by rw [hw8]; exact pw_below_drewN (HB7.out.alloc HB7.out.size _) nd8); clear hw8))
  go_ret
  exact ⟨rfl, HB8.out⟩
set_option maxHeartbeats 1000000 in
set_option maxRecDepth 100000 in
theorem compare_down {w : World} {b : Nat} {ok : Nat → Prop} {x : H} {v : Value} (y z : Int × Int) (hM : heap.M w b ok x v) (hgr : x.great = true) :
    Calls Try.prog 51 #[v, .agg #[.int .i64 y.1, .int .i64 y.2], .agg #[.int .i64 z.1, .int .i64 z.2]] w fun e w' => e = .returned (.int .i64 (cmpv x.great y z)) ∧ Below w.heap.size w w' := by
  obtain ⟨g, sv, bm, rfl, hA⟩ := hM
  have HA := Aside0.mk hA
  have HK := Aside0.mk (cmpi_64 y.2 z.2)
  have HI := Aside0.mk (cmpi_int y.1 z.1)
  have hkb := cmpi_bound y.2 z.2
  have hib := cmpi_bound y.1 z.1
  have hv : cmpv x.great y z = if (if x.great = true then -(cmpi y.2 z.2) else cmpi y.2 z.2) = 0 then cmpi y.1 z.1 else (if x.great = true then -(cmpi y.2 z.2) else cmpi y.2 z.2) := rfl
  rw [hgr] at hv ⊢
  simp only [if_true, Bool.false_eq_true, if_false] at hv
  have HV := Aside0.mk hv
  have HGR := Aside0.mk hgr
  clear hv hgr
  generalize cmpv true y z = r at HV
  generalize cmpi y.2 z.2 = p at HK HV hkb
  generalize cmpi y.1 z.1 = q at HI HV hib
  have HO := Aside0.mk (or_two (-p) q)
  rw [← HV.out] at HO
  obtain ⟨y1, y2⟩ := y
  obtain ⟨z1, z2⟩ := z
  clear hA
  go_enter Try.func51, Try.ntmps51
  go_wp2_with (first | ((with_reducible refine gate_dst (N := 4) rfl ?_); refine box_event ?hg (N := 4) ?hd (cs := #[.int .i64 y1, .int .i64 y2]) (t := 62) ?hr ?_; (case hd => rfl); (case hg => rfl); (case hr => first | (go_simp; done) | (go_simp; rfl)); intro g4 hg4 w4 hx4 hb4; have HX4 := Aside0.mk hx4; have HB4 := Aside0.mk hb4; have HG4 := Aside0.mk hg4; clear hx4 hb4 hg4) | ((with_reducible refine gate_dst (N := 5) rfl ?_); refine box_event ?hg (N := 5) ?hd (cs := #[.int .i64 z1, .int .i64 z2]) (t := 62) ?hr ?_; (case hd => rfl); (case hg => rfl); (case hr => first | (go_simp; done) | (go_simp; rfl)); intro g5 hg5 w5 hx5 hb5; have HX5 := Aside0.mk hx5; have HB5 := Aside0.mk (HB4.out.trans (hb5.mono HB4.out.size)); have HX45 := Aside0.mk ((hb5.block g4 (blk_lt HX4.out)).trans HX4.out); have hc1 := blk_cell HX45.out 1; have hc2 := blk_cell HX5.out 1; clear hx5 hb5 hg5) | (go_at_call 30; (with_reducible refine (cmp_Compare_int64.calls _ _ p _ HK.out).mono ?_); rintro e w6 ⟨rfl, ⟨nd6, hw6⟩⟩; have hc3 : w6.cell? ⟨g, 1, none⟩ = some (.bool true) := (by rw [hw6, ← HGR.out]; exact (HA.out.below HB5.out).c1); have HB6 := Aside0.mk (show Below w.heap.size w w6 from by rw [hw6]; exact pw_below_drewN HB5.out nd6); have HX46 := Aside0.mk (show w6.heap[g4]? = some (.cells #[.int .i64 y1, .int .i64 y2] 62 (0, 0)) from by rw [hw6]; exact HX45.out); have HX56 := Aside0.mk (show w6.heap[g5]? = some (.cells #[.int .i64 z1, .int .i64 z2] 62 (0, 0)) from by rw [hw6]; exact HX5.out); have hc4 := blk_cell HX46.out 0; have hc5 := blk_cell HX56.out 0; clear hw6) | (go_at_call 31; (with_reducible refine (cmp_Compare_int.calls _ _ q _ HI.out).mono ?_); rintro e w7 ⟨rfl, ⟨nd7, hw7⟩⟩; have HB7 := Aside0.mk (show Below w.heap.size w w7 from by rw [hw7]; exact pw_below_drewN HB6.out nd7); have HL := Aside0.mk (show (Kd.int .i64).C (w7.alloc (.cells #[.int .i64 (-p), .int .i64 q] 3)) (some ⟨w7.heap.size, 0, none⟩) ([-p, q] : List Int).length [-p, q] from (Kd.R_reads' (lit_R .i64 w7 3 (Nat.le_refl _) [-p, q] (by simp))).2.2); clear hw7) | (go_at_call 29; (with_reducible refine (show Calls Try.prog 29 #[.slice (some ⟨w7.heap.size, 0, none⟩) 2 2] (w7.alloc (.cells #[.int .i64 (-p), .int .i64 q] 3)) _ from cmp_Or_int.calls 4 (some ⟨w7.heap.size, 0, none⟩) 2 [-p, q] r _ HL.out (by simp) HO.out).mono ?_); rintro e w8 ⟨rfl, ⟨nd8, hw8⟩⟩; have HB8 := Aside0.mk (show Below w.heap.size w w8 from by rw [hw8]; exact pw_below_drewN (HB7.out.alloc HB7.out.size _) nd8); clear hw8))
  go_ret
  exact ⟨rfl, HB8.out⟩
theorem compare_calls {w : World} {b : Nat} {ok : Nat → Prop} {x : H} {v : Value} (y z : Int × Int) (hM : heap.M w b ok x v) :
    Calls Try.prog 51 #[v, .agg #[.int .i64 y.1, .int .i64 y.2], .agg #[.int .i64 z.1, .int .i64 z.2]] w fun e w' => e = .returned (.int .i64 (cmpv x.great y z)) ∧ Below w.heap.size w w' := by
  cases h : x.great with
  | false => have := compare_up y z hM h; rwa [h] at this
  | true => have := compare_down y z hM h; rwa [h] at this
end Go.Proofs.Ytdmoembbgcoeaaa.Heap
