/- The heap's method Pop (no law is stated here; each says its conditions). -/
import Derived.Test.YtkpjijbkiambiaaHeap7
import Derived.Test.YtkpjijbkiambiaaWInvWords
namespace Go.Proofs.Ytkpjijbkiambiaa.Heap
open Go.RowKit Go.Proofs.YtkpjijbkiambiaaW.PrintWords Go.Proofs.YtkpjijbkiambiaaW.PrintLast Go.Proofs.YtkpjijbkiambiaaW.PrintMore Go.Proofs.Ytkpjijbkiambiaa.St Go.Proofs.Ytkpjijbkiambiaa.Q
set_option linter.unusedVariables false
set_option linter.unusedSimpArgs false
attribute [local go_sem] max2_int min2_int max_two min_two max_three min_three max_four min_four

set_option maxHeartbeats 1000000 in
set_option maxRecDepth 100000 in
theorem pop_some {w : World} {b : Nat} {ok : Nat → Prop} {x : H} {v : Value} (hM : heap.M w b ok x v) (hO : Ok x) (h0 : 0 < x.l.length) :
    Calls Try.prog 14 #[v] w fun e w' => e = .returned (.tuple #[.agg #[.int .i64 (at_ x.l 0).1, .int .i64 (at_ x.l 0).2], .bool true]) ∧ (∃ x' : H, x'.great = x.great ∧ x'.room = x.room ∧ Ok x' ∧ (at_ x.l 0 :: x'.l).Perm x.l ∧ heap.M w' b (more w ok) x' v) ∧ Wrote w w' ok := by
  have HM := Aside0.mk hM
  have HO := Aside0.mk hO
  have HL := Aside0.mk h0
  have HWF := Aside0.mk (show (Lit.int .i64 (at_ x.l 0).1).wf = true from by obtain ⟨_, _, _, _, hA⟩ := hM; exact hA.wf _ (at_mem h0))
  clear hM hO h0
  have hMv := HM.out
  obtain ⟨g, sv, bm, rfl, _⟩ := hMv
  obtain ⟨y, hy⟩ : ∃ y : Int × Int, at_ x.l 0 = y := ⟨_, rfl⟩
  have HY := Aside0.mk hy
  rw [hy] at HWF ⊢
  clear hy
  go_enter Try.func14, Try.ntmps14
  go_upto_region 2 with (first | ((with_reducible refine gate_dst (N := 2) rfl ?_); refine box_event ?hg (N := 2) ?hd (cs := #[.int .i64 0, .int .i64 0]) (t := 32) ?hr ?_; (case hd => rfl); (case hg => rfl); (case hr => first | (go_simp; done) | (go_simp; rfl)); intro gr hgr wr hxr hbr; have HXR := Aside0.mk hxr; have HBR := Aside0.mk hbr; have HGR := Aside0.mk hgr; have HMR := Aside0.mk (heap.move (fun k hk => hbr.block k hk.2.2) (heap.bound HM.out)); clear hxr hbr hgr) | (go_at_call 12; (with_reducible refine (top_some HMR.out HL.out).mono ?_); rintro e w3 ⟨rfl, hb3⟩; rw [HY.out]; have HB3 := Aside0.mk hb3; have HM3 := Aside0.mk (heap.move (fun k hk => hb3.block k (Nat.lt_of_lt_of_le hk.2.2 HBR.out.size)) HMR.out); have HX3 := Aside0.mk ((hb3.block _ (blk_lt HXR.out)).trans HXR.out); clear hb3) | ((with_reducible refine gate_dst (N := 4) rfl ?_); refine box_event ?hg (N := 4) ?hd (cs := #[.int .i64 0, .int .i64 0]) (t := 32) ?hr ?_; (case hd => rfl); (case hg => rfl); (case hr => first | (go_simp; done) | (go_simp; rfl)); intro g4 hg4 w4 hx4 hb4; have HX4 := Aside0.mk hx4; have HB4 := Aside0.mk hb4; have HG4 := Aside0.mk hg4; have s0 := blk_cell hx4 0; have s1 := blk_cell hx4 1; have t0 := blk_frozen hx4 0; have t1 := blk_frozen hx4 1; clear hx4 hb4 hg4))
  have hM5 : heap.M ((w4.setCell ⟨g4, 0, none⟩ (.int .i64 y.1)).setCell ⟨g4, 1, none⟩ (.int .i64 y.2)) b (fun k => ok k ∧ b ≤ k ∧ k < w.heap.size) x (.pointer (some ⟨g, 0, none⟩)) := heap.move (fun k hk => by
    have h1 : k < w3.heap.size := Nat.lt_of_lt_of_le hk.2.2 (Nat.le_trans HBR.out.size HB3.out.size)
    have hne : k ≠ g4 := by have := HG4.out; omega
    rw [Below.heap_setCell _ _ _ k hne, Below.heap_setCell _ _ _ k hne]
    exact HB4.out.block k h1) HM3.out
  have hX5 : ((w4.setCell ⟨g4, 0, none⟩ (.int .i64 y.1)).setCell ⟨g4, 1, none⟩ (.int .i64 y.2)).heap[g4]? = some (.cells #[.int .i64 y.1, .int .i64 y.2] 32 (0, 0)) := blk_put (cs := #[.int .i64 y.1, .int .i64 0]) (blk_put (cs := #[.int .i64 0, .int .i64 0]) HX4.out 0 _ rfl) 1 _ rfl
  have hgr4 : gr ≠ g4 := by have h1 := blk_lt HX3.out; have := HG4.out; omega
  have hXR5 : ((w4.setCell ⟨g4, 0, none⟩ (.int .i64 y.1)).setCell ⟨g4, 1, none⟩ (.int .i64 y.2)).heap[gr]? = some (.cells #[.int .i64 0, .int .i64 0] 32 (0, 0)) := blk_far (blk_far ((HB4.out.block _ (blk_lt HX3.out)).trans HX3.out) hgr4 _) hgr4 _
  have hB5 : Below w.heap.size w ((w4.setCell ⟨g4, 0, none⟩ (.int .i64 y.1)).setCell ⟨g4, 1, none⟩ (.int .i64 y.2)) := by
    have h1 : Below w.heap.size w w4 := (HBR.out.trans (HB3.out.mono HBR.out.size)).trans (HB4.out.mono (Nat.le_trans HBR.out.size HB3.out.size))
    have h2 : w.heap.size ≤ g4 := by have := HG4.out; have := HBR.out.size; have := HB3.out.size; omega
    exact (h1.setCell h2 _).setCell h2 _
  clear s0 s1 t0 t1 hgr4
  generalize (w4.setCell ⟨g4, 0, none⟩ (.int .i64 y.1)).setCell ⟨g4, 1, none⟩ (.int .i64 y.2) = w5 at hM5 hX5 hXR5 hB5 ⊢
  have HM5 := Aside0.mk hM5
  have HX5 := Aside0.mk hX5
  have HXR5 := Aside0.mk hXR5
  have HB5 := Aside0.mk hB5
  have s0 := blk_cell hX5 0
  have s1 := blk_cell hX5 1
  clear hM5 hX5 hXR5 hB5
  refine start_ (n := 10) (S := fun w' => w'.cell? ⟨g4, 0, none⟩ = some (.int .i64 y.1) ∧ w'.cell? ⟨g4, 1, none⟩ = some (.int .i64 y.2)) (ds := []) #[false, false, false, false, false, false, false, false, false, false] (by kernel_rfl) rfl rfl ⟨(s0 : w5.drew.cell? _ = _), (s1 : w5.drew.cell? _ = _)⟩ (fun hHeld => ?_)
  clear s0 s1
  obtain ⟨w6, hw6⟩ : ∃ w6 : World, w5.drew = w6 := ⟨_, rfl⟩
  rw [hw6] at hHeld ⊢
  have hb6 : Below w5.heap.size w5 w6 := by rw [← hw6]; exact below_drew (Below.refl _ _)
  have HM6 := Aside0.mk (heap.move (fun k hk => hb6.block k (Nat.lt_of_lt_of_le hk.2.2 HB5.out.size)) HM5.out)
  have HX6 := Aside0.mk ((hb6.block _ (blk_lt HX5.out)).trans HX5.out)
  have HXR6 := Aside0.mk ((hb6.block _ (blk_lt HXR5.out)).trans HXR5.out)
  have HB6 := Aside0.mk (HB5.out.trans (hb6.mono HB5.out.size))
  clear hw6 hb6
  refine pure_ (i := 1) (N := some 12) (v := ?_) (a' := ?_) #[false, true, false, false, false, false, false, false, false, false] rfl rfl (by kernel_rfl) (fun _ _ _ h => h) (Or.inl ⟨by rfl, ?_⟩) ?_ ?_
  rotate_left
  · intro w'
    go_simp
    with_reducible rfl
  rotate_left
  · simp only [Act.put, List.setIfInBounds_toArray, List.set_cons_zero, List.set_cons_succ, i64_w, i32_w]
    rfl
  refine pure_ (i := 2) (N := some 13) (v := ?_) (a' := ?_) #[false, true, true, false, false, false, false, false, false, false] rfl rfl (by kernel_rfl) (fun _ _ _ h => h) (Or.inl ⟨by rfl, ?_⟩) ?_ ?_
  rotate_left
  · intro w'
    go_simp
    with_reducible rfl
  rotate_left
  · simp only [Act.put, List.setIfInBounds_toArray, List.set_cons_zero, List.set_cons_succ, i64_w, i32_w]
    rfl
  refine pure_ (i := 3) (N := some 14) (v := ?_) (a' := ?_) #[false, true, true, true, false, false, false, false, false, false] rfl rfl (by kernel_rfl) (fun _ _ _ h => h) (Or.inl ⟨wanted_on rfl rfl rfl rfl, ?_⟩) ?_ ?_
  rotate_left
  · intro w'
    go_simp
    with_reducible rfl
  rotate_left
  · simp only [Act.put, List.setIfInBounds_toArray, List.set_cons_zero, List.set_cons_succ, i64_w, i32_w]
    rfl
  refine pure_ (i := 4) (N := some 15) (v := ?_) (a' := ?_) #[false, true, true, true, true, false, false, false, false, false] rfl rfl (by kernel_rfl) (fun _ _ _ h => h) (Or.inl ⟨wanted_on rfl rfl rfl rfl, ?_⟩) ?_ ?_
  rotate_left
  · intro w'
    go_simp
    with_reducible rfl
  rotate_left
  · simp only [Act.put, List.setIfInBounds_toArray, List.set_cons_zero, List.set_cons_succ, i64_w, i32_w]
    rfl
  refine take_ (i := 0) (N := some 11) (v := ?_) (a' := ?_) #[true, true, true, true, true, false, false, false, false, false] rfl rfl (by kernel_rfl) (fun _ _ _ h => h) (Or.inl ⟨by rfl, ?_⟩) hHeld ?_ ?_
  rotate_left
  · intro w' hS_
    obtain ⟨s0_, s1_⟩ := hS_
    go_simp
    with_reducible rfl
  rotate_left
  · simp only [Act.put, List.setIfInBounds_toArray, List.set_cons_zero, List.set_cons_succ, i64_w, i32_w]
    rfl
  refine take_ (i := 5) (N := some 16) (v := ?_) (a' := ?_) #[true, true, true, true, true, true, false, false, false, false] rfl rfl (by kernel_rfl) (fun _ _ _ h => h) (Or.inl ⟨wanted_on rfl rfl rfl rfl, ?_⟩) hHeld ?_ ?_
  rotate_left
  · intro w' hS_
    obtain ⟨s0_, s1_⟩ := hS_
    go_simp
    with_reducible rfl
  rotate_left
  · simp only [Act.put, List.setIfInBounds_toArray, List.set_cons_zero, List.set_cons_succ, i64_w, i32_w]
    rfl
  refine one_ (i := 6) (N := some 17) #[true, true, true, true, true, true, true, false, false, false] rfl rfl (by kernel_rfl) (by decide) (fun K hK => ?_)
  refine goes_ Try.func16 (by kernel_rfl) rfl #[.pointer (some ⟨g, 0, none⟩), .int .i64 y.1] (wanted_on rfl rfl rfl rfl) rfl rfl (by first | rfl | (simp only [Array.map, List.map]; rfl) | (go_simp; done) | (go_simp; rfl)) ?_
  refine (drop_hit y.1 HM6.out HWF.out HO.out 0 HL.out (by rw [HY.out])).mono ?_
  rintro e w7 ⟨rfl, hX, hW7⟩
  have HX := Aside0.mk hX
  have HW7 := Aside0.mk hW7
  have HX7 := Aside0.mk ((hW7.block g4 (blk_lt HX6.out) (fun hk => by have := HG4.out; have := HBR.out.size; have := HB3.out.size; have := hk.2.2; omega)).trans HX6.out)
  have HXR7 := Aside0.mk ((hW7.block gr (blk_lt HXR6.out) (fun hk => by have := HGR.out; have := hk.2.2; omega)).trans HXR6.out)
  clear hX hW7
  refine ⟨_, rfl, hK.out _ _ ⟨blk_cell HX7.out 0, blk_cell HX7.out 1⟩ (fun hHeld => ?_)⟩
  clear hK K
  refine norm_ (a' := ?_) ?_ ?_
  rotate_left
  · show Act.put _ (some 17) _ = _
    simp only [Act.put, List.setIfInBounds_toArray, List.set_cons_zero, List.set_cons_succ, i64_w, i32_w]
    rfl
  refine pure_ (i := 7) (N := some 18) (v := ?_) (a' := ?_) #[true, true, true, true, true, true, true, true, false, false] rfl rfl (by kernel_rfl) (fun _ _ _ h => h) (Or.inl ⟨by rfl, ?_⟩) ?_ ?_
  rotate_left
  · intro w'
    go_simp
    with_reducible rfl
  rotate_left
  · simp only [Act.put, List.setIfInBounds_toArray, List.set_cons_zero, List.set_cons_succ, i64_w, i32_w]
    rfl
  refine one_ (i := 8) (N := none) #[true, true, true, true, true, true, true, true, true, false] rfl rfl (by kernel_rfl) (by decide) (fun K hK => ?_)
  have u0 := blk_cell HXR7.out 0
  have u1 := blk_cell HXR7.out 1
  have v0 := blk_frozen HXR7.out 0
  have v1 := blk_frozen HXR7.out 1
  refine skip_ rfl rfl (by first | (go_simp; done) | (go_simp; rfl)) ?_
  have hne4 : g4 ≠ gr := by have h1 := blk_lt HX3.out; have := HG4.out; omega
  have hX8 : ((w7.setCell ⟨gr, 0, none⟩ (.int .i64 y.1)).setCell ⟨gr, 1, none⟩ (.int .i64 y.2)).heap[g4]? = some (.cells #[.int .i64 y.1, .int .i64 y.2] 32 (0, 0)) := blk_far (blk_far HX7.out hne4 _) hne4 _
  refine hK.out _ _ ⟨blk_cell hX8 0, blk_cell hX8 1⟩ (fun hHeld => ?_)
  clear hK K u0 u1 v0 v1 hX8 hne4
  refine pure_ (i := 9) (N := some 3) (v := ?_) (a' := ?_) #[true, true, true, true, true, true, true, true, true, true] rfl rfl (by kernel_rfl) (fun _ _ _ h => h) (Or.inl ⟨by rfl, ?_⟩) ?_ ?_
  rotate_left
  · intro w'
    go_simp
    with_reducible rfl
  rotate_left
  · simp only [Act.put, List.setIfInBounds_toArray, List.set_cons_zero, List.set_cons_succ, i64_w, i32_w]
    rfl
  refine done_ (by kernel_rfl) ?_
  go_wp2
  refine bodyPost_ret (results_ct rfl _ _ gr 32 #[.int .i64 y.1, .int .i64 y.2] (0, 0) _ rfl (blk_put (cs := #[.int .i64 y.1, .int .i64 0]) (blk_put (cs := #[.int .i64 0, .int .i64 0]) HXR7.out 0 _ rfl) 1 _ rfl) Try.underlying32 rfl (by kernel_rfl)) rfl ?_
  obtain ⟨x', e1, e2, e3, e4, e5⟩ := HX.out
  have hs6 : w.heap.size ≤ w6.heap.size := HB6.out.size
  have hgr6 : gr < w6.heap.size := blk_lt HXR6.out
  refine ⟨rfl, ⟨x', e1, e2, e3, by rw [HY.out] at e4; exact e4, heap.mono (fun k hk => hk.elim (fun h => Or.inl h.1) (fun h => Or.inr (Nat.le_trans hs6 h))) (heap.move (fun k hk => ?_) e5)⟩, ?_⟩
  · have hne : k ≠ gr := by
      have := HGR.out
      rcases hk with h | h
      · have := h.2.2; omega
      · omega
    rw [Below.heap_setCell _ _ _ k hne, Below.heap_setCell _ _ _ k hne]
  · exact (((Wrote.of_below HB6.out ok).trans HW7.out (fun k hk => Or.inl hk.1)).setCell (Or.inr (by have := HGR.out; show w.heap.size ≤ gr; omega)) _).setCell (Or.inr (by have := HGR.out; show w.heap.size ≤ gr; omega)) _
set_option maxHeartbeats 1000000 in
set_option maxRecDepth 100000 in
theorem pop_none {w : World} {b : Nat} {ok : Nat → Prop} {x : H} {v : Value} (hM : heap.M w b ok x v) (h0 : x.l.length = 0) :
    Calls Try.prog 14 #[v] w fun e w' => e = .returned (.tuple #[.agg #[.int .i64 0, .int .i64 0], .bool false]) ∧ Below w.heap.size w w' := by
  have HM := Aside0.mk hM
  have HL := Aside0.mk h0
  clear hM h0
  have hMv := HM.out
  obtain ⟨g, sv, bm, rfl, _⟩ := hMv
  go_enter Try.func14, Try.ntmps14
  go_upto_region 2 with (first | ((with_reducible refine gate_dst (N := 2) rfl ?_); refine box_event ?hg (N := 2) ?hd (cs := #[.int .i64 0, .int .i64 0]) (t := 32) ?hr ?_; (case hd => rfl); (case hg => rfl); (case hr => first | (go_simp; done) | (go_simp; rfl)); intro gr hgr wr hxr hbr; have HXR := Aside0.mk hxr; have HBR := Aside0.mk hbr; have HGR := Aside0.mk hgr; have HMR := Aside0.mk (heap.move (fun k hk => hbr.block k hk.2.2) (heap.bound HM.out)); clear hxr hbr hgr) | (go_at_call 12; (with_reducible refine (top_none HMR.out HL.out).mono ?_); rintro e w3 ⟨rfl, hb3⟩; have HB3 := Aside0.mk hb3; have HM3 := Aside0.mk (heap.move (fun k hk => hb3.block k (Nat.lt_of_lt_of_le hk.2.2 HBR.out.size)) HMR.out); have HX3 := Aside0.mk ((hb3.block _ (blk_lt HXR.out)).trans HXR.out); clear hb3) | ((with_reducible refine gate_dst (N := 4) rfl ?_); refine box_event ?hg (N := 4) ?hd (cs := #[.int .i64 0, .int .i64 0]) (t := 32) ?hr ?_; (case hd => rfl); (case hg => rfl); (case hr => first | (go_simp; done) | (go_simp; rfl)); intro g4 hg4 w4 hx4 hb4; have HX4 := Aside0.mk hx4; have HB4 := Aside0.mk hb4; have HG4 := Aside0.mk hg4; have s0 := blk_cell hx4 0; have s1 := blk_cell hx4 1; have t0 := blk_frozen hx4 0; have t1 := blk_frozen hx4 1; clear hx4 hb4 hg4))
  have hX5 : ((w4.setCell ⟨g4, 0, none⟩ (.int .i64 0)).setCell ⟨g4, 1, none⟩ (.int .i64 0)).heap[g4]? = some (.cells #[.int .i64 0, .int .i64 0] 32 (0, 0)) := blk_put (cs := #[.int .i64 0, .int .i64 0]) (blk_put (cs := #[.int .i64 0, .int .i64 0]) HX4.out 0 _ rfl) 1 _ rfl
  have hgr4 : gr ≠ g4 := by have h1 := blk_lt HX3.out; have := HG4.out; omega
  have hXR5 : ((w4.setCell ⟨g4, 0, none⟩ (.int .i64 0)).setCell ⟨g4, 1, none⟩ (.int .i64 0)).heap[gr]? = some (.cells #[.int .i64 0, .int .i64 0] 32 (0, 0)) := blk_far (blk_far ((HB4.out.block _ (blk_lt HX3.out)).trans HX3.out) hgr4 _) hgr4 _
  have hB5 : Below w.heap.size w ((w4.setCell ⟨g4, 0, none⟩ (.int .i64 0)).setCell ⟨g4, 1, none⟩ (.int .i64 0)) := by
    have h1 : Below w.heap.size w w4 := (HBR.out.trans (HB3.out.mono HBR.out.size)).trans (HB4.out.mono (Nat.le_trans HBR.out.size HB3.out.size))
    have h2 : w.heap.size ≤ g4 := by have := HG4.out; have := HBR.out.size; have := HB3.out.size; omega
    exact (h1.setCell h2 _).setCell h2 _
  clear s0 s1 t0 t1 hgr4
  generalize (w4.setCell ⟨g4, 0, none⟩ (.int .i64 0)).setCell ⟨g4, 1, none⟩ (.int .i64 0) = w5 at hX5 hXR5 hB5 ⊢
  have HX5 := Aside0.mk hX5
  have HXR5 := Aside0.mk hXR5
  have HB5 := Aside0.mk hB5
  have s0 := blk_cell hX5 0
  have s1 := blk_cell hX5 1
  clear hX5 hXR5 hB5
  refine start_ (n := 10) (S := fun w' => w'.cell? ⟨g4, 0, none⟩ = some (.int .i64 0) ∧ w'.cell? ⟨g4, 1, none⟩ = some (.int .i64 0)) (ds := []) #[false, false, false, false, false, false, false, false, false, false] (by kernel_rfl) rfl rfl ⟨(s0 : w5.drew.cell? _ = _), (s1 : w5.drew.cell? _ = _)⟩ (fun hHeld => ?_)
  clear s0 s1
  obtain ⟨w6, hw6⟩ : ∃ w6 : World, w5.drew = w6 := ⟨_, rfl⟩
  rw [hw6] at hHeld ⊢
  have hb6 : Below w5.heap.size w5 w6 := by rw [← hw6]; exact below_drew (Below.refl _ _)
  have HX6 := Aside0.mk ((hb6.block _ (blk_lt HX5.out)).trans HX5.out)
  have HXR6 := Aside0.mk ((hb6.block _ (blk_lt HXR5.out)).trans HXR5.out)
  have HB6 := Aside0.mk (HB5.out.trans (hb6.mono HB5.out.size))
  clear hw6 hb6
  refine pure_ (i := 1) (N := some 12) (v := ?_) (a' := ?_) #[false, true, false, false, false, false, false, false, false, false] rfl rfl (by kernel_rfl) (fun _ _ _ h => h) (Or.inl ⟨by rfl, ?_⟩) ?_ ?_
  rotate_left
  · intro w'
    go_simp
    with_reducible rfl
  rotate_left
  · simp only [Act.put, List.setIfInBounds_toArray, List.set_cons_zero, List.set_cons_succ, i64_w, i32_w]
    rfl
  refine pure_ (i := 2) (N := some 13) (v := ?_) (a' := ?_) #[false, true, true, false, false, false, false, false, false, false] rfl rfl (by kernel_rfl) (fun _ _ _ h => h) (Or.inl ⟨by rfl, ?_⟩) ?_ ?_
  rotate_left
  · intro w'
    go_simp
    with_reducible rfl
  rotate_left
  · simp only [Act.put, List.setIfInBounds_toArray, List.set_cons_zero, List.set_cons_succ, i64_w, i32_w]
    rfl
  refine pure_ (i := 3) (N := some 14) (v := undef) (a' := ?_) #[false, true, true, true, false, false, false, false, false, false] rfl rfl (by kernel_rfl) (fun _ _ _ h => h) (Or.inr ⟨wanted_off rfl rfl rfl rfl, rfl⟩) ?_ ?_
  rotate_left
  · simp only [Act.put, List.setIfInBounds_toArray, List.set_cons_zero, List.set_cons_succ, i64_w, i32_w]
    rfl
  refine pure_ (i := 4) (N := some 15) (v := undef) (a' := ?_) #[false, true, true, true, true, false, false, false, false, false] rfl rfl (by kernel_rfl) (fun _ _ _ h => h) (Or.inr ⟨wanted_off rfl rfl rfl rfl, rfl⟩) ?_ ?_
  rotate_left
  · simp only [Act.put, List.setIfInBounds_toArray, List.set_cons_zero, List.set_cons_succ, i64_w, i32_w]
    rfl
  refine take_ (i := 0) (N := some 11) (v := ?_) (a' := ?_) #[true, true, true, true, true, false, false, false, false, false] rfl rfl (by kernel_rfl) (fun _ _ _ h => h) (Or.inl ⟨by rfl, ?_⟩) hHeld ?_ ?_
  rotate_left
  · intro w' hS_
    obtain ⟨s0_, s1_⟩ := hS_
    go_simp
    with_reducible rfl
  rotate_left
  · simp only [Act.put, List.setIfInBounds_toArray, List.set_cons_zero, List.set_cons_succ, i64_w, i32_w]
    rfl
  refine take_ (i := 5) (N := some 16) (v := undef) (a' := ?_) #[true, true, true, true, true, true, false, false, false, false] rfl rfl (by kernel_rfl) (fun _ _ _ h => h) (Or.inr ⟨wanted_off rfl rfl rfl rfl, rfl⟩) hHeld ?_ ?_
  rotate_left
  · simp only [Act.put, List.setIfInBounds_toArray, List.set_cons_zero, List.set_cons_succ, i64_w, i32_w]
    rfl
  refine one_ (i := 6) (N := some 17) #[true, true, true, true, true, true, true, false, false, false] rfl rfl (by kernel_rfl) (by decide) (fun K hK => ?_)
  refine off_ (N := some 17) (wanted_off rfl rfl rfl rfl) (hK.out _ _ hHeld (fun hHeld => ?_))
  clear hK K
  refine norm_ (a' := ?_) ?_ ?_
  rotate_left
  · show Act.put _ (some 17) _ = _
    simp only [Act.put, List.setIfInBounds_toArray, List.set_cons_zero, List.set_cons_succ, i64_w, i32_w]
    rfl
  refine pure_ (i := 7) (N := some 18) (v := ?_) (a' := ?_) #[true, true, true, true, true, true, true, true, false, false] rfl rfl (by kernel_rfl) (fun _ _ _ h => h) (Or.inl ⟨by rfl, ?_⟩) ?_ ?_
  rotate_left
  · intro w'
    go_simp
    with_reducible rfl
  rotate_left
  · simp only [Act.put, List.setIfInBounds_toArray, List.set_cons_zero, List.set_cons_succ, i64_w, i32_w]
    rfl
  refine one_ (i := 8) (N := none) #[true, true, true, true, true, true, true, true, true, false] rfl rfl (by kernel_rfl) (by decide) (fun K hK => ?_)
  have u0 := blk_cell HXR6.out 0
  have u1 := blk_cell HXR6.out 1
  have v0 := blk_frozen HXR6.out 0
  have v1 := blk_frozen HXR6.out 1
  refine skip_ rfl rfl (by first | (go_simp; done) | (go_simp; rfl)) ?_
  have hne4 : g4 ≠ gr := by have h1 := blk_lt HX3.out; have := HG4.out; omega
  have hX8 : ((w6.setCell ⟨gr, 0, none⟩ (.int .i64 0)).setCell ⟨gr, 1, none⟩ (.int .i64 0)).heap[g4]? = some (.cells #[.int .i64 0, .int .i64 0] 32 (0, 0)) := blk_far (blk_far HX6.out hne4 _) hne4 _
  refine hK.out _ _ ⟨blk_cell hX8 0, blk_cell hX8 1⟩ (fun hHeld => ?_)
  clear hK K u0 u1 v0 v1 hX8 hne4
  refine pure_ (i := 9) (N := some 3) (v := ?_) (a' := ?_) #[true, true, true, true, true, true, true, true, true, true] rfl rfl (by kernel_rfl) (fun _ _ _ h => h) (Or.inl ⟨by rfl, ?_⟩) ?_ ?_
  rotate_left
  · intro w'
    go_simp
    with_reducible rfl
  rotate_left
  · simp only [Act.put, List.setIfInBounds_toArray, List.set_cons_zero, List.set_cons_succ, i64_w, i32_w]
    rfl
  refine done_ (by kernel_rfl) ?_
  go_wp2
  refine bodyPost_ret (results_ct rfl _ _ gr 32 #[.int .i64 0, .int .i64 0] (0, 0) _ rfl (blk_put (cs := #[.int .i64 0, .int .i64 0]) (blk_put (cs := #[.int .i64 0, .int .i64 0]) HXR6.out 0 _ rfl) 1 _ rfl) Try.underlying32 rfl (by kernel_rfl)) rfl ?_
  refine ⟨rfl, (HB6.out.setCell ?_ _).setCell ?_ _⟩ <;> (have := HGR.out; show w.heap.size ≤ gr; omega)
end Go.Proofs.Ytkpjijbkiambiaa.Heap
