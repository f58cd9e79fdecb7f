/- The heap's methods: Len, Top, Key, Put (no law is stated here; each says its conditions). -/
import Derived.Test.YtkpjijbkiambiaaHeap3
import Derived.Test.YtkpjijbkiambiaaReg
namespace Go.Proofs.Ytkpjijbkiambiaa.Heap
open Go.RowKit Go.Proofs.YtkpjijbkiambiaaW.PrintWords Go.Proofs.YtkpjijbkiambiaaW.PrintLast Go.Proofs.YtkpjijbkiambiaaW.PrintMore Go.Proofs.Ytkpjijbkiambiaa.St Go.Proofs.Ytkpjijbkiambiaa.Q
set_option linter.unusedVariables false
set_option linter.unusedSimpArgs false
attribute [local go_sem] max2_int min2_int max_two min_two max_three min_three max_four min_four

set_option maxHeartbeats 1000000 in
set_option maxRecDepth 100000 in
theorem len_calls {w : World} {b : Nat} {ok : Nat → Prop} {x : H} {v : Value} (hM : heap.M w b ok x v) :
    Calls Try.prog 13 #[v] w fun e w' => e = .returned (.int .i64 (x.l.length : Int)) ∧ w' = w := by
  obtain ⟨g, sv, bm, rfl, hA⟩ := hM
  obtain ⟨A, c, rfl⟩ := Kd.R_slice hA.row
  have hc2 := hA.c2
  clear hA
  go_enter Try.func13, Try.ntmps13
  go_wp2
  go_ret
  exact ⟨rfl, rfl⟩
set_option maxHeartbeats 1000000 in
set_option maxRecDepth 100000 in
theorem top_none {w : World} {b : Nat} {ok : Nat → Prop} {x : H} {v : Value} (hM : heap.M w b ok x v) (h0 : x.l.length = 0) :
    Calls Try.prog 12 #[v] w fun e w' => e = .returned (.tuple #[.agg #[.int .i64 0, .int .i64 0], .bool false]) ∧ Below w.heap.size w w' := by
  obtain ⟨g, sv, bm, rfl, hA⟩ := hM
  obtain ⟨A, c, rfl⟩ := Kd.R_slice hA.row
  have HA := Aside0.mk hA
  have hd : ((x.l.length : Int) == 0) = true := beq_iff_eq.mpr (by omega)
  clear hA h0
  go_enter Try.func12, Try.ntmps12
  go_wp2_with (first | ((with_reducible refine gate_dst (N := 2) rfl ?_); refine box_event ?hg (N := 2) ?hd (cs := #[.int .i64 0, .int .i64 0]) (t := 32) ?hr ?_; (case hd => rfl); (case hg => rfl); (case hr => first | (go_simp; done) | (go_simp; rfl)); intro gr hgr wr hxr hbr; have HXR := Aside0.mk hxr; have HBR := Aside0.mk hbr; have HGR := Aside0.mk hgr; have r0 := blk_cell hxr 0; have r1 := blk_cell hxr 1; have fr0 := blk_frozen hxr 0; have fr1 := blk_frozen hxr 1; have hc2 := (HA.out.below hbr).c2; clear hxr hbr hgr))
  refine bodyPost_ret (results_ct rfl _ _ gr 32 #[.int .i64 0, .int .i64 0] (0, 0) _ rfl (blk_put (cs := #[.int .i64 0, .int .i64 0]) (blk_put (cs := #[.int .i64 0, .int .i64 0]) HXR.out 0 _ rfl) 1 _ rfl) Try.underlying32 rfl (by kernel_rfl)) rfl ?_
  exact ⟨rfl, (HBR.out.setCell (by have := HGR.out; show w.heap.size ≤ gr; omega) _).setCell (by have := HGR.out; show w.heap.size ≤ gr; omega) _⟩
set_option maxHeartbeats 1000000 in
set_option maxRecDepth 100000 in
theorem top_some {w : World} {b : Nat} {ok : Nat → Prop} {x : H} {v : Value} (hM : heap.M w b ok x v) (h0 : 0 < x.l.length) :
    Calls Try.prog 12 #[v] w fun e w' => e = .returned (.tuple #[.agg #[.int .i64 (at_ x.l 0).1, .int .i64 (at_ x.l 0).2], .bool true]) ∧ Below w.heap.size w w' := by
  obtain ⟨g, sv, bm, rfl, hA⟩ := hM
  obtain ⟨g2, c, rfl, _⟩ := hA.form h0
  have HA := Aside0.mk hA
  have HL := Aside0.mk h0
  have hd : ((x.l.length : Int) == 0) = false := beq_eq_false_iff_ne.mpr (by omega)
  have hq : (0 : Int) < (x.l.length : Int) := by omega
  clear hA
  go_enter Try.func12, Try.ntmps12
  go_wp2_with (first | ((with_reducible refine gate_dst (N := 2) rfl ?_); refine box_event ?hg (N := 2) ?hd (cs := #[.int .i64 0, .int .i64 0]) (t := 32) ?hr ?_; (case hd => rfl); (case hg => rfl); (case hr => first | (go_simp; done) | (go_simp; rfl)); intro gr hgr wr hxr hbr; have HXR := Aside0.mk hxr; have HBR := Aside0.mk hbr; have HGR := Aside0.mk hgr; have r0 := blk_cell hxr 0; have r1 := blk_cell hxr 1; have fr0 := blk_frozen hxr 0; have fr1 := blk_frozen hxr 1; have hA2 := HA.out.below hbr; have hc2 := hA2.c2; have k1 : wr.cell? ⟨g2, 0, none⟩ = some (.int .i64 (at_ x.l 0).1) := (item_get hA2.row HL.out).1.1; have k2 : wr.cell? ⟨g2, 1, none⟩ = some (.int .i64 (at_ x.l 0).2) := (item_get hA2.row HL.out).1.2; clear hA2; clear hxr hbr hgr))
  refine bodyPost_ret (results_ct rfl _ _ gr 32 #[.int .i64 (at_ x.l 0).1, .int .i64 (at_ x.l 0).2] (0, 0) _ rfl (blk_put (cs := #[.int .i64 (at_ x.l 0).1, .int .i64 0]) (blk_put (cs := #[.int .i64 0, .int .i64 0]) HXR.out 0 _ rfl) 1 _ rfl) Try.underlying32 rfl (by kernel_rfl)) rfl ?_
  exact ⟨rfl, (HBR.out.setCell (by have := HGR.out; show w.heap.size ≤ gr; omega) _).setCell (by have := HGR.out; show w.heap.size ≤ gr; omega) _⟩
set_option maxHeartbeats 1000000 in
set_option maxRecDepth 100000 in
theorem key_miss {w : World} {b : Nat} {ok : Nat → Prop} {x : H} {v : Value} (id : Int) (hM : heap.M w b ok x v) (hw : (Lit.int .i64 id).wf = true) (hf : x.f id = none) :
    Calls Try.prog 17 #[v, .int .i64 id] w fun e w' => e = .returned (.tuple #[.int .i64 0, .bool false]) ∧ w' = w := by
  obtain ⟨g, sv, bm, rfl, hA⟩ := hM
  obtain ⟨D, hown, hsees, hsize⟩ := hA.map
  have hc3 := hA.c3
  have hhas : Go.Maps.has D (kl id) = false := by rw [(hsees id).1, hf]; rfl
  have HN := Aside0.mk hown
  have HW := Aside0.mk hw
  clear hown hsees hsize hA hw hf
  go_enter Try.func17, Try.ntmps17
  go_wp2_with (first | (at_lookup; refine wpList_lookup_own_ok_int _ rfl _ _ 55 rfl 3 3 .i64 law Try.underlying55 Try.underlying3 (zeroE _) bm _ D rfl HN.out _ (kl id) rfl (Go.Maps.keyOf_int_mk Try.underlying3 HW.out) ?_; intro c hat hwc; rw [hhas]; clear hat hwc))
  go_ret2
  exact ⟨rfl, rfl⟩
set_option maxHeartbeats 1000000 in
set_option maxRecDepth 100000 in
theorem key_hit {w : World} {b : Nat} {ok : Nat → Prop} {x : H} {v : Value} (id : Int) (hM : heap.M w b ok x v) (hw : (Lit.int .i64 id).wf = true) (j : Nat) (hj : j < x.l.length) (hfi : x.f id = some (j : Int)) :
    Calls Try.prog 17 #[v, .int .i64 id] w fun e w' => e = .returned (.tuple #[.int .i64 (at_ x.l j).2, .bool true]) ∧ w' = w := by
  obtain ⟨g, sv, bm, rfl, hA⟩ := hM
  obtain ⟨D, hown, hsees, hsize⟩ := hA.map
  obtain ⟨g2, c2, rfl, hg2, hn2, hn3⟩ := hA.form (by omega)
  have hc3 := hA.c3
  have hc2 := hA.c2
  have hhas : Go.Maps.has D (kl id) = true := by rw [(hsees id).1, hfi]; rfl
  have HAT := Aside0.mk ((hsees id).2 _ hfi)
  have HN := Aside0.mk hown
  have HW := Aside0.mk hw
  have hlt : (j : Int) < (x.l.length : Int) := by omega
  obtain ⟨⟨k1, k2⟩, k3, k4⟩ := item_get hA.row hj
  rw [show x.l.getD j (0, 0) = at_ x.l j from rfl] at k1 k2
  clear hown hsees hsize hA hw hfi
  go_enter Try.func17, Try.ntmps17
  go_wp2_with (first | (at_lookup; refine wpList_lookup_own_ok_int _ rfl _ _ 55 rfl 3 3 .i64 law Try.underlying55 Try.underlying3 (zeroE _) bm _ D rfl HN.out _ (kl id) rfl (Go.Maps.keyOf_int_mk Try.underlying3 HW.out) ?_; intro c hat hwc; rw [hhas]; obtain rfl := lit_inj hat (HAT.out _); clear hat hwc))
  go_ret2
  exact ⟨rfl, rfl⟩
end Go.Proofs.Ytkpjijbkiambiaa.Heap
