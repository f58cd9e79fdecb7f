/- CbsKnown: the examples of the chapter, and fixed edge cases (the walk; no condition). -/
import Derived.Test.YtofbjgkoaiiagaaQx10
import Derived.Test.YtofbjgkoaiiagaaQx11
import Derived.Test.YtofbjgkoaiiagaaQx14
import Derived.Test.YtofbjgkoaiiagaaQx17
import Derived.Test.YtofbjgkoaiiagaaQx19
import Derived.Test.YtofbjgkoaiiagaaQx20
import Derived.Test.YtofbjgkoaiiagaaQx22
import Derived.Test.YtofbjgkoaiiagaaQx4
import Derived.Test.YtofbjgkoaiiagaaQx12
import Derived.Deep.DeepCutAuto
namespace Go.Proofs.Ytofbjgkoaiiagaa.Cbs
open Go.RowKit Go.Proofs.YtofbjgkoaiiagaaW.PrintWords Go.Proofs.YtofbjgkoaiiagaaW.PrintLast Go.Proofs.YtofbjgkoaiiagaaW.PrintMore Go.Proofs.Ytofbjgkoaiiagaa.Q
set_option linter.unusedVariables false
set_option linter.unusedSimpArgs false
attribute [local go_sem] max2_int min2_int max_two min_two max_three min_three max_four min_four

section
variable {P : Program} {ops : Array Oper} {rest : List Oper} {o : Oper} {a : Act} {Q : Exit → Act → World → Prop} {W : World}
/-- A store, as an event: the world behind it is named. -/
theorem store_event (W1 : World) (hgd : o.guard = none) (hrun : (execOp a.eval o).run P W = .ok .skip W1) (h : wpList P ops Q rest (a.put o.dst undef) W1) : wpList P ops Q (o :: rest) a W := by
  refine wpList_plain hgd fun K hK => ?_
  unfold Oper.wp
  rw [hrun]
  exact hK _ _ h
end
set_option maxHeartbeats 8000000 in
set_option maxRecDepth 100000 in
theorem known_walk (w : World) : Calls Try.prog 7 #[] w fun e w' => e = .returned (.bool true) ∧ Below w.heap.size w w' := by
  go_enter Try.func7, Try.ntmps7
  have HV0 := Aside0.mk (show beadlelaw12_awake.f 5 = some true from by decide +kernel)
  go_upto_region 3 with (first | (go_at_call 9; (with_reducible refine (beadlelaw12_awake.calls 5 true w HV0.out).mono ?_); rintro e w1 ⟨rfl, hb1⟩; have B1 := Aside0.mk hb1; clear hb1))
  have HV2 := Aside0.mk (show cbs_New.f  0 5 = some (0 , 0 , 0 , 0 , 0 , 1) from by decide +kernel)
  go_upto_region 4 with (first | (go_at_call 14; (with_reducible refine (cbs_New.calls  0 5 0 0 0 0 0 1 w1 HV2.out).mono ?_); rintro e v2 ⟨rfl, hb2⟩; have D2 := Aside0.mk hb2; clear hb2) | ((with_reducible refine gate_dst (N := 1) rfl ?_); refine box_event ?hg (N := 1) ?hd (cs := #[.int .i64 0, .int .i64 0, .int .i64 0, .int .i64 0, .int .i64 0]) (t := 23) ?hr ?_; (case hd => rfl); (case hg => rfl); (case hr => first | (go_simp; done) | (go_simp; rfl)); intro g1 hg2 y2 hx2 hb2; have Y2 := Aside0.mk hx2; have E2 := Aside0.mk hb2; have G2 := Aside0.mk hg2; have s0 := blk_cell hx2 0; have t0 := blk_frozen hx2 0; have s1 := blk_cell hx2 1; have t1 := blk_frozen hx2 1; have s2 := blk_cell hx2 2; have t2 := blk_frozen hx2 2; have s3 := blk_cell hx2 3; have t3 := blk_frozen hx2 3; have s4 := blk_cell hx2 4; have t4 := blk_frozen hx2 4; clear hx2 hb2 hg2))
  have hz2 : w1.heap.size ≤ g1 := by have := G2.out; have := D2.out.size; omega
  have hb2 : Below w1.heap.size w1 (((((y2.setCell ⟨g1, 0, none⟩ (.int .i64 0)).setCell ⟨g1, 1, none⟩ (.int .i64 0)).setCell ⟨g1, 2, none⟩ (.int .i64 0)).setCell ⟨g1, 3, none⟩ (.int .i64 0)).setCell ⟨g1, 4, none⟩ (.int .i64 0)) := (((((((D2.out.trans (E2.out.mono D2.out.size)).setCell hz2 _).setCell hz2 _).setCell hz2 _).setCell hz2 _).setCell hz2 _))
  have B2 := Aside0.mk (B1.out.trans (hb2.mono B1.out.size))
  clear s0 s1 s2 s3 s4 t0 t1 t2 t3 t4 hz2 hb2 Y2 E2 G2 D2 HV2 B1
  generalize (((((y2.setCell ⟨g1, 0, none⟩ (.int .i64 0)).setCell ⟨g1, 1, none⟩ (.int .i64 0)).setCell ⟨g1, 2, none⟩ (.int .i64 0)).setCell ⟨g1, 3, none⟩ (.int .i64 0)).setCell ⟨g1, 4, none⟩ (.int .i64 0)) = w2 at B2 ⊢
  have HV3 := Aside0.mk (show cbs_New.f  6 5 = some (0 , 0 , 0 , 0 , 0 , 1) from by decide +kernel)
  go_upto_region 5 with (first | (go_at_call 14; (with_reducible refine (cbs_New.calls  6 5 0 0 0 0 0 1 w2 HV3.out).mono ?_); rintro e v3 ⟨rfl, hb3⟩; have D3 := Aside0.mk hb3; clear hb3) | ((with_reducible refine gate_dst (N := 3) rfl ?_); refine box_event ?hg (N := 3) ?hd (cs := #[.int .i64 0, .int .i64 0, .int .i64 0, .int .i64 0, .int .i64 0]) (t := 23) ?hr ?_; (case hd => rfl); (case hg => rfl); (case hr => first | (go_simp; done) | (go_simp; rfl)); intro g3 hg3 y3 hx3 hb3; have Y3 := Aside0.mk hx3; have E3 := Aside0.mk hb3; have G3 := Aside0.mk hg3; have s0 := blk_cell hx3 0; have t0 := blk_frozen hx3 0; have s1 := blk_cell hx3 1; have t1 := blk_frozen hx3 1; have s2 := blk_cell hx3 2; have t2 := blk_frozen hx3 2; have s3 := blk_cell hx3 3; have t3 := blk_frozen hx3 3; have s4 := blk_cell hx3 4; have t4 := blk_frozen hx3 4; clear hx3 hb3 hg3))
  have hz3 : w2.heap.size ≤ g3 := by have := G3.out; have := D3.out.size; omega
  have hb3 : Below w2.heap.size w2 (((((y3.setCell ⟨g3, 0, none⟩ (.int .i64 0)).setCell ⟨g3, 1, none⟩ (.int .i64 0)).setCell ⟨g3, 2, none⟩ (.int .i64 0)).setCell ⟨g3, 3, none⟩ (.int .i64 0)).setCell ⟨g3, 4, none⟩ (.int .i64 0)) := (((((((D3.out.trans (E3.out.mono D3.out.size)).setCell hz3 _).setCell hz3 _).setCell hz3 _).setCell hz3 _).setCell hz3 _))
  have B3 := Aside0.mk (B2.out.trans (hb3.mono B2.out.size))
  clear s0 s1 s2 s3 s4 t0 t1 t2 t3 t4 hz3 hb3 Y3 E3 G3 D3 HV3 B2
  generalize (((((y3.setCell ⟨g3, 0, none⟩ (.int .i64 0)).setCell ⟨g3, 1, none⟩ (.int .i64 0)).setCell ⟨g3, 2, none⟩ (.int .i64 0)).setCell ⟨g3, 3, none⟩ (.int .i64 0)).setCell ⟨g3, 4, none⟩ (.int .i64 0)) = w3 at B3 ⊢
  have HV4 := Aside0.mk (show cbs_New.f  1 2147483649 = some (0 , 0 , 0 , 0 , 0 , 1) from by decide +kernel)
  go_upto_region 6 with (first | (go_at_call 14; (with_reducible refine (cbs_New.calls  1 2147483649 0 0 0 0 0 1 w3 HV4.out).mono ?_); rintro e v4 ⟨rfl, hb4⟩; have D4 := Aside0.mk hb4; clear hb4) | ((with_reducible refine gate_dst (N := 5) rfl ?_); refine box_event ?hg (N := 5) ?hd (cs := #[.int .i64 0, .int .i64 0, .int .i64 0, .int .i64 0, .int .i64 0]) (t := 23) ?hr ?_; (case hd => rfl); (case hg => rfl); (case hr => first | (go_simp; done) | (go_simp; rfl)); intro g5 hg4 y4 hx4 hb4; have Y4 := Aside0.mk hx4; have E4 := Aside0.mk hb4; have G4 := Aside0.mk hg4; have s0 := blk_cell hx4 0; have t0 := blk_frozen hx4 0; have s1 := blk_cell hx4 1; have t1 := blk_frozen hx4 1; have s2 := blk_cell hx4 2; have t2 := blk_frozen hx4 2; have s3 := blk_cell hx4 3; have t3 := blk_frozen hx4 3; have s4 := blk_cell hx4 4; have t4 := blk_frozen hx4 4; clear hx4 hb4 hg4))
  have hz4 : w3.heap.size ≤ g5 := by have := G4.out; have := D4.out.size; omega
  have hb4 : Below w3.heap.size w3 (((((y4.setCell ⟨g5, 0, none⟩ (.int .i64 0)).setCell ⟨g5, 1, none⟩ (.int .i64 0)).setCell ⟨g5, 2, none⟩ (.int .i64 0)).setCell ⟨g5, 3, none⟩ (.int .i64 0)).setCell ⟨g5, 4, none⟩ (.int .i64 0)) := (((((((D4.out.trans (E4.out.mono D4.out.size)).setCell hz4 _).setCell hz4 _).setCell hz4 _).setCell hz4 _).setCell hz4 _))
  have B4 := Aside0.mk (B3.out.trans (hb4.mono B3.out.size))
  clear s0 s1 s2 s3 s4 t0 t1 t2 t3 t4 hz4 hb4 Y4 E4 G4 D4 HV4 B3
  generalize (((((y4.setCell ⟨g5, 0, none⟩ (.int .i64 0)).setCell ⟨g5, 1, none⟩ (.int .i64 0)).setCell ⟨g5, 2, none⟩ (.int .i64 0)).setCell ⟨g5, 3, none⟩ (.int .i64 0)).setCell ⟨g5, 4, none⟩ (.int .i64 0)) = w4 at B4 ⊢
  have HV5 := Aside0.mk (show cbs_New.f  4 10 = some (4 , 10 , 0 , 0 , 0 , 0) from by decide +kernel)
  go_upto_region 7 with (first | (go_at_call 14; (with_reducible refine (cbs_New.calls  4 10 4 10 0 0 0 0 w4 HV5.out).mono ?_); rintro e v5 ⟨rfl, hb5⟩; have D5 := Aside0.mk hb5; clear hb5) | ((with_reducible refine gate_dst (N := 7) rfl ?_); refine box_event ?hg (N := 7) ?hd (cs := #[.int .i64 0, .int .i64 0, .int .i64 0, .int .i64 0, .int .i64 0]) (t := 23) ?hr ?_; (case hd => rfl); (case hg => rfl); (case hr => first | (go_simp; done) | (go_simp; rfl)); intro g7 hg5 y5 hx5 hb5; have Y5 := Aside0.mk hx5; have E5 := Aside0.mk hb5; have G5 := Aside0.mk hg5; have s0 := blk_cell hx5 0; have t0 := blk_frozen hx5 0; have s1 := blk_cell hx5 1; have t1 := blk_frozen hx5 1; have s2 := blk_cell hx5 2; have t2 := blk_frozen hx5 2; have s3 := blk_cell hx5 3; have t3 := blk_frozen hx5 3; have s4 := blk_cell hx5 4; have t4 := blk_frozen hx5 4; clear hx5 hb5 hg5))
  have hz5 : w4.heap.size ≤ g7 := by have := G5.out; have := D5.out.size; omega
  have hb5 : Below w4.heap.size w4 (((((y5.setCell ⟨g7, 0, none⟩ (.int .i64 4)).setCell ⟨g7, 1, none⟩ (.int .i64 10)).setCell ⟨g7, 2, none⟩ (.int .i64 0)).setCell ⟨g7, 3, none⟩ (.int .i64 0)).setCell ⟨g7, 4, none⟩ (.int .i64 0)) := (((((((D5.out.trans (E5.out.mono D5.out.size)).setCell hz5 _).setCell hz5 _).setCell hz5 _).setCell hz5 _).setCell hz5 _))
  have X7 := Aside0.mk (show (((((y5.setCell ⟨g7, 0, none⟩ (.int .i64 4)).setCell ⟨g7, 1, none⟩ (.int .i64 10)).setCell ⟨g7, 2, none⟩ (.int .i64 0)).setCell ⟨g7, 3, none⟩ (.int .i64 0)).setCell ⟨g7, 4, none⟩ (.int .i64 0)).heap[g7]? = some (.cells #[.int .i64 4, .int .i64 10, .int .i64 0, .int .i64 0, .int .i64 0] 23 (0, 0)) from (blk_put (cs := #[.int .i64 4, .int .i64 10, .int .i64 0, .int .i64 0, .int .i64 0]) (blk_put (cs := #[.int .i64 4, .int .i64 10, .int .i64 0, .int .i64 0, .int .i64 0]) (blk_put (cs := #[.int .i64 4, .int .i64 10, .int .i64 0, .int .i64 0, .int .i64 0]) (blk_put (cs := #[.int .i64 4, .int .i64 0, .int .i64 0, .int .i64 0, .int .i64 0]) (blk_put (cs := #[.int .i64 0, .int .i64 0, .int .i64 0, .int .i64 0, .int .i64 0]) Y5.out 0 (.int .i64 4) rfl) 1 (.int .i64 10) rfl) 2 (.int .i64 0) rfl) 3 (.int .i64 0) rfl) 4 (.int .i64 0) rfl))
  have B5 := Aside0.mk (B4.out.trans (hb5.mono B4.out.size))
  clear s0 s1 s2 s3 s4 t0 t1 t2 t3 t4 hz5 hb5 Y5 E5 G5 D5 HV5 B4
  generalize (((((y5.setCell ⟨g7, 0, none⟩ (.int .i64 4)).setCell ⟨g7, 1, none⟩ (.int .i64 10)).setCell ⟨g7, 2, none⟩ (.int .i64 0)).setCell ⟨g7, 3, none⟩ (.int .i64 0)).setCell ⟨g7, 4, none⟩ (.int .i64 0)) = w5 at B5 X7 ⊢
  have HV6 := Aside0.mk (show cbs_Wake.f 5 4 10 0 0 0 0 = some (4 , 10 , 4 , 10 , 1 , 0) from by decide +kernel)
  have c0 := blk_cell X7.out 0
  have c1 := blk_cell X7.out 1
  have c2 := blk_cell X7.out 2
  have c3 := blk_cell X7.out 3
  have c4 := blk_cell X7.out 4
  go_upto_region 8 with (first | (go_at_call 11; (with_reducible refine (cbs_Wake.calls 5 4 10 0 0 0 0 4 10 4 10 1 0 w5 HV6.out).mono ?_); rintro e v6 ⟨rfl, hb6⟩; have D6 := Aside0.mk hb6; clear hb6) | ((with_reducible refine gate_dst (N := 9) rfl ?_); refine box_event ?hg (N := 9) ?hd (cs := #[.int .i64 0, .int .i64 0, .int .i64 0, .int .i64 0, .int .i64 0]) (t := 23) ?hr ?_; (case hd => rfl); (case hg => rfl); (case hr => first | (go_simp; done) | (go_simp; rfl)); intro g9 hg6 y6 hx6 hb6; have Y6 := Aside0.mk hx6; have E6 := Aside0.mk hb6; have G6 := Aside0.mk hg6; have s0 := blk_cell hx6 0; have t0 := blk_frozen hx6 0; have s1 := blk_cell hx6 1; have t1 := blk_frozen hx6 1; have s2 := blk_cell hx6 2; have t2 := blk_frozen hx6 2; have s3 := blk_cell hx6 3; have t3 := blk_frozen hx6 3; have s4 := blk_cell hx6 4; have t4 := blk_frozen hx6 4; clear hx6 hb6 hg6))
  have hz6 : w5.heap.size ≤ g9 := by have := G6.out; have := D6.out.size; omega
  have hb6 : Below w5.heap.size w5 (((((y6.setCell ⟨g9, 0, none⟩ (.int .i64 4)).setCell ⟨g9, 1, none⟩ (.int .i64 10)).setCell ⟨g9, 2, none⟩ (.int .i64 4)).setCell ⟨g9, 3, none⟩ (.int .i64 10)).setCell ⟨g9, 4, none⟩ (.int .i64 1)) := (((((((D6.out.trans (E6.out.mono D6.out.size)).setCell hz6 _).setCell hz6 _).setCell hz6 _).setCell hz6 _).setCell hz6 _))
  replace X7 := Aside0.mk ((hb6.block _ (blk_lt X7.out)).trans X7.out)
  have X9 := Aside0.mk (show (((((y6.setCell ⟨g9, 0, none⟩ (.int .i64 4)).setCell ⟨g9, 1, none⟩ (.int .i64 10)).setCell ⟨g9, 2, none⟩ (.int .i64 4)).setCell ⟨g9, 3, none⟩ (.int .i64 10)).setCell ⟨g9, 4, none⟩ (.int .i64 1)).heap[g9]? = some (.cells #[.int .i64 4, .int .i64 10, .int .i64 4, .int .i64 10, .int .i64 1] 23 (0, 0)) from (blk_put (cs := #[.int .i64 4, .int .i64 10, .int .i64 4, .int .i64 10, .int .i64 0]) (blk_put (cs := #[.int .i64 4, .int .i64 10, .int .i64 4, .int .i64 0, .int .i64 0]) (blk_put (cs := #[.int .i64 4, .int .i64 10, .int .i64 0, .int .i64 0, .int .i64 0]) (blk_put (cs := #[.int .i64 4, .int .i64 0, .int .i64 0, .int .i64 0, .int .i64 0]) (blk_put (cs := #[.int .i64 0, .int .i64 0, .int .i64 0, .int .i64 0, .int .i64 0]) Y6.out 0 (.int .i64 4) rfl) 1 (.int .i64 10) rfl) 2 (.int .i64 4) rfl) 3 (.int .i64 10) rfl) 4 (.int .i64 1) rfl))
  have B6 := Aside0.mk (B5.out.trans (hb6.mono B5.out.size))
  clear s0 s1 s2 s3 s4 t0 t1 t2 t3 t4 hz6 hb6 Y6 E6 G6 D6 HV6 B5 c0 c1 c2 c3 c4
  generalize (((((y6.setCell ⟨g9, 0, none⟩ (.int .i64 4)).setCell ⟨g9, 1, none⟩ (.int .i64 10)).setCell ⟨g9, 2, none⟩ (.int .i64 4)).setCell ⟨g9, 3, none⟩ (.int .i64 10)).setCell ⟨g9, 4, none⟩ (.int .i64 1)) = w6 at B6 X7 X9 ⊢
  have HV7 := Aside0.mk (show cbs_Wake.f 5 4 10 4 10 1 1 = some (4 , 10 , 4 , 10 , 1 , 5) from by decide +kernel)
  have c0 := blk_cell X9.out 0
  have c1 := blk_cell X9.out 1
  have c2 := blk_cell X9.out 2
  have c3 := blk_cell X9.out 3
  have c4 := blk_cell X9.out 4
  go_upto_region 9 with (first | (go_at_call 11; (with_reducible refine (cbs_Wake.calls 5 4 10 4 10 1 1 4 10 4 10 1 5 w6 HV7.out).mono ?_); rintro e v7 ⟨rfl, hb7⟩; have D7 := Aside0.mk hb7; clear hb7) | ((with_reducible refine gate_dst (N := 11) rfl ?_); refine box_event ?hg (N := 11) ?hd (cs := #[.int .i64 0, .int .i64 0, .int .i64 0, .int .i64 0, .int .i64 0]) (t := 23) ?hr ?_; (case hd => rfl); (case hg => rfl); (case hr => first | (go_simp; done) | (go_simp; rfl)); intro g11 hg7 y7 hx7 hb7; have Y7 := Aside0.mk hx7; have E7 := Aside0.mk hb7; have G7 := Aside0.mk hg7; have s0 := blk_cell hx7 0; have t0 := blk_frozen hx7 0; have s1 := blk_cell hx7 1; have t1 := blk_frozen hx7 1; have s2 := blk_cell hx7 2; have t2 := blk_frozen hx7 2; have s3 := blk_cell hx7 3; have t3 := blk_frozen hx7 3; have s4 := blk_cell hx7 4; have t4 := blk_frozen hx7 4; clear hx7 hb7 hg7))
  have hz7 : w6.heap.size ≤ g11 := by have := G7.out; have := D7.out.size; omega
  have hb7 : Below w6.heap.size w6 (((((y7.setCell ⟨g11, 0, none⟩ (.int .i64 4)).setCell ⟨g11, 1, none⟩ (.int .i64 10)).setCell ⟨g11, 2, none⟩ (.int .i64 4)).setCell ⟨g11, 3, none⟩ (.int .i64 10)).setCell ⟨g11, 4, none⟩ (.int .i64 1)) := (((((((D7.out.trans (E7.out.mono D7.out.size)).setCell hz7 _).setCell hz7 _).setCell hz7 _).setCell hz7 _).setCell hz7 _))
  replace X7 := Aside0.mk ((hb7.block _ (blk_lt X7.out)).trans X7.out)
  replace X9 := Aside0.mk ((hb7.block _ (blk_lt X9.out)).trans X9.out)
  have B7 := Aside0.mk (B6.out.trans (hb7.mono B6.out.size))
  clear s0 s1 s2 s3 s4 t0 t1 t2 t3 t4 hz7 hb7 Y7 E7 G7 D7 HV7 B6 c0 c1 c2 c3 c4
  generalize (((((y7.setCell ⟨g11, 0, none⟩ (.int .i64 4)).setCell ⟨g11, 1, none⟩ (.int .i64 10)).setCell ⟨g11, 2, none⟩ (.int .i64 4)).setCell ⟨g11, 3, none⟩ (.int .i64 10)).setCell ⟨g11, 4, none⟩ (.int .i64 1)) = w7 at B7 X7 X9 ⊢
  have HV8 := Aside0.mk (show cbs_Use.f 5 4 10 4 10 1 1 = some (4 , 10 , 3 , 10 , 1 , 0) from by decide +kernel)
  have c0 := blk_cell X9.out 0
  have c1 := blk_cell X9.out 1
  have c2 := blk_cell X9.out 2
  have c3 := blk_cell X9.out 3
  have c4 := blk_cell X9.out 4
  go_upto_region 10 with (first | (go_at_call 12; (with_reducible refine (cbs_Use.calls 5 4 10 4 10 1 1 4 10 3 10 1 0 w7 HV8.out).mono ?_); rintro e v8 ⟨rfl, hb8⟩; have D8 := Aside0.mk hb8; clear hb8) | ((with_reducible refine gate_dst (N := 13) rfl ?_); refine box_event ?hg (N := 13) ?hd (cs := #[.int .i64 0, .int .i64 0, .int .i64 0, .int .i64 0, .int .i64 0]) (t := 23) ?hr ?_; (case hd => rfl); (case hg => rfl); (case hr => first | (go_simp; done) | (go_simp; rfl)); intro g13 hg8 y8 hx8 hb8; have Y8 := Aside0.mk hx8; have E8 := Aside0.mk hb8; have G8 := Aside0.mk hg8; have s0 := blk_cell hx8 0; have t0 := blk_frozen hx8 0; have s1 := blk_cell hx8 1; have t1 := blk_frozen hx8 1; have s2 := blk_cell hx8 2; have t2 := blk_frozen hx8 2; have s3 := blk_cell hx8 3; have t3 := blk_frozen hx8 3; have s4 := blk_cell hx8 4; have t4 := blk_frozen hx8 4; clear hx8 hb8 hg8))
  have hz8 : w7.heap.size ≤ g13 := by have := G8.out; have := D8.out.size; omega
  have hb8 : Below w7.heap.size w7 (((((y8.setCell ⟨g13, 0, none⟩ (.int .i64 4)).setCell ⟨g13, 1, none⟩ (.int .i64 10)).setCell ⟨g13, 2, none⟩ (.int .i64 3)).setCell ⟨g13, 3, none⟩ (.int .i64 10)).setCell ⟨g13, 4, none⟩ (.int .i64 1)) := (((((((D8.out.trans (E8.out.mono D8.out.size)).setCell hz8 _).setCell hz8 _).setCell hz8 _).setCell hz8 _).setCell hz8 _))
  replace X7 := Aside0.mk ((hb8.block _ (blk_lt X7.out)).trans X7.out)
  replace X9 := Aside0.mk ((hb8.block _ (blk_lt X9.out)).trans X9.out)
  have X13 := Aside0.mk (show (((((y8.setCell ⟨g13, 0, none⟩ (.int .i64 4)).setCell ⟨g13, 1, none⟩ (.int .i64 10)).setCell ⟨g13, 2, none⟩ (.int .i64 3)).setCell ⟨g13, 3, none⟩ (.int .i64 10)).setCell ⟨g13, 4, none⟩ (.int .i64 1)).heap[g13]? = some (.cells #[.int .i64 4, .int .i64 10, .int .i64 3, .int .i64 10, .int .i64 1] 23 (0, 0)) from (blk_put (cs := #[.int .i64 4, .int .i64 10, .int .i64 3, .int .i64 10, .int .i64 0]) (blk_put (cs := #[.int .i64 4, .int .i64 10, .int .i64 3, .int .i64 0, .int .i64 0]) (blk_put (cs := #[.int .i64 4, .int .i64 10, .int .i64 0, .int .i64 0, .int .i64 0]) (blk_put (cs := #[.int .i64 4, .int .i64 0, .int .i64 0, .int .i64 0, .int .i64 0]) (blk_put (cs := #[.int .i64 0, .int .i64 0, .int .i64 0, .int .i64 0, .int .i64 0]) Y8.out 0 (.int .i64 4) rfl) 1 (.int .i64 10) rfl) 2 (.int .i64 3) rfl) 3 (.int .i64 10) rfl) 4 (.int .i64 1) rfl))
  have B8 := Aside0.mk (B7.out.trans (hb8.mono B7.out.size))
  clear s0 s1 s2 s3 s4 t0 t1 t2 t3 t4 hz8 hb8 Y8 E8 G8 D8 HV8 B7 c0 c1 c2 c3 c4
  generalize (((((y8.setCell ⟨g13, 0, none⟩ (.int .i64 4)).setCell ⟨g13, 1, none⟩ (.int .i64 10)).setCell ⟨g13, 2, none⟩ (.int .i64 3)).setCell ⟨g13, 3, none⟩ (.int .i64 10)).setCell ⟨g13, 4, none⟩ (.int .i64 1)) = w8 at B8 X7 X9 X13 ⊢
  have HV9 := Aside0.mk (show cbs_Use.f 5 4 10 4 10 1 5 = some (4 , 10 , 4 , 10 , 1 , 1) from by decide +kernel)
  have c0 := blk_cell X9.out 0
  have c1 := blk_cell X9.out 1
  have c2 := blk_cell X9.out 2
  have c3 := blk_cell X9.out 3
  have c4 := blk_cell X9.out 4
  go_upto_region 11 with (first | (go_at_call 12; (with_reducible refine (cbs_Use.calls 5 4 10 4 10 1 5 4 10 4 10 1 1 w8 HV9.out).mono ?_); rintro e v9 ⟨rfl, hb9⟩; have D9 := Aside0.mk hb9; clear hb9) | ((with_reducible refine gate_dst (N := 15) rfl ?_); refine box_event ?hg (N := 15) ?hd (cs := #[.int .i64 0, .int .i64 0, .int .i64 0, .int .i64 0, .int .i64 0]) (t := 23) ?hr ?_; (case hd => rfl); (case hg => rfl); (case hr => first | (go_simp; done) | (go_simp; rfl)); intro g15 hg9 y9 hx9 hb9; have Y9 := Aside0.mk hx9; have E9 := Aside0.mk hb9; have G9 := Aside0.mk hg9; have s0 := blk_cell hx9 0; have t0 := blk_frozen hx9 0; have s1 := blk_cell hx9 1; have t1 := blk_frozen hx9 1; have s2 := blk_cell hx9 2; have t2 := blk_frozen hx9 2; have s3 := blk_cell hx9 3; have t3 := blk_frozen hx9 3; have s4 := blk_cell hx9 4; have t4 := blk_frozen hx9 4; clear hx9 hb9 hg9))
  have hz9 : w8.heap.size ≤ g15 := by have := G9.out; have := D9.out.size; omega
  have hb9 : Below w8.heap.size w8 (((((y9.setCell ⟨g15, 0, none⟩ (.int .i64 4)).setCell ⟨g15, 1, none⟩ (.int .i64 10)).setCell ⟨g15, 2, none⟩ (.int .i64 4)).setCell ⟨g15, 3, none⟩ (.int .i64 10)).setCell ⟨g15, 4, none⟩ (.int .i64 1)) := (((((((D9.out.trans (E9.out.mono D9.out.size)).setCell hz9 _).setCell hz9 _).setCell hz9 _).setCell hz9 _).setCell hz9 _))
  replace X7 := Aside0.mk ((hb9.block _ (blk_lt X7.out)).trans X7.out)
  replace X9 := Aside0.mk ((hb9.block _ (blk_lt X9.out)).trans X9.out)
  replace X13 := Aside0.mk ((hb9.block _ (blk_lt X13.out)).trans X13.out)
  have B9 := Aside0.mk (B8.out.trans (hb9.mono B8.out.size))
  clear s0 s1 s2 s3 s4 t0 t1 t2 t3 t4 hz9 hb9 Y9 E9 G9 D9 HV9 B8 c0 c1 c2 c3 c4
  generalize (((((y9.setCell ⟨g15, 0, none⟩ (.int .i64 4)).setCell ⟨g15, 1, none⟩ (.int .i64 10)).setCell ⟨g15, 2, none⟩ (.int .i64 4)).setCell ⟨g15, 3, none⟩ (.int .i64 10)).setCell ⟨g15, 4, none⟩ (.int .i64 1)) = w9 at B9 X7 X9 X13 ⊢
  have HV10 := Aside0.mk (show cbs_Use.f 5 4 10 0 0 0 1 = some (4 , 10 , 0 , 0 , 0 , 1) from by decide +kernel)
  have c0 := blk_cell X7.out 0
  have c1 := blk_cell X7.out 1
  have c2 := blk_cell X7.out 2
  have c3 := blk_cell X7.out 3
  have c4 := blk_cell X7.out 4
  go_upto_region 12 with (first | (go_at_call 12; (with_reducible refine (cbs_Use.calls 5 4 10 0 0 0 1 4 10 0 0 0 1 w9 HV10.out).mono ?_); rintro e v10 ⟨rfl, hb10⟩; have D10 := Aside0.mk hb10; clear hb10) | ((with_reducible refine gate_dst (N := 17) rfl ?_); refine box_event ?hg (N := 17) ?hd (cs := #[.int .i64 0, .int .i64 0, .int .i64 0, .int .i64 0, .int .i64 0]) (t := 23) ?hr ?_; (case hd => rfl); (case hg => rfl); (case hr => first | (go_simp; done) | (go_simp; rfl)); intro g17 hg10 y10 hx10 hb10; have Y10 := Aside0.mk hx10; have E10 := Aside0.mk hb10; have G10 := Aside0.mk hg10; have s0 := blk_cell hx10 0; have t0 := blk_frozen hx10 0; have s1 := blk_cell hx10 1; have t1 := blk_frozen hx10 1; have s2 := blk_cell hx10 2; have t2 := blk_frozen hx10 2; have s3 := blk_cell hx10 3; have t3 := blk_frozen hx10 3; have s4 := blk_cell hx10 4; have t4 := blk_frozen hx10 4; clear hx10 hb10 hg10))
  have hz10 : w9.heap.size ≤ g17 := by have := G10.out; have := D10.out.size; omega
  have hb10 : Below w9.heap.size w9 (((((y10.setCell ⟨g17, 0, none⟩ (.int .i64 4)).setCell ⟨g17, 1, none⟩ (.int .i64 10)).setCell ⟨g17, 2, none⟩ (.int .i64 0)).setCell ⟨g17, 3, none⟩ (.int .i64 0)).setCell ⟨g17, 4, none⟩ (.int .i64 0)) := (((((((D10.out.trans (E10.out.mono D10.out.size)).setCell hz10 _).setCell hz10 _).setCell hz10 _).setCell hz10 _).setCell hz10 _))
  replace X7 := Aside0.mk ((hb10.block _ (blk_lt X7.out)).trans X7.out)
  replace X9 := Aside0.mk ((hb10.block _ (blk_lt X9.out)).trans X9.out)
  replace X13 := Aside0.mk ((hb10.block _ (blk_lt X13.out)).trans X13.out)
  have B10 := Aside0.mk (B9.out.trans (hb10.mono B9.out.size))
  clear s0 s1 s2 s3 s4 t0 t1 t2 t3 t4 hz10 hb10 Y10 E10 G10 D10 HV10 B9 c0 c1 c2 c3 c4
  generalize (((((y10.setCell ⟨g17, 0, none⟩ (.int .i64 4)).setCell ⟨g17, 1, none⟩ (.int .i64 10)).setCell ⟨g17, 2, none⟩ (.int .i64 0)).setCell ⟨g17, 3, none⟩ (.int .i64 0)).setCell ⟨g17, 4, none⟩ (.int .i64 0)) = w10 at B10 X7 X9 X13 ⊢
  have HV11 := Aside0.mk (show cbs_Use.f 5 4 10 4 10 1 0 = some (4 , 10 , 4 , 10 , 1 , 1) from by decide +kernel)
  have c0 := blk_cell X9.out 0
  have c1 := blk_cell X9.out 1
  have c2 := blk_cell X9.out 2
  have c3 := blk_cell X9.out 3
  have c4 := blk_cell X9.out 4
  go_upto_region 13 with (first | (go_at_call 12; (with_reducible refine (cbs_Use.calls 5 4 10 4 10 1 0 4 10 4 10 1 1 w10 HV11.out).mono ?_); rintro e v11 ⟨rfl, hb11⟩; have D11 := Aside0.mk hb11; clear hb11) | ((with_reducible refine gate_dst (N := 19) rfl ?_); refine box_event ?hg (N := 19) ?hd (cs := #[.int .i64 0, .int .i64 0, .int .i64 0, .int .i64 0, .int .i64 0]) (t := 23) ?hr ?_; (case hd => rfl); (case hg => rfl); (case hr => first | (go_simp; done) | (go_simp; rfl)); intro g19 hg11 y11 hx11 hb11; have Y11 := Aside0.mk hx11; have E11 := Aside0.mk hb11; have G11 := Aside0.mk hg11; have s0 := blk_cell hx11 0; have t0 := blk_frozen hx11 0; have s1 := blk_cell hx11 1; have t1 := blk_frozen hx11 1; have s2 := blk_cell hx11 2; have t2 := blk_frozen hx11 2; have s3 := blk_cell hx11 3; have t3 := blk_frozen hx11 3; have s4 := blk_cell hx11 4; have t4 := blk_frozen hx11 4; clear hx11 hb11 hg11))
  have hz11 : w10.heap.size ≤ g19 := by have := G11.out; have := D11.out.size; omega
  have hb11 : Below w10.heap.size w10 (((((y11.setCell ⟨g19, 0, none⟩ (.int .i64 4)).setCell ⟨g19, 1, none⟩ (.int .i64 10)).setCell ⟨g19, 2, none⟩ (.int .i64 4)).setCell ⟨g19, 3, none⟩ (.int .i64 10)).setCell ⟨g19, 4, none⟩ (.int .i64 1)) := (((((((D11.out.trans (E11.out.mono D11.out.size)).setCell hz11 _).setCell hz11 _).setCell hz11 _).setCell hz11 _).setCell hz11 _))
  replace X7 := Aside0.mk ((hb11.block _ (blk_lt X7.out)).trans X7.out)
  replace X9 := Aside0.mk ((hb11.block _ (blk_lt X9.out)).trans X9.out)
  replace X13 := Aside0.mk ((hb11.block _ (blk_lt X13.out)).trans X13.out)
  have B11 := Aside0.mk (B10.out.trans (hb11.mono B10.out.size))
  clear s0 s1 s2 s3 s4 t0 t1 t2 t3 t4 hz11 hb11 Y11 E11 G11 D11 HV11 B10 c0 c1 c2 c3 c4
  generalize (((((y11.setCell ⟨g19, 0, none⟩ (.int .i64 4)).setCell ⟨g19, 1, none⟩ (.int .i64 10)).setCell ⟨g19, 2, none⟩ (.int .i64 4)).setCell ⟨g19, 3, none⟩ (.int .i64 10)).setCell ⟨g19, 4, none⟩ (.int .i64 1)) = w11 at B11 X7 X9 X13 ⊢
  have HV12 := Aside0.mk (show cbs_Idle.f 4 10 3 10 1  = some (4 , 10 , 3 , 10 , 0 , 0) from by decide +kernel)
  have c0 := blk_cell X13.out 0
  have c1 := blk_cell X13.out 1
  have c2 := blk_cell X13.out 2
  have c3 := blk_cell X13.out 3
  have c4 := blk_cell X13.out 4
  go_upto_region 14 with (first | (go_at_call 15; (with_reducible refine (cbs_Idle.calls 4 10 3 10 1  4 10 3 10 0 0 w11 HV12.out).mono ?_); rintro e v12 ⟨rfl, hb12⟩; have D12 := Aside0.mk hb12; clear hb12) | ((with_reducible refine gate_dst (N := 21) rfl ?_); refine box_event ?hg (N := 21) ?hd (cs := #[.int .i64 0, .int .i64 0, .int .i64 0, .int .i64 0, .int .i64 0]) (t := 23) ?hr ?_; (case hd => rfl); (case hg => rfl); (case hr => first | (go_simp; done) | (go_simp; rfl)); intro g21 hg12 y12 hx12 hb12; have Y12 := Aside0.mk hx12; have E12 := Aside0.mk hb12; have G12 := Aside0.mk hg12; have s0 := blk_cell hx12 0; have t0 := blk_frozen hx12 0; have s1 := blk_cell hx12 1; have t1 := blk_frozen hx12 1; have s2 := blk_cell hx12 2; have t2 := blk_frozen hx12 2; have s3 := blk_cell hx12 3; have t3 := blk_frozen hx12 3; have s4 := blk_cell hx12 4; have t4 := blk_frozen hx12 4; clear hx12 hb12 hg12))
  have hz12 : w11.heap.size ≤ g21 := by have := G12.out; have := D12.out.size; omega
  have hb12 : Below w11.heap.size w11 (((((y12.setCell ⟨g21, 0, none⟩ (.int .i64 4)).setCell ⟨g21, 1, none⟩ (.int .i64 10)).setCell ⟨g21, 2, none⟩ (.int .i64 3)).setCell ⟨g21, 3, none⟩ (.int .i64 10)).setCell ⟨g21, 4, none⟩ (.int .i64 0)) := (((((((D12.out.trans (E12.out.mono D12.out.size)).setCell hz12 _).setCell hz12 _).setCell hz12 _).setCell hz12 _).setCell hz12 _))
  replace X7 := Aside0.mk ((hb12.block _ (blk_lt X7.out)).trans X7.out)
  replace X9 := Aside0.mk ((hb12.block _ (blk_lt X9.out)).trans X9.out)
  replace X13 := Aside0.mk ((hb12.block _ (blk_lt X13.out)).trans X13.out)
  have X21 := Aside0.mk (show (((((y12.setCell ⟨g21, 0, none⟩ (.int .i64 4)).setCell ⟨g21, 1, none⟩ (.int .i64 10)).setCell ⟨g21, 2, none⟩ (.int .i64 3)).setCell ⟨g21, 3, none⟩ (.int .i64 10)).setCell ⟨g21, 4, none⟩ (.int .i64 0)).heap[g21]? = some (.cells #[.int .i64 4, .int .i64 10, .int .i64 3, .int .i64 10, .int .i64 0] 23 (0, 0)) from (blk_put (cs := #[.int .i64 4, .int .i64 10, .int .i64 3, .int .i64 10, .int .i64 0]) (blk_put (cs := #[.int .i64 4, .int .i64 10, .int .i64 3, .int .i64 0, .int .i64 0]) (blk_put (cs := #[.int .i64 4, .int .i64 10, .int .i64 0, .int .i64 0, .int .i64 0]) (blk_put (cs := #[.int .i64 4, .int .i64 0, .int .i64 0, .int .i64 0, .int .i64 0]) (blk_put (cs := #[.int .i64 0, .int .i64 0, .int .i64 0, .int .i64 0, .int .i64 0]) Y12.out 0 (.int .i64 4) rfl) 1 (.int .i64 10) rfl) 2 (.int .i64 3) rfl) 3 (.int .i64 10) rfl) 4 (.int .i64 0) rfl))
  have B12 := Aside0.mk (B11.out.trans (hb12.mono B11.out.size))
  clear s0 s1 s2 s3 s4 t0 t1 t2 t3 t4 hz12 hb12 Y12 E12 G12 D12 HV12 B11 c0 c1 c2 c3 c4
  generalize (((((y12.setCell ⟨g21, 0, none⟩ (.int .i64 4)).setCell ⟨g21, 1, none⟩ (.int .i64 10)).setCell ⟨g21, 2, none⟩ (.int .i64 3)).setCell ⟨g21, 3, none⟩ (.int .i64 10)).setCell ⟨g21, 4, none⟩ (.int .i64 0)) = w12 at B12 X7 X9 X13 X21 ⊢
  have HV13 := Aside0.mk (show cbs_Idle.f 4 10 3 10 0  = some (4 , 10 , 3 , 10 , 0 , 4) from by decide +kernel)
  have c0 := blk_cell X21.out 0
  have c1 := blk_cell X21.out 1
  have c2 := blk_cell X21.out 2
  have c3 := blk_cell X21.out 3
  have c4 := blk_cell X21.out 4
  go_upto_region 15 with (first | (go_at_call 15; (with_reducible refine (cbs_Idle.calls 4 10 3 10 0  4 10 3 10 0 4 w12 HV13.out).mono ?_); rintro e v13 ⟨rfl, hb13⟩; have D13 := Aside0.mk hb13; clear hb13) | ((with_reducible refine gate_dst (N := 23) rfl ?_); refine box_event ?hg (N := 23) ?hd (cs := #[.int .i64 0, .int .i64 0, .int .i64 0, .int .i64 0, .int .i64 0]) (t := 23) ?hr ?_; (case hd => rfl); (case hg => rfl); (case hr => first | (go_simp; done) | (go_simp; rfl)); intro g23 hg13 y13 hx13 hb13; have Y13 := Aside0.mk hx13; have E13 := Aside0.mk hb13; have G13 := Aside0.mk hg13; have s0 := blk_cell hx13 0; have t0 := blk_frozen hx13 0; have s1 := blk_cell hx13 1; have t1 := blk_frozen hx13 1; have s2 := blk_cell hx13 2; have t2 := blk_frozen hx13 2; have s3 := blk_cell hx13 3; have t3 := blk_frozen hx13 3; have s4 := blk_cell hx13 4; have t4 := blk_frozen hx13 4; clear hx13 hb13 hg13))
  have hz13 : w12.heap.size ≤ g23 := by have := G13.out; have := D13.out.size; omega
  have hb13 : Below w12.heap.size w12 (((((y13.setCell ⟨g23, 0, none⟩ (.int .i64 4)).setCell ⟨g23, 1, none⟩ (.int .i64 10)).setCell ⟨g23, 2, none⟩ (.int .i64 3)).setCell ⟨g23, 3, none⟩ (.int .i64 10)).setCell ⟨g23, 4, none⟩ (.int .i64 0)) := (((((((D13.out.trans (E13.out.mono D13.out.size)).setCell hz13 _).setCell hz13 _).setCell hz13 _).setCell hz13 _).setCell hz13 _))
  replace X7 := Aside0.mk ((hb13.block _ (blk_lt X7.out)).trans X7.out)
  replace X9 := Aside0.mk ((hb13.block _ (blk_lt X9.out)).trans X9.out)
  replace X13 := Aside0.mk ((hb13.block _ (blk_lt X13.out)).trans X13.out)
  replace X21 := Aside0.mk ((hb13.block _ (blk_lt X21.out)).trans X21.out)
  have B13 := Aside0.mk (B12.out.trans (hb13.mono B12.out.size))
  clear s0 s1 s2 s3 s4 t0 t1 t2 t3 t4 hz13 hb13 Y13 E13 G13 D13 HV13 B12 c0 c1 c2 c3 c4
  generalize (((((y13.setCell ⟨g23, 0, none⟩ (.int .i64 4)).setCell ⟨g23, 1, none⟩ (.int .i64 10)).setCell ⟨g23, 2, none⟩ (.int .i64 3)).setCell ⟨g23, 3, none⟩ (.int .i64 10)).setCell ⟨g23, 4, none⟩ (.int .i64 0)) = w13 at B13 X7 X9 X13 X21 ⊢
  have HV14 := Aside0.mk (show cbs_Wake.f 5 4 10 3 10 0 7 = some (4 , 10 , 1 , 10 , 1 , 0) from by decide +kernel)
  have c0 := blk_cell X21.out 0
  have c1 := blk_cell X21.out 1
  have c2 := blk_cell X21.out 2
  have c3 := blk_cell X21.out 3
  have c4 := blk_cell X21.out 4
  go_upto_region 16 with (first | (go_at_call 11; (with_reducible refine (cbs_Wake.calls 5 4 10 3 10 0 7 4 10 1 10 1 0 w13 HV14.out).mono ?_); rintro e v14 ⟨rfl, hb14⟩; have D14 := Aside0.mk hb14; clear hb14) | ((with_reducible refine gate_dst (N := 25) rfl ?_); refine box_event ?hg (N := 25) ?hd (cs := #[.int .i64 0, .int .i64 0, .int .i64 0, .int .i64 0, .int .i64 0]) (t := 23) ?hr ?_; (case hd => rfl); (case hg => rfl); (case hr => first | (go_simp; done) | (go_simp; rfl)); intro g25 hg14 y14 hx14 hb14; have Y14 := Aside0.mk hx14; have E14 := Aside0.mk hb14; have G14 := Aside0.mk hg14; have s0 := blk_cell hx14 0; have t0 := blk_frozen hx14 0; have s1 := blk_cell hx14 1; have t1 := blk_frozen hx14 1; have s2 := blk_cell hx14 2; have t2 := blk_frozen hx14 2; have s3 := blk_cell hx14 3; have t3 := blk_frozen hx14 3; have s4 := blk_cell hx14 4; have t4 := blk_frozen hx14 4; clear hx14 hb14 hg14))
  have hz14 : w13.heap.size ≤ g25 := by have := G14.out; have := D14.out.size; omega
  have hb14 : Below w13.heap.size w13 (((((y14.setCell ⟨g25, 0, none⟩ (.int .i64 4)).setCell ⟨g25, 1, none⟩ (.int .i64 10)).setCell ⟨g25, 2, none⟩ (.int .i64 1)).setCell ⟨g25, 3, none⟩ (.int .i64 10)).setCell ⟨g25, 4, none⟩ (.int .i64 1)) := (((((((D14.out.trans (E14.out.mono D14.out.size)).setCell hz14 _).setCell hz14 _).setCell hz14 _).setCell hz14 _).setCell hz14 _))
  replace X7 := Aside0.mk ((hb14.block _ (blk_lt X7.out)).trans X7.out)
  replace X9 := Aside0.mk ((hb14.block _ (blk_lt X9.out)).trans X9.out)
  replace X13 := Aside0.mk ((hb14.block _ (blk_lt X13.out)).trans X13.out)
  replace X21 := Aside0.mk ((hb14.block _ (blk_lt X21.out)).trans X21.out)
  have X25 := Aside0.mk (show (((((y14.setCell ⟨g25, 0, none⟩ (.int .i64 4)).setCell ⟨g25, 1, none⟩ (.int .i64 10)).setCell ⟨g25, 2, none⟩ (.int .i64 1)).setCell ⟨g25, 3, none⟩ (.int .i64 10)).setCell ⟨g25, 4, none⟩ (.int .i64 1)).heap[g25]? = some (.cells #[.int .i64 4, .int .i64 10, .int .i64 1, .int .i64 10, .int .i64 1] 23 (0, 0)) from (blk_put (cs := #[.int .i64 4, .int .i64 10, .int .i64 1, .int .i64 10, .int .i64 0]) (blk_put (cs := #[.int .i64 4, .int .i64 10, .int .i64 1, .int .i64 0, .int .i64 0]) (blk_put (cs := #[.int .i64 4, .int .i64 10, .int .i64 0, .int .i64 0, .int .i64 0]) (blk_put (cs := #[.int .i64 4, .int .i64 0, .int .i64 0, .int .i64 0, .int .i64 0]) (blk_put (cs := #[.int .i64 0, .int .i64 0, .int .i64 0, .int .i64 0, .int .i64 0]) Y14.out 0 (.int .i64 4) rfl) 1 (.int .i64 10) rfl) 2 (.int .i64 1) rfl) 3 (.int .i64 10) rfl) 4 (.int .i64 1) rfl))
  have B14 := Aside0.mk (B13.out.trans (hb14.mono B13.out.size))
  clear s0 s1 s2 s3 s4 t0 t1 t2 t3 t4 hz14 hb14 Y14 E14 G14 D14 HV14 B13 c0 c1 c2 c3 c4
  generalize (((((y14.setCell ⟨g25, 0, none⟩ (.int .i64 4)).setCell ⟨g25, 1, none⟩ (.int .i64 10)).setCell ⟨g25, 2, none⟩ (.int .i64 1)).setCell ⟨g25, 3, none⟩ (.int .i64 10)).setCell ⟨g25, 4, none⟩ (.int .i64 1)) = w14 at B14 X7 X9 X13 X21 X25 ⊢
  have HV15 := Aside0.mk (show cbs_Wake.f 5 4 10 3 10 0 1 = some (4 , 10 , 3 , 10 , 1 , 0) from by decide +kernel)
  have c0 := blk_cell X21.out 0
  have c1 := blk_cell X21.out 1
  have c2 := blk_cell X21.out 2
  have c3 := blk_cell X21.out 3
  have c4 := blk_cell X21.out 4
  go_upto_region 17 with (first | (go_at_call 11; (with_reducible refine (cbs_Wake.calls 5 4 10 3 10 0 1 4 10 3 10 1 0 w14 HV15.out).mono ?_); rintro e v15 ⟨rfl, hb15⟩; have D15 := Aside0.mk hb15; clear hb15) | ((with_reducible refine gate_dst (N := 27) rfl ?_); refine box_event ?hg (N := 27) ?hd (cs := #[.int .i64 0, .int .i64 0, .int .i64 0, .int .i64 0, .int .i64 0]) (t := 23) ?hr ?_; (case hd => rfl); (case hg => rfl); (case hr => first | (go_simp; done) | (go_simp; rfl)); intro g27 hg15 y15 hx15 hb15; have Y15 := Aside0.mk hx15; have E15 := Aside0.mk hb15; have G15 := Aside0.mk hg15; have s0 := blk_cell hx15 0; have t0 := blk_frozen hx15 0; have s1 := blk_cell hx15 1; have t1 := blk_frozen hx15 1; have s2 := blk_cell hx15 2; have t2 := blk_frozen hx15 2; have s3 := blk_cell hx15 3; have t3 := blk_frozen hx15 3; have s4 := blk_cell hx15 4; have t4 := blk_frozen hx15 4; clear hx15 hb15 hg15))
  have hz15 : w14.heap.size ≤ g27 := by have := G15.out; have := D15.out.size; omega
  have hb15 : Below w14.heap.size w14 (((((y15.setCell ⟨g27, 0, none⟩ (.int .i64 4)).setCell ⟨g27, 1, none⟩ (.int .i64 10)).setCell ⟨g27, 2, none⟩ (.int .i64 3)).setCell ⟨g27, 3, none⟩ (.int .i64 10)).setCell ⟨g27, 4, none⟩ (.int .i64 1)) := (((((((D15.out.trans (E15.out.mono D15.out.size)).setCell hz15 _).setCell hz15 _).setCell hz15 _).setCell hz15 _).setCell hz15 _))
  replace X7 := Aside0.mk ((hb15.block _ (blk_lt X7.out)).trans X7.out)
  replace X9 := Aside0.mk ((hb15.block _ (blk_lt X9.out)).trans X9.out)
  replace X13 := Aside0.mk ((hb15.block _ (blk_lt X13.out)).trans X13.out)
  replace X21 := Aside0.mk ((hb15.block _ (blk_lt X21.out)).trans X21.out)
  replace X25 := Aside0.mk ((hb15.block _ (blk_lt X25.out)).trans X25.out)
  have X27 := Aside0.mk (show (((((y15.setCell ⟨g27, 0, none⟩ (.int .i64 4)).setCell ⟨g27, 1, none⟩ (.int .i64 10)).setCell ⟨g27, 2, none⟩ (.int .i64 3)).setCell ⟨g27, 3, none⟩ (.int .i64 10)).setCell ⟨g27, 4, none⟩ (.int .i64 1)).heap[g27]? = some (.cells #[.int .i64 4, .int .i64 10, .int .i64 3, .int .i64 10, .int .i64 1] 23 (0, 0)) from (blk_put (cs := #[.int .i64 4, .int .i64 10, .int .i64 3, .int .i64 10, .int .i64 0]) (blk_put (cs := #[.int .i64 4, .int .i64 10, .int .i64 3, .int .i64 0, .int .i64 0]) (blk_put (cs := #[.int .i64 4, .int .i64 10, .int .i64 0, .int .i64 0, .int .i64 0]) (blk_put (cs := #[.int .i64 4, .int .i64 0, .int .i64 0, .int .i64 0, .int .i64 0]) (blk_put (cs := #[.int .i64 0, .int .i64 0, .int .i64 0, .int .i64 0, .int .i64 0]) Y15.out 0 (.int .i64 4) rfl) 1 (.int .i64 10) rfl) 2 (.int .i64 3) rfl) 3 (.int .i64 10) rfl) 4 (.int .i64 1) rfl))
  have B15 := Aside0.mk (B14.out.trans (hb15.mono B14.out.size))
  clear s0 s1 s2 s3 s4 t0 t1 t2 t3 t4 hz15 hb15 Y15 E15 G15 D15 HV15 B14 c0 c1 c2 c3 c4
  generalize (((((y15.setCell ⟨g27, 0, none⟩ (.int .i64 4)).setCell ⟨g27, 1, none⟩ (.int .i64 10)).setCell ⟨g27, 2, none⟩ (.int .i64 3)).setCell ⟨g27, 3, none⟩ (.int .i64 10)).setCell ⟨g27, 4, none⟩ (.int .i64 1)) = w15 at B15 X7 X9 X13 X21 X25 X27 ⊢
  have HV16 := Aside0.mk (show cbs_Wake.f 5 4 10 3 10 0 9 = some (4 , 10 , 0 , 10 , 2 , 0) from by decide +kernel)
  have c0 := blk_cell X21.out 0
  have c1 := blk_cell X21.out 1
  have c2 := blk_cell X21.out 2
  have c3 := blk_cell X21.out 3
  have c4 := blk_cell X21.out 4
  go_upto_region 18 with (first | (go_at_call 11; (with_reducible refine (cbs_Wake.calls 5 4 10 3 10 0 9 4 10 0 10 2 0 w15 HV16.out).mono ?_); rintro e v16 ⟨rfl, hb16⟩; have D16 := Aside0.mk hb16; clear hb16) | ((with_reducible refine gate_dst (N := 29) rfl ?_); refine box_event ?hg (N := 29) ?hd (cs := #[.int .i64 0, .int .i64 0, .int .i64 0, .int .i64 0, .int .i64 0]) (t := 23) ?hr ?_; (case hd => rfl); (case hg => rfl); (case hr => first | (go_simp; done) | (go_simp; rfl)); intro g29 hg16 y16 hx16 hb16; have Y16 := Aside0.mk hx16; have E16 := Aside0.mk hb16; have G16 := Aside0.mk hg16; have s0 := blk_cell hx16 0; have t0 := blk_frozen hx16 0; have s1 := blk_cell hx16 1; have t1 := blk_frozen hx16 1; have s2 := blk_cell hx16 2; have t2 := blk_frozen hx16 2; have s3 := blk_cell hx16 3; have t3 := blk_frozen hx16 3; have s4 := blk_cell hx16 4; have t4 := blk_frozen hx16 4; clear hx16 hb16 hg16))
  have hz16 : w15.heap.size ≤ g29 := by have := G16.out; have := D16.out.size; omega
  have hb16 : Below w15.heap.size w15 (((((y16.setCell ⟨g29, 0, none⟩ (.int .i64 4)).setCell ⟨g29, 1, none⟩ (.int .i64 10)).setCell ⟨g29, 2, none⟩ (.int .i64 0)).setCell ⟨g29, 3, none⟩ (.int .i64 10)).setCell ⟨g29, 4, none⟩ (.int .i64 2)) := (((((((D16.out.trans (E16.out.mono D16.out.size)).setCell hz16 _).setCell hz16 _).setCell hz16 _).setCell hz16 _).setCell hz16 _))
  replace X7 := Aside0.mk ((hb16.block _ (blk_lt X7.out)).trans X7.out)
  replace X9 := Aside0.mk ((hb16.block _ (blk_lt X9.out)).trans X9.out)
  replace X13 := Aside0.mk ((hb16.block _ (blk_lt X13.out)).trans X13.out)
  replace X21 := Aside0.mk ((hb16.block _ (blk_lt X21.out)).trans X21.out)
  replace X25 := Aside0.mk ((hb16.block _ (blk_lt X25.out)).trans X25.out)
  replace X27 := Aside0.mk ((hb16.block _ (blk_lt X27.out)).trans X27.out)
  have X29 := Aside0.mk (show (((((y16.setCell ⟨g29, 0, none⟩ (.int .i64 4)).setCell ⟨g29, 1, none⟩ (.int .i64 10)).setCell ⟨g29, 2, none⟩ (.int .i64 0)).setCell ⟨g29, 3, none⟩ (.int .i64 10)).setCell ⟨g29, 4, none⟩ (.int .i64 2)).heap[g29]? = some (.cells #[.int .i64 4, .int .i64 10, .int .i64 0, .int .i64 10, .int .i64 2] 23 (0, 0)) from (blk_put (cs := #[.int .i64 4, .int .i64 10, .int .i64 0, .int .i64 10, .int .i64 0]) (blk_put (cs := #[.int .i64 4, .int .i64 10, .int .i64 0, .int .i64 0, .int .i64 0]) (blk_put (cs := #[.int .i64 4, .int .i64 10, .int .i64 0, .int .i64 0, .int .i64 0]) (blk_put (cs := #[.int .i64 4, .int .i64 0, .int .i64 0, .int .i64 0, .int .i64 0]) (blk_put (cs := #[.int .i64 0, .int .i64 0, .int .i64 0, .int .i64 0, .int .i64 0]) Y16.out 0 (.int .i64 4) rfl) 1 (.int .i64 10) rfl) 2 (.int .i64 0) rfl) 3 (.int .i64 10) rfl) 4 (.int .i64 2) rfl))
  have B16 := Aside0.mk (B15.out.trans (hb16.mono B15.out.size))
  clear s0 s1 s2 s3 s4 t0 t1 t2 t3 t4 hz16 hb16 Y16 E16 G16 D16 HV16 B15 c0 c1 c2 c3 c4
  generalize (((((y16.setCell ⟨g29, 0, none⟩ (.int .i64 4)).setCell ⟨g29, 1, none⟩ (.int .i64 10)).setCell ⟨g29, 2, none⟩ (.int .i64 0)).setCell ⟨g29, 3, none⟩ (.int .i64 10)).setCell ⟨g29, 4, none⟩ (.int .i64 2)) = w16 at B16 X7 X9 X13 X21 X25 X27 X29 ⊢
  have HV17 := Aside0.mk (show cbs_Wake.f 5 4 10 3 10 0 10 = some (4 , 10 , 4 , 20 , 1 , 0) from by decide +kernel)
  have c0 := blk_cell X21.out 0
  have c1 := blk_cell X21.out 1
  have c2 := blk_cell X21.out 2
  have c3 := blk_cell X21.out 3
  have c4 := blk_cell X21.out 4
  go_upto_region 19 with (first | (go_at_call 11; (with_reducible refine (cbs_Wake.calls 5 4 10 3 10 0 10 4 10 4 20 1 0 w16 HV17.out).mono ?_); rintro e v17 ⟨rfl, hb17⟩; have D17 := Aside0.mk hb17; clear hb17) | ((with_reducible refine gate_dst (N := 31) rfl ?_); refine box_event ?hg (N := 31) ?hd (cs := #[.int .i64 0, .int .i64 0, .int .i64 0, .int .i64 0, .int .i64 0]) (t := 23) ?hr ?_; (case hd => rfl); (case hg => rfl); (case hr => first | (go_simp; done) | (go_simp; rfl)); intro g31 hg17 y17 hx17 hb17; have Y17 := Aside0.mk hx17; have E17 := Aside0.mk hb17; have G17 := Aside0.mk hg17; have s0 := blk_cell hx17 0; have t0 := blk_frozen hx17 0; have s1 := blk_cell hx17 1; have t1 := blk_frozen hx17 1; have s2 := blk_cell hx17 2; have t2 := blk_frozen hx17 2; have s3 := blk_cell hx17 3; have t3 := blk_frozen hx17 3; have s4 := blk_cell hx17 4; have t4 := blk_frozen hx17 4; clear hx17 hb17 hg17))
  have hz17 : w16.heap.size ≤ g31 := by have := G17.out; have := D17.out.size; omega
  have hb17 : Below w16.heap.size w16 (((((y17.setCell ⟨g31, 0, none⟩ (.int .i64 4)).setCell ⟨g31, 1, none⟩ (.int .i64 10)).setCell ⟨g31, 2, none⟩ (.int .i64 4)).setCell ⟨g31, 3, none⟩ (.int .i64 20)).setCell ⟨g31, 4, none⟩ (.int .i64 1)) := (((((((D17.out.trans (E17.out.mono D17.out.size)).setCell hz17 _).setCell hz17 _).setCell hz17 _).setCell hz17 _).setCell hz17 _))
  replace X7 := Aside0.mk ((hb17.block _ (blk_lt X7.out)).trans X7.out)
  replace X9 := Aside0.mk ((hb17.block _ (blk_lt X9.out)).trans X9.out)
  replace X13 := Aside0.mk ((hb17.block _ (blk_lt X13.out)).trans X13.out)
  replace X21 := Aside0.mk ((hb17.block _ (blk_lt X21.out)).trans X21.out)
  replace X25 := Aside0.mk ((hb17.block _ (blk_lt X25.out)).trans X25.out)
  replace X27 := Aside0.mk ((hb17.block _ (blk_lt X27.out)).trans X27.out)
  replace X29 := Aside0.mk ((hb17.block _ (blk_lt X29.out)).trans X29.out)
  have X31 := Aside0.mk (show (((((y17.setCell ⟨g31, 0, none⟩ (.int .i64 4)).setCell ⟨g31, 1, none⟩ (.int .i64 10)).setCell ⟨g31, 2, none⟩ (.int .i64 4)).setCell ⟨g31, 3, none⟩ (.int .i64 20)).setCell ⟨g31, 4, none⟩ (.int .i64 1)).heap[g31]? = some (.cells #[.int .i64 4, .int .i64 10, .int .i64 4, .int .i64 20, .int .i64 1] 23 (0, 0)) from (blk_put (cs := #[.int .i64 4, .int .i64 10, .int .i64 4, .int .i64 20, .int .i64 0]) (blk_put (cs := #[.int .i64 4, .int .i64 10, .int .i64 4, .int .i64 0, .int .i64 0]) (blk_put (cs := #[.int .i64 4, .int .i64 10, .int .i64 0, .int .i64 0, .int .i64 0]) (blk_put (cs := #[.int .i64 4, .int .i64 0, .int .i64 0, .int .i64 0, .int .i64 0]) (blk_put (cs := #[.int .i64 0, .int .i64 0, .int .i64 0, .int .i64 0, .int .i64 0]) Y17.out 0 (.int .i64 4) rfl) 1 (.int .i64 10) rfl) 2 (.int .i64 4) rfl) 3 (.int .i64 20) rfl) 4 (.int .i64 1) rfl))
  have B17 := Aside0.mk (B16.out.trans (hb17.mono B16.out.size))
  clear s0 s1 s2 s3 s4 t0 t1 t2 t3 t4 hz17 hb17 Y17 E17 G17 D17 HV17 B16 c0 c1 c2 c3 c4
  generalize (((((y17.setCell ⟨g31, 0, none⟩ (.int .i64 4)).setCell ⟨g31, 1, none⟩ (.int .i64 10)).setCell ⟨g31, 2, none⟩ (.int .i64 4)).setCell ⟨g31, 3, none⟩ (.int .i64 20)).setCell ⟨g31, 4, none⟩ (.int .i64 1)) = w17 at B17 X7 X9 X13 X21 X25 X27 X29 X31 ⊢
  have HV18 := Aside0.mk (show cbs_Wake.f 5 4 10 3 10 0 4611686018427387904 = some (4 , 10 , 3 , 10 , 0 , 6) from by decide +kernel)
  have c0 := blk_cell X21.out 0
  have c1 := blk_cell X21.out 1
  have c2 := blk_cell X21.out 2
  have c3 := blk_cell X21.out 3
  have c4 := blk_cell X21.out 4
  go_upto_region 20 with (first | (go_at_call 11; (with_reducible refine (cbs_Wake.calls 5 4 10 3 10 0 4611686018427387904 4 10 3 10 0 6 w17 HV18.out).mono ?_); rintro e v18 ⟨rfl, hb18⟩; have D18 := Aside0.mk hb18; clear hb18) | ((with_reducible refine gate_dst (N := 33) rfl ?_); refine box_event ?hg (N := 33) ?hd (cs := #[.int .i64 0, .int .i64 0, .int .i64 0, .int .i64 0, .int .i64 0]) (t := 23) ?hr ?_; (case hd => rfl); (case hg => rfl); (case hr => first | (go_simp; done) | (go_simp; rfl)); intro g33 hg18 y18 hx18 hb18; have Y18 := Aside0.mk hx18; have E18 := Aside0.mk hb18; have G18 := Aside0.mk hg18; have s0 := blk_cell hx18 0; have t0 := blk_frozen hx18 0; have s1 := blk_cell hx18 1; have t1 := blk_frozen hx18 1; have s2 := blk_cell hx18 2; have t2 := blk_frozen hx18 2; have s3 := blk_cell hx18 3; have t3 := blk_frozen hx18 3; have s4 := blk_cell hx18 4; have t4 := blk_frozen hx18 4; clear hx18 hb18 hg18))
  have hz18 : w17.heap.size ≤ g33 := by have := G18.out; have := D18.out.size; omega
  have hb18 : Below w17.heap.size w17 (((((y18.setCell ⟨g33, 0, none⟩ (.int .i64 4)).setCell ⟨g33, 1, none⟩ (.int .i64 10)).setCell ⟨g33, 2, none⟩ (.int .i64 3)).setCell ⟨g33, 3, none⟩ (.int .i64 10)).setCell ⟨g33, 4, none⟩ (.int .i64 0)) := (((((((D18.out.trans (E18.out.mono D18.out.size)).setCell hz18 _).setCell hz18 _).setCell hz18 _).setCell hz18 _).setCell hz18 _))
  replace X7 := Aside0.mk ((hb18.block _ (blk_lt X7.out)).trans X7.out)
  replace X9 := Aside0.mk ((hb18.block _ (blk_lt X9.out)).trans X9.out)
  replace X13 := Aside0.mk ((hb18.block _ (blk_lt X13.out)).trans X13.out)
  replace X21 := Aside0.mk ((hb18.block _ (blk_lt X21.out)).trans X21.out)
  replace X25 := Aside0.mk ((hb18.block _ (blk_lt X25.out)).trans X25.out)
  replace X27 := Aside0.mk ((hb18.block _ (blk_lt X27.out)).trans X27.out)
  replace X29 := Aside0.mk ((hb18.block _ (blk_lt X29.out)).trans X29.out)
  replace X31 := Aside0.mk ((hb18.block _ (blk_lt X31.out)).trans X31.out)
  have B18 := Aside0.mk (B17.out.trans (hb18.mono B17.out.size))
  clear s0 s1 s2 s3 s4 t0 t1 t2 t3 t4 hz18 hb18 Y18 E18 G18 D18 HV18 B17 c0 c1 c2 c3 c4
  generalize (((((y18.setCell ⟨g33, 0, none⟩ (.int .i64 4)).setCell ⟨g33, 1, none⟩ (.int .i64 10)).setCell ⟨g33, 2, none⟩ (.int .i64 3)).setCell ⟨g33, 3, none⟩ (.int .i64 10)).setCell ⟨g33, 4, none⟩ (.int .i64 0)) = w18 at B18 X7 X9 X13 X21 X25 X27 X29 X31 ⊢
  have HV19 := Aside0.mk (show cbs_Use.f 5 4 10 4 10 1 4 = some (4 , 10 , 0 , 10 , 2 , 0) from by decide +kernel)
  have c0 := blk_cell X9.out 0
  have c1 := blk_cell X9.out 1
  have c2 := blk_cell X9.out 2
  have c3 := blk_cell X9.out 3
  have c4 := blk_cell X9.out 4
  go_upto_region 21 with (first | (go_at_call 12; (with_reducible refine (cbs_Use.calls 5 4 10 4 10 1 4 4 10 0 10 2 0 w18 HV19.out).mono ?_); rintro e v19 ⟨rfl, hb19⟩; have D19 := Aside0.mk hb19; clear hb19) | ((with_reducible refine gate_dst (N := 35) rfl ?_); refine box_event ?hg (N := 35) ?hd (cs := #[.int .i64 0, .int .i64 0, .int .i64 0, .int .i64 0, .int .i64 0]) (t := 23) ?hr ?_; (case hd => rfl); (case hg => rfl); (case hr => first | (go_simp; done) | (go_simp; rfl)); intro g35 hg19 y19 hx19 hb19; have Y19 := Aside0.mk hx19; have E19 := Aside0.mk hb19; have G19 := Aside0.mk hg19; have s0 := blk_cell hx19 0; have t0 := blk_frozen hx19 0; have s1 := blk_cell hx19 1; have t1 := blk_frozen hx19 1; have s2 := blk_cell hx19 2; have t2 := blk_frozen hx19 2; have s3 := blk_cell hx19 3; have t3 := blk_frozen hx19 3; have s4 := blk_cell hx19 4; have t4 := blk_frozen hx19 4; clear hx19 hb19 hg19))
  have hz19 : w18.heap.size ≤ g35 := by have := G19.out; have := D19.out.size; omega
  have hb19 : Below w18.heap.size w18 (((((y19.setCell ⟨g35, 0, none⟩ (.int .i64 4)).setCell ⟨g35, 1, none⟩ (.int .i64 10)).setCell ⟨g35, 2, none⟩ (.int .i64 0)).setCell ⟨g35, 3, none⟩ (.int .i64 10)).setCell ⟨g35, 4, none⟩ (.int .i64 2)) := (((((((D19.out.trans (E19.out.mono D19.out.size)).setCell hz19 _).setCell hz19 _).setCell hz19 _).setCell hz19 _).setCell hz19 _))
  replace X7 := Aside0.mk ((hb19.block _ (blk_lt X7.out)).trans X7.out)
  replace X9 := Aside0.mk ((hb19.block _ (blk_lt X9.out)).trans X9.out)
  replace X13 := Aside0.mk ((hb19.block _ (blk_lt X13.out)).trans X13.out)
  replace X21 := Aside0.mk ((hb19.block _ (blk_lt X21.out)).trans X21.out)
  replace X25 := Aside0.mk ((hb19.block _ (blk_lt X25.out)).trans X25.out)
  replace X27 := Aside0.mk ((hb19.block _ (blk_lt X27.out)).trans X27.out)
  replace X29 := Aside0.mk ((hb19.block _ (blk_lt X29.out)).trans X29.out)
  replace X31 := Aside0.mk ((hb19.block _ (blk_lt X31.out)).trans X31.out)
  have X35 := Aside0.mk (show (((((y19.setCell ⟨g35, 0, none⟩ (.int .i64 4)).setCell ⟨g35, 1, none⟩ (.int .i64 10)).setCell ⟨g35, 2, none⟩ (.int .i64 0)).setCell ⟨g35, 3, none⟩ (.int .i64 10)).setCell ⟨g35, 4, none⟩ (.int .i64 2)).heap[g35]? = some (.cells #[.int .i64 4, .int .i64 10, .int .i64 0, .int .i64 10, .int .i64 2] 23 (0, 0)) from (blk_put (cs := #[.int .i64 4, .int .i64 10, .int .i64 0, .int .i64 10, .int .i64 0]) (blk_put (cs := #[.int .i64 4, .int .i64 10, .int .i64 0, .int .i64 0, .int .i64 0]) (blk_put (cs := #[.int .i64 4, .int .i64 10, .int .i64 0, .int .i64 0, .int .i64 0]) (blk_put (cs := #[.int .i64 4, .int .i64 0, .int .i64 0, .int .i64 0, .int .i64 0]) (blk_put (cs := #[.int .i64 0, .int .i64 0, .int .i64 0, .int .i64 0, .int .i64 0]) Y19.out 0 (.int .i64 4) rfl) 1 (.int .i64 10) rfl) 2 (.int .i64 0) rfl) 3 (.int .i64 10) rfl) 4 (.int .i64 2) rfl))
  have B19 := Aside0.mk (B18.out.trans (hb19.mono B18.out.size))
  clear s0 s1 s2 s3 s4 t0 t1 t2 t3 t4 hz19 hb19 Y19 E19 G19 D19 HV19 B18 c0 c1 c2 c3 c4
  generalize (((((y19.setCell ⟨g35, 0, none⟩ (.int .i64 4)).setCell ⟨g35, 1, none⟩ (.int .i64 10)).setCell ⟨g35, 2, none⟩ (.int .i64 0)).setCell ⟨g35, 3, none⟩ (.int .i64 10)).setCell ⟨g35, 4, none⟩ (.int .i64 2)) = w19 at B19 X7 X9 X13 X21 X25 X27 X29 X31 X35 ⊢
  have HV20 := Aside0.mk (show cbs_Turn.f 5 4 10 0 10 2 10 = some (4 , 10 , 4 , 20 , 1 , true) from by decide +kernel)
  have c0 := blk_cell X35.out 0
  have c1 := blk_cell X35.out 1
  have c2 := blk_cell X35.out 2
  have c3 := blk_cell X35.out 3
  have c4 := blk_cell X35.out 4
  go_upto_region 22 with (first | (go_at_call 13; (with_reducible refine (cbs_Turn.calls 5 4 10 0 10 2 10 4 10 4 20 1 true w19 HV20.out).mono ?_); rintro e v20 ⟨rfl, hb20⟩; have D20 := Aside0.mk hb20; clear hb20) | ((with_reducible refine gate_dst (N := 37) rfl ?_); refine box_event ?hg (N := 37) ?hd (cs := #[.int .i64 0, .int .i64 0, .int .i64 0, .int .i64 0, .int .i64 0]) (t := 23) ?hr ?_; (case hd => rfl); (case hg => rfl); (case hr => first | (go_simp; done) | (go_simp; rfl)); intro g37 hg20 y20 hx20 hb20; have Y20 := Aside0.mk hx20; have E20 := Aside0.mk hb20; have G20 := Aside0.mk hg20; have s0 := blk_cell hx20 0; have t0 := blk_frozen hx20 0; have s1 := blk_cell hx20 1; have t1 := blk_frozen hx20 1; have s2 := blk_cell hx20 2; have t2 := blk_frozen hx20 2; have s3 := blk_cell hx20 3; have t3 := blk_frozen hx20 3; have s4 := blk_cell hx20 4; have t4 := blk_frozen hx20 4; clear hx20 hb20 hg20))
  have hz20 : w19.heap.size ≤ g37 := by have := G20.out; have := D20.out.size; omega
  have hb20 : Below w19.heap.size w19 (((((y20.setCell ⟨g37, 0, none⟩ (.int .i64 4)).setCell ⟨g37, 1, none⟩ (.int .i64 10)).setCell ⟨g37, 2, none⟩ (.int .i64 4)).setCell ⟨g37, 3, none⟩ (.int .i64 20)).setCell ⟨g37, 4, none⟩ (.int .i64 1)) := (((((((D20.out.trans (E20.out.mono D20.out.size)).setCell hz20 _).setCell hz20 _).setCell hz20 _).setCell hz20 _).setCell hz20 _))
  replace X7 := Aside0.mk ((hb20.block _ (blk_lt X7.out)).trans X7.out)
  replace X9 := Aside0.mk ((hb20.block _ (blk_lt X9.out)).trans X9.out)
  replace X13 := Aside0.mk ((hb20.block _ (blk_lt X13.out)).trans X13.out)
  replace X21 := Aside0.mk ((hb20.block _ (blk_lt X21.out)).trans X21.out)
  replace X25 := Aside0.mk ((hb20.block _ (blk_lt X25.out)).trans X25.out)
  replace X27 := Aside0.mk ((hb20.block _ (blk_lt X27.out)).trans X27.out)
  replace X29 := Aside0.mk ((hb20.block _ (blk_lt X29.out)).trans X29.out)
  replace X31 := Aside0.mk ((hb20.block _ (blk_lt X31.out)).trans X31.out)
  replace X35 := Aside0.mk ((hb20.block _ (blk_lt X35.out)).trans X35.out)
  have X37 := Aside0.mk (show (((((y20.setCell ⟨g37, 0, none⟩ (.int .i64 4)).setCell ⟨g37, 1, none⟩ (.int .i64 10)).setCell ⟨g37, 2, none⟩ (.int .i64 4)).setCell ⟨g37, 3, none⟩ (.int .i64 20)).setCell ⟨g37, 4, none⟩ (.int .i64 1)).heap[g37]? = some (.cells #[.int .i64 4, .int .i64 10, .int .i64 4, .int .i64 20, .int .i64 1] 23 (0, 0)) from (blk_put (cs := #[.int .i64 4, .int .i64 10, .int .i64 4, .int .i64 20, .int .i64 0]) (blk_put (cs := #[.int .i64 4, .int .i64 10, .int .i64 4, .int .i64 0, .int .i64 0]) (blk_put (cs := #[.int .i64 4, .int .i64 10, .int .i64 0, .int .i64 0, .int .i64 0]) (blk_put (cs := #[.int .i64 4, .int .i64 0, .int .i64 0, .int .i64 0, .int .i64 0]) (blk_put (cs := #[.int .i64 0, .int .i64 0, .int .i64 0, .int .i64 0, .int .i64 0]) Y20.out 0 (.int .i64 4) rfl) 1 (.int .i64 10) rfl) 2 (.int .i64 4) rfl) 3 (.int .i64 20) rfl) 4 (.int .i64 1) rfl))
  have B20 := Aside0.mk (B19.out.trans (hb20.mono B19.out.size))
  clear s0 s1 s2 s3 s4 t0 t1 t2 t3 t4 hz20 hb20 Y20 E20 G20 D20 HV20 B19 c0 c1 c2 c3 c4
  generalize (((((y20.setCell ⟨g37, 0, none⟩ (.int .i64 4)).setCell ⟨g37, 1, none⟩ (.int .i64 10)).setCell ⟨g37, 2, none⟩ (.int .i64 4)).setCell ⟨g37, 3, none⟩ (.int .i64 20)).setCell ⟨g37, 4, none⟩ (.int .i64 1)) = w20 at B20 X7 X9 X13 X21 X25 X27 X29 X31 X35 X37 ⊢
  have HV21 := Aside0.mk (show cbs_Turn.f 5 4 10 0 10 2 35 = some (4 , 10 , 4 , 40 , 1 , true) from by decide +kernel)
  have c0 := blk_cell X35.out 0
  have c1 := blk_cell X35.out 1
  have c2 := blk_cell X35.out 2
  have c3 := blk_cell X35.out 3
  have c4 := blk_cell X35.out 4
  go_upto_region 23 with (first | (go_at_call 13; (with_reducible refine (cbs_Turn.calls 5 4 10 0 10 2 35 4 10 4 40 1 true w20 HV21.out).mono ?_); rintro e v21 ⟨rfl, hb21⟩; have D21 := Aside0.mk hb21; clear hb21) | ((with_reducible refine gate_dst (N := 39) rfl ?_); refine box_event ?hg (N := 39) ?hd (cs := #[.int .i64 0, .int .i64 0, .int .i64 0, .int .i64 0, .int .i64 0]) (t := 23) ?hr ?_; (case hd => rfl); (case hg => rfl); (case hr => first | (go_simp; done) | (go_simp; rfl)); intro g39 hg21 y21 hx21 hb21; have Y21 := Aside0.mk hx21; have E21 := Aside0.mk hb21; have G21 := Aside0.mk hg21; have s0 := blk_cell hx21 0; have t0 := blk_frozen hx21 0; have s1 := blk_cell hx21 1; have t1 := blk_frozen hx21 1; have s2 := blk_cell hx21 2; have t2 := blk_frozen hx21 2; have s3 := blk_cell hx21 3; have t3 := blk_frozen hx21 3; have s4 := blk_cell hx21 4; have t4 := blk_frozen hx21 4; clear hx21 hb21 hg21))
  have hz21 : w20.heap.size ≤ g39 := by have := G21.out; have := D21.out.size; omega
  have hb21 : Below w20.heap.size w20 (((((y21.setCell ⟨g39, 0, none⟩ (.int .i64 4)).setCell ⟨g39, 1, none⟩ (.int .i64 10)).setCell ⟨g39, 2, none⟩ (.int .i64 4)).setCell ⟨g39, 3, none⟩ (.int .i64 40)).setCell ⟨g39, 4, none⟩ (.int .i64 1)) := (((((((D21.out.trans (E21.out.mono D21.out.size)).setCell hz21 _).setCell hz21 _).setCell hz21 _).setCell hz21 _).setCell hz21 _))
  replace X7 := Aside0.mk ((hb21.block _ (blk_lt X7.out)).trans X7.out)
  replace X9 := Aside0.mk ((hb21.block _ (blk_lt X9.out)).trans X9.out)
  replace X13 := Aside0.mk ((hb21.block _ (blk_lt X13.out)).trans X13.out)
  replace X21 := Aside0.mk ((hb21.block _ (blk_lt X21.out)).trans X21.out)
  replace X25 := Aside0.mk ((hb21.block _ (blk_lt X25.out)).trans X25.out)
  replace X27 := Aside0.mk ((hb21.block _ (blk_lt X27.out)).trans X27.out)
  replace X29 := Aside0.mk ((hb21.block _ (blk_lt X29.out)).trans X29.out)
  replace X31 := Aside0.mk ((hb21.block _ (blk_lt X31.out)).trans X31.out)
  replace X35 := Aside0.mk ((hb21.block _ (blk_lt X35.out)).trans X35.out)
  replace X37 := Aside0.mk ((hb21.block _ (blk_lt X37.out)).trans X37.out)
  have X39 := Aside0.mk (show (((((y21.setCell ⟨g39, 0, none⟩ (.int .i64 4)).setCell ⟨g39, 1, none⟩ (.int .i64 10)).setCell ⟨g39, 2, none⟩ (.int .i64 4)).setCell ⟨g39, 3, none⟩ (.int .i64 40)).setCell ⟨g39, 4, none⟩ (.int .i64 1)).heap[g39]? = some (.cells #[.int .i64 4, .int .i64 10, .int .i64 4, .int .i64 40, .int .i64 1] 23 (0, 0)) from (blk_put (cs := #[.int .i64 4, .int .i64 10, .int .i64 4, .int .i64 40, .int .i64 0]) (blk_put (cs := #[.int .i64 4, .int .i64 10, .int .i64 4, .int .i64 0, .int .i64 0]) (blk_put (cs := #[.int .i64 4, .int .i64 10, .int .i64 0, .int .i64 0, .int .i64 0]) (blk_put (cs := #[.int .i64 4, .int .i64 0, .int .i64 0, .int .i64 0, .int .i64 0]) (blk_put (cs := #[.int .i64 0, .int .i64 0, .int .i64 0, .int .i64 0, .int .i64 0]) Y21.out 0 (.int .i64 4) rfl) 1 (.int .i64 10) rfl) 2 (.int .i64 4) rfl) 3 (.int .i64 40) rfl) 4 (.int .i64 1) rfl))
  have B21 := Aside0.mk (B20.out.trans (hb21.mono B20.out.size))
  clear s0 s1 s2 s3 s4 t0 t1 t2 t3 t4 hz21 hb21 Y21 E21 G21 D21 HV21 B20 c0 c1 c2 c3 c4
  generalize (((((y21.setCell ⟨g39, 0, none⟩ (.int .i64 4)).setCell ⟨g39, 1, none⟩ (.int .i64 10)).setCell ⟨g39, 2, none⟩ (.int .i64 4)).setCell ⟨g39, 3, none⟩ (.int .i64 40)).setCell ⟨g39, 4, none⟩ (.int .i64 1)) = w21 at B21 X7 X9 X13 X21 X25 X27 X29 X31 X35 X37 X39 ⊢
  have HV22 := Aside0.mk (show cbs_Turn.f 5 4 10 0 10 2 9 = some (4 , 10 , 0 , 10 , 2 , false) from by decide +kernel)
  have c0 := blk_cell X35.out 0
  have c1 := blk_cell X35.out 1
  have c2 := blk_cell X35.out 2
  have c3 := blk_cell X35.out 3
  have c4 := blk_cell X35.out 4
  go_upto_region 24 with (first | (go_at_call 13; (with_reducible refine (cbs_Turn.calls 5 4 10 0 10 2 9 4 10 0 10 2 false w21 HV22.out).mono ?_); rintro e v22 ⟨rfl, hb22⟩; have D22 := Aside0.mk hb22; clear hb22) | ((with_reducible refine gate_dst (N := 41) rfl ?_); refine box_event ?hg (N := 41) ?hd (cs := #[.int .i64 0, .int .i64 0, .int .i64 0, .int .i64 0, .int .i64 0]) (t := 23) ?hr ?_; (case hd => rfl); (case hg => rfl); (case hr => first | (go_simp; done) | (go_simp; rfl)); intro g41 hg22 y22 hx22 hb22; have Y22 := Aside0.mk hx22; have E22 := Aside0.mk hb22; have G22 := Aside0.mk hg22; have s0 := blk_cell hx22 0; have t0 := blk_frozen hx22 0; have s1 := blk_cell hx22 1; have t1 := blk_frozen hx22 1; have s2 := blk_cell hx22 2; have t2 := blk_frozen hx22 2; have s3 := blk_cell hx22 3; have t3 := blk_frozen hx22 3; have s4 := blk_cell hx22 4; have t4 := blk_frozen hx22 4; clear hx22 hb22 hg22))
  have hz22 : w21.heap.size ≤ g41 := by have := G22.out; have := D22.out.size; omega
  have hb22 : Below w21.heap.size w21 (((((y22.setCell ⟨g41, 0, none⟩ (.int .i64 4)).setCell ⟨g41, 1, none⟩ (.int .i64 10)).setCell ⟨g41, 2, none⟩ (.int .i64 0)).setCell ⟨g41, 3, none⟩ (.int .i64 10)).setCell ⟨g41, 4, none⟩ (.int .i64 2)) := (((((((D22.out.trans (E22.out.mono D22.out.size)).setCell hz22 _).setCell hz22 _).setCell hz22 _).setCell hz22 _).setCell hz22 _))
  replace X7 := Aside0.mk ((hb22.block _ (blk_lt X7.out)).trans X7.out)
  replace X9 := Aside0.mk ((hb22.block _ (blk_lt X9.out)).trans X9.out)
  replace X13 := Aside0.mk ((hb22.block _ (blk_lt X13.out)).trans X13.out)
  replace X21 := Aside0.mk ((hb22.block _ (blk_lt X21.out)).trans X21.out)
  replace X25 := Aside0.mk ((hb22.block _ (blk_lt X25.out)).trans X25.out)
  replace X27 := Aside0.mk ((hb22.block _ (blk_lt X27.out)).trans X27.out)
  replace X29 := Aside0.mk ((hb22.block _ (blk_lt X29.out)).trans X29.out)
  replace X31 := Aside0.mk ((hb22.block _ (blk_lt X31.out)).trans X31.out)
  replace X35 := Aside0.mk ((hb22.block _ (blk_lt X35.out)).trans X35.out)
  replace X37 := Aside0.mk ((hb22.block _ (blk_lt X37.out)).trans X37.out)
  replace X39 := Aside0.mk ((hb22.block _ (blk_lt X39.out)).trans X39.out)
  have B22 := Aside0.mk (B21.out.trans (hb22.mono B21.out.size))
  clear s0 s1 s2 s3 s4 t0 t1 t2 t3 t4 hz22 hb22 Y22 E22 G22 D22 HV22 B21 c0 c1 c2 c3 c4
  generalize (((((y22.setCell ⟨g41, 0, none⟩ (.int .i64 4)).setCell ⟨g41, 1, none⟩ (.int .i64 10)).setCell ⟨g41, 2, none⟩ (.int .i64 0)).setCell ⟨g41, 3, none⟩ (.int .i64 10)).setCell ⟨g41, 4, none⟩ (.int .i64 2)) = w22 at B22 X7 X9 X13 X21 X25 X27 X29 X31 X35 X37 X39 ⊢
  have HV23 := Aside0.mk (show cbs_Turn.f 5 4 10 3 10 0 99 = some (4 , 10 , 3 , 10 , 0 , false) from by decide +kernel)
  have c0 := blk_cell X21.out 0
  have c1 := blk_cell X21.out 1
  have c2 := blk_cell X21.out 2
  have c3 := blk_cell X21.out 3
  have c4 := blk_cell X21.out 4
  go_upto_region 25 with (first | (go_at_call 13; (with_reducible refine (cbs_Turn.calls 5 4 10 3 10 0 99 4 10 3 10 0 false w22 HV23.out).mono ?_); rintro e v23 ⟨rfl, hb23⟩; have D23 := Aside0.mk hb23; clear hb23) | ((with_reducible refine gate_dst (N := 43) rfl ?_); refine box_event ?hg (N := 43) ?hd (cs := #[.int .i64 0, .int .i64 0, .int .i64 0, .int .i64 0, .int .i64 0]) (t := 23) ?hr ?_; (case hd => rfl); (case hg => rfl); (case hr => first | (go_simp; done) | (go_simp; rfl)); intro g43 hg23 y23 hx23 hb23; have Y23 := Aside0.mk hx23; have E23 := Aside0.mk hb23; have G23 := Aside0.mk hg23; have s0 := blk_cell hx23 0; have t0 := blk_frozen hx23 0; have s1 := blk_cell hx23 1; have t1 := blk_frozen hx23 1; have s2 := blk_cell hx23 2; have t2 := blk_frozen hx23 2; have s3 := blk_cell hx23 3; have t3 := blk_frozen hx23 3; have s4 := blk_cell hx23 4; have t4 := blk_frozen hx23 4; clear hx23 hb23 hg23))
  have hz23 : w22.heap.size ≤ g43 := by have := G23.out; have := D23.out.size; omega
  have hb23 : Below w22.heap.size w22 (((((y23.setCell ⟨g43, 0, none⟩ (.int .i64 4)).setCell ⟨g43, 1, none⟩ (.int .i64 10)).setCell ⟨g43, 2, none⟩ (.int .i64 3)).setCell ⟨g43, 3, none⟩ (.int .i64 10)).setCell ⟨g43, 4, none⟩ (.int .i64 0)) := (((((((D23.out.trans (E23.out.mono D23.out.size)).setCell hz23 _).setCell hz23 _).setCell hz23 _).setCell hz23 _).setCell hz23 _))
  replace X7 := Aside0.mk ((hb23.block _ (blk_lt X7.out)).trans X7.out)
  replace X9 := Aside0.mk ((hb23.block _ (blk_lt X9.out)).trans X9.out)
  replace X13 := Aside0.mk ((hb23.block _ (blk_lt X13.out)).trans X13.out)
  replace X21 := Aside0.mk ((hb23.block _ (blk_lt X21.out)).trans X21.out)
  replace X25 := Aside0.mk ((hb23.block _ (blk_lt X25.out)).trans X25.out)
  replace X27 := Aside0.mk ((hb23.block _ (blk_lt X27.out)).trans X27.out)
  replace X29 := Aside0.mk ((hb23.block _ (blk_lt X29.out)).trans X29.out)
  replace X31 := Aside0.mk ((hb23.block _ (blk_lt X31.out)).trans X31.out)
  replace X35 := Aside0.mk ((hb23.block _ (blk_lt X35.out)).trans X35.out)
  replace X37 := Aside0.mk ((hb23.block _ (blk_lt X37.out)).trans X37.out)
  replace X39 := Aside0.mk ((hb23.block _ (blk_lt X39.out)).trans X39.out)
  have B23 := Aside0.mk (B22.out.trans (hb23.mono B22.out.size))
  clear s0 s1 s2 s3 s4 t0 t1 t2 t3 t4 hz23 hb23 Y23 E23 G23 D23 HV23 B22 c0 c1 c2 c3 c4
  generalize (((((y23.setCell ⟨g43, 0, none⟩ (.int .i64 4)).setCell ⟨g43, 1, none⟩ (.int .i64 10)).setCell ⟨g43, 2, none⟩ (.int .i64 3)).setCell ⟨g43, 3, none⟩ (.int .i64 10)).setCell ⟨g43, 4, none⟩ (.int .i64 0)) = w23 at B23 X7 X9 X13 X21 X25 X27 X29 X31 X35 X37 X39 ⊢
  have HV24 := Aside0.mk (show cbs_Wait.f 4 10 4 10 1  = some (4 , 10 , 4 , 10 , 2 , 0) from by decide +kernel)
  have c0 := blk_cell X9.out 0
  have c1 := blk_cell X9.out 1
  have c2 := blk_cell X9.out 2
  have c3 := blk_cell X9.out 3
  have c4 := blk_cell X9.out 4
  go_upto_region 26 with (first | (go_at_call 16; (with_reducible refine (cbs_Wait.calls 4 10 4 10 1  4 10 4 10 2 0 w23 HV24.out).mono ?_); rintro e v24 ⟨rfl, hb24⟩; have D24 := Aside0.mk hb24; clear hb24) | ((with_reducible refine gate_dst (N := 45) rfl ?_); refine box_event ?hg (N := 45) ?hd (cs := #[.int .i64 0, .int .i64 0, .int .i64 0, .int .i64 0, .int .i64 0]) (t := 23) ?hr ?_; (case hd => rfl); (case hg => rfl); (case hr => first | (go_simp; done) | (go_simp; rfl)); intro g45 hg24 y24 hx24 hb24; have Y24 := Aside0.mk hx24; have E24 := Aside0.mk hb24; have G24 := Aside0.mk hg24; have s0 := blk_cell hx24 0; have t0 := blk_frozen hx24 0; have s1 := blk_cell hx24 1; have t1 := blk_frozen hx24 1; have s2 := blk_cell hx24 2; have t2 := blk_frozen hx24 2; have s3 := blk_cell hx24 3; have t3 := blk_frozen hx24 3; have s4 := blk_cell hx24 4; have t4 := blk_frozen hx24 4; clear hx24 hb24 hg24))
  have hz24 : w23.heap.size ≤ g45 := by have := G24.out; have := D24.out.size; omega
  have hb24 : Below w23.heap.size w23 (((((y24.setCell ⟨g45, 0, none⟩ (.int .i64 4)).setCell ⟨g45, 1, none⟩ (.int .i64 10)).setCell ⟨g45, 2, none⟩ (.int .i64 4)).setCell ⟨g45, 3, none⟩ (.int .i64 10)).setCell ⟨g45, 4, none⟩ (.int .i64 2)) := (((((((D24.out.trans (E24.out.mono D24.out.size)).setCell hz24 _).setCell hz24 _).setCell hz24 _).setCell hz24 _).setCell hz24 _))
  replace X7 := Aside0.mk ((hb24.block _ (blk_lt X7.out)).trans X7.out)
  replace X9 := Aside0.mk ((hb24.block _ (blk_lt X9.out)).trans X9.out)
  replace X13 := Aside0.mk ((hb24.block _ (blk_lt X13.out)).trans X13.out)
  replace X21 := Aside0.mk ((hb24.block _ (blk_lt X21.out)).trans X21.out)
  replace X25 := Aside0.mk ((hb24.block _ (blk_lt X25.out)).trans X25.out)
  replace X27 := Aside0.mk ((hb24.block _ (blk_lt X27.out)).trans X27.out)
  replace X29 := Aside0.mk ((hb24.block _ (blk_lt X29.out)).trans X29.out)
  replace X31 := Aside0.mk ((hb24.block _ (blk_lt X31.out)).trans X31.out)
  replace X35 := Aside0.mk ((hb24.block _ (blk_lt X35.out)).trans X35.out)
  replace X37 := Aside0.mk ((hb24.block _ (blk_lt X37.out)).trans X37.out)
  replace X39 := Aside0.mk ((hb24.block _ (blk_lt X39.out)).trans X39.out)
  have X45 := Aside0.mk (show (((((y24.setCell ⟨g45, 0, none⟩ (.int .i64 4)).setCell ⟨g45, 1, none⟩ (.int .i64 10)).setCell ⟨g45, 2, none⟩ (.int .i64 4)).setCell ⟨g45, 3, none⟩ (.int .i64 10)).setCell ⟨g45, 4, none⟩ (.int .i64 2)).heap[g45]? = some (.cells #[.int .i64 4, .int .i64 10, .int .i64 4, .int .i64 10, .int .i64 2] 23 (0, 0)) from (blk_put (cs := #[.int .i64 4, .int .i64 10, .int .i64 4, .int .i64 10, .int .i64 0]) (blk_put (cs := #[.int .i64 4, .int .i64 10, .int .i64 4, .int .i64 0, .int .i64 0]) (blk_put (cs := #[.int .i64 4, .int .i64 10, .int .i64 0, .int .i64 0, .int .i64 0]) (blk_put (cs := #[.int .i64 4, .int .i64 0, .int .i64 0, .int .i64 0, .int .i64 0]) (blk_put (cs := #[.int .i64 0, .int .i64 0, .int .i64 0, .int .i64 0, .int .i64 0]) Y24.out 0 (.int .i64 4) rfl) 1 (.int .i64 10) rfl) 2 (.int .i64 4) rfl) 3 (.int .i64 10) rfl) 4 (.int .i64 2) rfl))
  have B24 := Aside0.mk (B23.out.trans (hb24.mono B23.out.size))
  clear s0 s1 s2 s3 s4 t0 t1 t2 t3 t4 hz24 hb24 Y24 E24 G24 D24 HV24 B23 c0 c1 c2 c3 c4
  generalize (((((y24.setCell ⟨g45, 0, none⟩ (.int .i64 4)).setCell ⟨g45, 1, none⟩ (.int .i64 10)).setCell ⟨g45, 2, none⟩ (.int .i64 4)).setCell ⟨g45, 3, none⟩ (.int .i64 10)).setCell ⟨g45, 4, none⟩ (.int .i64 2)) = w24 at B24 X7 X9 X13 X21 X25 X27 X29 X31 X35 X37 X39 X45 ⊢
  have HV25 := Aside0.mk (show cbs_Wait.f 4 10 4 10 2  = some (4 , 10 , 4 , 10 , 2 , 4) from by decide +kernel)
  have c0 := blk_cell X45.out 0
  have c1 := blk_cell X45.out 1
  have c2 := blk_cell X45.out 2
  have c3 := blk_cell X45.out 3
  have c4 := blk_cell X45.out 4
  have HVL0 := Aside0.mk (show cbs_Less.f 4 10 4 10 1 4 10 4 20 1 = some true from by decide +kernel)
  have HVL1 := Aside0.mk (show cbs_Less.f 4 10 4 20 1 4 10 4 10 1 = some false from by decide +kernel)
  have HVG := Aside0.mk (show cbs_Good.f 1 1 0 0 1 = some false from by decide +kernel)
  go_wp2_with (first | (go_at_call 16; (with_reducible refine (cbs_Wait.calls 4 10 4 10 2  4 10 4 10 2 4 w24 HV25.out).mono ?_); rintro e v25 ⟨rfl, hb25⟩; have D25 := Aside0.mk hb25; clear hb25) | ((with_reducible refine gate_dst (N := 47) rfl ?_); refine box_event ?hg (N := 47) ?hd (cs := #[.int .i64 0, .int .i64 0, .int .i64 0, .int .i64 0, .int .i64 0]) (t := 23) ?hr ?_; (case hd => rfl); (case hg => rfl); (case hr => first | (go_simp; done) | (go_simp; rfl)); intro g47 hg25 y25 hx25 hb25; have Y25 := Aside0.mk hx25; have E25 := Aside0.mk hb25; have G25 := Aside0.mk hg25; have s0 := blk_cell hx25 0; have t0 := blk_frozen hx25 0; have s1 := blk_cell hx25 1; have t1 := blk_frozen hx25 1; have s2 := blk_cell hx25 2; have t2 := blk_frozen hx25 2; have s3 := blk_cell hx25 3; have t3 := blk_frozen hx25 3; have s4 := blk_cell hx25 4; have t4 := blk_frozen hx25 4; clear hx25 hb25 hg25; refine store_event (((((y25.setCell ⟨g47, 0, none⟩ (.int .i64 4)).setCell ⟨g47, 1, none⟩ (.int .i64 10)).setCell ⟨g47, 2, none⟩ (.int .i64 4)).setCell ⟨g47, 3, none⟩ (.int .i64 10)).setCell ⟨g47, 4, none⟩ (.int .i64 2)) rfl (by first | (go_simp; done) | (go_simp; rfl)) ?_; clear s0 s1 s2 s3 s4 t0 t1 t2 t3 t4 c0 c1 c2 c3 c4; have hz : w24.heap.size ≤ g47 := (by have h1 := G25.out; have h2 := D25.out.size; omega); have hb : Below w24.heap.size w24 (((((y25.setCell ⟨g47, 0, none⟩ (.int .i64 4)).setCell ⟨g47, 1, none⟩ (.int .i64 10)).setCell ⟨g47, 2, none⟩ (.int .i64 4)).setCell ⟨g47, 3, none⟩ (.int .i64 10)).setCell ⟨g47, 4, none⟩ (.int .i64 2)) := (((((((D25.out.trans (E25.out.mono D25.out.size)).setCell hz _).setCell hz _).setCell hz _).setCell hz _).setCell hz _)); have U9 := Aside0.mk ((hb.block _ (blk_lt X9.out)).trans X9.out); have U13 := Aside0.mk ((hb.block _ (blk_lt X13.out)).trans X13.out); have U25 := Aside0.mk ((hb.block _ (blk_lt X25.out)).trans X25.out); have U27 := Aside0.mk ((hb.block _ (blk_lt X27.out)).trans X27.out); have U29 := Aside0.mk ((hb.block _ (blk_lt X29.out)).trans X29.out); have U31 := Aside0.mk ((hb.block _ (blk_lt X31.out)).trans X31.out); have U35 := Aside0.mk ((hb.block _ (blk_lt X35.out)).trans X35.out); have U37 := Aside0.mk ((hb.block _ (blk_lt X37.out)).trans X37.out); have U39 := Aside0.mk ((hb.block _ (blk_lt X39.out)).trans X39.out); have U45 := Aside0.mk ((hb.block _ (blk_lt X45.out)).trans X45.out); have BZ := Aside0.mk (B24.out.trans (hb.mono B24.out.size)); clear hz hb; generalize (((((y25.setCell ⟨g47, 0, none⟩ (.int .i64 4)).setCell ⟨g47, 1, none⟩ (.int .i64 10)).setCell ⟨g47, 2, none⟩ (.int .i64 4)).setCell ⟨g47, 3, none⟩ (.int .i64 10)).setCell ⟨g47, 4, none⟩ (.int .i64 2)) = wz at BZ U9 U13 U25 U27 U29 U31 U35 U37 U39 U45 ⊢; have z9_0 := blk_cell U9.out 0; have z9_1 := blk_cell U9.out 1; have z9_2 := blk_cell U9.out 2; have z9_3 := blk_cell U9.out 3; have z9_4 := blk_cell U9.out 4; have z13_0 := blk_cell U13.out 0; have z13_1 := blk_cell U13.out 1; have z13_2 := blk_cell U13.out 2; have z13_3 := blk_cell U13.out 3; have z13_4 := blk_cell U13.out 4; have z25_0 := blk_cell U25.out 0; have z25_1 := blk_cell U25.out 1; have z25_2 := blk_cell U25.out 2; have z25_3 := blk_cell U25.out 3; have z25_4 := blk_cell U25.out 4; have z27_0 := blk_cell U27.out 0; have z27_1 := blk_cell U27.out 1; have z27_2 := blk_cell U27.out 2; have z27_3 := blk_cell U27.out 3; have z27_4 := blk_cell U27.out 4; have z29_0 := blk_cell U29.out 0; have z29_1 := blk_cell U29.out 1; have z29_2 := blk_cell U29.out 2; have z29_3 := blk_cell U29.out 3; have z29_4 := blk_cell U29.out 4; have z31_0 := blk_cell U31.out 0; have z31_1 := blk_cell U31.out 1; have z31_2 := blk_cell U31.out 2; have z31_3 := blk_cell U31.out 3; have z31_4 := blk_cell U31.out 4; have z35_0 := blk_cell U35.out 0; have z35_1 := blk_cell U35.out 1; have z35_2 := blk_cell U35.out 2; have z35_3 := blk_cell U35.out 3; have z35_4 := blk_cell U35.out 4; have z37_0 := blk_cell U37.out 0; have z37_1 := blk_cell U37.out 1; have z37_2 := blk_cell U37.out 2; have z37_3 := blk_cell U37.out 3; have z37_4 := blk_cell U37.out 4; have z39_0 := blk_cell U39.out 0; have z39_1 := blk_cell U39.out 1; have z39_2 := blk_cell U39.out 2; have z39_3 := blk_cell U39.out 3; have z39_4 := blk_cell U39.out 4; have z45_0 := blk_cell U45.out 0; have z45_1 := blk_cell U45.out 1; have z45_2 := blk_cell U45.out 2; have z45_3 := blk_cell U45.out 3; have z45_4 := blk_cell U45.out 4) | (go_at_call 17; (with_reducible refine (cbs_Less.calls 4 10 4 10 1 4 10 4 20 1 true _ HVL0.out).mono ?_); rintro e q0 ⟨rfl, hq0⟩; have QB0 := Aside0.mk hq0; have u37 := (hq0.block _ (blk_lt U37.out)).trans U37.out; have u9 := (hq0.block _ (blk_lt U9.out)).trans U9.out; have m37_0 := blk_cell u37 0; have m9_0 := blk_cell u9 0; have m37_1 := blk_cell u37 1; have m9_1 := blk_cell u9 1; have m37_2 := blk_cell u37 2; have m9_2 := blk_cell u9 2; have m37_3 := blk_cell u37 3; have m9_3 := blk_cell u9 3; have m37_4 := blk_cell u37 4; have m9_4 := blk_cell u9 4; clear hq0 u37 u9) | (go_at_call 17; (with_reducible refine (cbs_Less.calls 4 10 4 20 1 4 10 4 10 1 false _ HVL1.out).mono ?_); rintro e q1 ⟨rfl, hq1⟩; have QB1 := Aside0.mk hq1; clear hq1) | (go_at_call 10; (with_reducible refine (cbs_Good.calls 1 1 0 0 1 false _ HVG.out).mono ?_); rintro e q2 ⟨rfl, hq2⟩; have QG := Aside0.mk hq2; clear hq2))
  go_ret
  exact ⟨rfl, ((BZ.out.trans (QB0.out.mono BZ.out.size)).trans (QB1.out.mono (BZ.out.trans (QB0.out.mono BZ.out.size)).size)).trans (QG.out.mono ((BZ.out.trans (QB0.out.mono BZ.out.size)).trans (QB1.out.mono (BZ.out.trans (QB0.out.mono BZ.out.size)).size)).size)⟩
end Go.Proofs.Ytofbjgkoaiiagaa.Cbs
