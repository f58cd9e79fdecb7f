/- The reference's Wake at a good server, path by path (no law is stated here; each says its conditions). -/
import Derived.Test.YtofbjgkoaiiagaaPureCbsSays
import Derived.Test.YtofbjgkoaiiagaaQx27
import Derived.Deep.DeepCutAuto
namespace Go.Proofs.Ytofbjgkoaiiagaa.CbsS
open Go.RowKit Go.Proofs.YtofbjgkoaiiagaaW.PrintWords Go.Proofs.YtofbjgkoaiiagaaW.PrintLast Go.Proofs.YtofbjgkoaiiagaaW.PrintMore Go.Proofs.Ytofbjgkoaiiagaa.Q
set_option linter.unusedVariables false
set_option linter.unusedSimpArgs false
attribute [local go_sem] max2_int min2_int max_two min_two max_three min_three max_four min_four

section
variable {P : Program} {ops : Array Oper} {rest : List Oper} {o : Oper} {a : Act} {Q : Exit → Act → World → Prop} {W : World}
/-- A store, as an event: the world behind it is named. -/
theorem store_event (W1 : World) (hgd : o.guard = none) (hrun : (execOp a.eval o).run P W = .ok .skip W1) (h : wpList P ops Q rest (a.put o.dst undef) W1) : wpList P ops Q (o :: rest) a W := by
  refine wpList_plain hgd fun K hK => ?_
  unfold Oper.wp
  rw [hrun]
  exact hK _ _ h
end
set_option maxHeartbeats 2000000 in
set_option maxRecDepth 100000 in
theorem rw_t (q p b d m t : Int) (w : World) (hG : beadleref10_GoodServer.f q p b d m = some true) (hT : beadleref1_Good.f t = some false) :
    Calls Try.prog 19 #[.agg #[.int .i64 q, .int .i64 p, .int .i64 b, .int .i64 d, .int .i64 m], .int .i64 t] w fun e w' => e = .returned (.tuple #[.agg #[.int .i64 q, .int .i64 p, .int .i64 b, .int .i64 d, .int .i64 m], .int .i64 1]) ∧ Below w.heap.size w w' := by
  have HG := Aside0.mk hG
  have HT := Aside0.mk hT
  clear hG hT
  go_enter Try.func19, Try.ntmps19
  go_upto_region 2 with (first | ((with_reducible refine gate_dst (N := 2) rfl ?_); refine box_event ?hg (N := 2) ?hd (cs := #[.int .i64 q, .int .i64 p, .int .i64 b, .int .i64 d, .int .i64 m]) (t := 40) ?hr ?_; (case hd => rfl); (case hg => rfl); (case hr => first | (go_simp; done) | (go_simp; rfl)); intro g2 hg2 w2 hx2 hb2; have G2 := Aside0.mk hg2; have X2 := Aside0.mk hx2; have D2 := Aside0.mk hb2; clear hx2 hb2 hg2; have c0 := blk_cell X2.out 0; have c1 := blk_cell X2.out 1; have c2 := blk_cell X2.out 2; have c3 := blk_cell X2.out 3; have c4 := blk_cell X2.out 4) | ((with_reducible refine gate_dst (N := 4) rfl ?_); refine box_event ?hg (N := 4) ?hd (cs := #[.int .i64 0, .int .i64 0, .int .i64 0, .int .i64 0, .int .i64 0]) (t := 40) ?hr ?_; (case hd => rfl); (case hg => rfl); (case hr => first | (go_simp; done) | (go_simp; rfl)); intro g4 hg4 w4 hx4 hb4; have G4 := Aside0.mk hg4; have X4 := Aside0.mk hx4; have D4 := Aside0.mk hb4; clear hx4 hb4 hg4; clear c0 c1 c2 c3 c4; replace X2 := Aside0.mk ((D4.out.block _ (blk_lt X2.out)).trans X2.out); have c0 := blk_cell X2.out 0; have c1 := blk_cell X2.out 1; have c2 := blk_cell X2.out 2; have c3 := blk_cell X2.out 3; have c4 := blk_cell X2.out 4) | (go_at_call 25; (with_reducible refine (beadleref10_GoodServer.calls q p b d m true _ HG.out).mono ?_); rintro e w5 ⟨rfl, hb5⟩; have D5 := Aside0.mk hb5; clear hb5 c0 c1 c2 c3 c4) | (go_at_call 32; (with_reducible refine (beadleref1_Good.calls t false _ HT.out).mono ?_); rintro e w6 ⟨rfl, hd6⟩; have D6 := Aside0.mk (Drawn0.below hd6); clear hd6))
  have hlt : w.heap.size ≤ g4 := by have := G4.out; have := D2.out.size; omega
  replace X2 := Aside0.mk ((D6.out.block _ (blk_lt ((D5.out.block _ (blk_lt X2.out)).trans X2.out))).trans ((D5.out.block _ (blk_lt X2.out)).trans X2.out))
  replace X4 := Aside0.mk ((D6.out.block _ (blk_lt ((D5.out.block _ (blk_lt X4.out)).trans X4.out))).trans ((D5.out.block _ (blk_lt X4.out)).trans X4.out))
  have FAR := Aside0.mk (show Below w.heap.size w w6 from ((D2.out.trans (D4.out.mono D2.out.size)).trans (D5.out.mono (D2.out.trans (D4.out.mono D2.out.size)).size)).trans (D6.out.mono ((D2.out.trans (D4.out.mono D2.out.size)).trans (D5.out.mono (D2.out.trans (D4.out.mono D2.out.size)).size)).size))
  clear D2 D4 D5 D6 G2 G4
  have c0 := blk_cell X2.out 0
  have c1 := blk_cell X2.out 1
  have c2 := blk_cell X2.out 2
  have c3 := blk_cell X2.out 3
  have c4 := blk_cell X2.out 4
  have s0 := blk_cell X4.out 0
  have s1 := blk_cell X4.out 1
  have s2 := blk_cell X4.out 2
  have s3 := blk_cell X4.out 3
  have s4 := blk_cell X4.out 4
  have t0 := blk_frozen X4.out 0
  have t1 := blk_frozen X4.out 1
  have t2 := blk_frozen X4.out 2
  have t3 := blk_frozen X4.out 3
  have t4 := blk_frozen X4.out 4
  go_wp2
  refine bodyPost_ret (results_ct rfl _ _ g4 40 #[.int .i64 q, .int .i64 p, .int .i64 b, .int .i64 d, .int .i64 m] (0, 0) _ rfl (blk_put (cs := #[.int .i64 q, .int .i64 p, .int .i64 b, .int .i64 d, .int .i64 0]) (blk_put (cs := #[.int .i64 q, .int .i64 p, .int .i64 b, .int .i64 0, .int .i64 0]) (blk_put (cs := #[.int .i64 q, .int .i64 p, .int .i64 0, .int .i64 0, .int .i64 0]) (blk_put (cs := #[.int .i64 q, .int .i64 0, .int .i64 0, .int .i64 0, .int .i64 0]) (blk_put (cs := #[.int .i64 0, .int .i64 0, .int .i64 0, .int .i64 0, .int .i64 0]) X4.out 0 (.int .i64 q) rfl) 1 (.int .i64 p) rfl) 2 (.int .i64 b) rfl) 3 (.int .i64 d) rfl) 4 (.int .i64 m) rfl) Try.underlying40 rfl (by kernel_rfl)) rfl ?_
  exact ⟨rfl, (((((FAR.out.setCell hlt _).setCell hlt _).setCell hlt _).setCell hlt _).setCell hlt _)⟩
set_option maxHeartbeats 2000000 in
set_option maxRecDepth 100000 in
theorem rw_m (q p b d m t : Int) (w : World) (hG : beadleref10_GoodServer.f q p b d m = some true) (hT : beadleref1_Good.f t = some true) (hm : (m != 0) = true) :
    Calls Try.prog 19 #[.agg #[.int .i64 q, .int .i64 p, .int .i64 b, .int .i64 d, .int .i64 m], .int .i64 t] w fun e w' => e = .returned (.tuple #[.agg #[.int .i64 q, .int .i64 p, .int .i64 b, .int .i64 d, .int .i64 m], .int .i64 5]) ∧ Below w.heap.size w w' := by
  have HG := Aside0.mk hG
  have HT := Aside0.mk hT
  clear hG hT
  go_enter Try.func19, Try.ntmps19
  go_upto_region 3 with (first | ((with_reducible refine gate_dst (N := 2) rfl ?_); refine box_event ?hg (N := 2) ?hd (cs := #[.int .i64 q, .int .i64 p, .int .i64 b, .int .i64 d, .int .i64 m]) (t := 40) ?hr ?_; (case hd => rfl); (case hg => rfl); (case hr => first | (go_simp; done) | (go_simp; rfl)); intro g2 hg2 w2 hx2 hb2; have G2 := Aside0.mk hg2; have X2 := Aside0.mk hx2; have D2 := Aside0.mk hb2; clear hx2 hb2 hg2; have c0 := blk_cell X2.out 0; have c1 := blk_cell X2.out 1; have c2 := blk_cell X2.out 2; have c3 := blk_cell X2.out 3; have c4 := blk_cell X2.out 4) | ((with_reducible refine gate_dst (N := 4) rfl ?_); refine box_event ?hg (N := 4) ?hd (cs := #[.int .i64 0, .int .i64 0, .int .i64 0, .int .i64 0, .int .i64 0]) (t := 40) ?hr ?_; (case hd => rfl); (case hg => rfl); (case hr => first | (go_simp; done) | (go_simp; rfl)); intro g4 hg4 w4 hx4 hb4; have G4 := Aside0.mk hg4; have X4 := Aside0.mk hx4; have D4 := Aside0.mk hb4; clear hx4 hb4 hg4; clear c0 c1 c2 c3 c4; replace X2 := Aside0.mk ((D4.out.block _ (blk_lt X2.out)).trans X2.out); have c0 := blk_cell X2.out 0; have c1 := blk_cell X2.out 1; have c2 := blk_cell X2.out 2; have c3 := blk_cell X2.out 3; have c4 := blk_cell X2.out 4) | (go_at_call 25; (with_reducible refine (beadleref10_GoodServer.calls q p b d m true _ HG.out).mono ?_); rintro e w5 ⟨rfl, hb5⟩; have D5 := Aside0.mk hb5; clear hb5 c0 c1 c2 c3 c4) | (go_at_call 32; (with_reducible refine (beadleref1_Good.calls t true _ HT.out).mono ?_); rintro e w6 ⟨rfl, hd6⟩; have D6 := Aside0.mk (Drawn0.below hd6); clear hd6))
  have hlt : w.heap.size ≤ g4 := by have := G4.out; have := D2.out.size; omega
  replace X2 := Aside0.mk ((D6.out.block _ (blk_lt ((D5.out.block _ (blk_lt X2.out)).trans X2.out))).trans ((D5.out.block _ (blk_lt X2.out)).trans X2.out))
  replace X4 := Aside0.mk ((D6.out.block _ (blk_lt ((D5.out.block _ (blk_lt X4.out)).trans X4.out))).trans ((D5.out.block _ (blk_lt X4.out)).trans X4.out))
  have FAR := Aside0.mk (show Below w.heap.size w w6 from ((D2.out.trans (D4.out.mono D2.out.size)).trans (D5.out.mono (D2.out.trans (D4.out.mono D2.out.size)).size)).trans (D6.out.mono ((D2.out.trans (D4.out.mono D2.out.size)).trans (D5.out.mono (D2.out.trans (D4.out.mono D2.out.size)).size)).size))
  clear D2 D4 D5 D6 G2 G4
  have c0 := blk_cell X2.out 0
  have c1 := blk_cell X2.out 1
  have c2 := blk_cell X2.out 2
  have c3 := blk_cell X2.out 3
  have c4 := blk_cell X2.out 4
  have s0 := blk_cell X4.out 0
  have s1 := blk_cell X4.out 1
  have s2 := blk_cell X4.out 2
  have s3 := blk_cell X4.out 3
  have s4 := blk_cell X4.out 4
  have t0 := blk_frozen X4.out 0
  have t1 := blk_frozen X4.out 1
  have t2 := blk_frozen X4.out 2
  have t3 := blk_frozen X4.out 3
  have t4 := blk_frozen X4.out 4
  go_wp2
  refine bodyPost_ret (results_ct rfl _ _ g4 40 #[.int .i64 q, .int .i64 p, .int .i64 b, .int .i64 d, .int .i64 m] (0, 0) _ rfl (blk_put (cs := #[.int .i64 q, .int .i64 p, .int .i64 b, .int .i64 d, .int .i64 0]) (blk_put (cs := #[.int .i64 q, .int .i64 p, .int .i64 b, .int .i64 0, .int .i64 0]) (blk_put (cs := #[.int .i64 q, .int .i64 p, .int .i64 0, .int .i64 0, .int .i64 0]) (blk_put (cs := #[.int .i64 q, .int .i64 0, .int .i64 0, .int .i64 0, .int .i64 0]) (blk_put (cs := #[.int .i64 0, .int .i64 0, .int .i64 0, .int .i64 0, .int .i64 0]) X4.out 0 (.int .i64 q) rfl) 1 (.int .i64 p) rfl) 2 (.int .i64 b) rfl) 3 (.int .i64 d) rfl) 4 (.int .i64 m) rfl) Try.underlying40 rfl (by kernel_rfl)) rfl ?_
  exact ⟨rfl, (((((FAR.out.setCell hlt _).setCell hlt _).setCell hlt _).setCell hlt _).setCell hlt _)⟩
set_option maxHeartbeats 2000000 in
set_option maxRecDepth 100000 in
theorem rw_o (q p b d m t : Int) (x : Int) (w : World) (hG : beadleref10_GoodServer.f q p b d m = some true) (hT : beadleref1_Good.f t = some true) (hm : (m != 0) = false) (hd : decide (d ≤ t) = true) (hA : beadleref1_Add.f t p = some (x, false)) :
    Calls Try.prog 19 #[.agg #[.int .i64 q, .int .i64 p, .int .i64 b, .int .i64 d, .int .i64 m], .int .i64 t] w fun e w' => e = .returned (.tuple #[.agg #[.int .i64 q, .int .i64 p, .int .i64 b, .int .i64 d, .int .i64 m], .int .i64 6]) ∧ Below w.heap.size w w' := by
  have HG := Aside0.mk hG
  have HT := Aside0.mk hT
  clear hG hT
  have HA := Aside0.mk hA
  clear hA
  go_enter Try.func19, Try.ntmps19
  go_upto_region 3 with (first | ((with_reducible refine gate_dst (N := 2) rfl ?_); refine box_event ?hg (N := 2) ?hd (cs := #[.int .i64 q, .int .i64 p, .int .i64 b, .int .i64 d, .int .i64 m]) (t := 40) ?hr ?_; (case hd => rfl); (case hg => rfl); (case hr => first | (go_simp; done) | (go_simp; rfl)); intro g2 hg2 w2 hx2 hb2; have G2 := Aside0.mk hg2; have X2 := Aside0.mk hx2; have D2 := Aside0.mk hb2; clear hx2 hb2 hg2; have c0 := blk_cell X2.out 0; have c1 := blk_cell X2.out 1; have c2 := blk_cell X2.out 2; have c3 := blk_cell X2.out 3; have c4 := blk_cell X2.out 4) | ((with_reducible refine gate_dst (N := 4) rfl ?_); refine box_event ?hg (N := 4) ?hd (cs := #[.int .i64 0, .int .i64 0, .int .i64 0, .int .i64 0, .int .i64 0]) (t := 40) ?hr ?_; (case hd => rfl); (case hg => rfl); (case hr => first | (go_simp; done) | (go_simp; rfl)); intro g4 hg4 w4 hx4 hb4; have G4 := Aside0.mk hg4; have X4 := Aside0.mk hx4; have D4 := Aside0.mk hb4; clear hx4 hb4 hg4; clear c0 c1 c2 c3 c4; replace X2 := Aside0.mk ((D4.out.block _ (blk_lt X2.out)).trans X2.out); have c0 := blk_cell X2.out 0; have c1 := blk_cell X2.out 1; have c2 := blk_cell X2.out 2; have c3 := blk_cell X2.out 3; have c4 := blk_cell X2.out 4) | (go_at_call 25; (with_reducible refine (beadleref10_GoodServer.calls q p b d m true _ HG.out).mono ?_); rintro e w5 ⟨rfl, hb5⟩; have D5 := Aside0.mk hb5; clear hb5 c0 c1 c2 c3 c4) | (go_at_call 32; (with_reducible refine (beadleref1_Good.calls t true _ HT.out).mono ?_); rintro e w6 ⟨rfl, hd6⟩; have D6 := Aside0.mk (Drawn0.below hd6); clear hd6))
  have hlt : w.heap.size ≤ g4 := by have := G4.out; have := D2.out.size; omega
  replace X2 := Aside0.mk ((D6.out.block _ (blk_lt ((D5.out.block _ (blk_lt X2.out)).trans X2.out))).trans ((D5.out.block _ (blk_lt X2.out)).trans X2.out))
  replace X4 := Aside0.mk ((D6.out.block _ (blk_lt ((D5.out.block _ (blk_lt X4.out)).trans X4.out))).trans ((D5.out.block _ (blk_lt X4.out)).trans X4.out))
  have FAR := Aside0.mk (show Below w.heap.size w w6 from ((D2.out.trans (D4.out.mono D2.out.size)).trans (D5.out.mono (D2.out.trans (D4.out.mono D2.out.size)).size)).trans (D6.out.mono ((D2.out.trans (D4.out.mono D2.out.size)).trans (D5.out.mono (D2.out.trans (D4.out.mono D2.out.size)).size)).size))
  clear D2 D4 D5 D6 G2 G4
  have hm' := hm
  have c0 := blk_cell X2.out 0
  have c1 := blk_cell X2.out 1
  have c2 := blk_cell X2.out 2
  have c3 := blk_cell X2.out 3
  have c4 := blk_cell X2.out 4
  go_upto_region 6 with ((with_reducible refine gate_dst (N := 6) rfl ?_); refine box_event ?hg (N := 6) ?hd (cs := #[.int .i64 0, .int .i64 0, .int .i64 0, .int .i64 0, .int .i64 0]) (t := 40) ?hr ?_; (case hd => rfl); (case hg => rfl); (case hr => first | (go_simp; done) | (go_simp; rfl)); intro g6 hg6 y6 hx6 hb6; have G6 := Aside0.mk hg6; have X6 := Aside0.mk hx6; have D6 := Aside0.mk hb6; clear hx6 hb6 hg6; have r0 := blk_cell X6.out 0; have r1 := blk_cell X6.out 1; have r2 := blk_cell X6.out 2; have r3 := blk_cell X6.out 3; have r4 := blk_cell X6.out 4; have u0 := blk_frozen X6.out 0; have u1 := blk_frozen X6.out 1; have u2 := blk_frozen X6.out 2; have u3 := blk_frozen X6.out 3; have u4 := blk_frozen X6.out 4; refine store_event (((((y6.setCell ⟨g6, 0, none⟩ (.int .i64 q)).setCell ⟨g6, 1, none⟩ (.int .i64 p)).setCell ⟨g6, 2, none⟩ (.int .i64 b)).setCell ⟨g6, 3, none⟩ (.int .i64 d)).setCell ⟨g6, 4, none⟩ (.int .i64 m)) rfl (by first | (go_simp; done) | (go_simp; rfl)) ?_; clear r0 r1 r2 r3 r4 u0 u1 u2 u3 u4 c0 c1 c2 c3 c4; have hz : w6.heap.size ≤ g6 := Nat.le_of_eq G6.out.symm; have hb : Below w6.heap.size w6 (((((y6.setCell ⟨g6, 0, none⟩ (.int .i64 q)).setCell ⟨g6, 1, none⟩ (.int .i64 p)).setCell ⟨g6, 2, none⟩ (.int .i64 b)).setCell ⟨g6, 3, none⟩ (.int .i64 d)).setCell ⟨g6, 4, none⟩ (.int .i64 m)) := (((((D6.out.setCell hz _).setCell hz _).setCell hz _).setCell hz _).setCell hz _); have N46 := Aside0.mk (show g4 ≠ g6 from fun e => by have h1 := blk_lt X4.out; have h2 := hz; omega); have hlt6 := Aside0.mk (show w.heap.size ≤ g6 from Nat.le_trans FAR.out.size hz); replace X2 := Aside0.mk ((hb.block _ (blk_lt X2.out)).trans X2.out); replace X4 := Aside0.mk ((hb.block _ (blk_lt X4.out)).trans X4.out); replace X6 := Aside0.mk (show (((((y6.setCell ⟨g6, 0, none⟩ (.int .i64 q)).setCell ⟨g6, 1, none⟩ (.int .i64 p)).setCell ⟨g6, 2, none⟩ (.int .i64 b)).setCell ⟨g6, 3, none⟩ (.int .i64 d)).setCell ⟨g6, 4, none⟩ (.int .i64 m)).heap[g6]? = some (.cells #[.int .i64 q, .int .i64 p, .int .i64 b, .int .i64 d, .int .i64 m] 40 (0, 0)) from (blk_put (cs := #[.int .i64 q, .int .i64 p, .int .i64 b, .int .i64 d, .int .i64 0]) (blk_put (cs := #[.int .i64 q, .int .i64 p, .int .i64 b, .int .i64 0, .int .i64 0]) (blk_put (cs := #[.int .i64 q, .int .i64 p, .int .i64 0, .int .i64 0, .int .i64 0]) (blk_put (cs := #[.int .i64 q, .int .i64 0, .int .i64 0, .int .i64 0, .int .i64 0]) (blk_put (cs := #[.int .i64 0, .int .i64 0, .int .i64 0, .int .i64 0, .int .i64 0]) X6.out 0 (.int .i64 q) rfl) 1 (.int .i64 p) rfl) 2 (.int .i64 b) rfl) 3 (.int .i64 d) rfl) 4 (.int .i64 m) rfl)); replace FAR := Aside0.mk (FAR.out.trans (hb.mono FAR.out.size)); clear hz hb D6 G6; generalize (((((y6.setCell ⟨g6, 0, none⟩ (.int .i64 q)).setCell ⟨g6, 1, none⟩ (.int .i64 p)).setCell ⟨g6, 2, none⟩ (.int .i64 b)).setCell ⟨g6, 3, none⟩ (.int .i64 d)).setCell ⟨g6, 4, none⟩ (.int .i64 m)) = w7 at X2 X4 X6 FAR ⊢)
  have c0 := blk_cell X2.out 0
  have c1 := blk_cell X2.out 1
  have c2 := blk_cell X2.out 2
  have c3 := blk_cell X2.out 3
  have c4 := blk_cell X2.out 4
  go_upto_region 8 with (go_at_call 33; (with_reducible refine (beadleref1_Add.calls t p x false _ HA.out).mono ?_); rintro e w8 ⟨rfl, hd8⟩; have D8 := Aside0.mk (Drawn0.below hd8); clear hd8; clear c0 c1 c2 c3 c4)
  replace X2 := Aside0.mk ((D8.out.block _ (blk_lt X2.out)).trans X2.out)
  replace X4 := Aside0.mk ((D8.out.block _ (blk_lt X4.out)).trans X4.out)
  replace X6 := Aside0.mk ((D8.out.block _ (blk_lt X6.out)).trans X6.out)
  replace FAR := Aside0.mk (FAR.out.trans (D8.out.mono FAR.out.size))
  clear D8
  have c0 := blk_cell X2.out 0
  have c1 := blk_cell X2.out 1
  have c2 := blk_cell X2.out 2
  have c3 := blk_cell X2.out 3
  have c4 := blk_cell X2.out 4
  have s0 := blk_cell X4.out 0
  have s1 := blk_cell X4.out 1
  have s2 := blk_cell X4.out 2
  have s3 := blk_cell X4.out 3
  have s4 := blk_cell X4.out 4
  have t0 := blk_frozen X4.out 0
  have t1 := blk_frozen X4.out 1
  have t2 := blk_frozen X4.out 2
  have t3 := blk_frozen X4.out 3
  have t4 := blk_frozen X4.out 4
  have r0 := blk_cell X6.out 0
  have r1 := blk_cell X6.out 1
  have r2 := blk_cell X6.out 2
  have r3 := blk_cell X6.out 3
  have r4 := blk_cell X6.out 4
  have u0 := blk_frozen X6.out 0
  have u1 := blk_frozen X6.out 1
  have u2 := blk_frozen X6.out 2
  have u3 := blk_frozen X6.out 3
  have u4 := blk_frozen X6.out 4
  have n46 := N46.out
  have n64 := Ne.symm N46.out
  have hlt6' := hlt6.out
  go_wp2
  refine bodyPost_ret (results_ct rfl _ _ g4 40 #[.int .i64 q, .int .i64 p, .int .i64 b, .int .i64 d, .int .i64 m] (0, 0) _ rfl (blk_put (cs := #[.int .i64 q, .int .i64 p, .int .i64 b, .int .i64 d, .int .i64 0]) (blk_put (cs := #[.int .i64 q, .int .i64 p, .int .i64 b, .int .i64 0, .int .i64 0]) (blk_put (cs := #[.int .i64 q, .int .i64 p, .int .i64 0, .int .i64 0, .int .i64 0]) (blk_put (cs := #[.int .i64 q, .int .i64 0, .int .i64 0, .int .i64 0, .int .i64 0]) (blk_put (cs := #[.int .i64 0, .int .i64 0, .int .i64 0, .int .i64 0, .int .i64 0]) X4.out 0 (.int .i64 q) rfl) 1 (.int .i64 p) rfl) 2 (.int .i64 b) rfl) 3 (.int .i64 d) rfl) 4 (.int .i64 m) rfl) Try.underlying40 rfl (by kernel_rfl)) rfl ?_
  exact ⟨rfl, (((((FAR.out.setCell hlt _).setCell hlt _).setCell hlt _).setCell hlt _).setCell hlt _)⟩
set_option maxHeartbeats 2000000 in
set_option maxRecDepth 100000 in
theorem rw_a (q p b d m t : Int) (x : Int) (w : World) (hG : beadleref10_GoodServer.f q p b d m = some true) (hT : beadleref1_Good.f t = some true) (hm : (m != 0) = false) (hd : decide (d ≤ t) = true) (hA : beadleref1_Add.f t p = some (x, true)) (hq : (q == 0) = false) :
    Calls Try.prog 19 #[.agg #[.int .i64 q, .int .i64 p, .int .i64 b, .int .i64 d, .int .i64 m], .int .i64 t] w fun e w' => e = .returned (.tuple #[.agg #[.int .i64 q, .int .i64 p, .int .i64 q, .int .i64 x, .int .i64 1], .int .i64 0]) ∧ Below w.heap.size w w' := by
  have HG := Aside0.mk hG
  have HT := Aside0.mk hT
  clear hG hT
  have HA := Aside0.mk hA
  clear hA
  go_enter Try.func19, Try.ntmps19
  go_upto_region 3 with (first | ((with_reducible refine gate_dst (N := 2) rfl ?_); refine box_event ?hg (N := 2) ?hd (cs := #[.int .i64 q, .int .i64 p, .int .i64 b, .int .i64 d, .int .i64 m]) (t := 40) ?hr ?_; (case hd => rfl); (case hg => rfl); (case hr => first | (go_simp; done) | (go_simp; rfl)); intro g2 hg2 w2 hx2 hb2; have G2 := Aside0.mk hg2; have X2 := Aside0.mk hx2; have D2 := Aside0.mk hb2; clear hx2 hb2 hg2; have c0 := blk_cell X2.out 0; have c1 := blk_cell X2.out 1; have c2 := blk_cell X2.out 2; have c3 := blk_cell X2.out 3; have c4 := blk_cell X2.out 4) | ((with_reducible refine gate_dst (N := 4) rfl ?_); refine box_event ?hg (N := 4) ?hd (cs := #[.int .i64 0, .int .i64 0, .int .i64 0, .int .i64 0, .int .i64 0]) (t := 40) ?hr ?_; (case hd => rfl); (case hg => rfl); (case hr => first | (go_simp; done) | (go_simp; rfl)); intro g4 hg4 w4 hx4 hb4; have G4 := Aside0.mk hg4; have X4 := Aside0.mk hx4; have D4 := Aside0.mk hb4; clear hx4 hb4 hg4; clear c0 c1 c2 c3 c4; replace X2 := Aside0.mk ((D4.out.block _ (blk_lt X2.out)).trans X2.out); have c0 := blk_cell X2.out 0; have c1 := blk_cell X2.out 1; have c2 := blk_cell X2.out 2; have c3 := blk_cell X2.out 3; have c4 := blk_cell X2.out 4) | (go_at_call 25; (with_reducible refine (beadleref10_GoodServer.calls q p b d m true _ HG.out).mono ?_); rintro e w5 ⟨rfl, hb5⟩; have D5 := Aside0.mk hb5; clear hb5 c0 c1 c2 c3 c4) | (go_at_call 32; (with_reducible refine (beadleref1_Good.calls t true _ HT.out).mono ?_); rintro e w6 ⟨rfl, hd6⟩; have D6 := Aside0.mk (Drawn0.below hd6); clear hd6))
  have hlt : w.heap.size ≤ g4 := by have := G4.out; have := D2.out.size; omega
  replace X2 := Aside0.mk ((D6.out.block _ (blk_lt ((D5.out.block _ (blk_lt X2.out)).trans X2.out))).trans ((D5.out.block _ (blk_lt X2.out)).trans X2.out))
  replace X4 := Aside0.mk ((D6.out.block _ (blk_lt ((D5.out.block _ (blk_lt X4.out)).trans X4.out))).trans ((D5.out.block _ (blk_lt X4.out)).trans X4.out))
  have FAR := Aside0.mk (show Below w.heap.size w w6 from ((D2.out.trans (D4.out.mono D2.out.size)).trans (D5.out.mono (D2.out.trans (D4.out.mono D2.out.size)).size)).trans (D6.out.mono ((D2.out.trans (D4.out.mono D2.out.size)).trans (D5.out.mono (D2.out.trans (D4.out.mono D2.out.size)).size)).size))
  clear D2 D4 D5 D6 G2 G4
  have hm' := hm
  have c0 := blk_cell X2.out 0
  have c1 := blk_cell X2.out 1
  have c2 := blk_cell X2.out 2
  have c3 := blk_cell X2.out 3
  have c4 := blk_cell X2.out 4
  go_upto_region 6 with ((with_reducible refine gate_dst (N := 6) rfl ?_); refine box_event ?hg (N := 6) ?hd (cs := #[.int .i64 0, .int .i64 0, .int .i64 0, .int .i64 0, .int .i64 0]) (t := 40) ?hr ?_; (case hd => rfl); (case hg => rfl); (case hr => first | (go_simp; done) | (go_simp; rfl)); intro g6 hg6 y6 hx6 hb6; have G6 := Aside0.mk hg6; have X6 := Aside0.mk hx6; have D6 := Aside0.mk hb6; clear hx6 hb6 hg6; have r0 := blk_cell X6.out 0; have r1 := blk_cell X6.out 1; have r2 := blk_cell X6.out 2; have r3 := blk_cell X6.out 3; have r4 := blk_cell X6.out 4; have u0 := blk_frozen X6.out 0; have u1 := blk_frozen X6.out 1; have u2 := blk_frozen X6.out 2; have u3 := blk_frozen X6.out 3; have u4 := blk_frozen X6.out 4; refine store_event (((((y6.setCell ⟨g6, 0, none⟩ (.int .i64 q)).setCell ⟨g6, 1, none⟩ (.int .i64 p)).setCell ⟨g6, 2, none⟩ (.int .i64 b)).setCell ⟨g6, 3, none⟩ (.int .i64 d)).setCell ⟨g6, 4, none⟩ (.int .i64 m)) rfl (by first | (go_simp; done) | (go_simp; rfl)) ?_; clear r0 r1 r2 r3 r4 u0 u1 u2 u3 u4 c0 c1 c2 c3 c4; have hz : w6.heap.size ≤ g6 := Nat.le_of_eq G6.out.symm; have hb : Below w6.heap.size w6 (((((y6.setCell ⟨g6, 0, none⟩ (.int .i64 q)).setCell ⟨g6, 1, none⟩ (.int .i64 p)).setCell ⟨g6, 2, none⟩ (.int .i64 b)).setCell ⟨g6, 3, none⟩ (.int .i64 d)).setCell ⟨g6, 4, none⟩ (.int .i64 m)) := (((((D6.out.setCell hz _).setCell hz _).setCell hz _).setCell hz _).setCell hz _); have N46 := Aside0.mk (show g4 ≠ g6 from fun e => by have h1 := blk_lt X4.out; have h2 := hz; omega); have hlt6 := Aside0.mk (show w.heap.size ≤ g6 from Nat.le_trans FAR.out.size hz); replace X2 := Aside0.mk ((hb.block _ (blk_lt X2.out)).trans X2.out); replace X4 := Aside0.mk ((hb.block _ (blk_lt X4.out)).trans X4.out); replace X6 := Aside0.mk (show (((((y6.setCell ⟨g6, 0, none⟩ (.int .i64 q)).setCell ⟨g6, 1, none⟩ (.int .i64 p)).setCell ⟨g6, 2, none⟩ (.int .i64 b)).setCell ⟨g6, 3, none⟩ (.int .i64 d)).setCell ⟨g6, 4, none⟩ (.int .i64 m)).heap[g6]? = some (.cells #[.int .i64 q, .int .i64 p, .int .i64 b, .int .i64 d, .int .i64 m] 40 (0, 0)) from (blk_put (cs := #[.int .i64 q, .int .i64 p, .int .i64 b, .int .i64 d, .int .i64 0]) (blk_put (cs := #[.int .i64 q, .int .i64 p, .int .i64 b, .int .i64 0, .int .i64 0]) (blk_put (cs := #[.int .i64 q, .int .i64 p, .int .i64 0, .int .i64 0, .int .i64 0]) (blk_put (cs := #[.int .i64 q, .int .i64 0, .int .i64 0, .int .i64 0, .int .i64 0]) (blk_put (cs := #[.int .i64 0, .int .i64 0, .int .i64 0, .int .i64 0, .int .i64 0]) X6.out 0 (.int .i64 q) rfl) 1 (.int .i64 p) rfl) 2 (.int .i64 b) rfl) 3 (.int .i64 d) rfl) 4 (.int .i64 m) rfl)); replace FAR := Aside0.mk (FAR.out.trans (hb.mono FAR.out.size)); clear hz hb D6 G6; generalize (((((y6.setCell ⟨g6, 0, none⟩ (.int .i64 q)).setCell ⟨g6, 1, none⟩ (.int .i64 p)).setCell ⟨g6, 2, none⟩ (.int .i64 b)).setCell ⟨g6, 3, none⟩ (.int .i64 d)).setCell ⟨g6, 4, none⟩ (.int .i64 m)) = w7 at X2 X4 X6 FAR ⊢)
  have c0 := blk_cell X2.out 0
  have c1 := blk_cell X2.out 1
  have c2 := blk_cell X2.out 2
  have c3 := blk_cell X2.out 3
  have c4 := blk_cell X2.out 4
  go_upto_region 8 with (go_at_call 33; (with_reducible refine (beadleref1_Add.calls t p x true _ HA.out).mono ?_); rintro e w8 ⟨rfl, hd8⟩; have D8 := Aside0.mk (Drawn0.below hd8); clear hd8; clear c0 c1 c2 c3 c4)
  replace X2 := Aside0.mk ((D8.out.block _ (blk_lt X2.out)).trans X2.out)
  replace X4 := Aside0.mk ((D8.out.block _ (blk_lt X4.out)).trans X4.out)
  replace X6 := Aside0.mk ((D8.out.block _ (blk_lt X6.out)).trans X6.out)
  replace FAR := Aside0.mk (FAR.out.trans (D8.out.mono FAR.out.size))
  clear D8
  have c0 := blk_cell X2.out 0
  have c1 := blk_cell X2.out 1
  have c2 := blk_cell X2.out 2
  have c3 := blk_cell X2.out 3
  have c4 := blk_cell X2.out 4
  have s0 := blk_cell X4.out 0
  have s1 := blk_cell X4.out 1
  have s2 := blk_cell X4.out 2
  have s3 := blk_cell X4.out 3
  have s4 := blk_cell X4.out 4
  have t0 := blk_frozen X4.out 0
  have t1 := blk_frozen X4.out 1
  have t2 := blk_frozen X4.out 2
  have t3 := blk_frozen X4.out 3
  have t4 := blk_frozen X4.out 4
  have r0 := blk_cell X6.out 0
  have r1 := blk_cell X6.out 1
  have r2 := blk_cell X6.out 2
  have r3 := blk_cell X6.out 3
  have r4 := blk_cell X6.out 4
  have u0 := blk_frozen X6.out 0
  have u1 := blk_frozen X6.out 1
  have u2 := blk_frozen X6.out 2
  have u3 := blk_frozen X6.out 3
  have u4 := blk_frozen X6.out 4
  have n46 := N46.out
  have n64 := Ne.symm N46.out
  have hlt6' := hlt6.out
  go_wp2
  refine bodyPost_ret (results_ct rfl _ _ g4 40 #[.int .i64 q, .int .i64 p, .int .i64 q, .int .i64 x, .int .i64 1] (0, 0) _ rfl (blk_put (cs := #[.int .i64 q, .int .i64 p, .int .i64 q, .int .i64 x, .int .i64 0]) (blk_put (cs := #[.int .i64 q, .int .i64 p, .int .i64 q, .int .i64 0, .int .i64 0]) (blk_put (cs := #[.int .i64 q, .int .i64 p, .int .i64 0, .int .i64 0, .int .i64 0]) (blk_put (cs := #[.int .i64 q, .int .i64 0, .int .i64 0, .int .i64 0, .int .i64 0]) (blk_put (cs := #[.int .i64 0, .int .i64 0, .int .i64 0, .int .i64 0, .int .i64 0]) (blk_far (blk_far (blk_far X4.out n46 _) n46 _) n46 _) 0 (.int .i64 q) rfl) 1 (.int .i64 p) rfl) 2 (.int .i64 q) rfl) 3 (.int .i64 x) rfl) 4 (.int .i64 1) rfl) Try.underlying40 rfl (by kernel_rfl)) rfl ?_
  exact ⟨rfl, ((((((((FAR.out.setCell hlt6' _).setCell hlt6' _).setCell hlt6' _).setCell hlt _).setCell hlt _).setCell hlt _).setCell hlt _).setCell hlt _)⟩
set_option maxHeartbeats 2000000 in
set_option maxRecDepth 100000 in
theorem rw_ttt (q p b d m t : Int) (z : Int) (y : Int) (w : World) (hG : beadleref10_GoodServer.f q p b d m = some true) (hT : beadleref1_Good.f t = some true) (hm : (m != 0) = false) (hd : decide (d ≤ t) = false) (hw : wrap64 (d - t) = z) (h1 : decide (p < z) = true) (h2 : decide (wrap64 (p * q) < wrap64 (b * p)) = true) (hp : (p == 0) = false) (hp1 : ¬ p = 0) (hy : wrap64 (Int.tdiv (wrap64 (p * q)) p) = y) (h3 : (y == 0) = true) :
    Calls Try.prog 19 #[.agg #[.int .i64 q, .int .i64 p, .int .i64 b, .int .i64 d, .int .i64 m], .int .i64 t] w fun e w' => e = .returned (.tuple #[.agg #[.int .i64 q, .int .i64 p, .int .i64 y, .int .i64 d, .int .i64 2], .int .i64 0]) ∧ Below w.heap.size w w' := by
  have HG := Aside0.mk hG
  have HT := Aside0.mk hT
  clear hG hT
  have HW := Aside0.mk hw
  clear hw
  have HY := Aside0.mk hy
  clear hy
  go_enter Try.func19, Try.ntmps19
  go_upto_region 3 with (first | ((with_reducible refine gate_dst (N := 2) rfl ?_); refine box_event ?hg (N := 2) ?hd (cs := #[.int .i64 q, .int .i64 p, .int .i64 b, .int .i64 d, .int .i64 m]) (t := 40) ?hr ?_; (case hd => rfl); (case hg => rfl); (case hr => first | (go_simp; done) | (go_simp; rfl)); intro g2 hg2 w2 hx2 hb2; have G2 := Aside0.mk hg2; have X2 := Aside0.mk hx2; have D2 := Aside0.mk hb2; clear hx2 hb2 hg2; have c0 := blk_cell X2.out 0; have c1 := blk_cell X2.out 1; have c2 := blk_cell X2.out 2; have c3 := blk_cell X2.out 3; have c4 := blk_cell X2.out 4) | ((with_reducible refine gate_dst (N := 4) rfl ?_); refine box_event ?hg (N := 4) ?hd (cs := #[.int .i64 0, .int .i64 0, .int .i64 0, .int .i64 0, .int .i64 0]) (t := 40) ?hr ?_; (case hd => rfl); (case hg => rfl); (case hr => first | (go_simp; done) | (go_simp; rfl)); intro g4 hg4 w4 hx4 hb4; have G4 := Aside0.mk hg4; have X4 := Aside0.mk hx4; have D4 := Aside0.mk hb4; clear hx4 hb4 hg4; clear c0 c1 c2 c3 c4; replace X2 := Aside0.mk ((D4.out.block _ (blk_lt X2.out)).trans X2.out); have c0 := blk_cell X2.out 0; have c1 := blk_cell X2.out 1; have c2 := blk_cell X2.out 2; have c3 := blk_cell X2.out 3; have c4 := blk_cell X2.out 4) | (go_at_call 25; (with_reducible refine (beadleref10_GoodServer.calls q p b d m true _ HG.out).mono ?_); rintro e w5 ⟨rfl, hb5⟩; have D5 := Aside0.mk hb5; clear hb5 c0 c1 c2 c3 c4) | (go_at_call 32; (with_reducible refine (beadleref1_Good.calls t true _ HT.out).mono ?_); rintro e w6 ⟨rfl, hd6⟩; have D6 := Aside0.mk (Drawn0.below hd6); clear hd6))
  have hlt : w.heap.size ≤ g4 := by have := G4.out; have := D2.out.size; omega
  replace X2 := Aside0.mk ((D6.out.block _ (blk_lt ((D5.out.block _ (blk_lt X2.out)).trans X2.out))).trans ((D5.out.block _ (blk_lt X2.out)).trans X2.out))
  replace X4 := Aside0.mk ((D6.out.block _ (blk_lt ((D5.out.block _ (blk_lt X4.out)).trans X4.out))).trans ((D5.out.block _ (blk_lt X4.out)).trans X4.out))
  have FAR := Aside0.mk (show Below w.heap.size w w6 from ((D2.out.trans (D4.out.mono D2.out.size)).trans (D5.out.mono (D2.out.trans (D4.out.mono D2.out.size)).size)).trans (D6.out.mono ((D2.out.trans (D4.out.mono D2.out.size)).trans (D5.out.mono (D2.out.trans (D4.out.mono D2.out.size)).size)).size))
  clear D2 D4 D5 D6 G2 G4
  have hm' := hm
  have c0 := blk_cell X2.out 0
  have c1 := blk_cell X2.out 1
  have c2 := blk_cell X2.out 2
  have c3 := blk_cell X2.out 3
  have c4 := blk_cell X2.out 4
  go_upto_region 6 with ((with_reducible refine gate_dst (N := 6) rfl ?_); refine box_event ?hg (N := 6) ?hd (cs := #[.int .i64 0, .int .i64 0, .int .i64 0, .int .i64 0, .int .i64 0]) (t := 40) ?hr ?_; (case hd => rfl); (case hg => rfl); (case hr => first | (go_simp; done) | (go_simp; rfl)); intro g6 hg6 y6 hx6 hb6; have G6 := Aside0.mk hg6; have X6 := Aside0.mk hx6; have D6 := Aside0.mk hb6; clear hx6 hb6 hg6; have r0 := blk_cell X6.out 0; have r1 := blk_cell X6.out 1; have r2 := blk_cell X6.out 2; have r3 := blk_cell X6.out 3; have r4 := blk_cell X6.out 4; have u0 := blk_frozen X6.out 0; have u1 := blk_frozen X6.out 1; have u2 := blk_frozen X6.out 2; have u3 := blk_frozen X6.out 3; have u4 := blk_frozen X6.out 4; refine store_event (((((y6.setCell ⟨g6, 0, none⟩ (.int .i64 q)).setCell ⟨g6, 1, none⟩ (.int .i64 p)).setCell ⟨g6, 2, none⟩ (.int .i64 b)).setCell ⟨g6, 3, none⟩ (.int .i64 d)).setCell ⟨g6, 4, none⟩ (.int .i64 m)) rfl (by first | (go_simp; done) | (go_simp; rfl)) ?_; clear r0 r1 r2 r3 r4 u0 u1 u2 u3 u4 c0 c1 c2 c3 c4; have hz : w6.heap.size ≤ g6 := Nat.le_of_eq G6.out.symm; have hb : Below w6.heap.size w6 (((((y6.setCell ⟨g6, 0, none⟩ (.int .i64 q)).setCell ⟨g6, 1, none⟩ (.int .i64 p)).setCell ⟨g6, 2, none⟩ (.int .i64 b)).setCell ⟨g6, 3, none⟩ (.int .i64 d)).setCell ⟨g6, 4, none⟩ (.int .i64 m)) := (((((D6.out.setCell hz _).setCell hz _).setCell hz _).setCell hz _).setCell hz _); have N46 := Aside0.mk (show g4 ≠ g6 from fun e => by have h1 := blk_lt X4.out; have h2 := hz; omega); have hlt6 := Aside0.mk (show w.heap.size ≤ g6 from Nat.le_trans FAR.out.size hz); replace X2 := Aside0.mk ((hb.block _ (blk_lt X2.out)).trans X2.out); replace X4 := Aside0.mk ((hb.block _ (blk_lt X4.out)).trans X4.out); replace X6 := Aside0.mk (show (((((y6.setCell ⟨g6, 0, none⟩ (.int .i64 q)).setCell ⟨g6, 1, none⟩ (.int .i64 p)).setCell ⟨g6, 2, none⟩ (.int .i64 b)).setCell ⟨g6, 3, none⟩ (.int .i64 d)).setCell ⟨g6, 4, none⟩ (.int .i64 m)).heap[g6]? = some (.cells #[.int .i64 q, .int .i64 p, .int .i64 b, .int .i64 d, .int .i64 m] 40 (0, 0)) from (blk_put (cs := #[.int .i64 q, .int .i64 p, .int .i64 b, .int .i64 d, .int .i64 0]) (blk_put (cs := #[.int .i64 q, .int .i64 p, .int .i64 b, .int .i64 0, .int .i64 0]) (blk_put (cs := #[.int .i64 q, .int .i64 p, .int .i64 0, .int .i64 0, .int .i64 0]) (blk_put (cs := #[.int .i64 q, .int .i64 0, .int .i64 0, .int .i64 0, .int .i64 0]) (blk_put (cs := #[.int .i64 0, .int .i64 0, .int .i64 0, .int .i64 0, .int .i64 0]) X6.out 0 (.int .i64 q) rfl) 1 (.int .i64 p) rfl) 2 (.int .i64 b) rfl) 3 (.int .i64 d) rfl) 4 (.int .i64 m) rfl)); replace FAR := Aside0.mk (FAR.out.trans (hb.mono FAR.out.size)); clear hz hb D6 G6; generalize (((((y6.setCell ⟨g6, 0, none⟩ (.int .i64 q)).setCell ⟨g6, 1, none⟩ (.int .i64 p)).setCell ⟨g6, 2, none⟩ (.int .i64 b)).setCell ⟨g6, 3, none⟩ (.int .i64 d)).setCell ⟨g6, 4, none⟩ (.int .i64 m)) = w7 at X2 X4 X6 FAR ⊢)
  have c0 := blk_cell X2.out 0
  have c1 := blk_cell X2.out 1
  have c2 := blk_cell X2.out 2
  have c3 := blk_cell X2.out 3
  have c4 := blk_cell X2.out 4
  have s0 := blk_cell X4.out 0
  have s1 := blk_cell X4.out 1
  have s2 := blk_cell X4.out 2
  have s3 := blk_cell X4.out 3
  have s4 := blk_cell X4.out 4
  have t0 := blk_frozen X4.out 0
  have t1 := blk_frozen X4.out 1
  have t2 := blk_frozen X4.out 2
  have t3 := blk_frozen X4.out 3
  have t4 := blk_frozen X4.out 4
  have r0 := blk_cell X6.out 0
  have r1 := blk_cell X6.out 1
  have r2 := blk_cell X6.out 2
  have r3 := blk_cell X6.out 3
  have r4 := blk_cell X6.out 4
  have u0 := blk_frozen X6.out 0
  have u1 := blk_frozen X6.out 1
  have u2 := blk_frozen X6.out 2
  have u3 := blk_frozen X6.out 3
  have u4 := blk_frozen X6.out 4
  have n46 := N46.out
  have n64 := Ne.symm N46.out
  have hlt6' := hlt6.out
  go_upto_region 12 with (fail)
  (try simp only [i64_w])
  rw [HW.out]
  go_upto_region 16 with (fail)
  (try simp only [i64_w])
  rw [HY.out]
  clear c0 c1 c2 c3 c4 s0 s1 s2 s3 s4 t0 t1 t2 t3 t4 r0 r1 r2 r3 r4 u0 u1 u2 u3 u4
  replace X4 := Aside0.mk (show (w7.setCell ⟨g6, 2, none⟩ (.int .i64 y)).heap[g4]? = _ from blk_far X4.out n46 _)
  replace X6 := Aside0.mk (show (w7.setCell ⟨g6, 2, none⟩ (.int .i64 y)).heap[g6]? = some (.cells #[.int .i64 q, .int .i64 p, .int .i64 y, .int .i64 d, .int .i64 m] 40 (0, 0)) from blk_put (cs := #[.int .i64 q, .int .i64 p, .int .i64 b, .int .i64 d, .int .i64 m]) X6.out 2 (.int .i64 y) rfl)
  replace FAR := Aside0.mk (show Below w.heap.size w (w7.setCell ⟨g6, 2, none⟩ (.int .i64 y)) from FAR.out.setCell hlt6' _)
  generalize w7.setCell ⟨g6, 2, none⟩ (.int .i64 y) = w8 at X4 X6 FAR ⊢
  have s0 := blk_cell X4.out 0
  have s1 := blk_cell X4.out 1
  have s2 := blk_cell X4.out 2
  have s3 := blk_cell X4.out 3
  have s4 := blk_cell X4.out 4
  have t0 := blk_frozen X4.out 0
  have t1 := blk_frozen X4.out 1
  have t2 := blk_frozen X4.out 2
  have t3 := blk_frozen X4.out 3
  have t4 := blk_frozen X4.out 4
  have r0 := blk_cell X6.out 0
  have r1 := blk_cell X6.out 1
  have r2 := blk_cell X6.out 2
  have r3 := blk_cell X6.out 3
  have r4 := blk_cell X6.out 4
  have u0 := blk_frozen X6.out 0
  have u1 := blk_frozen X6.out 1
  have u2 := blk_frozen X6.out 2
  have u3 := blk_frozen X6.out 3
  have u4 := blk_frozen X6.out 4
  go_wp2
  refine bodyPost_ret (results_ct rfl _ _ g4 40 #[.int .i64 q, .int .i64 p, .int .i64 y, .int .i64 d, .int .i64 2] (0, 0) _ rfl (blk_put (cs := #[.int .i64 q, .int .i64 p, .int .i64 y, .int .i64 d, .int .i64 0]) (blk_put (cs := #[.int .i64 q, .int .i64 p, .int .i64 y, .int .i64 0, .int .i64 0]) (blk_put (cs := #[.int .i64 q, .int .i64 p, .int .i64 0, .int .i64 0, .int .i64 0]) (blk_put (cs := #[.int .i64 q, .int .i64 0, .int .i64 0, .int .i64 0, .int .i64 0]) (blk_put (cs := #[.int .i64 0, .int .i64 0, .int .i64 0, .int .i64 0, .int .i64 0]) (blk_far (blk_far X4.out n46 _) n46 _) 0 (.int .i64 q) rfl) 1 (.int .i64 p) rfl) 2 (.int .i64 y) rfl) 3 (.int .i64 d) rfl) 4 (.int .i64 2) rfl) Try.underlying40 rfl (by kernel_rfl)) rfl ?_
  exact ⟨rfl, (((((((FAR.out.setCell hlt6' _).setCell hlt6' _).setCell hlt _).setCell hlt _).setCell hlt _).setCell hlt _).setCell hlt _)⟩
set_option maxHeartbeats 2000000 in
set_option maxRecDepth 100000 in
theorem rw_ttf (q p b d m t : Int) (z : Int) (y : Int) (w : World) (hG : beadleref10_GoodServer.f q p b d m = some true) (hT : beadleref1_Good.f t = some true) (hm : (m != 0) = false) (hd : decide (d ≤ t) = false) (hw : wrap64 (d - t) = z) (h1 : decide (p < z) = true) (h2 : decide (wrap64 (p * q) < wrap64 (b * p)) = true) (hp : (p == 0) = false) (hp1 : ¬ p = 0) (hy : wrap64 (Int.tdiv (wrap64 (p * q)) p) = y) (h3 : (y == 0) = false) :
    Calls Try.prog 19 #[.agg #[.int .i64 q, .int .i64 p, .int .i64 b, .int .i64 d, .int .i64 m], .int .i64 t] w fun e w' => e = .returned (.tuple #[.agg #[.int .i64 q, .int .i64 p, .int .i64 y, .int .i64 d, .int .i64 1], .int .i64 0]) ∧ Below w.heap.size w w' := by
  have HG := Aside0.mk hG
  have HT := Aside0.mk hT
  clear hG hT
  have HW := Aside0.mk hw
  clear hw
  have HY := Aside0.mk hy
  clear hy
  go_enter Try.func19, Try.ntmps19
  go_upto_region 3 with (first | ((with_reducible refine gate_dst (N := 2) rfl ?_); refine box_event ?hg (N := 2) ?hd (cs := #[.int .i64 q, .int .i64 p, .int .i64 b, .int .i64 d, .int .i64 m]) (t := 40) ?hr ?_; (case hd => rfl); (case hg => rfl); (case hr => first | (go_simp; done) | (go_simp; rfl)); intro g2 hg2 w2 hx2 hb2; have G2 := Aside0.mk hg2; have X2 := Aside0.mk hx2; have D2 := Aside0.mk hb2; clear hx2 hb2 hg2; have c0 := blk_cell X2.out 0; have c1 := blk_cell X2.out 1; have c2 := blk_cell X2.out 2; have c3 := blk_cell X2.out 3; have c4 := blk_cell X2.out 4) | ((with_reducible refine gate_dst (N := 4) rfl ?_); refine box_event ?hg (N := 4) ?hd (cs := #[.int .i64 0, .int .i64 0, .int .i64 0, .int .i64 0, .int .i64 0]) (t := 40) ?hr ?_; (case hd => rfl); (case hg => rfl); (case hr => first | (go_simp; done) | (go_simp; rfl)); intro g4 hg4 w4 hx4 hb4; have G4 := Aside0.mk hg4; have X4 := Aside0.mk hx4; have D4 := Aside0.mk hb4; clear hx4 hb4 hg4; clear c0 c1 c2 c3 c4; replace X2 := Aside0.mk ((D4.out.block _ (blk_lt X2.out)).trans X2.out); have c0 := blk_cell X2.out 0; have c1 := blk_cell X2.out 1; have c2 := blk_cell X2.out 2; have c3 := blk_cell X2.out 3; have c4 := blk_cell X2.out 4) | (go_at_call 25; (with_reducible refine (beadleref10_GoodServer.calls q p b d m true _ HG.out).mono ?_); rintro e w5 ⟨rfl, hb5⟩; have D5 := Aside0.mk hb5; clear hb5 c0 c1 c2 c3 c4) | (go_at_call 32; (with_reducible refine (beadleref1_Good.calls t true _ HT.out).mono ?_); rintro e w6 ⟨rfl, hd6⟩; have D6 := Aside0.mk (Drawn0.below hd6); clear hd6))
  have hlt : w.heap.size ≤ g4 := by have := G4.out; have := D2.out.size; omega
  replace X2 := Aside0.mk ((D6.out.block _ (blk_lt ((D5.out.block _ (blk_lt X2.out)).trans X2.out))).trans ((D5.out.block _ (blk_lt X2.out)).trans X2.out))
  replace X4 := Aside0.mk ((D6.out.block _ (blk_lt ((D5.out.block _ (blk_lt X4.out)).trans X4.out))).trans ((D5.out.block _ (blk_lt X4.out)).trans X4.out))
  have FAR := Aside0.mk (show Below w.heap.size w w6 from ((D2.out.trans (D4.out.mono D2.out.size)).trans (D5.out.mono (D2.out.trans (D4.out.mono D2.out.size)).size)).trans (D6.out.mono ((D2.out.trans (D4.out.mono D2.out.size)).trans (D5.out.mono (D2.out.trans (D4.out.mono D2.out.size)).size)).size))
  clear D2 D4 D5 D6 G2 G4
  have hm' := hm
  have c0 := blk_cell X2.out 0
  have c1 := blk_cell X2.out 1
  have c2 := blk_cell X2.out 2
  have c3 := blk_cell X2.out 3
  have c4 := blk_cell X2.out 4
  go_upto_region 6 with ((with_reducible refine gate_dst (N := 6) rfl ?_); refine box_event ?hg (N := 6) ?hd (cs := #[.int .i64 0, .int .i64 0, .int .i64 0, .int .i64 0, .int .i64 0]) (t := 40) ?hr ?_; (case hd => rfl); (case hg => rfl); (case hr => first | (go_simp; done) | (go_simp; rfl)); intro g6 hg6 y6 hx6 hb6; have G6 := Aside0.mk hg6; have X6 := Aside0.mk hx6; have D6 := Aside0.mk hb6; clear hx6 hb6 hg6; have r0 := blk_cell X6.out 0; have r1 := blk_cell X6.out 1; have r2 := blk_cell X6.out 2; have r3 := blk_cell X6.out 3; have r4 := blk_cell X6.out 4; have u0 := blk_frozen X6.out 0; have u1 := blk_frozen X6.out 1; have u2 := blk_frozen X6.out 2; have u3 := blk_frozen X6.out 3; have u4 := blk_frozen X6.out 4; refine store_event (((((y6.setCell ⟨g6, 0, none⟩ (.int .i64 q)).setCell ⟨g6, 1, none⟩ (.int .i64 p)).setCell ⟨g6, 2, none⟩ (.int .i64 b)).setCell ⟨g6, 3, none⟩ (.int .i64 d)).setCell ⟨g6, 4, none⟩ (.int .i64 m)) rfl (by first | (go_simp; done) | (go_simp; rfl)) ?_; clear r0 r1 r2 r3 r4 u0 u1 u2 u3 u4 c0 c1 c2 c3 c4; have hz : w6.heap.size ≤ g6 := Nat.le_of_eq G6.out.symm; have hb : Below w6.heap.size w6 (((((y6.setCell ⟨g6, 0, none⟩ (.int .i64 q)).setCell ⟨g6, 1, none⟩ (.int .i64 p)).setCell ⟨g6, 2, none⟩ (.int .i64 b)).setCell ⟨g6, 3, none⟩ (.int .i64 d)).setCell ⟨g6, 4, none⟩ (.int .i64 m)) := (((((D6.out.setCell hz _).setCell hz _).setCell hz _).setCell hz _).setCell hz _); have N46 := Aside0.mk (show g4 ≠ g6 from fun e => by have h1 := blk_lt X4.out; have h2 := hz; omega); have hlt6 := Aside0.mk (show w.heap.size ≤ g6 from Nat.le_trans FAR.out.size hz); replace X2 := Aside0.mk ((hb.block _ (blk_lt X2.out)).trans X2.out); replace X4 := Aside0.mk ((hb.block _ (blk_lt X4.out)).trans X4.out); replace X6 := Aside0.mk (show (((((y6.setCell ⟨g6, 0, none⟩ (.int .i64 q)).setCell ⟨g6, 1, none⟩ (.int .i64 p)).setCell ⟨g6, 2, none⟩ (.int .i64 b)).setCell ⟨g6, 3, none⟩ (.int .i64 d)).setCell ⟨g6, 4, none⟩ (.int .i64 m)).heap[g6]? = some (.cells #[.int .i64 q, .int .i64 p, .int .i64 b, .int .i64 d, .int .i64 m] 40 (0, 0)) from (blk_put (cs := #[.int .i64 q, .int .i64 p, .int .i64 b, .int .i64 d, .int .i64 0]) (blk_put (cs := #[.int .i64 q, .int .i64 p, .int .i64 b, .int .i64 0, .int .i64 0]) (blk_put (cs := #[.int .i64 q, .int .i64 p, .int .i64 0, .int .i64 0, .int .i64 0]) (blk_put (cs := #[.int .i64 q, .int .i64 0, .int .i64 0, .int .i64 0, .int .i64 0]) (blk_put (cs := #[.int .i64 0, .int .i64 0, .int .i64 0, .int .i64 0, .int .i64 0]) X6.out 0 (.int .i64 q) rfl) 1 (.int .i64 p) rfl) 2 (.int .i64 b) rfl) 3 (.int .i64 d) rfl) 4 (.int .i64 m) rfl)); replace FAR := Aside0.mk (FAR.out.trans (hb.mono FAR.out.size)); clear hz hb D6 G6; generalize (((((y6.setCell ⟨g6, 0, none⟩ (.int .i64 q)).setCell ⟨g6, 1, none⟩ (.int .i64 p)).setCell ⟨g6, 2, none⟩ (.int .i64 b)).setCell ⟨g6, 3, none⟩ (.int .i64 d)).setCell ⟨g6, 4, none⟩ (.int .i64 m)) = w7 at X2 X4 X6 FAR ⊢)
  have c0 := blk_cell X2.out 0
  have c1 := blk_cell X2.out 1
  have c2 := blk_cell X2.out 2
  have c3 := blk_cell X2.out 3
  have c4 := blk_cell X2.out 4
  have s0 := blk_cell X4.out 0
  have s1 := blk_cell X4.out 1
  have s2 := blk_cell X4.out 2
  have s3 := blk_cell X4.out 3
  have s4 := blk_cell X4.out 4
  have t0 := blk_frozen X4.out 0
  have t1 := blk_frozen X4.out 1
  have t2 := blk_frozen X4.out 2
  have t3 := blk_frozen X4.out 3
  have t4 := blk_frozen X4.out 4
  have r0 := blk_cell X6.out 0
  have r1 := blk_cell X6.out 1
  have r2 := blk_cell X6.out 2
  have r3 := blk_cell X6.out 3
  have r4 := blk_cell X6.out 4
  have u0 := blk_frozen X6.out 0
  have u1 := blk_frozen X6.out 1
  have u2 := blk_frozen X6.out 2
  have u3 := blk_frozen X6.out 3
  have u4 := blk_frozen X6.out 4
  have n46 := N46.out
  have n64 := Ne.symm N46.out
  have hlt6' := hlt6.out
  go_upto_region 12 with (fail)
  (try simp only [i64_w])
  rw [HW.out]
  go_upto_region 16 with (fail)
  (try simp only [i64_w])
  rw [HY.out]
  clear c0 c1 c2 c3 c4 s0 s1 s2 s3 s4 t0 t1 t2 t3 t4 r0 r1 r2 r3 r4 u0 u1 u2 u3 u4
  replace X4 := Aside0.mk (show (w7.setCell ⟨g6, 2, none⟩ (.int .i64 y)).heap[g4]? = _ from blk_far X4.out n46 _)
  replace X6 := Aside0.mk (show (w7.setCell ⟨g6, 2, none⟩ (.int .i64 y)).heap[g6]? = some (.cells #[.int .i64 q, .int .i64 p, .int .i64 y, .int .i64 d, .int .i64 m] 40 (0, 0)) from blk_put (cs := #[.int .i64 q, .int .i64 p, .int .i64 b, .int .i64 d, .int .i64 m]) X6.out 2 (.int .i64 y) rfl)
  replace FAR := Aside0.mk (show Below w.heap.size w (w7.setCell ⟨g6, 2, none⟩ (.int .i64 y)) from FAR.out.setCell hlt6' _)
  generalize w7.setCell ⟨g6, 2, none⟩ (.int .i64 y) = w8 at X4 X6 FAR ⊢
  have s0 := blk_cell X4.out 0
  have s1 := blk_cell X4.out 1
  have s2 := blk_cell X4.out 2
  have s3 := blk_cell X4.out 3
  have s4 := blk_cell X4.out 4
  have t0 := blk_frozen X4.out 0
  have t1 := blk_frozen X4.out 1
  have t2 := blk_frozen X4.out 2
  have t3 := blk_frozen X4.out 3
  have t4 := blk_frozen X4.out 4
  have r0 := blk_cell X6.out 0
  have r1 := blk_cell X6.out 1
  have r2 := blk_cell X6.out 2
  have r3 := blk_cell X6.out 3
  have r4 := blk_cell X6.out 4
  have u0 := blk_frozen X6.out 0
  have u1 := blk_frozen X6.out 1
  have u2 := blk_frozen X6.out 2
  have u3 := blk_frozen X6.out 3
  have u4 := blk_frozen X6.out 4
  go_wp2
  refine bodyPost_ret (results_ct rfl _ _ g4 40 #[.int .i64 q, .int .i64 p, .int .i64 y, .int .i64 d, .int .i64 1] (0, 0) _ rfl (blk_put (cs := #[.int .i64 q, .int .i64 p, .int .i64 y, .int .i64 d, .int .i64 0]) (blk_put (cs := #[.int .i64 q, .int .i64 p, .int .i64 y, .int .i64 0, .int .i64 0]) (blk_put (cs := #[.int .i64 q, .int .i64 p, .int .i64 0, .int .i64 0, .int .i64 0]) (blk_put (cs := #[.int .i64 q, .int .i64 0, .int .i64 0, .int .i64 0, .int .i64 0]) (blk_put (cs := #[.int .i64 0, .int .i64 0, .int .i64 0, .int .i64 0, .int .i64 0]) (blk_far X4.out n46 _) 0 (.int .i64 q) rfl) 1 (.int .i64 p) rfl) 2 (.int .i64 y) rfl) 3 (.int .i64 d) rfl) 4 (.int .i64 1) rfl) Try.underlying40 rfl (by kernel_rfl)) rfl ?_
  exact ⟨rfl, ((((((FAR.out.setCell hlt6' _).setCell hlt _).setCell hlt _).setCell hlt _).setCell hlt _).setCell hlt _)⟩
set_option maxHeartbeats 2000000 in
set_option maxRecDepth 100000 in
theorem rw_tft (q p b d m t : Int) (z : Int) (w : World) (hG : beadleref10_GoodServer.f q p b d m = some true) (hT : beadleref1_Good.f t = some true) (hm : (m != 0) = false) (hd : decide (d ≤ t) = false) (hw : wrap64 (d - t) = z) (h1 : decide (p < z) = true) (h2 : decide (wrap64 (p * q) < wrap64 (b * p)) = false) (h3 : (b == 0) = true) :
    Calls Try.prog 19 #[.agg #[.int .i64 q, .int .i64 p, .int .i64 b, .int .i64 d, .int .i64 m], .int .i64 t] w fun e w' => e = .returned (.tuple #[.agg #[.int .i64 q, .int .i64 p, .int .i64 b, .int .i64 d, .int .i64 2], .int .i64 0]) ∧ Below w.heap.size w w' := by
  have HG := Aside0.mk hG
  have HT := Aside0.mk hT
  clear hG hT
  have HW := Aside0.mk hw
  clear hw
  go_enter Try.func19, Try.ntmps19
  go_upto_region 3 with (first | ((with_reducible refine gate_dst (N := 2) rfl ?_); refine box_event ?hg (N := 2) ?hd (cs := #[.int .i64 q, .int .i64 p, .int .i64 b, .int .i64 d, .int .i64 m]) (t := 40) ?hr ?_; (case hd => rfl); (case hg => rfl); (case hr => first | (go_simp; done) | (go_simp; rfl)); intro g2 hg2 w2 hx2 hb2; have G2 := Aside0.mk hg2; have X2 := Aside0.mk hx2; have D2 := Aside0.mk hb2; clear hx2 hb2 hg2; have c0 := blk_cell X2.out 0; have c1 := blk_cell X2.out 1; have c2 := blk_cell X2.out 2; have c3 := blk_cell X2.out 3; have c4 := blk_cell X2.out 4) | ((with_reducible refine gate_dst (N := 4) rfl ?_); refine box_event ?hg (N := 4) ?hd (cs := #[.int .i64 0, .int .i64 0, .int .i64 0, .int .i64 0, .int .i64 0]) (t := 40) ?hr ?_; (case hd => rfl); (case hg => rfl); (case hr => first | (go_simp; done) | (go_simp; rfl)); intro g4 hg4 w4 hx4 hb4; have G4 := Aside0.mk hg4; have X4 := Aside0.mk hx4; have D4 := Aside0.mk hb4; clear hx4 hb4 hg4; clear c0 c1 c2 c3 c4; replace X2 := Aside0.mk ((D4.out.block _ (blk_lt X2.out)).trans X2.out); have c0 := blk_cell X2.out 0; have c1 := blk_cell X2.out 1; have c2 := blk_cell X2.out 2; have c3 := blk_cell X2.out 3; have c4 := blk_cell X2.out 4) | (go_at_call 25; (with_reducible refine (beadleref10_GoodServer.calls q p b d m true _ HG.out).mono ?_); rintro e w5 ⟨rfl, hb5⟩; have D5 := Aside0.mk hb5; clear hb5 c0 c1 c2 c3 c4) | (go_at_call 32; (with_reducible refine (beadleref1_Good.calls t true _ HT.out).mono ?_); rintro e w6 ⟨rfl, hd6⟩; have D6 := Aside0.mk (Drawn0.below hd6); clear hd6))
  have hlt : w.heap.size ≤ g4 := by have := G4.out; have := D2.out.size; omega
  replace X2 := Aside0.mk ((D6.out.block _ (blk_lt ((D5.out.block _ (blk_lt X2.out)).trans X2.out))).trans ((D5.out.block _ (blk_lt X2.out)).trans X2.out))
  replace X4 := Aside0.mk ((D6.out.block _ (blk_lt ((D5.out.block _ (blk_lt X4.out)).trans X4.out))).trans ((D5.out.block _ (blk_lt X4.out)).trans X4.out))
  have FAR := Aside0.mk (show Below w.heap.size w w6 from ((D2.out.trans (D4.out.mono D2.out.size)).trans (D5.out.mono (D2.out.trans (D4.out.mono D2.out.size)).size)).trans (D6.out.mono ((D2.out.trans (D4.out.mono D2.out.size)).trans (D5.out.mono (D2.out.trans (D4.out.mono D2.out.size)).size)).size))
  clear D2 D4 D5 D6 G2 G4
  have hm' := hm
  have c0 := blk_cell X2.out 0
  have c1 := blk_cell X2.out 1
  have c2 := blk_cell X2.out 2
  have c3 := blk_cell X2.out 3
  have c4 := blk_cell X2.out 4
  go_upto_region 6 with ((with_reducible refine gate_dst (N := 6) rfl ?_); refine box_event ?hg (N := 6) ?hd (cs := #[.int .i64 0, .int .i64 0, .int .i64 0, .int .i64 0, .int .i64 0]) (t := 40) ?hr ?_; (case hd => rfl); (case hg => rfl); (case hr => first | (go_simp; done) | (go_simp; rfl)); intro g6 hg6 y6 hx6 hb6; have G6 := Aside0.mk hg6; have X6 := Aside0.mk hx6; have D6 := Aside0.mk hb6; clear hx6 hb6 hg6; have r0 := blk_cell X6.out 0; have r1 := blk_cell X6.out 1; have r2 := blk_cell X6.out 2; have r3 := blk_cell X6.out 3; have r4 := blk_cell X6.out 4; have u0 := blk_frozen X6.out 0; have u1 := blk_frozen X6.out 1; have u2 := blk_frozen X6.out 2; have u3 := blk_frozen X6.out 3; have u4 := blk_frozen X6.out 4; refine store_event (((((y6.setCell ⟨g6, 0, none⟩ (.int .i64 q)).setCell ⟨g6, 1, none⟩ (.int .i64 p)).setCell ⟨g6, 2, none⟩ (.int .i64 b)).setCell ⟨g6, 3, none⟩ (.int .i64 d)).setCell ⟨g6, 4, none⟩ (.int .i64 m)) rfl (by first | (go_simp; done) | (go_simp; rfl)) ?_; clear r0 r1 r2 r3 r4 u0 u1 u2 u3 u4 c0 c1 c2 c3 c4; have hz : w6.heap.size ≤ g6 := Nat.le_of_eq G6.out.symm; have hb : Below w6.heap.size w6 (((((y6.setCell ⟨g6, 0, none⟩ (.int .i64 q)).setCell ⟨g6, 1, none⟩ (.int .i64 p)).setCell ⟨g6, 2, none⟩ (.int .i64 b)).setCell ⟨g6, 3, none⟩ (.int .i64 d)).setCell ⟨g6, 4, none⟩ (.int .i64 m)) := (((((D6.out.setCell hz _).setCell hz _).setCell hz _).setCell hz _).setCell hz _); have N46 := Aside0.mk (show g4 ≠ g6 from fun e => by have h1 := blk_lt X4.out; have h2 := hz; omega); have hlt6 := Aside0.mk (show w.heap.size ≤ g6 from Nat.le_trans FAR.out.size hz); replace X2 := Aside0.mk ((hb.block _ (blk_lt X2.out)).trans X2.out); replace X4 := Aside0.mk ((hb.block _ (blk_lt X4.out)).trans X4.out); replace X6 := Aside0.mk (show (((((y6.setCell ⟨g6, 0, none⟩ (.int .i64 q)).setCell ⟨g6, 1, none⟩ (.int .i64 p)).setCell ⟨g6, 2, none⟩ (.int .i64 b)).setCell ⟨g6, 3, none⟩ (.int .i64 d)).setCell ⟨g6, 4, none⟩ (.int .i64 m)).heap[g6]? = some (.cells #[.int .i64 q, .int .i64 p, .int .i64 b, .int .i64 d, .int .i64 m] 40 (0, 0)) from (blk_put (cs := #[.int .i64 q, .int .i64 p, .int .i64 b, .int .i64 d, .int .i64 0]) (blk_put (cs := #[.int .i64 q, .int .i64 p, .int .i64 b, .int .i64 0, .int .i64 0]) (blk_put (cs := #[.int .i64 q, .int .i64 p, .int .i64 0, .int .i64 0, .int .i64 0]) (blk_put (cs := #[.int .i64 q, .int .i64 0, .int .i64 0, .int .i64 0, .int .i64 0]) (blk_put (cs := #[.int .i64 0, .int .i64 0, .int .i64 0, .int .i64 0, .int .i64 0]) X6.out 0 (.int .i64 q) rfl) 1 (.int .i64 p) rfl) 2 (.int .i64 b) rfl) 3 (.int .i64 d) rfl) 4 (.int .i64 m) rfl)); replace FAR := Aside0.mk (FAR.out.trans (hb.mono FAR.out.size)); clear hz hb D6 G6; generalize (((((y6.setCell ⟨g6, 0, none⟩ (.int .i64 q)).setCell ⟨g6, 1, none⟩ (.int .i64 p)).setCell ⟨g6, 2, none⟩ (.int .i64 b)).setCell ⟨g6, 3, none⟩ (.int .i64 d)).setCell ⟨g6, 4, none⟩ (.int .i64 m)) = w7 at X2 X4 X6 FAR ⊢)
  have c0 := blk_cell X2.out 0
  have c1 := blk_cell X2.out 1
  have c2 := blk_cell X2.out 2
  have c3 := blk_cell X2.out 3
  have c4 := blk_cell X2.out 4
  have s0 := blk_cell X4.out 0
  have s1 := blk_cell X4.out 1
  have s2 := blk_cell X4.out 2
  have s3 := blk_cell X4.out 3
  have s4 := blk_cell X4.out 4
  have t0 := blk_frozen X4.out 0
  have t1 := blk_frozen X4.out 1
  have t2 := blk_frozen X4.out 2
  have t3 := blk_frozen X4.out 3
  have t4 := blk_frozen X4.out 4
  have r0 := blk_cell X6.out 0
  have r1 := blk_cell X6.out 1
  have r2 := blk_cell X6.out 2
  have r3 := blk_cell X6.out 3
  have r4 := blk_cell X6.out 4
  have u0 := blk_frozen X6.out 0
  have u1 := blk_frozen X6.out 1
  have u2 := blk_frozen X6.out 2
  have u3 := blk_frozen X6.out 3
  have u4 := blk_frozen X6.out 4
  have n46 := N46.out
  have n64 := Ne.symm N46.out
  have hlt6' := hlt6.out
  go_upto_region 12 with (fail)
  (try simp only [i64_w])
  rw [HW.out]
  go_wp2
  refine bodyPost_ret (results_ct rfl _ _ g4 40 #[.int .i64 q, .int .i64 p, .int .i64 b, .int .i64 d, .int .i64 2] (0, 0) _ rfl (blk_put (cs := #[.int .i64 q, .int .i64 p, .int .i64 b, .int .i64 d, .int .i64 0]) (blk_put (cs := #[.int .i64 q, .int .i64 p, .int .i64 b, .int .i64 0, .int .i64 0]) (blk_put (cs := #[.int .i64 q, .int .i64 p, .int .i64 0, .int .i64 0, .int .i64 0]) (blk_put (cs := #[.int .i64 q, .int .i64 0, .int .i64 0, .int .i64 0, .int .i64 0]) (blk_put (cs := #[.int .i64 0, .int .i64 0, .int .i64 0, .int .i64 0, .int .i64 0]) (blk_far (blk_far X4.out n46 _) n46 _) 0 (.int .i64 q) rfl) 1 (.int .i64 p) rfl) 2 (.int .i64 b) rfl) 3 (.int .i64 d) rfl) 4 (.int .i64 2) rfl) Try.underlying40 rfl (by kernel_rfl)) rfl ?_
  exact ⟨rfl, (((((((FAR.out.setCell hlt6' _).setCell hlt6' _).setCell hlt _).setCell hlt _).setCell hlt _).setCell hlt _).setCell hlt _)⟩
set_option maxHeartbeats 2000000 in
set_option maxRecDepth 100000 in
theorem rw_tff (q p b d m t : Int) (z : Int) (w : World) (hG : beadleref10_GoodServer.f q p b d m = some true) (hT : beadleref1_Good.f t = some true) (hm : (m != 0) = false) (hd : decide (d ≤ t) = false) (hw : wrap64 (d - t) = z) (h1 : decide (p < z) = true) (h2 : decide (wrap64 (p * q) < wrap64 (b * p)) = false) (h3 : (b == 0) = false) :
    Calls Try.prog 19 #[.agg #[.int .i64 q, .int .i64 p, .int .i64 b, .int .i64 d, .int .i64 m], .int .i64 t] w fun e w' => e = .returned (.tuple #[.agg #[.int .i64 q, .int .i64 p, .int .i64 b, .int .i64 d, .int .i64 1], .int .i64 0]) ∧ Below w.heap.size w w' := by
  have HG := Aside0.mk hG
  have HT := Aside0.mk hT
  clear hG hT
  have HW := Aside0.mk hw
  clear hw
  go_enter Try.func19, Try.ntmps19
  go_upto_region 3 with (first | ((with_reducible refine gate_dst (N := 2) rfl ?_); refine box_event ?hg (N := 2) ?hd (cs := #[.int .i64 q, .int .i64 p, .int .i64 b, .int .i64 d, .int .i64 m]) (t := 40) ?hr ?_; (case hd => rfl); (case hg => rfl); (case hr => first | (go_simp; done) | (go_simp; rfl)); intro g2 hg2 w2 hx2 hb2; have G2 := Aside0.mk hg2; have X2 := Aside0.mk hx2; have D2 := Aside0.mk hb2; clear hx2 hb2 hg2; have c0 := blk_cell X2.out 0; have c1 := blk_cell X2.out 1; have c2 := blk_cell X2.out 2; have c3 := blk_cell X2.out 3; have c4 := blk_cell X2.out 4) | ((with_reducible refine gate_dst (N := 4) rfl ?_); refine box_event ?hg (N := 4) ?hd (cs := #[.int .i64 0, .int .i64 0, .int .i64 0, .int .i64 0, .int .i64 0]) (t := 40) ?hr ?_; (case hd => rfl); (case hg => rfl); (case hr => first | (go_simp; done) | (go_simp; rfl)); intro g4 hg4 w4 hx4 hb4; have G4 := Aside0.mk hg4; have X4 := Aside0.mk hx4; have D4 := Aside0.mk hb4; clear hx4 hb4 hg4; clear c0 c1 c2 c3 c4; replace X2 := Aside0.mk ((D4.out.block _ (blk_lt X2.out)).trans X2.out); have c0 := blk_cell X2.out 0; have c1 := blk_cell X2.out 1; have c2 := blk_cell X2.out 2; have c3 := blk_cell X2.out 3; have c4 := blk_cell X2.out 4) | (go_at_call 25; (with_reducible refine (beadleref10_GoodServer.calls q p b d m true _ HG.out).mono ?_); rintro e w5 ⟨rfl, hb5⟩; have D5 := Aside0.mk hb5; clear hb5 c0 c1 c2 c3 c4) | (go_at_call 32; (with_reducible refine (beadleref1_Good.calls t true _ HT.out).mono ?_); rintro e w6 ⟨rfl, hd6⟩; have D6 := Aside0.mk (Drawn0.below hd6); clear hd6))
  have hlt : w.heap.size ≤ g4 := by have := G4.out; have := D2.out.size; omega
  replace X2 := Aside0.mk ((D6.out.block _ (blk_lt ((D5.out.block _ (blk_lt X2.out)).trans X2.out))).trans ((D5.out.block _ (blk_lt X2.out)).trans X2.out))
  replace X4 := Aside0.mk ((D6.out.block _ (blk_lt ((D5.out.block _ (blk_lt X4.out)).trans X4.out))).trans ((D5.out.block _ (blk_lt X4.out)).trans X4.out))
  have FAR := Aside0.mk (show Below w.heap.size w w6 from ((D2.out.trans (D4.out.mono D2.out.size)).trans (D5.out.mono (D2.out.trans (D4.out.mono D2.out.size)).size)).trans (D6.out.mono ((D2.out.trans (D4.out.mono D2.out.size)).trans (D5.out.mono (D2.out.trans (D4.out.mono D2.out.size)).size)).size))
  clear D2 D4 D5 D6 G2 G4
  have hm' := hm
  have c0 := blk_cell X2.out 0
  have c1 := blk_cell X2.out 1
  have c2 := blk_cell X2.out 2
  have c3 := blk_cell X2.out 3
  have c4 := blk_cell X2.out 4
  go_upto_region 6 with ((with_reducible refine gate_dst (N := 6) rfl ?_); refine box_event ?hg (N := 6) ?hd (cs := #[.int .i64 0, .int .i64 0, .int .i64 0, .int .i64 0, .int .i64 0]) (t := 40) ?hr ?_; (case hd => rfl); (case hg => rfl); (case hr => first | (go_simp; done) | (go_simp; rfl)); intro g6 hg6 y6 hx6 hb6; have G6 := Aside0.mk hg6; have X6 := Aside0.mk hx6; have D6 := Aside0.mk hb6; clear hx6 hb6 hg6; have r0 := blk_cell X6.out 0; have r1 := blk_cell X6.out 1; have r2 := blk_cell X6.out 2; have r3 := blk_cell X6.out 3; have r4 := blk_cell X6.out 4; have u0 := blk_frozen X6.out 0; have u1 := blk_frozen X6.out 1; have u2 := blk_frozen X6.out 2; have u3 := blk_frozen X6.out 3; have u4 := blk_frozen X6.out 4; refine store_event (((((y6.setCell ⟨g6, 0, none⟩ (.int .i64 q)).setCell ⟨g6, 1, none⟩ (.int .i64 p)).setCell ⟨g6, 2, none⟩ (.int .i64 b)).setCell ⟨g6, 3, none⟩ (.int .i64 d)).setCell ⟨g6, 4, none⟩ (.int .i64 m)) rfl (by first | (go_simp; done) | (go_simp; rfl)) ?_; clear r0 r1 r2 r3 r4 u0 u1 u2 u3 u4 c0 c1 c2 c3 c4; have hz : w6.heap.size ≤ g6 := Nat.le_of_eq G6.out.symm; have hb : Below w6.heap.size w6 (((((y6.setCell ⟨g6, 0, none⟩ (.int .i64 q)).setCell ⟨g6, 1, none⟩ (.int .i64 p)).setCell ⟨g6, 2, none⟩ (.int .i64 b)).setCell ⟨g6, 3, none⟩ (.int .i64 d)).setCell ⟨g6, 4, none⟩ (.int .i64 m)) := (((((D6.out.setCell hz _).setCell hz _).setCell hz _).setCell hz _).setCell hz _); have N46 := Aside0.mk (show g4 ≠ g6 from fun e => by have h1 := blk_lt X4.out; have h2 := hz; omega); have hlt6 := Aside0.mk (show w.heap.size ≤ g6 from Nat.le_trans FAR.out.size hz); replace X2 := Aside0.mk ((hb.block _ (blk_lt X2.out)).trans X2.out); replace X4 := Aside0.mk ((hb.block _ (blk_lt X4.out)).trans X4.out); replace X6 := Aside0.mk (show (((((y6.setCell ⟨g6, 0, none⟩ (.int .i64 q)).setCell ⟨g6, 1, none⟩ (.int .i64 p)).setCell ⟨g6, 2, none⟩ (.int .i64 b)).setCell ⟨g6, 3, none⟩ (.int .i64 d)).setCell ⟨g6, 4, none⟩ (.int .i64 m)).heap[g6]? = some (.cells #[.int .i64 q, .int .i64 p, .int .i64 b, .int .i64 d, .int .i64 m] 40 (0, 0)) from (blk_put (cs := #[.int .i64 q, .int .i64 p, .int .i64 b, .int .i64 d, .int .i64 0]) (blk_put (cs := #[.int .i64 q, .int .i64 p, .int .i64 b, .int .i64 0, .int .i64 0]) (blk_put (cs := #[.int .i64 q, .int .i64 p, .int .i64 0, .int .i64 0, .int .i64 0]) (blk_put (cs := #[.int .i64 q, .int .i64 0, .int .i64 0, .int .i64 0, .int .i64 0]) (blk_put (cs := #[.int .i64 0, .int .i64 0, .int .i64 0, .int .i64 0, .int .i64 0]) X6.out 0 (.int .i64 q) rfl) 1 (.int .i64 p) rfl) 2 (.int .i64 b) rfl) 3 (.int .i64 d) rfl) 4 (.int .i64 m) rfl)); replace FAR := Aside0.mk (FAR.out.trans (hb.mono FAR.out.size)); clear hz hb D6 G6; generalize (((((y6.setCell ⟨g6, 0, none⟩ (.int .i64 q)).setCell ⟨g6, 1, none⟩ (.int .i64 p)).setCell ⟨g6, 2, none⟩ (.int .i64 b)).setCell ⟨g6, 3, none⟩ (.int .i64 d)).setCell ⟨g6, 4, none⟩ (.int .i64 m)) = w7 at X2 X4 X6 FAR ⊢)
  have c0 := blk_cell X2.out 0
  have c1 := blk_cell X2.out 1
  have c2 := blk_cell X2.out 2
  have c3 := blk_cell X2.out 3
  have c4 := blk_cell X2.out 4
  have s0 := blk_cell X4.out 0
  have s1 := blk_cell X4.out 1
  have s2 := blk_cell X4.out 2
  have s3 := blk_cell X4.out 3
  have s4 := blk_cell X4.out 4
  have t0 := blk_frozen X4.out 0
  have t1 := blk_frozen X4.out 1
  have t2 := blk_frozen X4.out 2
  have t3 := blk_frozen X4.out 3
  have t4 := blk_frozen X4.out 4
  have r0 := blk_cell X6.out 0
  have r1 := blk_cell X6.out 1
  have r2 := blk_cell X6.out 2
  have r3 := blk_cell X6.out 3
  have r4 := blk_cell X6.out 4
  have u0 := blk_frozen X6.out 0
  have u1 := blk_frozen X6.out 1
  have u2 := blk_frozen X6.out 2
  have u3 := blk_frozen X6.out 3
  have u4 := blk_frozen X6.out 4
  have n46 := N46.out
  have n64 := Ne.symm N46.out
  have hlt6' := hlt6.out
  go_upto_region 12 with (fail)
  (try simp only [i64_w])
  rw [HW.out]
  go_wp2
  refine bodyPost_ret (results_ct rfl _ _ g4 40 #[.int .i64 q, .int .i64 p, .int .i64 b, .int .i64 d, .int .i64 1] (0, 0) _ rfl (blk_put (cs := #[.int .i64 q, .int .i64 p, .int .i64 b, .int .i64 d, .int .i64 0]) (blk_put (cs := #[.int .i64 q, .int .i64 p, .int .i64 b, .int .i64 0, .int .i64 0]) (blk_put (cs := #[.int .i64 q, .int .i64 p, .int .i64 0, .int .i64 0, .int .i64 0]) (blk_put (cs := #[.int .i64 q, .int .i64 0, .int .i64 0, .int .i64 0, .int .i64 0]) (blk_put (cs := #[.int .i64 0, .int .i64 0, .int .i64 0, .int .i64 0, .int .i64 0]) (blk_far X4.out n46 _) 0 (.int .i64 q) rfl) 1 (.int .i64 p) rfl) 2 (.int .i64 b) rfl) 3 (.int .i64 d) rfl) 4 (.int .i64 1) rfl) Try.underlying40 rfl (by kernel_rfl)) rfl ?_
  exact ⟨rfl, ((((((FAR.out.setCell hlt6' _).setCell hlt _).setCell hlt _).setCell hlt _).setCell hlt _).setCell hlt _)⟩
set_option maxHeartbeats 2000000 in
set_option maxRecDepth 100000 in
theorem rw_ftt (q p b d m t : Int) (z : Int) (y : Int) (w : World) (hG : beadleref10_GoodServer.f q p b d m = some true) (hT : beadleref1_Good.f t = some true) (hm : (m != 0) = false) (hd : decide (d ≤ t) = false) (hw : wrap64 (d - t) = z) (h1 : decide (p < z) = false) (h2 : decide (wrap64 (z * q) < wrap64 (b * p)) = true) (hp : (p == 0) = false) (hp1 : ¬ p = 0) (hy : wrap64 (Int.tdiv (wrap64 (z * q)) p) = y) (h3 : (y == 0) = true) :
    Calls Try.prog 19 #[.agg #[.int .i64 q, .int .i64 p, .int .i64 b, .int .i64 d, .int .i64 m], .int .i64 t] w fun e w' => e = .returned (.tuple #[.agg #[.int .i64 q, .int .i64 p, .int .i64 y, .int .i64 d, .int .i64 2], .int .i64 0]) ∧ Below w.heap.size w w' := by
  have HG := Aside0.mk hG
  have HT := Aside0.mk hT
  clear hG hT
  have HW := Aside0.mk hw
  clear hw
  have HY := Aside0.mk hy
  clear hy
  go_enter Try.func19, Try.ntmps19
  go_upto_region 3 with (first | ((with_reducible refine gate_dst (N := 2) rfl ?_); refine box_event ?hg (N := 2) ?hd (cs := #[.int .i64 q, .int .i64 p, .int .i64 b, .int .i64 d, .int .i64 m]) (t := 40) ?hr ?_; (case hd => rfl); (case hg => rfl); (case hr => first | (go_simp; done) | (go_simp; rfl)); intro g2 hg2 w2 hx2 hb2; have G2 := Aside0.mk hg2; have X2 := Aside0.mk hx2; have D2 := Aside0.mk hb2; clear hx2 hb2 hg2; have c0 := blk_cell X2.out 0; have c1 := blk_cell X2.out 1; have c2 := blk_cell X2.out 2; have c3 := blk_cell X2.out 3; have c4 := blk_cell X2.out 4) | ((with_reducible refine gate_dst (N := 4) rfl ?_); refine box_event ?hg (N := 4) ?hd (cs := #[.int .i64 0, .int .i64 0, .int .i64 0, .int .i64 0, .int .i64 0]) (t := 40) ?hr ?_; (case hd => rfl); (case hg => rfl); (case hr => first | (go_simp; done) | (go_simp; rfl)); intro g4 hg4 w4 hx4 hb4; have G4 := Aside0.mk hg4; have X4 := Aside0.mk hx4; have D4 := Aside0.mk hb4; clear hx4 hb4 hg4; clear c0 c1 c2 c3 c4; replace X2 := Aside0.mk ((D4.out.block _ (blk_lt X2.out)).trans X2.out); have c0 := blk_cell X2.out 0; have c1 := blk_cell X2.out 1; have c2 := blk_cell X2.out 2; have c3 := blk_cell X2.out 3; have c4 := blk_cell X2.out 4) | (go_at_call 25; (with_reducible refine (beadleref10_GoodServer.calls q p b d m true _ HG.out).mono ?_); rintro e w5 ⟨rfl, hb5⟩; have D5 := Aside0.mk hb5; clear hb5 c0 c1 c2 c3 c4) | (go_at_call 32; (with_reducible refine (beadleref1_Good.calls t true _ HT.out).mono ?_); rintro e w6 ⟨rfl, hd6⟩; have D6 := Aside0.mk (Drawn0.below hd6); clear hd6))
  have hlt : w.heap.size ≤ g4 := by have := G4.out; have := D2.out.size; omega
  replace X2 := Aside0.mk ((D6.out.block _ (blk_lt ((D5.out.block _ (blk_lt X2.out)).trans X2.out))).trans ((D5.out.block _ (blk_lt X2.out)).trans X2.out))
  replace X4 := Aside0.mk ((D6.out.block _ (blk_lt ((D5.out.block _ (blk_lt X4.out)).trans X4.out))).trans ((D5.out.block _ (blk_lt X4.out)).trans X4.out))
  have FAR := Aside0.mk (show Below w.heap.size w w6 from ((D2.out.trans (D4.out.mono D2.out.size)).trans (D5.out.mono (D2.out.trans (D4.out.mono D2.out.size)).size)).trans (D6.out.mono ((D2.out.trans (D4.out.mono D2.out.size)).trans (D5.out.mono (D2.out.trans (D4.out.mono D2.out.size)).size)).size))
  clear D2 D4 D5 D6 G2 G4
  have hm' := hm
  have c0 := blk_cell X2.out 0
  have c1 := blk_cell X2.out 1
  have c2 := blk_cell X2.out 2
  have c3 := blk_cell X2.out 3
  have c4 := blk_cell X2.out 4
  go_upto_region 6 with ((with_reducible refine gate_dst (N := 6) rfl ?_); refine box_event ?hg (N := 6) ?hd (cs := #[.int .i64 0, .int .i64 0, .int .i64 0, .int .i64 0, .int .i64 0]) (t := 40) ?hr ?_; (case hd => rfl); (case hg => rfl); (case hr => first | (go_simp; done) | (go_simp; rfl)); intro g6 hg6 y6 hx6 hb6; have G6 := Aside0.mk hg6; have X6 := Aside0.mk hx6; have D6 := Aside0.mk hb6; clear hx6 hb6 hg6; have r0 := blk_cell X6.out 0; have r1 := blk_cell X6.out 1; have r2 := blk_cell X6.out 2; have r3 := blk_cell X6.out 3; have r4 := blk_cell X6.out 4; have u0 := blk_frozen X6.out 0; have u1 := blk_frozen X6.out 1; have u2 := blk_frozen X6.out 2; have u3 := blk_frozen X6.out 3; have u4 := blk_frozen X6.out 4; refine store_event (((((y6.setCell ⟨g6, 0, none⟩ (.int .i64 q)).setCell ⟨g6, 1, none⟩ (.int .i64 p)).setCell ⟨g6, 2, none⟩ (.int .i64 b)).setCell ⟨g6, 3, none⟩ (.int .i64 d)).setCell ⟨g6, 4, none⟩ (.int .i64 m)) rfl (by first | (go_simp; done) | (go_simp; rfl)) ?_; clear r0 r1 r2 r3 r4 u0 u1 u2 u3 u4 c0 c1 c2 c3 c4; have hz : w6.heap.size ≤ g6 := Nat.le_of_eq G6.out.symm; have hb : Below w6.heap.size w6 (((((y6.setCell ⟨g6, 0, none⟩ (.int .i64 q)).setCell ⟨g6, 1, none⟩ (.int .i64 p)).setCell ⟨g6, 2, none⟩ (.int .i64 b)).setCell ⟨g6, 3, none⟩ (.int .i64 d)).setCell ⟨g6, 4, none⟩ (.int .i64 m)) := (((((D6.out.setCell hz _).setCell hz _).setCell hz _).setCell hz _).setCell hz _); have N46 := Aside0.mk (show g4 ≠ g6 from fun e => by have h1 := blk_lt X4.out; have h2 := hz; omega); have hlt6 := Aside0.mk (show w.heap.size ≤ g6 from Nat.le_trans FAR.out.size hz); replace X2 := Aside0.mk ((hb.block _ (blk_lt X2.out)).trans X2.out); replace X4 := Aside0.mk ((hb.block _ (blk_lt X4.out)).trans X4.out); replace X6 := Aside0.mk (show (((((y6.setCell ⟨g6, 0, none⟩ (.int .i64 q)).setCell ⟨g6, 1, none⟩ (.int .i64 p)).setCell ⟨g6, 2, none⟩ (.int .i64 b)).setCell ⟨g6, 3, none⟩ (.int .i64 d)).setCell ⟨g6, 4, none⟩ (.int .i64 m)).heap[g6]? = some (.cells #[.int .i64 q, .int .i64 p, .int .i64 b, .int .i64 d, .int .i64 m] 40 (0, 0)) from (blk_put (cs := #[.int .i64 q, .int .i64 p, .int .i64 b, .int .i64 d, .int .i64 0]) (blk_put (cs := #[.int .i64 q, .int .i64 p, .int .i64 b, .int .i64 0, .int .i64 0]) (blk_put (cs := #[.int .i64 q, .int .i64 p, .int .i64 0, .int .i64 0, .int .i64 0]) (blk_put (cs := #[.int .i64 q, .int .i64 0, .int .i64 0, .int .i64 0, .int .i64 0]) (blk_put (cs := #[.int .i64 0, .int .i64 0, .int .i64 0, .int .i64 0, .int .i64 0]) X6.out 0 (.int .i64 q) rfl) 1 (.int .i64 p) rfl) 2 (.int .i64 b) rfl) 3 (.int .i64 d) rfl) 4 (.int .i64 m) rfl)); replace FAR := Aside0.mk (FAR.out.trans (hb.mono FAR.out.size)); clear hz hb D6 G6; generalize (((((y6.setCell ⟨g6, 0, none⟩ (.int .i64 q)).setCell ⟨g6, 1, none⟩ (.int .i64 p)).setCell ⟨g6, 2, none⟩ (.int .i64 b)).setCell ⟨g6, 3, none⟩ (.int .i64 d)).setCell ⟨g6, 4, none⟩ (.int .i64 m)) = w7 at X2 X4 X6 FAR ⊢)
  have c0 := blk_cell X2.out 0
  have c1 := blk_cell X2.out 1
  have c2 := blk_cell X2.out 2
  have c3 := blk_cell X2.out 3
  have c4 := blk_cell X2.out 4
  have s0 := blk_cell X4.out 0
  have s1 := blk_cell X4.out 1
  have s2 := blk_cell X4.out 2
  have s3 := blk_cell X4.out 3
  have s4 := blk_cell X4.out 4
  have t0 := blk_frozen X4.out 0
  have t1 := blk_frozen X4.out 1
  have t2 := blk_frozen X4.out 2
  have t3 := blk_frozen X4.out 3
  have t4 := blk_frozen X4.out 4
  have r0 := blk_cell X6.out 0
  have r1 := blk_cell X6.out 1
  have r2 := blk_cell X6.out 2
  have r3 := blk_cell X6.out 3
  have r4 := blk_cell X6.out 4
  have u0 := blk_frozen X6.out 0
  have u1 := blk_frozen X6.out 1
  have u2 := blk_frozen X6.out 2
  have u3 := blk_frozen X6.out 3
  have u4 := blk_frozen X6.out 4
  have n46 := N46.out
  have n64 := Ne.symm N46.out
  have hlt6' := hlt6.out
  go_upto_region 12 with (fail)
  (try simp only [i64_w])
  rw [HW.out]
  go_upto_region 16 with (fail)
  (try simp only [i64_w])
  rw [HY.out]
  clear c0 c1 c2 c3 c4 s0 s1 s2 s3 s4 t0 t1 t2 t3 t4 r0 r1 r2 r3 r4 u0 u1 u2 u3 u4
  replace X4 := Aside0.mk (show (w7.setCell ⟨g6, 2, none⟩ (.int .i64 y)).heap[g4]? = _ from blk_far X4.out n46 _)
  replace X6 := Aside0.mk (show (w7.setCell ⟨g6, 2, none⟩ (.int .i64 y)).heap[g6]? = some (.cells #[.int .i64 q, .int .i64 p, .int .i64 y, .int .i64 d, .int .i64 m] 40 (0, 0)) from blk_put (cs := #[.int .i64 q, .int .i64 p, .int .i64 b, .int .i64 d, .int .i64 m]) X6.out 2 (.int .i64 y) rfl)
  replace FAR := Aside0.mk (show Below w.heap.size w (w7.setCell ⟨g6, 2, none⟩ (.int .i64 y)) from FAR.out.setCell hlt6' _)
  generalize w7.setCell ⟨g6, 2, none⟩ (.int .i64 y) = w8 at X4 X6 FAR ⊢
  have s0 := blk_cell X4.out 0
  have s1 := blk_cell X4.out 1
  have s2 := blk_cell X4.out 2
  have s3 := blk_cell X4.out 3
  have s4 := blk_cell X4.out 4
  have t0 := blk_frozen X4.out 0
  have t1 := blk_frozen X4.out 1
  have t2 := blk_frozen X4.out 2
  have t3 := blk_frozen X4.out 3
  have t4 := blk_frozen X4.out 4
  have r0 := blk_cell X6.out 0
  have r1 := blk_cell X6.out 1
  have r2 := blk_cell X6.out 2
  have r3 := blk_cell X6.out 3
  have r4 := blk_cell X6.out 4
  have u0 := blk_frozen X6.out 0
  have u1 := blk_frozen X6.out 1
  have u2 := blk_frozen X6.out 2
  have u3 := blk_frozen X6.out 3
  have u4 := blk_frozen X6.out 4
  go_wp2
  refine bodyPost_ret (results_ct rfl _ _ g4 40 #[.int .i64 q, .int .i64 p, .int .i64 y, .int .i64 d, .int .i64 2] (0, 0) _ rfl (blk_put (cs := #[.int .i64 q, .int .i64 p, .int .i64 y, .int .i64 d, .int .i64 0]) (blk_put (cs := #[.int .i64 q, .int .i64 p, .int .i64 y, .int .i64 0, .int .i64 0]) (blk_put (cs := #[.int .i64 q, .int .i64 p, .int .i64 0, .int .i64 0, .int .i64 0]) (blk_put (cs := #[.int .i64 q, .int .i64 0, .int .i64 0, .int .i64 0, .int .i64 0]) (blk_put (cs := #[.int .i64 0, .int .i64 0, .int .i64 0, .int .i64 0, .int .i64 0]) (blk_far (blk_far X4.out n46 _) n46 _) 0 (.int .i64 q) rfl) 1 (.int .i64 p) rfl) 2 (.int .i64 y) rfl) 3 (.int .i64 d) rfl) 4 (.int .i64 2) rfl) Try.underlying40 rfl (by kernel_rfl)) rfl ?_
  exact ⟨rfl, (((((((FAR.out.setCell hlt6' _).setCell hlt6' _).setCell hlt _).setCell hlt _).setCell hlt _).setCell hlt _).setCell hlt _)⟩
set_option maxHeartbeats 2000000 in
set_option maxRecDepth 100000 in
theorem rw_ftf (q p b d m t : Int) (z : Int) (y : Int) (w : World) (hG : beadleref10_GoodServer.f q p b d m = some true) (hT : beadleref1_Good.f t = some true) (hm : (m != 0) = false) (hd : decide (d ≤ t) = false) (hw : wrap64 (d - t) = z) (h1 : decide (p < z) = false) (h2 : decide (wrap64 (z * q) < wrap64 (b * p)) = true) (hp : (p == 0) = false) (hp1 : ¬ p = 0) (hy : wrap64 (Int.tdiv (wrap64 (z * q)) p) = y) (h3 : (y == 0) = false) :
    Calls Try.prog 19 #[.agg #[.int .i64 q, .int .i64 p, .int .i64 b, .int .i64 d, .int .i64 m], .int .i64 t] w fun e w' => e = .returned (.tuple #[.agg #[.int .i64 q, .int .i64 p, .int .i64 y, .int .i64 d, .int .i64 1], .int .i64 0]) ∧ Below w.heap.size w w' := by
  have HG := Aside0.mk hG
  have HT := Aside0.mk hT
  clear hG hT
  have HW := Aside0.mk hw
  clear hw
  have HY := Aside0.mk hy
  clear hy
  go_enter Try.func19, Try.ntmps19
  go_upto_region 3 with (first | ((with_reducible refine gate_dst (N := 2) rfl ?_); refine box_event ?hg (N := 2) ?hd (cs := #[.int .i64 q, .int .i64 p, .int .i64 b, .int .i64 d, .int .i64 m]) (t := 40) ?hr ?_; (case hd => rfl); (case hg => rfl); (case hr => first | (go_simp; done) | (go_simp; rfl)); intro g2 hg2 w2 hx2 hb2; have G2 := Aside0.mk hg2; have X2 := Aside0.mk hx2; have D2 := Aside0.mk hb2; clear hx2 hb2 hg2; have c0 := blk_cell X2.out 0; have c1 := blk_cell X2.out 1; have c2 := blk_cell X2.out 2; have c3 := blk_cell X2.out 3; have c4 := blk_cell X2.out 4) | ((with_reducible refine gate_dst (N := 4) rfl ?_); refine box_event ?hg (N := 4) ?hd (cs := #[.int .i64 0, .int .i64 0, .int .i64 0, .int .i64 0, .int .i64 0]) (t := 40) ?hr ?_; (case hd => rfl); (case hg => rfl); (case hr => first | (go_simp; done) | (go_simp; rfl)); intro g4 hg4 w4 hx4 hb4; have G4 := Aside0.mk hg4; have X4 := Aside0.mk hx4; have D4 := Aside0.mk hb4; clear hx4 hb4 hg4; clear c0 c1 c2 c3 c4; replace X2 := Aside0.mk ((D4.out.block _ (blk_lt X2.out)).trans X2.out); have c0 := blk_cell X2.out 0; have c1 := blk_cell X2.out 1; have c2 := blk_cell X2.out 2; have c3 := blk_cell X2.out 3; have c4 := blk_cell X2.out 4) | (go_at_call 25; (with_reducible refine (beadleref10_GoodServer.calls q p b d m true _ HG.out).mono ?_); rintro e w5 ⟨rfl, hb5⟩; have D5 := Aside0.mk hb5; clear hb5 c0 c1 c2 c3 c4) | (go_at_call 32; (with_reducible refine (beadleref1_Good.calls t true _ HT.out).mono ?_); rintro e w6 ⟨rfl, hd6⟩; have D6 := Aside0.mk (Drawn0.below hd6); clear hd6))
  have hlt : w.heap.size ≤ g4 := by have := G4.out; have := D2.out.size; omega
  replace X2 := Aside0.mk ((D6.out.block _ (blk_lt ((D5.out.block _ (blk_lt X2.out)).trans X2.out))).trans ((D5.out.block _ (blk_lt X2.out)).trans X2.out))
  replace X4 := Aside0.mk ((D6.out.block _ (blk_lt ((D5.out.block _ (blk_lt X4.out)).trans X4.out))).trans ((D5.out.block _ (blk_lt X4.out)).trans X4.out))
  have FAR := Aside0.mk (show Below w.heap.size w w6 from ((D2.out.trans (D4.out.mono D2.out.size)).trans (D5.out.mono (D2.out.trans (D4.out.mono D2.out.size)).size)).trans (D6.out.mono ((D2.out.trans (D4.out.mono D2.out.size)).trans (D5.out.mono (D2.out.trans (D4.out.mono D2.out.size)).size)).size))
  clear D2 D4 D5 D6 G2 G4
  have hm' := hm
  have c0 := blk_cell X2.out 0
  have c1 := blk_cell X2.out 1
  have c2 := blk_cell X2.out 2
  have c3 := blk_cell X2.out 3
  have c4 := blk_cell X2.out 4
  go_upto_region 6 with ((with_reducible refine gate_dst (N := 6) rfl ?_); refine box_event ?hg (N := 6) ?hd (cs := #[.int .i64 0, .int .i64 0, .int .i64 0, .int .i64 0, .int .i64 0]) (t := 40) ?hr ?_; (case hd => rfl); (case hg => rfl); (case hr => first | (go_simp; done) | (go_simp; rfl)); intro g6 hg6 y6 hx6 hb6; have G6 := Aside0.mk hg6; have X6 := Aside0.mk hx6; have D6 := Aside0.mk hb6; clear hx6 hb6 hg6; have r0 := blk_cell X6.out 0; have r1 := blk_cell X6.out 1; have r2 := blk_cell X6.out 2; have r3 := blk_cell X6.out 3; have r4 := blk_cell X6.out 4; have u0 := blk_frozen X6.out 0; have u1 := blk_frozen X6.out 1; have u2 := blk_frozen X6.out 2; have u3 := blk_frozen X6.out 3; have u4 := blk_frozen X6.out 4; refine store_event (((((y6.setCell ⟨g6, 0, none⟩ (.int .i64 q)).setCell ⟨g6, 1, none⟩ (.int .i64 p)).setCell ⟨g6, 2, none⟩ (.int .i64 b)).setCell ⟨g6, 3, none⟩ (.int .i64 d)).setCell ⟨g6, 4, none⟩ (.int .i64 m)) rfl (by first | (go_simp; done) | (go_simp; rfl)) ?_; clear r0 r1 r2 r3 r4 u0 u1 u2 u3 u4 c0 c1 c2 c3 c4; have hz : w6.heap.size ≤ g6 := Nat.le_of_eq G6.out.symm; have hb : Below w6.heap.size w6 (((((y6.setCell ⟨g6, 0, none⟩ (.int .i64 q)).setCell ⟨g6, 1, none⟩ (.int .i64 p)).setCell ⟨g6, 2, none⟩ (.int .i64 b)).setCell ⟨g6, 3, none⟩ (.int .i64 d)).setCell ⟨g6, 4, none⟩ (.int .i64 m)) := (((((D6.out.setCell hz _).setCell hz _).setCell hz _).setCell hz _).setCell hz _); have N46 := Aside0.mk (show g4 ≠ g6 from fun e => by have h1 := blk_lt X4.out; have h2 := hz; omega); have hlt6 := Aside0.mk (show w.heap.size ≤ g6 from Nat.le_trans FAR.out.size hz); replace X2 := Aside0.mk ((hb.block _ (blk_lt X2.out)).trans X2.out); replace X4 := Aside0.mk ((hb.block _ (blk_lt X4.out)).trans X4.out); replace X6 := Aside0.mk (show (((((y6.setCell ⟨g6, 0, none⟩ (.int .i64 q)).setCell ⟨g6, 1, none⟩ (.int .i64 p)).setCell ⟨g6, 2, none⟩ (.int .i64 b)).setCell ⟨g6, 3, none⟩ (.int .i64 d)).setCell ⟨g6, 4, none⟩ (.int .i64 m)).heap[g6]? = some (.cells #[.int .i64 q, .int .i64 p, .int .i64 b, .int .i64 d, .int .i64 m] 40 (0, 0)) from (blk_put (cs := #[.int .i64 q, .int .i64 p, .int .i64 b, .int .i64 d, .int .i64 0]) (blk_put (cs := #[.int .i64 q, .int .i64 p, .int .i64 b, .int .i64 0, .int .i64 0]) (blk_put (cs := #[.int .i64 q, .int .i64 p, .int .i64 0, .int .i64 0, .int .i64 0]) (blk_put (cs := #[.int .i64 q, .int .i64 0, .int .i64 0, .int .i64 0, .int .i64 0]) (blk_put (cs := #[.int .i64 0, .int .i64 0, .int .i64 0, .int .i64 0, .int .i64 0]) X6.out 0 (.int .i64 q) rfl) 1 (.int .i64 p) rfl) 2 (.int .i64 b) rfl) 3 (.int .i64 d) rfl) 4 (.int .i64 m) rfl)); replace FAR := Aside0.mk (FAR.out.trans (hb.mono FAR.out.size)); clear hz hb D6 G6; generalize (((((y6.setCell ⟨g6, 0, none⟩ (.int .i64 q)).setCell ⟨g6, 1, none⟩ (.int .i64 p)).setCell ⟨g6, 2, none⟩ (.int .i64 b)).setCell ⟨g6, 3, none⟩ (.int .i64 d)).setCell ⟨g6, 4, none⟩ (.int .i64 m)) = w7 at X2 X4 X6 FAR ⊢)
  have c0 := blk_cell X2.out 0
  have c1 := blk_cell X2.out 1
  have c2 := blk_cell X2.out 2
  have c3 := blk_cell X2.out 3
  have c4 := blk_cell X2.out 4
  have s0 := blk_cell X4.out 0
  have s1 := blk_cell X4.out 1
  have s2 := blk_cell X4.out 2
  have s3 := blk_cell X4.out 3
  have s4 := blk_cell X4.out 4
  have t0 := blk_frozen X4.out 0
  have t1 := blk_frozen X4.out 1
  have t2 := blk_frozen X4.out 2
  have t3 := blk_frozen X4.out 3
  have t4 := blk_frozen X4.out 4
  have r0 := blk_cell X6.out 0
  have r1 := blk_cell X6.out 1
  have r2 := blk_cell X6.out 2
  have r3 := blk_cell X6.out 3
  have r4 := blk_cell X6.out 4
  have u0 := blk_frozen X6.out 0
  have u1 := blk_frozen X6.out 1
  have u2 := blk_frozen X6.out 2
  have u3 := blk_frozen X6.out 3
  have u4 := blk_frozen X6.out 4
  have n46 := N46.out
  have n64 := Ne.symm N46.out
  have hlt6' := hlt6.out
  go_upto_region 12 with (fail)
  (try simp only [i64_w])
  rw [HW.out]
  go_upto_region 16 with (fail)
  (try simp only [i64_w])
  rw [HY.out]
  clear c0 c1 c2 c3 c4 s0 s1 s2 s3 s4 t0 t1 t2 t3 t4 r0 r1 r2 r3 r4 u0 u1 u2 u3 u4
  replace X4 := Aside0.mk (show (w7.setCell ⟨g6, 2, none⟩ (.int .i64 y)).heap[g4]? = _ from blk_far X4.out n46 _)
  replace X6 := Aside0.mk (show (w7.setCell ⟨g6, 2, none⟩ (.int .i64 y)).heap[g6]? = some (.cells #[.int .i64 q, .int .i64 p, .int .i64 y, .int .i64 d, .int .i64 m] 40 (0, 0)) from blk_put (cs := #[.int .i64 q, .int .i64 p, .int .i64 b, .int .i64 d, .int .i64 m]) X6.out 2 (.int .i64 y) rfl)
  replace FAR := Aside0.mk (show Below w.heap.size w (w7.setCell ⟨g6, 2, none⟩ (.int .i64 y)) from FAR.out.setCell hlt6' _)
  generalize w7.setCell ⟨g6, 2, none⟩ (.int .i64 y) = w8 at X4 X6 FAR ⊢
  have s0 := blk_cell X4.out 0
  have s1 := blk_cell X4.out 1
  have s2 := blk_cell X4.out 2
  have s3 := blk_cell X4.out 3
  have s4 := blk_cell X4.out 4
  have t0 := blk_frozen X4.out 0
  have t1 := blk_frozen X4.out 1
  have t2 := blk_frozen X4.out 2
  have t3 := blk_frozen X4.out 3
  have t4 := blk_frozen X4.out 4
  have r0 := blk_cell X6.out 0
  have r1 := blk_cell X6.out 1
  have r2 := blk_cell X6.out 2
  have r3 := blk_cell X6.out 3
  have r4 := blk_cell X6.out 4
  have u0 := blk_frozen X6.out 0
  have u1 := blk_frozen X6.out 1
  have u2 := blk_frozen X6.out 2
  have u3 := blk_frozen X6.out 3
  have u4 := blk_frozen X6.out 4
  go_wp2
  refine bodyPost_ret (results_ct rfl _ _ g4 40 #[.int .i64 q, .int .i64 p, .int .i64 y, .int .i64 d, .int .i64 1] (0, 0) _ rfl (blk_put (cs := #[.int .i64 q, .int .i64 p, .int .i64 y, .int .i64 d, .int .i64 0]) (blk_put (cs := #[.int .i64 q, .int .i64 p, .int .i64 y, .int .i64 0, .int .i64 0]) (blk_put (cs := #[.int .i64 q, .int .i64 p, .int .i64 0, .int .i64 0, .int .i64 0]) (blk_put (cs := #[.int .i64 q, .int .i64 0, .int .i64 0, .int .i64 0, .int .i64 0]) (blk_put (cs := #[.int .i64 0, .int .i64 0, .int .i64 0, .int .i64 0, .int .i64 0]) (blk_far X4.out n46 _) 0 (.int .i64 q) rfl) 1 (.int .i64 p) rfl) 2 (.int .i64 y) rfl) 3 (.int .i64 d) rfl) 4 (.int .i64 1) rfl) Try.underlying40 rfl (by kernel_rfl)) rfl ?_
  exact ⟨rfl, ((((((FAR.out.setCell hlt6' _).setCell hlt _).setCell hlt _).setCell hlt _).setCell hlt _).setCell hlt _)⟩
set_option maxHeartbeats 2000000 in
set_option maxRecDepth 100000 in
theorem rw_fft (q p b d m t : Int) (z : Int) (w : World) (hG : beadleref10_GoodServer.f q p b d m = some true) (hT : beadleref1_Good.f t = some true) (hm : (m != 0) = false) (hd : decide (d ≤ t) = false) (hw : wrap64 (d - t) = z) (h1 : decide (p < z) = false) (h2 : decide (wrap64 (z * q) < wrap64 (b * p)) = false) (h3 : (b == 0) = true) :
    Calls Try.prog 19 #[.agg #[.int .i64 q, .int .i64 p, .int .i64 b, .int .i64 d, .int .i64 m], .int .i64 t] w fun e w' => e = .returned (.tuple #[.agg #[.int .i64 q, .int .i64 p, .int .i64 b, .int .i64 d, .int .i64 2], .int .i64 0]) ∧ Below w.heap.size w w' := by
  have HG := Aside0.mk hG
  have HT := Aside0.mk hT
  clear hG hT
  have HW := Aside0.mk hw
  clear hw
  go_enter Try.func19, Try.ntmps19
  go_upto_region 3 with (first | ((with_reducible refine gate_dst (N := 2) rfl ?_); refine box_event ?hg (N := 2) ?hd (cs := #[.int .i64 q, .int .i64 p, .int .i64 b, .int .i64 d, .int .i64 m]) (t := 40) ?hr ?_; (case hd => rfl); (case hg => rfl); (case hr => first | (go_simp; done) | (go_simp; rfl)); intro g2 hg2 w2 hx2 hb2; have G2 := Aside0.mk hg2; have X2 := Aside0.mk hx2; have D2 := Aside0.mk hb2; clear hx2 hb2 hg2; have c0 := blk_cell X2.out 0; have c1 := blk_cell X2.out 1; have c2 := blk_cell X2.out 2; have c3 := blk_cell X2.out 3; have c4 := blk_cell X2.out 4) | ((with_reducible refine gate_dst (N := 4) rfl ?_); refine box_event ?hg (N := 4) ?hd (cs := #[.int .i64 0, .int .i64 0, .int .i64 0, .int .i64 0, .int .i64 0]) (t := 40) ?hr ?_; (case hd => rfl); (case hg => rfl); (case hr => first | (go_simp; done) | (go_simp; rfl)); intro g4 hg4 w4 hx4 hb4; have G4 := Aside0.mk hg4; have X4 := Aside0.mk hx4; have D4 := Aside0.mk hb4; clear hx4 hb4 hg4; clear c0 c1 c2 c3 c4; replace X2 := Aside0.mk ((D4.out.block _ (blk_lt X2.out)).trans X2.out); have c0 := blk_cell X2.out 0; have c1 := blk_cell X2.out 1; have c2 := blk_cell X2.out 2; have c3 := blk_cell X2.out 3; have c4 := blk_cell X2.out 4) | (go_at_call 25; (with_reducible refine (beadleref10_GoodServer.calls q p b d m true _ HG.out).mono ?_); rintro e w5 ⟨rfl, hb5⟩; have D5 := Aside0.mk hb5; clear hb5 c0 c1 c2 c3 c4) | (go_at_call 32; (with_reducible refine (beadleref1_Good.calls t true _ HT.out).mono ?_); rintro e w6 ⟨rfl, hd6⟩; have D6 := Aside0.mk (Drawn0.below hd6); clear hd6))
  have hlt : w.heap.size ≤ g4 := by have := G4.out; have := D2.out.size; omega
  replace X2 := Aside0.mk ((D6.out.block _ (blk_lt ((D5.out.block _ (blk_lt X2.out)).trans X2.out))).trans ((D5.out.block _ (blk_lt X2.out)).trans X2.out))
  replace X4 := Aside0.mk ((D6.out.block _ (blk_lt ((D5.out.block _ (blk_lt X4.out)).trans X4.out))).trans ((D5.out.block _ (blk_lt X4.out)).trans X4.out))
  have FAR := Aside0.mk (show Below w.heap.size w w6 from ((D2.out.trans (D4.out.mono D2.out.size)).trans (D5.out.mono (D2.out.trans (D4.out.mono D2.out.size)).size)).trans (D6.out.mono ((D2.out.trans (D4.out.mono D2.out.size)).trans (D5.out.mono (D2.out.trans (D4.out.mono D2.out.size)).size)).size))
  clear D2 D4 D5 D6 G2 G4
  have hm' := hm
  have c0 := blk_cell X2.out 0
  have c1 := blk_cell X2.out 1
  have c2 := blk_cell X2.out 2
  have c3 := blk_cell X2.out 3
  have c4 := blk_cell X2.out 4
  go_upto_region 6 with ((with_reducible refine gate_dst (N := 6) rfl ?_); refine box_event ?hg (N := 6) ?hd (cs := #[.int .i64 0, .int .i64 0, .int .i64 0, .int .i64 0, .int .i64 0]) (t := 40) ?hr ?_; (case hd => rfl); (case hg => rfl); (case hr => first | (go_simp; done) | (go_simp; rfl)); intro g6 hg6 y6 hx6 hb6; have G6 := Aside0.mk hg6; have X6 := Aside0.mk hx6; have D6 := Aside0.mk hb6; clear hx6 hb6 hg6; have r0 := blk_cell X6.out 0; have r1 := blk_cell X6.out 1; have r2 := blk_cell X6.out 2; have r3 := blk_cell X6.out 3; have r4 := blk_cell X6.out 4; have u0 := blk_frozen X6.out 0; have u1 := blk_frozen X6.out 1; have u2 := blk_frozen X6.out 2; have u3 := blk_frozen X6.out 3; have u4 := blk_frozen X6.out 4; refine store_event (((((y6.setCell ⟨g6, 0, none⟩ (.int .i64 q)).setCell ⟨g6, 1, none⟩ (.int .i64 p)).setCell ⟨g6, 2, none⟩ (.int .i64 b)).setCell ⟨g6, 3, none⟩ (.int .i64 d)).setCell ⟨g6, 4, none⟩ (.int .i64 m)) rfl (by first | (go_simp; done) | (go_simp; rfl)) ?_; clear r0 r1 r2 r3 r4 u0 u1 u2 u3 u4 c0 c1 c2 c3 c4; have hz : w6.heap.size ≤ g6 := Nat.le_of_eq G6.out.symm; have hb : Below w6.heap.size w6 (((((y6.setCell ⟨g6, 0, none⟩ (.int .i64 q)).setCell ⟨g6, 1, none⟩ (.int .i64 p)).setCell ⟨g6, 2, none⟩ (.int .i64 b)).setCell ⟨g6, 3, none⟩ (.int .i64 d)).setCell ⟨g6, 4, none⟩ (.int .i64 m)) := (((((D6.out.setCell hz _).setCell hz _).setCell hz _).setCell hz _).setCell hz _); have N46 := Aside0.mk (show g4 ≠ g6 from fun e => by have h1 := blk_lt X4.out; have h2 := hz; omega); have hlt6 := Aside0.mk (show w.heap.size ≤ g6 from Nat.le_trans FAR.out.size hz); replace X2 := Aside0.mk ((hb.block _ (blk_lt X2.out)).trans X2.out); replace X4 := Aside0.mk ((hb.block _ (blk_lt X4.out)).trans X4.out); replace X6 := Aside0.mk (show (((((y6.setCell ⟨g6, 0, none⟩ (.int .i64 q)).setCell ⟨g6, 1, none⟩ (.int .i64 p)).setCell ⟨g6, 2, none⟩ (.int .i64 b)).setCell ⟨g6, 3, none⟩ (.int .i64 d)).setCell ⟨g6, 4, none⟩ (.int .i64 m)).heap[g6]? = some (.cells #[.int .i64 q, .int .i64 p, .int .i64 b, .int .i64 d, .int .i64 m] 40 (0, 0)) from (blk_put (cs := #[.int .i64 q, .int .i64 p, .int .i64 b, .int .i64 d, .int .i64 0]) (blk_put (cs := #[.int .i64 q, .int .i64 p, .int .i64 b, .int .i64 0, .int .i64 0]) (blk_put (cs := #[.int .i64 q, .int .i64 p, .int .i64 0, .int .i64 0, .int .i64 0]) (blk_put (cs := #[.int .i64 q, .int .i64 0, .int .i64 0, .int .i64 0, .int .i64 0]) (blk_put (cs := #[.int .i64 0, .int .i64 0, .int .i64 0, .int .i64 0, .int .i64 0]) X6.out 0 (.int .i64 q) rfl) 1 (.int .i64 p) rfl) 2 (.int .i64 b) rfl) 3 (.int .i64 d) rfl) 4 (.int .i64 m) rfl)); replace FAR := Aside0.mk (FAR.out.trans (hb.mono FAR.out.size)); clear hz hb D6 G6; generalize (((((y6.setCell ⟨g6, 0, none⟩ (.int .i64 q)).setCell ⟨g6, 1, none⟩ (.int .i64 p)).setCell ⟨g6, 2, none⟩ (.int .i64 b)).setCell ⟨g6, 3, none⟩ (.int .i64 d)).setCell ⟨g6, 4, none⟩ (.int .i64 m)) = w7 at X2 X4 X6 FAR ⊢)
  have c0 := blk_cell X2.out 0
  have c1 := blk_cell X2.out 1
  have c2 := blk_cell X2.out 2
  have c3 := blk_cell X2.out 3
  have c4 := blk_cell X2.out 4
  have s0 := blk_cell X4.out 0
  have s1 := blk_cell X4.out 1
  have s2 := blk_cell X4.out 2
  have s3 := blk_cell X4.out 3
  have s4 := blk_cell X4.out 4
  have t0 := blk_frozen X4.out 0
  have t1 := blk_frozen X4.out 1
  have t2 := blk_frozen X4.out 2
  have t3 := blk_frozen X4.out 3
  have t4 := blk_frozen X4.out 4
  have r0 := blk_cell X6.out 0
  have r1 := blk_cell X6.out 1
  have r2 := blk_cell X6.out 2
  have r3 := blk_cell X6.out 3
  have r4 := blk_cell X6.out 4
  have u0 := blk_frozen X6.out 0
  have u1 := blk_frozen X6.out 1
  have u2 := blk_frozen X6.out 2
  have u3 := blk_frozen X6.out 3
  have u4 := blk_frozen X6.out 4
  have n46 := N46.out
  have n64 := Ne.symm N46.out
  have hlt6' := hlt6.out
  go_upto_region 12 with (fail)
  (try simp only [i64_w])
  rw [HW.out]
  go_wp2
  refine bodyPost_ret (results_ct rfl _ _ g4 40 #[.int .i64 q, .int .i64 p, .int .i64 b, .int .i64 d, .int .i64 2] (0, 0) _ rfl (blk_put (cs := #[.int .i64 q, .int .i64 p, .int .i64 b, .int .i64 d, .int .i64 0]) (blk_put (cs := #[.int .i64 q, .int .i64 p, .int .i64 b, .int .i64 0, .int .i64 0]) (blk_put (cs := #[.int .i64 q, .int .i64 p, .int .i64 0, .int .i64 0, .int .i64 0]) (blk_put (cs := #[.int .i64 q, .int .i64 0, .int .i64 0, .int .i64 0, .int .i64 0]) (blk_put (cs := #[.int .i64 0, .int .i64 0, .int .i64 0, .int .i64 0, .int .i64 0]) (blk_far (blk_far X4.out n46 _) n46 _) 0 (.int .i64 q) rfl) 1 (.int .i64 p) rfl) 2 (.int .i64 b) rfl) 3 (.int .i64 d) rfl) 4 (.int .i64 2) rfl) Try.underlying40 rfl (by kernel_rfl)) rfl ?_
  exact ⟨rfl, (((((((FAR.out.setCell hlt6' _).setCell hlt6' _).setCell hlt _).setCell hlt _).setCell hlt _).setCell hlt _).setCell hlt _)⟩
set_option maxHeartbeats 2000000 in
set_option maxRecDepth 100000 in
theorem rw_fff (q p b d m t : Int) (z : Int) (w : World) (hG : beadleref10_GoodServer.f q p b d m = some true) (hT : beadleref1_Good.f t = some true) (hm : (m != 0) = false) (hd : decide (d ≤ t) = false) (hw : wrap64 (d - t) = z) (h1 : decide (p < z) = false) (h2 : decide (wrap64 (z * q) < wrap64 (b * p)) = false) (h3 : (b == 0) = false) :
    Calls Try.prog 19 #[.agg #[.int .i64 q, .int .i64 p, .int .i64 b, .int .i64 d, .int .i64 m], .int .i64 t] w fun e w' => e = .returned (.tuple #[.agg #[.int .i64 q, .int .i64 p, .int .i64 b, .int .i64 d, .int .i64 1], .int .i64 0]) ∧ Below w.heap.size w w' := by
  have HG := Aside0.mk hG
  have HT := Aside0.mk hT
  clear hG hT
  have HW := Aside0.mk hw
  clear hw
  go_enter Try.func19, Try.ntmps19
  go_upto_region 3 with (first | ((with_reducible refine gate_dst (N := 2) rfl ?_); refine box_event ?hg (N := 2) ?hd (cs := #[.int .i64 q, .int .i64 p, .int .i64 b, .int .i64 d, .int .i64 m]) (t := 40) ?hr ?_; (case hd => rfl); (case hg => rfl); (case hr => first | (go_simp; done) | (go_simp; rfl)); intro g2 hg2 w2 hx2 hb2; have G2 := Aside0.mk hg2; have X2 := Aside0.mk hx2; have D2 := Aside0.mk hb2; clear hx2 hb2 hg2; have c0 := blk_cell X2.out 0; have c1 := blk_cell X2.out 1; have c2 := blk_cell X2.out 2; have c3 := blk_cell X2.out 3; have c4 := blk_cell X2.out 4) | ((with_reducible refine gate_dst (N := 4) rfl ?_); refine box_event ?hg (N := 4) ?hd (cs := #[.int .i64 0, .int .i64 0, .int .i64 0, .int .i64 0, .int .i64 0]) (t := 40) ?hr ?_; (case hd => rfl); (case hg => rfl); (case hr => first | (go_simp; done) | (go_simp; rfl)); intro g4 hg4 w4 hx4 hb4; have G4 := Aside0.mk hg4; have X4 := Aside0.mk hx4; have D4 := Aside0.mk hb4; clear hx4 hb4 hg4; clear c0 c1 c2 c3 c4; replace X2 := Aside0.mk ((D4.out.block _ (blk_lt X2.out)).trans X2.out); have c0 := blk_cell X2.out 0; have c1 := blk_cell X2.out 1; have c2 := blk_cell X2.out 2; have c3 := blk_cell X2.out 3; have c4 := blk_cell X2.out 4) | (go_at_call 25; (with_reducible refine (beadleref10_GoodServer.calls q p b d m true _ HG.out).mono ?_); rintro e w5 ⟨rfl, hb5⟩; have D5 := Aside0.mk hb5; clear hb5 c0 c1 c2 c3 c4) | (go_at_call 32; (with_reducible refine (beadleref1_Good.calls t true _ HT.out).mono ?_); rintro e w6 ⟨rfl, hd6⟩; have D6 := Aside0.mk (Drawn0.below hd6); clear hd6))
  have hlt : w.heap.size ≤ g4 := by have := G4.out; have := D2.out.size; omega
  replace X2 := Aside0.mk ((D6.out.block _ (blk_lt ((D5.out.block _ (blk_lt X2.out)).trans X2.out))).trans ((D5.out.block _ (blk_lt X2.out)).trans X2.out))
  replace X4 := Aside0.mk ((D6.out.block _ (blk_lt ((D5.out.block _ (blk_lt X4.out)).trans X4.out))).trans ((D5.out.block _ (blk_lt X4.out)).trans X4.out))
  have FAR := Aside0.mk (show Below w.heap.size w w6 from ((D2.out.trans (D4.out.mono D2.out.size)).trans (D5.out.mono (D2.out.trans (D4.out.mono D2.out.size)).size)).trans (D6.out.mono ((D2.out.trans (D4.out.mono D2.out.size)).trans (D5.out.mono (D2.out.trans (D4.out.mono D2.out.size)).size)).size))
  clear D2 D4 D5 D6 G2 G4
  have hm' := hm
  have c0 := blk_cell X2.out 0
  have c1 := blk_cell X2.out 1
  have c2 := blk_cell X2.out 2
  have c3 := blk_cell X2.out 3
  have c4 := blk_cell X2.out 4
  go_upto_region 6 with ((with_reducible refine gate_dst (N := 6) rfl ?_); refine box_event ?hg (N := 6) ?hd (cs := #[.int .i64 0, .int .i64 0, .int .i64 0, .int .i64 0, .int .i64 0]) (t := 40) ?hr ?_; (case hd => rfl); (case hg => rfl); (case hr => first | (go_simp; done) | (go_simp; rfl)); intro g6 hg6 y6 hx6 hb6; have G6 := Aside0.mk hg6; have X6 := Aside0.mk hx6; have D6 := Aside0.mk hb6; clear hx6 hb6 hg6; have r0 := blk_cell X6.out 0; have r1 := blk_cell X6.out 1; have r2 := blk_cell X6.out 2; have r3 := blk_cell X6.out 3; have r4 := blk_cell X6.out 4; have u0 := blk_frozen X6.out 0; have u1 := blk_frozen X6.out 1; have u2 := blk_frozen X6.out 2; have u3 := blk_frozen X6.out 3; have u4 := blk_frozen X6.out 4; refine store_event (((((y6.setCell ⟨g6, 0, none⟩ (.int .i64 q)).setCell ⟨g6, 1, none⟩ (.int .i64 p)).setCell ⟨g6, 2, none⟩ (.int .i64 b)).setCell ⟨g6, 3, none⟩ (.int .i64 d)).setCell ⟨g6, 4, none⟩ (.int .i64 m)) rfl (by first | (go_simp; done) | (go_simp; rfl)) ?_; clear r0 r1 r2 r3 r4 u0 u1 u2 u3 u4 c0 c1 c2 c3 c4; have hz : w6.heap.size ≤ g6 := Nat.le_of_eq G6.out.symm; have hb : Below w6.heap.size w6 (((((y6.setCell ⟨g6, 0, none⟩ (.int .i64 q)).setCell ⟨g6, 1, none⟩ (.int .i64 p)).setCell ⟨g6, 2, none⟩ (.int .i64 b)).setCell ⟨g6, 3, none⟩ (.int .i64 d)).setCell ⟨g6, 4, none⟩ (.int .i64 m)) := (((((D6.out.setCell hz _).setCell hz _).setCell hz _).setCell hz _).setCell hz _); have N46 := Aside0.mk (show g4 ≠ g6 from fun e => by have h1 := blk_lt X4.out; have h2 := hz; omega); have hlt6 := Aside0.mk (show w.heap.size ≤ g6 from Nat.le_trans FAR.out.size hz); replace X2 := Aside0.mk ((hb.block _ (blk_lt X2.out)).trans X2.out); replace X4 := Aside0.mk ((hb.block _ (blk_lt X4.out)).trans X4.out); replace X6 := Aside0.mk (show (((((y6.setCell ⟨g6, 0, none⟩ (.int .i64 q)).setCell ⟨g6, 1, none⟩ (.int .i64 p)).setCell ⟨g6, 2, none⟩ (.int .i64 b)).setCell ⟨g6, 3, none⟩ (.int .i64 d)).setCell ⟨g6, 4, none⟩ (.int .i64 m)).heap[g6]? = some (.cells #[.int .i64 q, .int .i64 p, .int .i64 b, .int .i64 d, .int .i64 m] 40 (0, 0)) from (blk_put (cs := #[.int .i64 q, .int .i64 p, .int .i64 b, .int .i64 d, .int .i64 0]) (blk_put (cs := #[.int .i64 q, .int .i64 p, .int .i64 b, .int .i64 0, .int .i64 0]) (blk_put (cs := #[.int .i64 q, .int .i64 p, .int .i64 0, .int .i64 0, .int .i64 0]) (blk_put (cs := #[.int .i64 q, .int .i64 0, .int .i64 0, .int .i64 0, .int .i64 0]) (blk_put (cs := #[.int .i64 0, .int .i64 0, .int .i64 0, .int .i64 0, .int .i64 0]) X6.out 0 (.int .i64 q) rfl) 1 (.int .i64 p) rfl) 2 (.int .i64 b) rfl) 3 (.int .i64 d) rfl) 4 (.int .i64 m) rfl)); replace FAR := Aside0.mk (FAR.out.trans (hb.mono FAR.out.size)); clear hz hb D6 G6; generalize (((((y6.setCell ⟨g6, 0, none⟩ (.int .i64 q)).setCell ⟨g6, 1, none⟩ (.int .i64 p)).setCell ⟨g6, 2, none⟩ (.int .i64 b)).setCell ⟨g6, 3, none⟩ (.int .i64 d)).setCell ⟨g6, 4, none⟩ (.int .i64 m)) = w7 at X2 X4 X6 FAR ⊢)
  have c0 := blk_cell X2.out 0
  have c1 := blk_cell X2.out 1
  have c2 := blk_cell X2.out 2
  have c3 := blk_cell X2.out 3
  have c4 := blk_cell X2.out 4
  have s0 := blk_cell X4.out 0
  have s1 := blk_cell X4.out 1
  have s2 := blk_cell X4.out 2
  have s3 := blk_cell X4.out 3
  have s4 := blk_cell X4.out 4
  have t0 := blk_frozen X4.out 0
  have t1 := blk_frozen X4.out 1
  have t2 := blk_frozen X4.out 2
  have t3 := blk_frozen X4.out 3
  have t4 := blk_frozen X4.out 4
  have r0 := blk_cell X6.out 0
  have r1 := blk_cell X6.out 1
  have r2 := blk_cell X6.out 2
  have r3 := blk_cell X6.out 3
  have r4 := blk_cell X6.out 4
  have u0 := blk_frozen X6.out 0
  have u1 := blk_frozen X6.out 1
  have u2 := blk_frozen X6.out 2
  have u3 := blk_frozen X6.out 3
  have u4 := blk_frozen X6.out 4
  have n46 := N46.out
  have n64 := Ne.symm N46.out
  have hlt6' := hlt6.out
  go_upto_region 12 with (fail)
  (try simp only [i64_w])
  rw [HW.out]
  go_wp2
  refine bodyPost_ret (results_ct rfl _ _ g4 40 #[.int .i64 q, .int .i64 p, .int .i64 b, .int .i64 d, .int .i64 1] (0, 0) _ rfl (blk_put (cs := #[.int .i64 q, .int .i64 p, .int .i64 b, .int .i64 d, .int .i64 0]) (blk_put (cs := #[.int .i64 q, .int .i64 p, .int .i64 b, .int .i64 0, .int .i64 0]) (blk_put (cs := #[.int .i64 q, .int .i64 p, .int .i64 0, .int .i64 0, .int .i64 0]) (blk_put (cs := #[.int .i64 q, .int .i64 0, .int .i64 0, .int .i64 0, .int .i64 0]) (blk_put (cs := #[.int .i64 0, .int .i64 0, .int .i64 0, .int .i64 0, .int .i64 0]) (blk_far X4.out n46 _) 0 (.int .i64 q) rfl) 1 (.int .i64 p) rfl) 2 (.int .i64 b) rfl) 3 (.int .i64 d) rfl) 4 (.int .i64 1) rfl) Try.underlying40 rfl (by kernel_rfl)) rfl ?_
  exact ⟨rfl, ((((((FAR.out.setCell hlt6' _).setCell hlt _).setCell hlt _).setCell hlt _).setCell hlt _).setCell hlt _)⟩
end Go.Proofs.Ytofbjgkoaiiagaa.CbsS
