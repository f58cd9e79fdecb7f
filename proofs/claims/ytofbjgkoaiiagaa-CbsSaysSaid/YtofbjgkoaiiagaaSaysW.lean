/- CbsSays: any server, any tick: as the document says (the walk; no condition). -/
import Derived.Test.YtofbjgkoaiiagaaRWake
import Derived.Test.YtofbjgkoaiiagaaQt
import Derived.Test.YtofbjgkoaiiagaaQx10
import Derived.Test.YtofbjgkoaiiagaaQx14
import Derived.Test.YtofbjgkoaiiagaaQx19
import Derived.Test.YtofbjgkoaiiagaaQx20
import Derived.Test.YtofbjgkoaiiagaaQx17
import Derived.Test.YtofbjgkoaiiagaaQx11
import Derived.Test.YtofbjgkoaiiagaaQx22
import Derived.Test.YtofbjgkoaiiagaaQx4
import Derived.Test.YtofbjgkoaiiagaaQx30
import Derived.Test.YtofbjgkoaiiagaaQx31
import Derived.Test.YtofbjgkoaiiagaaQx32
import Derived.Test.YtofbjgkoaiiagaaQx36
import Derived.Test.YtofbjgkoaiiagaaQx37
import Derived.Test.YtofbjgkoaiiagaaQx27
import Derived.Test.YtofbjgkoaiiagaaQx24
import Derived.Test.YtofbjgkoaiiagaaQx12
import Derived.Deep.DeepCutAuto
namespace Go.Proofs.Ytofbjgkoaiiagaa.CbsS
open Go.RowKit Go.Proofs.YtofbjgkoaiiagaaW.PrintWords Go.Proofs.YtofbjgkoaiiagaaW.PrintLast Go.Proofs.YtofbjgkoaiiagaaW.PrintMore Go.Proofs.Ytofbjgkoaiiagaa.Q Go.Proofs.Ytofbjgkoaiiagaa.St
open Go.Proofs.Ytofbjgkoaiiagaa.Pure (wake_both use_both idle_both wait_both turn_both new_both good_both awake_f)
set_option linter.unusedVariables false
set_option linter.unusedSimpArgs false
attribute [local go_sem] max2_int min2_int max_two min_two max_three min_three max_four min_four

set_option maxHeartbeats 8000000 in
set_option maxRecDepth 100000 in
theorem says_walk (s : Int × Int × Int × Int × Int) {g0 : Int × Int × Int × Int × Int → Prop} (_ : g0 s) (t : Int × Int × Int × Int × Int) {g1 : Int × Int × Int × Int × Int → Prop} (_ : g1 t) (now : Int) (_ : (Lit.int .i64 now).wf = true) (n : Int) (_ : (Lit.int .i64 n).wf = true) (w : World) :
    Calls Try.prog 8 #[.agg #[.int .i64 s.1, .int .i64 s.2.1, .int .i64 s.2.2.1, .int .i64 s.2.2.2.1, .int .i64 s.2.2.2.2], .agg #[.int .i64 t.1, .int .i64 t.2.1, .int .i64 t.2.2.1, .int .i64 t.2.2.2.1, .int .i64 t.2.2.2.2], .int .i64 now, .int .i64 n] w fun e w' => e = .returned (.bool true) ∧ Below w.heap.size w w' := by
  obtain ⟨q, p, b, d, mo⟩ := s
  obtain ⟨q2, p2, b2, d2, m2⟩ := t
  obtain ⟨va1, va2, va3, va4, va5, va6, hva, hvar⟩ := wake_both q p b d mo now
  have Hva := Aside0.mk hva
  have Hvar := Aside0.mk hvar
  clear hva hvar
  obtain ⟨vb1, vb2, vb3, vb4, vb5, vb6, hvb, hvbr⟩ := use_both q p b d mo n
  have Hvb := Aside0.mk hvb
  have Hvbr := Aside0.mk hvbr
  clear hvb hvbr
  obtain ⟨vc1, vc2, vc3, vc4, vc5, vc6, hvc, hvcr⟩ := idle_both q p b d mo
  have Hvc := Aside0.mk hvc
  have Hvcr := Aside0.mk hvcr
  clear hvc hvcr
  obtain ⟨vd1, vd2, vd3, vd4, vd5, vd6, hvd, hvdr⟩ := wait_both q p b d mo
  have Hvd := Aside0.mk hvd
  have Hvdr := Aside0.mk hvdr
  clear hvd hvdr
  obtain ⟨ve1, ve2, ve3, ve4, ve5, ve6, hve, hver⟩ := turn_both q p b d mo now
  have Hve := Aside0.mk hve
  have Hver := Aside0.mk hver
  clear hve hver
  obtain ⟨vf1, vf2, vf3, vf4, vf5, vf6, hvf, hvfr⟩ := new_both q p
  have Hvf := Aside0.mk hvf
  have Hvfr := Aside0.mk hvfr
  clear hvf hvfr
  obtain ⟨rg, hg, hgr⟩ := good_both q p b d mo
  have HG := Aside0.mk hg
  have HGr := Aside0.mk hgr
  have HLS := Aside0.mk (show cbs_Less.f q p b d mo q2 p2 b2 d2 m2 = some (decide (d < d2)) from rfl)
  clear hg hgr
  show Calls Try.prog 8 #[.agg #[.int .i64 q, .int .i64 p, .int .i64 b, .int .i64 d, .int .i64 mo], .agg #[.int .i64 q2, .int .i64 p2, .int .i64 b2, .int .i64 d2, .int .i64 m2], .int .i64 now, .int .i64 n] w _
  go_enter Try.func8, Try.ntmps8
  go_upto_region 3 with (first | ((with_reducible refine gate_dst (N := 4) rfl ?_); refine box_event ?hg (N := 4) ?hd (cs := #[.int .i64 q, .int .i64 p, .int .i64 b, .int .i64 d, .int .i64 mo]) (t := 23) ?hr ?_; (case hd => rfl); (case hg => rfl); (case hr => first | (go_simp; done) | (go_simp; rfl)); intro g4 hg4 y4 hx4 hb4; have X4 := Aside0.mk hx4; have D4 := Aside0.mk hb4; clear hx4 hb4 hg4) | ((with_reducible refine gate_dst (N := 5) rfl ?_); refine box_event ?hg (N := 5) ?hd (cs := #[.int .i64 q2, .int .i64 p2, .int .i64 b2, .int .i64 d2, .int .i64 m2]) (t := 23) ?hr ?_; (case hd => rfl); (case hg => rfl); (case hr => first | (go_simp; done) | (go_simp; rfl)); intro g5 hg5 y5 hx5 hb5; have X5 := Aside0.mk hx5; have D5 := Aside0.mk hb5; clear hx5 hb5 hg5) | (go_at_call 9; (with_reducible refine (beadlelaw12_awake.calls 3 true _ awake_f).mono ?_); rintro e w1 ⟨rfl, hb1⟩; have D1 := Aside0.mk hb1; clear hb1))
  replace X4 := Aside0.mk ((D1.out.block _ (blk_lt ((D5.out.block _ (blk_lt X4.out)).trans X4.out))).trans ((D5.out.block _ (blk_lt X4.out)).trans X4.out))
  replace X5 := Aside0.mk ((D1.out.block _ (blk_lt X5.out)).trans X5.out)
  have B1 := Aside0.mk (show Below w.heap.size w w1 from (D4.out.trans (D5.out.mono D4.out.size)).trans (D1.out.mono (D4.out.trans (D5.out.mono D4.out.size)).size))
  clear D1 D4 D5
  have c0 := blk_cell X4.out 0
  have c1 := blk_cell X4.out 1
  have c2 := blk_cell X4.out 2
  have c3 := blk_cell X4.out 3
  have c4 := blk_cell X4.out 4
  go_upto_region 4 with (first | (go_at_call 18; (with_reducible refine (beadlelaw12_ownS.calls q p b d mo q p b d mo _ rfl).mono ?_); rintro e v2 ⟨rfl, hb2⟩; have D2 := Aside0.mk hb2; clear hb2) | ((with_reducible refine gate_dst (N := 9) rfl ?_); refine box_event ?hg (N := 9) ?hd (cs := #[.int .i64 0, .int .i64 0, .int .i64 0, .int .i64 0, .int .i64 0]) (t := 40) ?hr ?_; (case hd => rfl); (case hg => rfl); (case hr => first | (go_simp; done) | (go_simp; rfl)); intro g9 hg2 y2 hx2 hb2; have Y2 := Aside0.mk hx2; have E2 := Aside0.mk hb2; have G2 := Aside0.mk hg2; have s0 := blk_cell hx2 0; have t0 := blk_frozen hx2 0; have s1 := blk_cell hx2 1; have t1 := blk_frozen hx2 1; have s2 := blk_cell hx2 2; have t2 := blk_frozen hx2 2; have s3 := blk_cell hx2 3; have t3 := blk_frozen hx2 3; have s4 := blk_cell hx2 4; have t4 := blk_frozen hx2 4; clear hx2 hb2 hg2; refine store_event (((((y2.setCell ⟨g9, 0, none⟩ (.int .i64 q)).setCell ⟨g9, 1, none⟩ (.int .i64 p)).setCell ⟨g9, 2, none⟩ (.int .i64 b)).setCell ⟨g9, 3, none⟩ (.int .i64 d)).setCell ⟨g9, 4, none⟩ (.int .i64 mo)) rfl (by first | (go_simp; done) | (go_simp; rfl)) ?_; clear s0 s1 s2 s3 s4 t0 t1 t2 t3 t4 c0 c1 c2 c3 c4; have hz : w1.heap.size ≤ g9 := (by have h1 := G2.out; have h2 := D2.out.size; omega); have hb : Below w1.heap.size w1 (((((y2.setCell ⟨g9, 0, none⟩ (.int .i64 q)).setCell ⟨g9, 1, none⟩ (.int .i64 p)).setCell ⟨g9, 2, none⟩ (.int .i64 b)).setCell ⟨g9, 3, none⟩ (.int .i64 d)).setCell ⟨g9, 4, none⟩ (.int .i64 mo)) := ((((((D2.out.trans (E2.out.mono D2.out.size)).setCell hz _).setCell hz _).setCell hz _).setCell hz _).setCell hz _); replace X4 := Aside0.mk ((hb.block _ (blk_lt X4.out)).trans X4.out); replace X5 := Aside0.mk ((hb.block _ (blk_lt X5.out)).trans X5.out); have X9 := Aside0.mk (show (((((y2.setCell ⟨g9, 0, none⟩ (.int .i64 q)).setCell ⟨g9, 1, none⟩ (.int .i64 p)).setCell ⟨g9, 2, none⟩ (.int .i64 b)).setCell ⟨g9, 3, none⟩ (.int .i64 d)).setCell ⟨g9, 4, none⟩ (.int .i64 mo)).heap[g9]? = some (.cells #[.int .i64 q, .int .i64 p, .int .i64 b, .int .i64 d, .int .i64 mo] 40 (0, 0)) from (blk_put (cs := #[.int .i64 q, .int .i64 p, .int .i64 b, .int .i64 d, .int .i64 0]) (blk_put (cs := #[.int .i64 q, .int .i64 p, .int .i64 b, .int .i64 0, .int .i64 0]) (blk_put (cs := #[.int .i64 q, .int .i64 p, .int .i64 0, .int .i64 0, .int .i64 0]) (blk_put (cs := #[.int .i64 q, .int .i64 0, .int .i64 0, .int .i64 0, .int .i64 0]) (blk_put (cs := #[.int .i64 0, .int .i64 0, .int .i64 0, .int .i64 0, .int .i64 0]) Y2.out 0 (.int .i64 q) rfl) 1 (.int .i64 p) rfl) 2 (.int .i64 b) rfl) 3 (.int .i64 d) rfl) 4 (.int .i64 mo) rfl)); have B2 := Aside0.mk (B1.out.trans (hb.mono B1.out.size)); clear hz hb Y2 E2 G2 D2 B1; generalize (((((y2.setCell ⟨g9, 0, none⟩ (.int .i64 q)).setCell ⟨g9, 1, none⟩ (.int .i64 p)).setCell ⟨g9, 2, none⟩ (.int .i64 b)).setCell ⟨g9, 3, none⟩ (.int .i64 d)).setCell ⟨g9, 4, none⟩ (.int .i64 mo)) = w2 at B2 X4 X5 X9 ⊢))
  have c0 := blk_cell X4.out 0
  have c1 := blk_cell X4.out 1
  have c2 := blk_cell X4.out 2
  have c3 := blk_cell X4.out 3
  have c4 := blk_cell X4.out 4
  go_upto_region 5 with (first | (go_at_call 11; (with_reducible refine (cbs_Wake.calls 5 q p b d mo now va1 va2 va3 va4 va5 va6 _ Hva.out).mono ?_); rintro e v3 ⟨rfl, hb3⟩; have D3 := Aside0.mk hb3; clear hb3) | ((with_reducible refine gate_dst (N := 10) rfl ?_); refine box_event ?hg (N := 10) ?hd (cs := #[.int .i64 0, .int .i64 0, .int .i64 0, .int .i64 0, .int .i64 0]) (t := 23) ?hr ?_; (case hd => rfl); (case hg => rfl); (case hr => first | (go_simp; done) | (go_simp; rfl)); intro g10 hg3 y3 hx3 hb3; have Y3 := Aside0.mk hx3; have E3 := Aside0.mk hb3; have G3 := Aside0.mk hg3; have s0 := blk_cell hx3 0; have t0 := blk_frozen hx3 0; have s1 := blk_cell hx3 1; have t1 := blk_frozen hx3 1; have s2 := blk_cell hx3 2; have t2 := blk_frozen hx3 2; have s3 := blk_cell hx3 3; have t3 := blk_frozen hx3 3; have s4 := blk_cell hx3 4; have t4 := blk_frozen hx3 4; clear hx3 hb3 hg3; refine store_event (((((y3.setCell ⟨g10, 0, none⟩ (.int .i64 va1)).setCell ⟨g10, 1, none⟩ (.int .i64 va2)).setCell ⟨g10, 2, none⟩ (.int .i64 va3)).setCell ⟨g10, 3, none⟩ (.int .i64 va4)).setCell ⟨g10, 4, none⟩ (.int .i64 va5)) rfl (by first | (go_simp; done) | (go_simp; rfl)) ?_; clear s0 s1 s2 s3 s4 t0 t1 t2 t3 t4 c0 c1 c2 c3 c4; have hz : w2.heap.size ≤ g10 := (by have h1 := G3.out; have h2 := D3.out.size; omega); have hb : Below w2.heap.size w2 (((((y3.setCell ⟨g10, 0, none⟩ (.int .i64 va1)).setCell ⟨g10, 1, none⟩ (.int .i64 va2)).setCell ⟨g10, 2, none⟩ (.int .i64 va3)).setCell ⟨g10, 3, none⟩ (.int .i64 va4)).setCell ⟨g10, 4, none⟩ (.int .i64 va5)) := ((((((D3.out.trans (E3.out.mono D3.out.size)).setCell hz _).setCell hz _).setCell hz _).setCell hz _).setCell hz _); replace X4 := Aside0.mk ((hb.block _ (blk_lt X4.out)).trans X4.out); replace X5 := Aside0.mk ((hb.block _ (blk_lt X5.out)).trans X5.out); replace X9 := Aside0.mk ((hb.block _ (blk_lt X9.out)).trans X9.out); have X10 := Aside0.mk (show (((((y3.setCell ⟨g10, 0, none⟩ (.int .i64 va1)).setCell ⟨g10, 1, none⟩ (.int .i64 va2)).setCell ⟨g10, 2, none⟩ (.int .i64 va3)).setCell ⟨g10, 3, none⟩ (.int .i64 va4)).setCell ⟨g10, 4, none⟩ (.int .i64 va5)).heap[g10]? = some (.cells #[.int .i64 va1, .int .i64 va2, .int .i64 va3, .int .i64 va4, .int .i64 va5] 23 (0, 0)) from (blk_put (cs := #[.int .i64 va1, .int .i64 va2, .int .i64 va3, .int .i64 va4, .int .i64 0]) (blk_put (cs := #[.int .i64 va1, .int .i64 va2, .int .i64 va3, .int .i64 0, .int .i64 0]) (blk_put (cs := #[.int .i64 va1, .int .i64 va2, .int .i64 0, .int .i64 0, .int .i64 0]) (blk_put (cs := #[.int .i64 va1, .int .i64 0, .int .i64 0, .int .i64 0, .int .i64 0]) (blk_put (cs := #[.int .i64 0, .int .i64 0, .int .i64 0, .int .i64 0, .int .i64 0]) Y3.out 0 (.int .i64 va1) rfl) 1 (.int .i64 va2) rfl) 2 (.int .i64 va3) rfl) 3 (.int .i64 va4) rfl) 4 (.int .i64 va5) rfl)); have B3 := Aside0.mk (B2.out.trans (hb.mono B2.out.size)); clear hz hb Y3 E3 G3 D3 B2; generalize (((((y3.setCell ⟨g10, 0, none⟩ (.int .i64 va1)).setCell ⟨g10, 1, none⟩ (.int .i64 va2)).setCell ⟨g10, 2, none⟩ (.int .i64 va3)).setCell ⟨g10, 3, none⟩ (.int .i64 va4)).setCell ⟨g10, 4, none⟩ (.int .i64 va5)) = w3 at B3 X4 X5 X9 X10 ⊢))
  have c0 := blk_cell X9.out 0
  have c1 := blk_cell X9.out 1
  have c2 := blk_cell X9.out 2
  have c3 := blk_cell X9.out 3
  have c4 := blk_cell X9.out 4
  go_upto_region 6 with (first | (go_at_call 19; (with_reducible refine (rwake q p b d mo now va1 va2 va3 va4 va5 va6 _ Hvar.out).mono ?_); rintro e v4 ⟨rfl, hb4⟩; have D4 := Aside0.mk hb4; clear hb4) | ((with_reducible refine gate_dst (N := 12) rfl ?_); refine box_event ?hg (N := 12) ?hd (cs := #[.int .i64 0, .int .i64 0, .int .i64 0, .int .i64 0, .int .i64 0]) (t := 40) ?hr ?_; (case hd => rfl); (case hg => rfl); (case hr => first | (go_simp; done) | (go_simp; rfl)); intro g12 hg4 y4 hx4 hb4; have Y4 := Aside0.mk hx4; have E4 := Aside0.mk hb4; have G4 := Aside0.mk hg4; have s0 := blk_cell hx4 0; have t0 := blk_frozen hx4 0; have s1 := blk_cell hx4 1; have t1 := blk_frozen hx4 1; have s2 := blk_cell hx4 2; have t2 := blk_frozen hx4 2; have s3 := blk_cell hx4 3; have t3 := blk_frozen hx4 3; have s4 := blk_cell hx4 4; have t4 := blk_frozen hx4 4; clear hx4 hb4 hg4; refine store_event (((((y4.setCell ⟨g12, 0, none⟩ (.int .i64 va1)).setCell ⟨g12, 1, none⟩ (.int .i64 va2)).setCell ⟨g12, 2, none⟩ (.int .i64 va3)).setCell ⟨g12, 3, none⟩ (.int .i64 va4)).setCell ⟨g12, 4, none⟩ (.int .i64 va5)) rfl (by first | (go_simp; done) | (go_simp; rfl)) ?_; clear s0 s1 s2 s3 s4 t0 t1 t2 t3 t4 c0 c1 c2 c3 c4; have hz : w3.heap.size ≤ g12 := (by have h1 := G4.out; have h2 := D4.out.size; omega); have hb : Below w3.heap.size w3 (((((y4.setCell ⟨g12, 0, none⟩ (.int .i64 va1)).setCell ⟨g12, 1, none⟩ (.int .i64 va2)).setCell ⟨g12, 2, none⟩ (.int .i64 va3)).setCell ⟨g12, 3, none⟩ (.int .i64 va4)).setCell ⟨g12, 4, none⟩ (.int .i64 va5)) := ((((((D4.out.trans (E4.out.mono D4.out.size)).setCell hz _).setCell hz _).setCell hz _).setCell hz _).setCell hz _); replace X4 := Aside0.mk ((hb.block _ (blk_lt X4.out)).trans X4.out); replace X5 := Aside0.mk ((hb.block _ (blk_lt X5.out)).trans X5.out); replace X9 := Aside0.mk ((hb.block _ (blk_lt X9.out)).trans X9.out); replace X10 := Aside0.mk ((hb.block _ (blk_lt X10.out)).trans X10.out); have X12 := Aside0.mk (show (((((y4.setCell ⟨g12, 0, none⟩ (.int .i64 va1)).setCell ⟨g12, 1, none⟩ (.int .i64 va2)).setCell ⟨g12, 2, none⟩ (.int .i64 va3)).setCell ⟨g12, 3, none⟩ (.int .i64 va4)).setCell ⟨g12, 4, none⟩ (.int .i64 va5)).heap[g12]? = some (.cells #[.int .i64 va1, .int .i64 va2, .int .i64 va3, .int .i64 va4, .int .i64 va5] 40 (0, 0)) from (blk_put (cs := #[.int .i64 va1, .int .i64 va2, .int .i64 va3, .int .i64 va4, .int .i64 0]) (blk_put (cs := #[.int .i64 va1, .int .i64 va2, .int .i64 va3, .int .i64 0, .int .i64 0]) (blk_put (cs := #[.int .i64 va1, .int .i64 va2, .int .i64 0, .int .i64 0, .int .i64 0]) (blk_put (cs := #[.int .i64 va1, .int .i64 0, .int .i64 0, .int .i64 0, .int .i64 0]) (blk_put (cs := #[.int .i64 0, .int .i64 0, .int .i64 0, .int .i64 0, .int .i64 0]) Y4.out 0 (.int .i64 va1) rfl) 1 (.int .i64 va2) rfl) 2 (.int .i64 va3) rfl) 3 (.int .i64 va4) rfl) 4 (.int .i64 va5) rfl)); have B4 := Aside0.mk (B3.out.trans (hb.mono B3.out.size)); clear hz hb Y4 E4 G4 D4 B3; generalize (((((y4.setCell ⟨g12, 0, none⟩ (.int .i64 va1)).setCell ⟨g12, 1, none⟩ (.int .i64 va2)).setCell ⟨g12, 2, none⟩ (.int .i64 va3)).setCell ⟨g12, 3, none⟩ (.int .i64 va4)).setCell ⟨g12, 4, none⟩ (.int .i64 va5)) = w4 at B4 X4 X5 X9 X10 X12 ⊢))
  have c0 := blk_cell X4.out 0
  have c1 := blk_cell X4.out 1
  have c2 := blk_cell X4.out 2
  have c3 := blk_cell X4.out 3
  have c4 := blk_cell X4.out 4
  go_upto_region 7 with (first | (go_at_call 12; (with_reducible refine (cbs_Use.calls 5 q p b d mo n vb1 vb2 vb3 vb4 vb5 vb6 _ Hvb.out).mono ?_); rintro e v5 ⟨rfl, hb5⟩; have D5 := Aside0.mk hb5; clear hb5) | ((with_reducible refine gate_dst (N := 14) rfl ?_); refine box_event ?hg (N := 14) ?hd (cs := #[.int .i64 0, .int .i64 0, .int .i64 0, .int .i64 0, .int .i64 0]) (t := 23) ?hr ?_; (case hd => rfl); (case hg => rfl); (case hr => first | (go_simp; done) | (go_simp; rfl)); intro g14 hg5 y5 hx5 hb5; have Y5 := Aside0.mk hx5; have E5 := Aside0.mk hb5; have G5 := Aside0.mk hg5; have s0 := blk_cell hx5 0; have t0 := blk_frozen hx5 0; have s1 := blk_cell hx5 1; have t1 := blk_frozen hx5 1; have s2 := blk_cell hx5 2; have t2 := blk_frozen hx5 2; have s3 := blk_cell hx5 3; have t3 := blk_frozen hx5 3; have s4 := blk_cell hx5 4; have t4 := blk_frozen hx5 4; clear hx5 hb5 hg5; refine store_event (((((y5.setCell ⟨g14, 0, none⟩ (.int .i64 vb1)).setCell ⟨g14, 1, none⟩ (.int .i64 vb2)).setCell ⟨g14, 2, none⟩ (.int .i64 vb3)).setCell ⟨g14, 3, none⟩ (.int .i64 vb4)).setCell ⟨g14, 4, none⟩ (.int .i64 vb5)) rfl (by first | (go_simp; done) | (go_simp; rfl)) ?_; clear s0 s1 s2 s3 s4 t0 t1 t2 t3 t4 c0 c1 c2 c3 c4; have hz : w4.heap.size ≤ g14 := (by have h1 := G5.out; have h2 := D5.out.size; omega); have hb : Below w4.heap.size w4 (((((y5.setCell ⟨g14, 0, none⟩ (.int .i64 vb1)).setCell ⟨g14, 1, none⟩ (.int .i64 vb2)).setCell ⟨g14, 2, none⟩ (.int .i64 vb3)).setCell ⟨g14, 3, none⟩ (.int .i64 vb4)).setCell ⟨g14, 4, none⟩ (.int .i64 vb5)) := ((((((D5.out.trans (E5.out.mono D5.out.size)).setCell hz _).setCell hz _).setCell hz _).setCell hz _).setCell hz _); replace X4 := Aside0.mk ((hb.block _ (blk_lt X4.out)).trans X4.out); replace X5 := Aside0.mk ((hb.block _ (blk_lt X5.out)).trans X5.out); replace X9 := Aside0.mk ((hb.block _ (blk_lt X9.out)).trans X9.out); replace X10 := Aside0.mk ((hb.block _ (blk_lt X10.out)).trans X10.out); replace X12 := Aside0.mk ((hb.block _ (blk_lt X12.out)).trans X12.out); have X14 := Aside0.mk (show (((((y5.setCell ⟨g14, 0, none⟩ (.int .i64 vb1)).setCell ⟨g14, 1, none⟩ (.int .i64 vb2)).setCell ⟨g14, 2, none⟩ (.int .i64 vb3)).setCell ⟨g14, 3, none⟩ (.int .i64 vb4)).setCell ⟨g14, 4, none⟩ (.int .i64 vb5)).heap[g14]? = some (.cells #[.int .i64 vb1, .int .i64 vb2, .int .i64 vb3, .int .i64 vb4, .int .i64 vb5] 23 (0, 0)) from (blk_put (cs := #[.int .i64 vb1, .int .i64 vb2, .int .i64 vb3, .int .i64 vb4, .int .i64 0]) (blk_put (cs := #[.int .i64 vb1, .int .i64 vb2, .int .i64 vb3, .int .i64 0, .int .i64 0]) (blk_put (cs := #[.int .i64 vb1, .int .i64 vb2, .int .i64 0, .int .i64 0, .int .i64 0]) (blk_put (cs := #[.int .i64 vb1, .int .i64 0, .int .i64 0, .int .i64 0, .int .i64 0]) (blk_put (cs := #[.int .i64 0, .int .i64 0, .int .i64 0, .int .i64 0, .int .i64 0]) Y5.out 0 (.int .i64 vb1) rfl) 1 (.int .i64 vb2) rfl) 2 (.int .i64 vb3) rfl) 3 (.int .i64 vb4) rfl) 4 (.int .i64 vb5) rfl)); have B5 := Aside0.mk (B4.out.trans (hb.mono B4.out.size)); clear hz hb Y5 E5 G5 D5 B4; generalize (((((y5.setCell ⟨g14, 0, none⟩ (.int .i64 vb1)).setCell ⟨g14, 1, none⟩ (.int .i64 vb2)).setCell ⟨g14, 2, none⟩ (.int .i64 vb3)).setCell ⟨g14, 3, none⟩ (.int .i64 vb4)).setCell ⟨g14, 4, none⟩ (.int .i64 vb5)) = w5 at B5 X4 X5 X9 X10 X12 X14 ⊢))
  have c0 := blk_cell X9.out 0
  have c1 := blk_cell X9.out 1
  have c2 := blk_cell X9.out 2
  have c3 := blk_cell X9.out 3
  have c4 := blk_cell X9.out 4
  go_upto_region 8 with (first | (go_at_call 20; (with_reducible refine (beadleref10_Use.calls 5 q p b d mo n vb1 vb2 vb3 vb4 vb5 vb6 _ Hvbr.out).mono ?_); rintro e v6 ⟨rfl, hb6⟩; have D6 := Aside0.mk hb6; clear hb6) | ((with_reducible refine gate_dst (N := 16) rfl ?_); refine box_event ?hg (N := 16) ?hd (cs := #[.int .i64 0, .int .i64 0, .int .i64 0, .int .i64 0, .int .i64 0]) (t := 40) ?hr ?_; (case hd => rfl); (case hg => rfl); (case hr => first | (go_simp; done) | (go_simp; rfl)); intro g16 hg6 y6 hx6 hb6; have Y6 := Aside0.mk hx6; have E6 := Aside0.mk hb6; have G6 := Aside0.mk hg6; have s0 := blk_cell hx6 0; have t0 := blk_frozen hx6 0; have s1 := blk_cell hx6 1; have t1 := blk_frozen hx6 1; have s2 := blk_cell hx6 2; have t2 := blk_frozen hx6 2; have s3 := blk_cell hx6 3; have t3 := blk_frozen hx6 3; have s4 := blk_cell hx6 4; have t4 := blk_frozen hx6 4; clear hx6 hb6 hg6; refine store_event (((((y6.setCell ⟨g16, 0, none⟩ (.int .i64 vb1)).setCell ⟨g16, 1, none⟩ (.int .i64 vb2)).setCell ⟨g16, 2, none⟩ (.int .i64 vb3)).setCell ⟨g16, 3, none⟩ (.int .i64 vb4)).setCell ⟨g16, 4, none⟩ (.int .i64 vb5)) rfl (by first | (go_simp; done) | (go_simp; rfl)) ?_; clear s0 s1 s2 s3 s4 t0 t1 t2 t3 t4 c0 c1 c2 c3 c4; have hz : w5.heap.size ≤ g16 := (by have h1 := G6.out; have h2 := D6.out.size; omega); have hb : Below w5.heap.size w5 (((((y6.setCell ⟨g16, 0, none⟩ (.int .i64 vb1)).setCell ⟨g16, 1, none⟩ (.int .i64 vb2)).setCell ⟨g16, 2, none⟩ (.int .i64 vb3)).setCell ⟨g16, 3, none⟩ (.int .i64 vb4)).setCell ⟨g16, 4, none⟩ (.int .i64 vb5)) := ((((((D6.out.trans (E6.out.mono D6.out.size)).setCell hz _).setCell hz _).setCell hz _).setCell hz _).setCell hz _); replace X4 := Aside0.mk ((hb.block _ (blk_lt X4.out)).trans X4.out); replace X5 := Aside0.mk ((hb.block _ (blk_lt X5.out)).trans X5.out); replace X9 := Aside0.mk ((hb.block _ (blk_lt X9.out)).trans X9.out); replace X10 := Aside0.mk ((hb.block _ (blk_lt X10.out)).trans X10.out); replace X12 := Aside0.mk ((hb.block _ (blk_lt X12.out)).trans X12.out); replace X14 := Aside0.mk ((hb.block _ (blk_lt X14.out)).trans X14.out); have X16 := Aside0.mk (show (((((y6.setCell ⟨g16, 0, none⟩ (.int .i64 vb1)).setCell ⟨g16, 1, none⟩ (.int .i64 vb2)).setCell ⟨g16, 2, none⟩ (.int .i64 vb3)).setCell ⟨g16, 3, none⟩ (.int .i64 vb4)).setCell ⟨g16, 4, none⟩ (.int .i64 vb5)).heap[g16]? = some (.cells #[.int .i64 vb1, .int .i64 vb2, .int .i64 vb3, .int .i64 vb4, .int .i64 vb5] 40 (0, 0)) from (blk_put (cs := #[.int .i64 vb1, .int .i64 vb2, .int .i64 vb3, .int .i64 vb4, .int .i64 0]) (blk_put (cs := #[.int .i64 vb1, .int .i64 vb2, .int .i64 vb3, .int .i64 0, .int .i64 0]) (blk_put (cs := #[.int .i64 vb1, .int .i64 vb2, .int .i64 0, .int .i64 0, .int .i64 0]) (blk_put (cs := #[.int .i64 vb1, .int .i64 0, .int .i64 0, .int .i64 0, .int .i64 0]) (blk_put (cs := #[.int .i64 0, .int .i64 0, .int .i64 0, .int .i64 0, .int .i64 0]) Y6.out 0 (.int .i64 vb1) rfl) 1 (.int .i64 vb2) rfl) 2 (.int .i64 vb3) rfl) 3 (.int .i64 vb4) rfl) 4 (.int .i64 vb5) rfl)); have B6 := Aside0.mk (B5.out.trans (hb.mono B5.out.size)); clear hz hb Y6 E6 G6 D6 B5; generalize (((((y6.setCell ⟨g16, 0, none⟩ (.int .i64 vb1)).setCell ⟨g16, 1, none⟩ (.int .i64 vb2)).setCell ⟨g16, 2, none⟩ (.int .i64 vb3)).setCell ⟨g16, 3, none⟩ (.int .i64 vb4)).setCell ⟨g16, 4, none⟩ (.int .i64 vb5)) = w6 at B6 X4 X5 X9 X10 X12 X14 X16 ⊢))
  have c0 := blk_cell X4.out 0
  have c1 := blk_cell X4.out 1
  have c2 := blk_cell X4.out 2
  have c3 := blk_cell X4.out 3
  have c4 := blk_cell X4.out 4
  go_upto_region 9 with (first | (go_at_call 15; (with_reducible refine (cbs_Idle.calls q p b d mo  vc1 vc2 vc3 vc4 vc5 vc6 _ Hvc.out).mono ?_); rintro e v7 ⟨rfl, hb7⟩; have D7 := Aside0.mk hb7; clear hb7) | ((with_reducible refine gate_dst (N := 18) rfl ?_); refine box_event ?hg (N := 18) ?hd (cs := #[.int .i64 0, .int .i64 0, .int .i64 0, .int .i64 0, .int .i64 0]) (t := 23) ?hr ?_; (case hd => rfl); (case hg => rfl); (case hr => first | (go_simp; done) | (go_simp; rfl)); intro g18 hg7 y7 hx7 hb7; have Y7 := Aside0.mk hx7; have E7 := Aside0.mk hb7; have G7 := Aside0.mk hg7; have s0 := blk_cell hx7 0; have t0 := blk_frozen hx7 0; have s1 := blk_cell hx7 1; have t1 := blk_frozen hx7 1; have s2 := blk_cell hx7 2; have t2 := blk_frozen hx7 2; have s3 := blk_cell hx7 3; have t3 := blk_frozen hx7 3; have s4 := blk_cell hx7 4; have t4 := blk_frozen hx7 4; clear hx7 hb7 hg7; refine store_event (((((y7.setCell ⟨g18, 0, none⟩ (.int .i64 vc1)).setCell ⟨g18, 1, none⟩ (.int .i64 vc2)).setCell ⟨g18, 2, none⟩ (.int .i64 vc3)).setCell ⟨g18, 3, none⟩ (.int .i64 vc4)).setCell ⟨g18, 4, none⟩ (.int .i64 vc5)) rfl (by first | (go_simp; done) | (go_simp; rfl)) ?_; clear s0 s1 s2 s3 s4 t0 t1 t2 t3 t4 c0 c1 c2 c3 c4; have hz : w6.heap.size ≤ g18 := (by have h1 := G7.out; have h2 := D7.out.size; omega); have hb : Below w6.heap.size w6 (((((y7.setCell ⟨g18, 0, none⟩ (.int .i64 vc1)).setCell ⟨g18, 1, none⟩ (.int .i64 vc2)).setCell ⟨g18, 2, none⟩ (.int .i64 vc3)).setCell ⟨g18, 3, none⟩ (.int .i64 vc4)).setCell ⟨g18, 4, none⟩ (.int .i64 vc5)) := ((((((D7.out.trans (E7.out.mono D7.out.size)).setCell hz _).setCell hz _).setCell hz _).setCell hz _).setCell hz _); replace X4 := Aside0.mk ((hb.block _ (blk_lt X4.out)).trans X4.out); replace X5 := Aside0.mk ((hb.block _ (blk_lt X5.out)).trans X5.out); replace X9 := Aside0.mk ((hb.block _ (blk_lt X9.out)).trans X9.out); replace X10 := Aside0.mk ((hb.block _ (blk_lt X10.out)).trans X10.out); replace X12 := Aside0.mk ((hb.block _ (blk_lt X12.out)).trans X12.out); replace X14 := Aside0.mk ((hb.block _ (blk_lt X14.out)).trans X14.out); replace X16 := Aside0.mk ((hb.block _ (blk_lt X16.out)).trans X16.out); have X18 := Aside0.mk (show (((((y7.setCell ⟨g18, 0, none⟩ (.int .i64 vc1)).setCell ⟨g18, 1, none⟩ (.int .i64 vc2)).setCell ⟨g18, 2, none⟩ (.int .i64 vc3)).setCell ⟨g18, 3, none⟩ (.int .i64 vc4)).setCell ⟨g18, 4, none⟩ (.int .i64 vc5)).heap[g18]? = some (.cells #[.int .i64 vc1, .int .i64 vc2, .int .i64 vc3, .int .i64 vc4, .int .i64 vc5] 23 (0, 0)) from (blk_put (cs := #[.int .i64 vc1, .int .i64 vc2, .int .i64 vc3, .int .i64 vc4, .int .i64 0]) (blk_put (cs := #[.int .i64 vc1, .int .i64 vc2, .int .i64 vc3, .int .i64 0, .int .i64 0]) (blk_put (cs := #[.int .i64 vc1, .int .i64 vc2, .int .i64 0, .int .i64 0, .int .i64 0]) (blk_put (cs := #[.int .i64 vc1, .int .i64 0, .int .i64 0, .int .i64 0, .int .i64 0]) (blk_put (cs := #[.int .i64 0, .int .i64 0, .int .i64 0, .int .i64 0, .int .i64 0]) Y7.out 0 (.int .i64 vc1) rfl) 1 (.int .i64 vc2) rfl) 2 (.int .i64 vc3) rfl) 3 (.int .i64 vc4) rfl) 4 (.int .i64 vc5) rfl)); have B7 := Aside0.mk (B6.out.trans (hb.mono B6.out.size)); clear hz hb Y7 E7 G7 D7 B6; generalize (((((y7.setCell ⟨g18, 0, none⟩ (.int .i64 vc1)).setCell ⟨g18, 1, none⟩ (.int .i64 vc2)).setCell ⟨g18, 2, none⟩ (.int .i64 vc3)).setCell ⟨g18, 3, none⟩ (.int .i64 vc4)).setCell ⟨g18, 4, none⟩ (.int .i64 vc5)) = w7 at B7 X4 X5 X9 X10 X12 X14 X16 X18 ⊢))
  have c0 := blk_cell X9.out 0
  have c1 := blk_cell X9.out 1
  have c2 := blk_cell X9.out 2
  have c3 := blk_cell X9.out 3
  have c4 := blk_cell X9.out 4
  go_upto_region 10 with (first | (go_at_call 21; (with_reducible refine (beadleref10_Idle.calls q p b d mo  vc1 vc2 vc3 vc4 vc5 vc6 _ Hvcr.out).mono ?_); rintro e v8 ⟨rfl, hb8⟩; have D8 := Aside0.mk hb8; clear hb8) | ((with_reducible refine gate_dst (N := 20) rfl ?_); refine box_event ?hg (N := 20) ?hd (cs := #[.int .i64 0, .int .i64 0, .int .i64 0, .int .i64 0, .int .i64 0]) (t := 40) ?hr ?_; (case hd => rfl); (case hg => rfl); (case hr => first | (go_simp; done) | (go_simp; rfl)); intro g20 hg8 y8 hx8 hb8; have Y8 := Aside0.mk hx8; have E8 := Aside0.mk hb8; have G8 := Aside0.mk hg8; have s0 := blk_cell hx8 0; have t0 := blk_frozen hx8 0; have s1 := blk_cell hx8 1; have t1 := blk_frozen hx8 1; have s2 := blk_cell hx8 2; have t2 := blk_frozen hx8 2; have s3 := blk_cell hx8 3; have t3 := blk_frozen hx8 3; have s4 := blk_cell hx8 4; have t4 := blk_frozen hx8 4; clear hx8 hb8 hg8; refine store_event (((((y8.setCell ⟨g20, 0, none⟩ (.int .i64 vc1)).setCell ⟨g20, 1, none⟩ (.int .i64 vc2)).setCell ⟨g20, 2, none⟩ (.int .i64 vc3)).setCell ⟨g20, 3, none⟩ (.int .i64 vc4)).setCell ⟨g20, 4, none⟩ (.int .i64 vc5)) rfl (by first | (go_simp; done) | (go_simp; rfl)) ?_; clear s0 s1 s2 s3 s4 t0 t1 t2 t3 t4 c0 c1 c2 c3 c4; have hz : w7.heap.size ≤ g20 := (by have h1 := G8.out; have h2 := D8.out.size; omega); have hb : Below w7.heap.size w7 (((((y8.setCell ⟨g20, 0, none⟩ (.int .i64 vc1)).setCell ⟨g20, 1, none⟩ (.int .i64 vc2)).setCell ⟨g20, 2, none⟩ (.int .i64 vc3)).setCell ⟨g20, 3, none⟩ (.int .i64 vc4)).setCell ⟨g20, 4, none⟩ (.int .i64 vc5)) := ((((((D8.out.trans (E8.out.mono D8.out.size)).setCell hz _).setCell hz _).setCell hz _).setCell hz _).setCell hz _); replace X4 := Aside0.mk ((hb.block _ (blk_lt X4.out)).trans X4.out); replace X5 := Aside0.mk ((hb.block _ (blk_lt X5.out)).trans X5.out); replace X9 := Aside0.mk ((hb.block _ (blk_lt X9.out)).trans X9.out); replace X10 := Aside0.mk ((hb.block _ (blk_lt X10.out)).trans X10.out); replace X12 := Aside0.mk ((hb.block _ (blk_lt X12.out)).trans X12.out); replace X14 := Aside0.mk ((hb.block _ (blk_lt X14.out)).trans X14.out); replace X16 := Aside0.mk ((hb.block _ (blk_lt X16.out)).trans X16.out); replace X18 := Aside0.mk ((hb.block _ (blk_lt X18.out)).trans X18.out); have X20 := Aside0.mk (show (((((y8.setCell ⟨g20, 0, none⟩ (.int .i64 vc1)).setCell ⟨g20, 1, none⟩ (.int .i64 vc2)).setCell ⟨g20, 2, none⟩ (.int .i64 vc3)).setCell ⟨g20, 3, none⟩ (.int .i64 vc4)).setCell ⟨g20, 4, none⟩ (.int .i64 vc5)).heap[g20]? = some (.cells #[.int .i64 vc1, .int .i64 vc2, .int .i64 vc3, .int .i64 vc4, .int .i64 vc5] 40 (0, 0)) from (blk_put (cs := #[.int .i64 vc1, .int .i64 vc2, .int .i64 vc3, .int .i64 vc4, .int .i64 0]) (blk_put (cs := #[.int .i64 vc1, .int .i64 vc2, .int .i64 vc3, .int .i64 0, .int .i64 0]) (blk_put (cs := #[.int .i64 vc1, .int .i64 vc2, .int .i64 0, .int .i64 0, .int .i64 0]) (blk_put (cs := #[.int .i64 vc1, .int .i64 0, .int .i64 0, .int .i64 0, .int .i64 0]) (blk_put (cs := #[.int .i64 0, .int .i64 0, .int .i64 0, .int .i64 0, .int .i64 0]) Y8.out 0 (.int .i64 vc1) rfl) 1 (.int .i64 vc2) rfl) 2 (.int .i64 vc3) rfl) 3 (.int .i64 vc4) rfl) 4 (.int .i64 vc5) rfl)); have B8 := Aside0.mk (B7.out.trans (hb.mono B7.out.size)); clear hz hb Y8 E8 G8 D8 B7; generalize (((((y8.setCell ⟨g20, 0, none⟩ (.int .i64 vc1)).setCell ⟨g20, 1, none⟩ (.int .i64 vc2)).setCell ⟨g20, 2, none⟩ (.int .i64 vc3)).setCell ⟨g20, 3, none⟩ (.int .i64 vc4)).setCell ⟨g20, 4, none⟩ (.int .i64 vc5)) = w8 at B8 X4 X5 X9 X10 X12 X14 X16 X18 X20 ⊢))
  have c0 := blk_cell X4.out 0
  have c1 := blk_cell X4.out 1
  have c2 := blk_cell X4.out 2
  have c3 := blk_cell X4.out 3
  have c4 := blk_cell X4.out 4
  go_upto_region 11 with (first | (go_at_call 16; (with_reducible refine (cbs_Wait.calls q p b d mo  vd1 vd2 vd3 vd4 vd5 vd6 _ Hvd.out).mono ?_); rintro e v9 ⟨rfl, hb9⟩; have D9 := Aside0.mk hb9; clear hb9) | ((with_reducible refine gate_dst (N := 22) rfl ?_); refine box_event ?hg (N := 22) ?hd (cs := #[.int .i64 0, .int .i64 0, .int .i64 0, .int .i64 0, .int .i64 0]) (t := 23) ?hr ?_; (case hd => rfl); (case hg => rfl); (case hr => first | (go_simp; done) | (go_simp; rfl)); intro g22 hg9 y9 hx9 hb9; have Y9 := Aside0.mk hx9; have E9 := Aside0.mk hb9; have G9 := Aside0.mk hg9; have s0 := blk_cell hx9 0; have t0 := blk_frozen hx9 0; have s1 := blk_cell hx9 1; have t1 := blk_frozen hx9 1; have s2 := blk_cell hx9 2; have t2 := blk_frozen hx9 2; have s3 := blk_cell hx9 3; have t3 := blk_frozen hx9 3; have s4 := blk_cell hx9 4; have t4 := blk_frozen hx9 4; clear hx9 hb9 hg9; refine store_event (((((y9.setCell ⟨g22, 0, none⟩ (.int .i64 vd1)).setCell ⟨g22, 1, none⟩ (.int .i64 vd2)).setCell ⟨g22, 2, none⟩ (.int .i64 vd3)).setCell ⟨g22, 3, none⟩ (.int .i64 vd4)).setCell ⟨g22, 4, none⟩ (.int .i64 vd5)) rfl (by first | (go_simp; done) | (go_simp; rfl)) ?_; clear s0 s1 s2 s3 s4 t0 t1 t2 t3 t4 c0 c1 c2 c3 c4; have hz : w8.heap.size ≤ g22 := (by have h1 := G9.out; have h2 := D9.out.size; omega); have hb : Below w8.heap.size w8 (((((y9.setCell ⟨g22, 0, none⟩ (.int .i64 vd1)).setCell ⟨g22, 1, none⟩ (.int .i64 vd2)).setCell ⟨g22, 2, none⟩ (.int .i64 vd3)).setCell ⟨g22, 3, none⟩ (.int .i64 vd4)).setCell ⟨g22, 4, none⟩ (.int .i64 vd5)) := ((((((D9.out.trans (E9.out.mono D9.out.size)).setCell hz _).setCell hz _).setCell hz _).setCell hz _).setCell hz _); replace X4 := Aside0.mk ((hb.block _ (blk_lt X4.out)).trans X4.out); replace X5 := Aside0.mk ((hb.block _ (blk_lt X5.out)).trans X5.out); replace X9 := Aside0.mk ((hb.block _ (blk_lt X9.out)).trans X9.out); replace X10 := Aside0.mk ((hb.block _ (blk_lt X10.out)).trans X10.out); replace X12 := Aside0.mk ((hb.block _ (blk_lt X12.out)).trans X12.out); replace X14 := Aside0.mk ((hb.block _ (blk_lt X14.out)).trans X14.out); replace X16 := Aside0.mk ((hb.block _ (blk_lt X16.out)).trans X16.out); replace X18 := Aside0.mk ((hb.block _ (blk_lt X18.out)).trans X18.out); replace X20 := Aside0.mk ((hb.block _ (blk_lt X20.out)).trans X20.out); have X22 := Aside0.mk (show (((((y9.setCell ⟨g22, 0, none⟩ (.int .i64 vd1)).setCell ⟨g22, 1, none⟩ (.int .i64 vd2)).setCell ⟨g22, 2, none⟩ (.int .i64 vd3)).setCell ⟨g22, 3, none⟩ (.int .i64 vd4)).setCell ⟨g22, 4, none⟩ (.int .i64 vd5)).heap[g22]? = some (.cells #[.int .i64 vd1, .int .i64 vd2, .int .i64 vd3, .int .i64 vd4, .int .i64 vd5] 23 (0, 0)) from (blk_put (cs := #[.int .i64 vd1, .int .i64 vd2, .int .i64 vd3, .int .i64 vd4, .int .i64 0]) (blk_put (cs := #[.int .i64 vd1, .int .i64 vd2, .int .i64 vd3, .int .i64 0, .int .i64 0]) (blk_put (cs := #[.int .i64 vd1, .int .i64 vd2, .int .i64 0, .int .i64 0, .int .i64 0]) (blk_put (cs := #[.int .i64 vd1, .int .i64 0, .int .i64 0, .int .i64 0, .int .i64 0]) (blk_put (cs := #[.int .i64 0, .int .i64 0, .int .i64 0, .int .i64 0, .int .i64 0]) Y9.out 0 (.int .i64 vd1) rfl) 1 (.int .i64 vd2) rfl) 2 (.int .i64 vd3) rfl) 3 (.int .i64 vd4) rfl) 4 (.int .i64 vd5) rfl)); have B9 := Aside0.mk (B8.out.trans (hb.mono B8.out.size)); clear hz hb Y9 E9 G9 D9 B8; generalize (((((y9.setCell ⟨g22, 0, none⟩ (.int .i64 vd1)).setCell ⟨g22, 1, none⟩ (.int .i64 vd2)).setCell ⟨g22, 2, none⟩ (.int .i64 vd3)).setCell ⟨g22, 3, none⟩ (.int .i64 vd4)).setCell ⟨g22, 4, none⟩ (.int .i64 vd5)) = w9 at B9 X4 X5 X9 X10 X12 X14 X16 X18 X20 X22 ⊢))
  have c0 := blk_cell X9.out 0
  have c1 := blk_cell X9.out 1
  have c2 := blk_cell X9.out 2
  have c3 := blk_cell X9.out 3
  have c4 := blk_cell X9.out 4
  go_upto_region 12 with (first | (go_at_call 22; (with_reducible refine (beadleref10_Wait.calls q p b d mo  vd1 vd2 vd3 vd4 vd5 vd6 _ Hvdr.out).mono ?_); rintro e v10 ⟨rfl, hb10⟩; have D10 := Aside0.mk hb10; clear hb10) | ((with_reducible refine gate_dst (N := 24) rfl ?_); refine box_event ?hg (N := 24) ?hd (cs := #[.int .i64 0, .int .i64 0, .int .i64 0, .int .i64 0, .int .i64 0]) (t := 40) ?hr ?_; (case hd => rfl); (case hg => rfl); (case hr => first | (go_simp; done) | (go_simp; rfl)); intro g24 hg10 y10 hx10 hb10; have Y10 := Aside0.mk hx10; have E10 := Aside0.mk hb10; have G10 := Aside0.mk hg10; have s0 := blk_cell hx10 0; have t0 := blk_frozen hx10 0; have s1 := blk_cell hx10 1; have t1 := blk_frozen hx10 1; have s2 := blk_cell hx10 2; have t2 := blk_frozen hx10 2; have s3 := blk_cell hx10 3; have t3 := blk_frozen hx10 3; have s4 := blk_cell hx10 4; have t4 := blk_frozen hx10 4; clear hx10 hb10 hg10; refine store_event (((((y10.setCell ⟨g24, 0, none⟩ (.int .i64 vd1)).setCell ⟨g24, 1, none⟩ (.int .i64 vd2)).setCell ⟨g24, 2, none⟩ (.int .i64 vd3)).setCell ⟨g24, 3, none⟩ (.int .i64 vd4)).setCell ⟨g24, 4, none⟩ (.int .i64 vd5)) rfl (by first | (go_simp; done) | (go_simp; rfl)) ?_; clear s0 s1 s2 s3 s4 t0 t1 t2 t3 t4 c0 c1 c2 c3 c4; have hz : w9.heap.size ≤ g24 := (by have h1 := G10.out; have h2 := D10.out.size; omega); have hb : Below w9.heap.size w9 (((((y10.setCell ⟨g24, 0, none⟩ (.int .i64 vd1)).setCell ⟨g24, 1, none⟩ (.int .i64 vd2)).setCell ⟨g24, 2, none⟩ (.int .i64 vd3)).setCell ⟨g24, 3, none⟩ (.int .i64 vd4)).setCell ⟨g24, 4, none⟩ (.int .i64 vd5)) := ((((((D10.out.trans (E10.out.mono D10.out.size)).setCell hz _).setCell hz _).setCell hz _).setCell hz _).setCell hz _); replace X4 := Aside0.mk ((hb.block _ (blk_lt X4.out)).trans X4.out); replace X5 := Aside0.mk ((hb.block _ (blk_lt X5.out)).trans X5.out); replace X9 := Aside0.mk ((hb.block _ (blk_lt X9.out)).trans X9.out); replace X10 := Aside0.mk ((hb.block _ (blk_lt X10.out)).trans X10.out); replace X12 := Aside0.mk ((hb.block _ (blk_lt X12.out)).trans X12.out); replace X14 := Aside0.mk ((hb.block _ (blk_lt X14.out)).trans X14.out); replace X16 := Aside0.mk ((hb.block _ (blk_lt X16.out)).trans X16.out); replace X18 := Aside0.mk ((hb.block _ (blk_lt X18.out)).trans X18.out); replace X20 := Aside0.mk ((hb.block _ (blk_lt X20.out)).trans X20.out); replace X22 := Aside0.mk ((hb.block _ (blk_lt X22.out)).trans X22.out); have X24 := Aside0.mk (show (((((y10.setCell ⟨g24, 0, none⟩ (.int .i64 vd1)).setCell ⟨g24, 1, none⟩ (.int .i64 vd2)).setCell ⟨g24, 2, none⟩ (.int .i64 vd3)).setCell ⟨g24, 3, none⟩ (.int .i64 vd4)).setCell ⟨g24, 4, none⟩ (.int .i64 vd5)).heap[g24]? = some (.cells #[.int .i64 vd1, .int .i64 vd2, .int .i64 vd3, .int .i64 vd4, .int .i64 vd5] 40 (0, 0)) from (blk_put (cs := #[.int .i64 vd1, .int .i64 vd2, .int .i64 vd3, .int .i64 vd4, .int .i64 0]) (blk_put (cs := #[.int .i64 vd1, .int .i64 vd2, .int .i64 vd3, .int .i64 0, .int .i64 0]) (blk_put (cs := #[.int .i64 vd1, .int .i64 vd2, .int .i64 0, .int .i64 0, .int .i64 0]) (blk_put (cs := #[.int .i64 vd1, .int .i64 0, .int .i64 0, .int .i64 0, .int .i64 0]) (blk_put (cs := #[.int .i64 0, .int .i64 0, .int .i64 0, .int .i64 0, .int .i64 0]) Y10.out 0 (.int .i64 vd1) rfl) 1 (.int .i64 vd2) rfl) 2 (.int .i64 vd3) rfl) 3 (.int .i64 vd4) rfl) 4 (.int .i64 vd5) rfl)); have B10 := Aside0.mk (B9.out.trans (hb.mono B9.out.size)); clear hz hb Y10 E10 G10 D10 B9; generalize (((((y10.setCell ⟨g24, 0, none⟩ (.int .i64 vd1)).setCell ⟨g24, 1, none⟩ (.int .i64 vd2)).setCell ⟨g24, 2, none⟩ (.int .i64 vd3)).setCell ⟨g24, 3, none⟩ (.int .i64 vd4)).setCell ⟨g24, 4, none⟩ (.int .i64 vd5)) = w10 at B10 X4 X5 X9 X10 X12 X14 X16 X18 X20 X22 X24 ⊢))
  have c0 := blk_cell X4.out 0
  have c1 := blk_cell X4.out 1
  have c2 := blk_cell X4.out 2
  have c3 := blk_cell X4.out 3
  have c4 := blk_cell X4.out 4
  go_upto_region 13 with (first | (go_at_call 13; (with_reducible refine (cbs_Turn.calls 5 q p b d mo now ve1 ve2 ve3 ve4 ve5 ve6 _ Hve.out).mono ?_); rintro e v11 ⟨rfl, hb11⟩; have D11 := Aside0.mk hb11; clear hb11) | ((with_reducible refine gate_dst (N := 26) rfl ?_); refine box_event ?hg (N := 26) ?hd (cs := #[.int .i64 0, .int .i64 0, .int .i64 0, .int .i64 0, .int .i64 0]) (t := 23) ?hr ?_; (case hd => rfl); (case hg => rfl); (case hr => first | (go_simp; done) | (go_simp; rfl)); intro g26 hg11 y11 hx11 hb11; have Y11 := Aside0.mk hx11; have E11 := Aside0.mk hb11; have G11 := Aside0.mk hg11; have s0 := blk_cell hx11 0; have t0 := blk_frozen hx11 0; have s1 := blk_cell hx11 1; have t1 := blk_frozen hx11 1; have s2 := blk_cell hx11 2; have t2 := blk_frozen hx11 2; have s3 := blk_cell hx11 3; have t3 := blk_frozen hx11 3; have s4 := blk_cell hx11 4; have t4 := blk_frozen hx11 4; clear hx11 hb11 hg11; refine store_event (((((y11.setCell ⟨g26, 0, none⟩ (.int .i64 ve1)).setCell ⟨g26, 1, none⟩ (.int .i64 ve2)).setCell ⟨g26, 2, none⟩ (.int .i64 ve3)).setCell ⟨g26, 3, none⟩ (.int .i64 ve4)).setCell ⟨g26, 4, none⟩ (.int .i64 ve5)) rfl (by first | (go_simp; done) | (go_simp; rfl)) ?_; clear s0 s1 s2 s3 s4 t0 t1 t2 t3 t4 c0 c1 c2 c3 c4; have hz : w10.heap.size ≤ g26 := (by have h1 := G11.out; have h2 := D11.out.size; omega); have hb : Below w10.heap.size w10 (((((y11.setCell ⟨g26, 0, none⟩ (.int .i64 ve1)).setCell ⟨g26, 1, none⟩ (.int .i64 ve2)).setCell ⟨g26, 2, none⟩ (.int .i64 ve3)).setCell ⟨g26, 3, none⟩ (.int .i64 ve4)).setCell ⟨g26, 4, none⟩ (.int .i64 ve5)) := ((((((D11.out.trans (E11.out.mono D11.out.size)).setCell hz _).setCell hz _).setCell hz _).setCell hz _).setCell hz _); replace X4 := Aside0.mk ((hb.block _ (blk_lt X4.out)).trans X4.out); replace X5 := Aside0.mk ((hb.block _ (blk_lt X5.out)).trans X5.out); replace X9 := Aside0.mk ((hb.block _ (blk_lt X9.out)).trans X9.out); replace X10 := Aside0.mk ((hb.block _ (blk_lt X10.out)).trans X10.out); replace X12 := Aside0.mk ((hb.block _ (blk_lt X12.out)).trans X12.out); replace X14 := Aside0.mk ((hb.block _ (blk_lt X14.out)).trans X14.out); replace X16 := Aside0.mk ((hb.block _ (blk_lt X16.out)).trans X16.out); replace X18 := Aside0.mk ((hb.block _ (blk_lt X18.out)).trans X18.out); replace X20 := Aside0.mk ((hb.block _ (blk_lt X20.out)).trans X20.out); replace X22 := Aside0.mk ((hb.block _ (blk_lt X22.out)).trans X22.out); replace X24 := Aside0.mk ((hb.block _ (blk_lt X24.out)).trans X24.out); have X26 := Aside0.mk (show (((((y11.setCell ⟨g26, 0, none⟩ (.int .i64 ve1)).setCell ⟨g26, 1, none⟩ (.int .i64 ve2)).setCell ⟨g26, 2, none⟩ (.int .i64 ve3)).setCell ⟨g26, 3, none⟩ (.int .i64 ve4)).setCell ⟨g26, 4, none⟩ (.int .i64 ve5)).heap[g26]? = some (.cells #[.int .i64 ve1, .int .i64 ve2, .int .i64 ve3, .int .i64 ve4, .int .i64 ve5] 23 (0, 0)) from (blk_put (cs := #[.int .i64 ve1, .int .i64 ve2, .int .i64 ve3, .int .i64 ve4, .int .i64 0]) (blk_put (cs := #[.int .i64 ve1, .int .i64 ve2, .int .i64 ve3, .int .i64 0, .int .i64 0]) (blk_put (cs := #[.int .i64 ve1, .int .i64 ve2, .int .i64 0, .int .i64 0, .int .i64 0]) (blk_put (cs := #[.int .i64 ve1, .int .i64 0, .int .i64 0, .int .i64 0, .int .i64 0]) (blk_put (cs := #[.int .i64 0, .int .i64 0, .int .i64 0, .int .i64 0, .int .i64 0]) Y11.out 0 (.int .i64 ve1) rfl) 1 (.int .i64 ve2) rfl) 2 (.int .i64 ve3) rfl) 3 (.int .i64 ve4) rfl) 4 (.int .i64 ve5) rfl)); have B11 := Aside0.mk (B10.out.trans (hb.mono B10.out.size)); clear hz hb Y11 E11 G11 D11 B10; generalize (((((y11.setCell ⟨g26, 0, none⟩ (.int .i64 ve1)).setCell ⟨g26, 1, none⟩ (.int .i64 ve2)).setCell ⟨g26, 2, none⟩ (.int .i64 ve3)).setCell ⟨g26, 3, none⟩ (.int .i64 ve4)).setCell ⟨g26, 4, none⟩ (.int .i64 ve5)) = w11 at B11 X4 X5 X9 X10 X12 X14 X16 X18 X20 X22 X24 X26 ⊢))
  have c0 := blk_cell X9.out 0
  have c1 := blk_cell X9.out 1
  have c2 := blk_cell X9.out 2
  have c3 := blk_cell X9.out 3
  have c4 := blk_cell X9.out 4
  go_upto_region 14 with (first | (go_at_call 23; (with_reducible refine (beadleref10_Turn.calls 5 q p b d mo now ve1 ve2 ve3 ve4 ve5 ve6 _ Hver.out).mono ?_); rintro e v12 ⟨rfl, hb12⟩; have D12 := Aside0.mk hb12; clear hb12) | ((with_reducible refine gate_dst (N := 28) rfl ?_); refine box_event ?hg (N := 28) ?hd (cs := #[.int .i64 0, .int .i64 0, .int .i64 0, .int .i64 0, .int .i64 0]) (t := 40) ?hr ?_; (case hd => rfl); (case hg => rfl); (case hr => first | (go_simp; done) | (go_simp; rfl)); intro g28 hg12 y12 hx12 hb12; have Y12 := Aside0.mk hx12; have E12 := Aside0.mk hb12; have G12 := Aside0.mk hg12; have s0 := blk_cell hx12 0; have t0 := blk_frozen hx12 0; have s1 := blk_cell hx12 1; have t1 := blk_frozen hx12 1; have s2 := blk_cell hx12 2; have t2 := blk_frozen hx12 2; have s3 := blk_cell hx12 3; have t3 := blk_frozen hx12 3; have s4 := blk_cell hx12 4; have t4 := blk_frozen hx12 4; clear hx12 hb12 hg12; refine store_event (((((y12.setCell ⟨g28, 0, none⟩ (.int .i64 ve1)).setCell ⟨g28, 1, none⟩ (.int .i64 ve2)).setCell ⟨g28, 2, none⟩ (.int .i64 ve3)).setCell ⟨g28, 3, none⟩ (.int .i64 ve4)).setCell ⟨g28, 4, none⟩ (.int .i64 ve5)) rfl (by first | (go_simp; done) | (go_simp; rfl)) ?_; clear s0 s1 s2 s3 s4 t0 t1 t2 t3 t4 c0 c1 c2 c3 c4; have hz : w11.heap.size ≤ g28 := (by have h1 := G12.out; have h2 := D12.out.size; omega); have hb : Below w11.heap.size w11 (((((y12.setCell ⟨g28, 0, none⟩ (.int .i64 ve1)).setCell ⟨g28, 1, none⟩ (.int .i64 ve2)).setCell ⟨g28, 2, none⟩ (.int .i64 ve3)).setCell ⟨g28, 3, none⟩ (.int .i64 ve4)).setCell ⟨g28, 4, none⟩ (.int .i64 ve5)) := ((((((D12.out.trans (E12.out.mono D12.out.size)).setCell hz _).setCell hz _).setCell hz _).setCell hz _).setCell hz _); replace X4 := Aside0.mk ((hb.block _ (blk_lt X4.out)).trans X4.out); replace X5 := Aside0.mk ((hb.block _ (blk_lt X5.out)).trans X5.out); replace X9 := Aside0.mk ((hb.block _ (blk_lt X9.out)).trans X9.out); replace X10 := Aside0.mk ((hb.block _ (blk_lt X10.out)).trans X10.out); replace X12 := Aside0.mk ((hb.block _ (blk_lt X12.out)).trans X12.out); replace X14 := Aside0.mk ((hb.block _ (blk_lt X14.out)).trans X14.out); replace X16 := Aside0.mk ((hb.block _ (blk_lt X16.out)).trans X16.out); replace X18 := Aside0.mk ((hb.block _ (blk_lt X18.out)).trans X18.out); replace X20 := Aside0.mk ((hb.block _ (blk_lt X20.out)).trans X20.out); replace X22 := Aside0.mk ((hb.block _ (blk_lt X22.out)).trans X22.out); replace X24 := Aside0.mk ((hb.block _ (blk_lt X24.out)).trans X24.out); replace X26 := Aside0.mk ((hb.block _ (blk_lt X26.out)).trans X26.out); have X28 := Aside0.mk (show (((((y12.setCell ⟨g28, 0, none⟩ (.int .i64 ve1)).setCell ⟨g28, 1, none⟩ (.int .i64 ve2)).setCell ⟨g28, 2, none⟩ (.int .i64 ve3)).setCell ⟨g28, 3, none⟩ (.int .i64 ve4)).setCell ⟨g28, 4, none⟩ (.int .i64 ve5)).heap[g28]? = some (.cells #[.int .i64 ve1, .int .i64 ve2, .int .i64 ve3, .int .i64 ve4, .int .i64 ve5] 40 (0, 0)) from (blk_put (cs := #[.int .i64 ve1, .int .i64 ve2, .int .i64 ve3, .int .i64 ve4, .int .i64 0]) (blk_put (cs := #[.int .i64 ve1, .int .i64 ve2, .int .i64 ve3, .int .i64 0, .int .i64 0]) (blk_put (cs := #[.int .i64 ve1, .int .i64 ve2, .int .i64 0, .int .i64 0, .int .i64 0]) (blk_put (cs := #[.int .i64 ve1, .int .i64 0, .int .i64 0, .int .i64 0, .int .i64 0]) (blk_put (cs := #[.int .i64 0, .int .i64 0, .int .i64 0, .int .i64 0, .int .i64 0]) Y12.out 0 (.int .i64 ve1) rfl) 1 (.int .i64 ve2) rfl) 2 (.int .i64 ve3) rfl) 3 (.int .i64 ve4) rfl) 4 (.int .i64 ve5) rfl)); have B12 := Aside0.mk (B11.out.trans (hb.mono B11.out.size)); clear hz hb Y12 E12 G12 D12 B11; generalize (((((y12.setCell ⟨g28, 0, none⟩ (.int .i64 ve1)).setCell ⟨g28, 1, none⟩ (.int .i64 ve2)).setCell ⟨g28, 2, none⟩ (.int .i64 ve3)).setCell ⟨g28, 3, none⟩ (.int .i64 ve4)).setCell ⟨g28, 4, none⟩ (.int .i64 ve5)) = w12 at B12 X4 X5 X9 X10 X12 X14 X16 X18 X20 X22 X24 X26 X28 ⊢))
  have c0 := blk_cell X4.out 0
  have c1 := blk_cell X4.out 1
  have c2 := blk_cell X4.out 2
  have c3 := blk_cell X4.out 3
  have c4 := blk_cell X4.out 4
  go_upto_region 15 with (first | (go_at_call 14; (with_reducible refine (cbs_New.calls q p vf1 vf2 vf3 vf4 vf5 vf6 _ Hvf.out).mono ?_); rintro e v13 ⟨rfl, hb13⟩; have D13 := Aside0.mk hb13; clear hb13) | ((with_reducible refine gate_dst (N := 30) rfl ?_); refine box_event ?hg (N := 30) ?hd (cs := #[.int .i64 0, .int .i64 0, .int .i64 0, .int .i64 0, .int .i64 0]) (t := 23) ?hr ?_; (case hd => rfl); (case hg => rfl); (case hr => first | (go_simp; done) | (go_simp; rfl)); intro g30 hg13 y13 hx13 hb13; have Y13 := Aside0.mk hx13; have E13 := Aside0.mk hb13; have G13 := Aside0.mk hg13; have s0 := blk_cell hx13 0; have t0 := blk_frozen hx13 0; have s1 := blk_cell hx13 1; have t1 := blk_frozen hx13 1; have s2 := blk_cell hx13 2; have t2 := blk_frozen hx13 2; have s3 := blk_cell hx13 3; have t3 := blk_frozen hx13 3; have s4 := blk_cell hx13 4; have t4 := blk_frozen hx13 4; clear hx13 hb13 hg13; refine store_event (((((y13.setCell ⟨g30, 0, none⟩ (.int .i64 vf1)).setCell ⟨g30, 1, none⟩ (.int .i64 vf2)).setCell ⟨g30, 2, none⟩ (.int .i64 vf3)).setCell ⟨g30, 3, none⟩ (.int .i64 vf4)).setCell ⟨g30, 4, none⟩ (.int .i64 vf5)) rfl (by first | (go_simp; done) | (go_simp; rfl)) ?_; clear s0 s1 s2 s3 s4 t0 t1 t2 t3 t4 c0 c1 c2 c3 c4; have hz : w12.heap.size ≤ g30 := (by have h1 := G13.out; have h2 := D13.out.size; omega); have hb : Below w12.heap.size w12 (((((y13.setCell ⟨g30, 0, none⟩ (.int .i64 vf1)).setCell ⟨g30, 1, none⟩ (.int .i64 vf2)).setCell ⟨g30, 2, none⟩ (.int .i64 vf3)).setCell ⟨g30, 3, none⟩ (.int .i64 vf4)).setCell ⟨g30, 4, none⟩ (.int .i64 vf5)) := ((((((D13.out.trans (E13.out.mono D13.out.size)).setCell hz _).setCell hz _).setCell hz _).setCell hz _).setCell hz _); replace X4 := Aside0.mk ((hb.block _ (blk_lt X4.out)).trans X4.out); replace X5 := Aside0.mk ((hb.block _ (blk_lt X5.out)).trans X5.out); replace X9 := Aside0.mk ((hb.block _ (blk_lt X9.out)).trans X9.out); replace X10 := Aside0.mk ((hb.block _ (blk_lt X10.out)).trans X10.out); replace X12 := Aside0.mk ((hb.block _ (blk_lt X12.out)).trans X12.out); replace X14 := Aside0.mk ((hb.block _ (blk_lt X14.out)).trans X14.out); replace X16 := Aside0.mk ((hb.block _ (blk_lt X16.out)).trans X16.out); replace X18 := Aside0.mk ((hb.block _ (blk_lt X18.out)).trans X18.out); replace X20 := Aside0.mk ((hb.block _ (blk_lt X20.out)).trans X20.out); replace X22 := Aside0.mk ((hb.block _ (blk_lt X22.out)).trans X22.out); replace X24 := Aside0.mk ((hb.block _ (blk_lt X24.out)).trans X24.out); replace X26 := Aside0.mk ((hb.block _ (blk_lt X26.out)).trans X26.out); replace X28 := Aside0.mk ((hb.block _ (blk_lt X28.out)).trans X28.out); have X30 := Aside0.mk (show (((((y13.setCell ⟨g30, 0, none⟩ (.int .i64 vf1)).setCell ⟨g30, 1, none⟩ (.int .i64 vf2)).setCell ⟨g30, 2, none⟩ (.int .i64 vf3)).setCell ⟨g30, 3, none⟩ (.int .i64 vf4)).setCell ⟨g30, 4, none⟩ (.int .i64 vf5)).heap[g30]? = some (.cells #[.int .i64 vf1, .int .i64 vf2, .int .i64 vf3, .int .i64 vf4, .int .i64 vf5] 23 (0, 0)) from (blk_put (cs := #[.int .i64 vf1, .int .i64 vf2, .int .i64 vf3, .int .i64 vf4, .int .i64 0]) (blk_put (cs := #[.int .i64 vf1, .int .i64 vf2, .int .i64 vf3, .int .i64 0, .int .i64 0]) (blk_put (cs := #[.int .i64 vf1, .int .i64 vf2, .int .i64 0, .int .i64 0, .int .i64 0]) (blk_put (cs := #[.int .i64 vf1, .int .i64 0, .int .i64 0, .int .i64 0, .int .i64 0]) (blk_put (cs := #[.int .i64 0, .int .i64 0, .int .i64 0, .int .i64 0, .int .i64 0]) Y13.out 0 (.int .i64 vf1) rfl) 1 (.int .i64 vf2) rfl) 2 (.int .i64 vf3) rfl) 3 (.int .i64 vf4) rfl) 4 (.int .i64 vf5) rfl)); have B13 := Aside0.mk (B12.out.trans (hb.mono B12.out.size)); clear hz hb Y13 E13 G13 D13 B12; generalize (((((y13.setCell ⟨g30, 0, none⟩ (.int .i64 vf1)).setCell ⟨g30, 1, none⟩ (.int .i64 vf2)).setCell ⟨g30, 2, none⟩ (.int .i64 vf3)).setCell ⟨g30, 3, none⟩ (.int .i64 vf4)).setCell ⟨g30, 4, none⟩ (.int .i64 vf5)) = w13 at B13 X4 X5 X9 X10 X12 X14 X16 X18 X20 X22 X24 X26 X28 X30 ⊢))
  have c0 := blk_cell X4.out 0
  have c1 := blk_cell X4.out 1
  have c2 := blk_cell X4.out 2
  have c3 := blk_cell X4.out 3
  have c4 := blk_cell X4.out 4
  go_upto_region 16 with (first | (go_at_call 24; (with_reducible refine (beadleref10_NewServer.calls q p vf1 vf2 vf3 vf4 vf5 vf6 _ Hvfr.out).mono ?_); rintro e v14 ⟨rfl, hb14⟩; have D14 := Aside0.mk hb14; clear hb14) | ((with_reducible refine gate_dst (N := 32) rfl ?_); refine box_event ?hg (N := 32) ?hd (cs := #[.int .i64 0, .int .i64 0, .int .i64 0, .int .i64 0, .int .i64 0]) (t := 40) ?hr ?_; (case hd => rfl); (case hg => rfl); (case hr => first | (go_simp; done) | (go_simp; rfl)); intro g32 hg14 y14 hx14 hb14; have Y14 := Aside0.mk hx14; have E14 := Aside0.mk hb14; have G14 := Aside0.mk hg14; have s0 := blk_cell hx14 0; have t0 := blk_frozen hx14 0; have s1 := blk_cell hx14 1; have t1 := blk_frozen hx14 1; have s2 := blk_cell hx14 2; have t2 := blk_frozen hx14 2; have s3 := blk_cell hx14 3; have t3 := blk_frozen hx14 3; have s4 := blk_cell hx14 4; have t4 := blk_frozen hx14 4; clear hx14 hb14 hg14; refine store_event (((((y14.setCell ⟨g32, 0, none⟩ (.int .i64 vf1)).setCell ⟨g32, 1, none⟩ (.int .i64 vf2)).setCell ⟨g32, 2, none⟩ (.int .i64 vf3)).setCell ⟨g32, 3, none⟩ (.int .i64 vf4)).setCell ⟨g32, 4, none⟩ (.int .i64 vf5)) rfl (by first | (go_simp; done) | (go_simp; rfl)) ?_; clear s0 s1 s2 s3 s4 t0 t1 t2 t3 t4 c0 c1 c2 c3 c4; have hz : w13.heap.size ≤ g32 := (by have h1 := G14.out; have h2 := D14.out.size; omega); have hb : Below w13.heap.size w13 (((((y14.setCell ⟨g32, 0, none⟩ (.int .i64 vf1)).setCell ⟨g32, 1, none⟩ (.int .i64 vf2)).setCell ⟨g32, 2, none⟩ (.int .i64 vf3)).setCell ⟨g32, 3, none⟩ (.int .i64 vf4)).setCell ⟨g32, 4, none⟩ (.int .i64 vf5)) := ((((((D14.out.trans (E14.out.mono D14.out.size)).setCell hz _).setCell hz _).setCell hz _).setCell hz _).setCell hz _); replace X4 := Aside0.mk ((hb.block _ (blk_lt X4.out)).trans X4.out); replace X5 := Aside0.mk ((hb.block _ (blk_lt X5.out)).trans X5.out); replace X9 := Aside0.mk ((hb.block _ (blk_lt X9.out)).trans X9.out); replace X10 := Aside0.mk ((hb.block _ (blk_lt X10.out)).trans X10.out); replace X12 := Aside0.mk ((hb.block _ (blk_lt X12.out)).trans X12.out); replace X14 := Aside0.mk ((hb.block _ (blk_lt X14.out)).trans X14.out); replace X16 := Aside0.mk ((hb.block _ (blk_lt X16.out)).trans X16.out); replace X18 := Aside0.mk ((hb.block _ (blk_lt X18.out)).trans X18.out); replace X20 := Aside0.mk ((hb.block _ (blk_lt X20.out)).trans X20.out); replace X22 := Aside0.mk ((hb.block _ (blk_lt X22.out)).trans X22.out); replace X24 := Aside0.mk ((hb.block _ (blk_lt X24.out)).trans X24.out); replace X26 := Aside0.mk ((hb.block _ (blk_lt X26.out)).trans X26.out); replace X28 := Aside0.mk ((hb.block _ (blk_lt X28.out)).trans X28.out); replace X30 := Aside0.mk ((hb.block _ (blk_lt X30.out)).trans X30.out); have X32 := Aside0.mk (show (((((y14.setCell ⟨g32, 0, none⟩ (.int .i64 vf1)).setCell ⟨g32, 1, none⟩ (.int .i64 vf2)).setCell ⟨g32, 2, none⟩ (.int .i64 vf3)).setCell ⟨g32, 3, none⟩ (.int .i64 vf4)).setCell ⟨g32, 4, none⟩ (.int .i64 vf5)).heap[g32]? = some (.cells #[.int .i64 vf1, .int .i64 vf2, .int .i64 vf3, .int .i64 vf4, .int .i64 vf5] 40 (0, 0)) from (blk_put (cs := #[.int .i64 vf1, .int .i64 vf2, .int .i64 vf3, .int .i64 vf4, .int .i64 0]) (blk_put (cs := #[.int .i64 vf1, .int .i64 vf2, .int .i64 vf3, .int .i64 0, .int .i64 0]) (blk_put (cs := #[.int .i64 vf1, .int .i64 vf2, .int .i64 0, .int .i64 0, .int .i64 0]) (blk_put (cs := #[.int .i64 vf1, .int .i64 0, .int .i64 0, .int .i64 0, .int .i64 0]) (blk_put (cs := #[.int .i64 0, .int .i64 0, .int .i64 0, .int .i64 0, .int .i64 0]) Y14.out 0 (.int .i64 vf1) rfl) 1 (.int .i64 vf2) rfl) 2 (.int .i64 vf3) rfl) 3 (.int .i64 vf4) rfl) 4 (.int .i64 vf5) rfl)); have B14 := Aside0.mk (B13.out.trans (hb.mono B13.out.size)); clear hz hb Y14 E14 G14 D14 B13; generalize (((((y14.setCell ⟨g32, 0, none⟩ (.int .i64 vf1)).setCell ⟨g32, 1, none⟩ (.int .i64 vf2)).setCell ⟨g32, 2, none⟩ (.int .i64 vf3)).setCell ⟨g32, 3, none⟩ (.int .i64 vf4)).setCell ⟨g32, 4, none⟩ (.int .i64 vf5)) = w14 at B14 X4 X5 X9 X10 X12 X14 X16 X18 X20 X22 X24 X26 X28 X30 X32 ⊢))
  as_aux_lemma =>
    refine q_start (by kernel_rfl) (by kernel_rfl) (fun w' => Below w14.heap.size w14 w') (below_drew (Below.refl _ _)) ?_
    refine q_op (v := ?_) (a' := ?_) ?hw1 ?_ ?_ ?_
    case hw1 => rfl
    rotate_left
    rotate_left
    · intro w' hC_
      have z10_0 := blk_cell ((hC_.block _ (blk_lt X10.out)).trans X10.out) 0
      have z10_1 := blk_cell ((hC_.block _ (blk_lt X10.out)).trans X10.out) 1
      have z10_2 := blk_cell ((hC_.block _ (blk_lt X10.out)).trans X10.out) 2
      have z10_3 := blk_cell ((hC_.block _ (blk_lt X10.out)).trans X10.out) 3
      have z10_4 := blk_cell ((hC_.block _ (blk_lt X10.out)).trans X10.out) 4
      go_simp
      with_reducible rfl
    · show Act.put _ (some 110) _ = _
      simp only [Act.put, List.setIfInBounds_toArray, List.set_cons_zero, List.set_cons_succ, i64_w, i32_w]
      rfl
    refine q_call (a' := ?_) Try.func18 (by kernel_rfl) rfl #[.agg #[.int .i64 va1, .int .i64 va2, .int .i64 va3, .int .i64 va4, .int .i64 va5]] ?hw1 rfl ?hx1 (.agg #[.int .i64 va1, .int .i64 va2, .int .i64 va3, .int .i64 va4, .int .i64 va5]) ?_ ?_ ?_
    case hw1 => rfl
    case hx1 => (try simp only [List.map_toArray, List.map_cons, List.map_nil]); first | done | rfl
    rotate_left
    · intro w' hC_
      exact (beadlelaw12_ownS.calls va1 va2 va3 va4 va5 va1 va2 va3 va4 va5 _ rfl).mono (by rintro e w'' ⟨rfl, hq⟩; exact ⟨rfl, hC_.trans (hq.mono hC_.size)⟩)
    · show Act.put _ (some 111) _ = _
      simp only [Act.put, List.setIfInBounds_toArray, List.set_cons_zero, List.set_cons_succ, i64_w, i32_w]
      rfl
    refine q_op (v := ?_) (a' := ?_) ?hw1 ?_ ?_ ?_
    case hw1 => rfl
    rotate_left
    rotate_left
    · intro w' hC_
      have z12_0 := blk_cell ((hC_.block _ (blk_lt X12.out)).trans X12.out) 0
      have z12_1 := blk_cell ((hC_.block _ (blk_lt X12.out)).trans X12.out) 1
      have z12_2 := blk_cell ((hC_.block _ (blk_lt X12.out)).trans X12.out) 2
      have z12_3 := blk_cell ((hC_.block _ (blk_lt X12.out)).trans X12.out) 3
      have z12_4 := blk_cell ((hC_.block _ (blk_lt X12.out)).trans X12.out) 4
      go_simp
      with_reducible rfl
    · show Act.put _ (some 112) _ = _
      simp only [Act.put, List.setIfInBounds_toArray, List.set_cons_zero, List.set_cons_succ, i64_w, i32_w]
      rfl
    refine q_op (v := ?_) (a' := ?_) ?hw1 ?_ ?_ ?_
    case hw1 => rfl
    rotate_left
    rotate_left
    · intro w' hC_
      go_simp
      with_reducible rfl
    · show Act.put _ (some 113) _ = _
      simp only [Act.put, List.setIfInBounds_toArray, List.set_cons_zero, List.set_cons_succ, i64_w, i32_w]
      rfl
    refine q_op (v := ?_) (a' := ?_) ?hw1 ?_ ?_ ?_
    case hw1 => rfl
    rotate_left
    rotate_left
    · intro w' hC_
      go_simp
      with_reducible rfl
    · show Act.put _ (some 114) _ = _
      simp only [Act.put, List.setIfInBounds_toArray, List.set_cons_zero, List.set_cons_succ, i64_w, i32_w]
      rfl
    refine q_op (v := ?_) (a' := ?_) ?hw1 ?_ ?_ ?_
    case hw1 => exact wanted_on rfl rfl rfl rfl
    rotate_left
    rotate_left
    · intro w' hC_
      go_simp
      with_reducible rfl
    · show Act.put _ (some 115) _ = _
      simp only [Act.put, List.setIfInBounds_toArray, List.set_cons_zero, List.set_cons_succ, i64_w, i32_w]
      rfl
    refine q_op (v := ?_) (a' := ?_) ?hw1 ?_ ?_ ?_
    case hw1 => exact wanted_on rfl rfl rfl rfl
    rotate_left
    rotate_left
    · intro w' hC_
      go_simp
      with_reducible rfl
    · show Act.put _ (some 116) _ = _
      simp only [Act.put, List.setIfInBounds_toArray, List.set_cons_zero, List.set_cons_succ, i64_w, i32_w]
      rfl
    refine q_op (v := ?_) (a' := ?_) ?hw1 ?_ ?_ ?_
    case hw1 => exact wanted_on rfl rfl rfl rfl
    rotate_left
    rotate_left
    · intro w' hC_
      go_simp
      with_reducible rfl
    · show Act.put _ (some 117) _ = _
      simp only [Act.put, List.setIfInBounds_toArray, List.set_cons_zero, List.set_cons_succ, i64_w, i32_w]
      rfl
    refine q_op (v := ?_) (a' := ?_) ?hw1 ?_ ?_ ?_
    case hw1 => rfl
    rotate_left
    rotate_left
    · intro w' hC_
      go_simp
      with_reducible rfl
    · show Act.put _ (some 118) _ = _
      simp only [Act.put, List.setIfInBounds_toArray, List.set_cons_zero, List.set_cons_succ, i64_w, i32_w]
      rfl
    refine q_op (v := ?_) (a' := ?_) ?hw1 ?_ ?_ ?_
    case hw1 => rfl
    rotate_left
    rotate_left
    · intro w' hC_
      go_simp
      with_reducible rfl
    · show Act.put _ (some 119) _ = _
      simp only [Act.put, List.setIfInBounds_toArray, List.set_cons_zero, List.set_cons_succ, i64_w, i32_w]
      rfl
    refine q_op (v := ?_) (a' := ?_) ?hw1 ?_ ?_ ?_
    case hw1 => exact wanted_on rfl rfl rfl rfl
    rotate_left
    rotate_left
    · intro w' hC_
      have z14_0 := blk_cell ((hC_.block _ (blk_lt X14.out)).trans X14.out) 0
      have z14_1 := blk_cell ((hC_.block _ (blk_lt X14.out)).trans X14.out) 1
      have z14_2 := blk_cell ((hC_.block _ (blk_lt X14.out)).trans X14.out) 2
      have z14_3 := blk_cell ((hC_.block _ (blk_lt X14.out)).trans X14.out) 3
      have z14_4 := blk_cell ((hC_.block _ (blk_lt X14.out)).trans X14.out) 4
      go_simp
      with_reducible rfl
    · show Act.put _ (some 120) _ = _
      simp only [Act.put, List.setIfInBounds_toArray, List.set_cons_zero, List.set_cons_succ, i64_w, i32_w]
      rfl
    refine q_call (a' := ?_) Try.func18 (by kernel_rfl) rfl #[.agg #[.int .i64 vb1, .int .i64 vb2, .int .i64 vb3, .int .i64 vb4, .int .i64 vb5]] ?hw1 rfl ?hx1 (.agg #[.int .i64 vb1, .int .i64 vb2, .int .i64 vb3, .int .i64 vb4, .int .i64 vb5]) ?_ ?_ ?_
    case hw1 => exact wanted_on rfl rfl rfl rfl
    case hx1 => (try simp only [List.map_toArray, List.map_cons, List.map_nil]); first | done | rfl
    rotate_left
    · intro w' hC_
      exact (beadlelaw12_ownS.calls vb1 vb2 vb3 vb4 vb5 vb1 vb2 vb3 vb4 vb5 _ rfl).mono (by rintro e w'' ⟨rfl, hq⟩; exact ⟨rfl, hC_.trans (hq.mono hC_.size)⟩)
    · show Act.put _ (some 121) _ = _
      simp only [Act.put, List.setIfInBounds_toArray, List.set_cons_zero, List.set_cons_succ, i64_w, i32_w]
      rfl
    refine q_op (v := ?_) (a' := ?_) ?hw1 ?_ ?_ ?_
    case hw1 => exact wanted_on rfl rfl rfl rfl
    rotate_left
    rotate_left
    · intro w' hC_
      have z16_0 := blk_cell ((hC_.block _ (blk_lt X16.out)).trans X16.out) 0
      have z16_1 := blk_cell ((hC_.block _ (blk_lt X16.out)).trans X16.out) 1
      have z16_2 := blk_cell ((hC_.block _ (blk_lt X16.out)).trans X16.out) 2
      have z16_3 := blk_cell ((hC_.block _ (blk_lt X16.out)).trans X16.out) 3
      have z16_4 := blk_cell ((hC_.block _ (blk_lt X16.out)).trans X16.out) 4
      go_simp
      with_reducible rfl
    · show Act.put _ (some 122) _ = _
      simp only [Act.put, List.setIfInBounds_toArray, List.set_cons_zero, List.set_cons_succ, i64_w, i32_w]
      rfl
    refine q_op (v := ?_) (a' := ?_) ?hw1 ?_ ?_ ?_
    case hw1 => exact wanted_on rfl rfl rfl rfl
    rotate_left
    rotate_left
    · intro w' hC_
      go_simp
      with_reducible rfl
    · show Act.put _ (some 123) _ = _
      simp only [Act.put, List.setIfInBounds_toArray, List.set_cons_zero, List.set_cons_succ, i64_w, i32_w]
      rfl
    refine q_op (v := ?_) (a' := ?_) ?hw1 ?_ ?_ ?_
    case hw1 => rfl
    rotate_left
    rotate_left
    · intro w' hC_
      go_simp
      with_reducible rfl
    · show Act.put _ (some 124) _ = _
      simp only [Act.put, List.setIfInBounds_toArray, List.set_cons_zero, List.set_cons_succ, i64_w, i32_w]
      rfl
    refine q_op (v := ?_) (a' := ?_) ?hw1 ?_ ?_ ?_
    case hw1 => rfl
    rotate_left
    rotate_left
    · intro w' hC_
      go_simp
      with_reducible rfl
    · show Act.put _ (some 125) _ = _
      simp only [Act.put, List.setIfInBounds_toArray, List.set_cons_zero, List.set_cons_succ, i64_w, i32_w]
      rfl
    refine q_op (v := ?_) (a' := ?_) ?hw1 ?_ ?_ ?_
    case hw1 => exact wanted_on rfl rfl rfl rfl
    rotate_left
    rotate_left
    · intro w' hC_
      go_simp
      with_reducible rfl
    · show Act.put _ (some 126) _ = _
      simp only [Act.put, List.setIfInBounds_toArray, List.set_cons_zero, List.set_cons_succ, i64_w, i32_w]
      rfl
    refine q_op (v := ?_) (a' := ?_) ?hw1 ?_ ?_ ?_
    case hw1 => exact wanted_on rfl rfl rfl rfl
    rotate_left
    rotate_left
    · intro w' hC_
      go_simp
      with_reducible rfl
    · show Act.put _ (some 127) _ = _
      simp only [Act.put, List.setIfInBounds_toArray, List.set_cons_zero, List.set_cons_succ, i64_w, i32_w]
      rfl
    refine q_op (v := ?_) (a' := ?_) ?hw1 ?_ ?_ ?_
    case hw1 => exact wanted_on rfl rfl rfl rfl
    rotate_left
    rotate_left
    · intro w' hC_
      go_simp
      with_reducible rfl
    · show Act.put _ (some 128) _ = _
      simp only [Act.put, List.setIfInBounds_toArray, List.set_cons_zero, List.set_cons_succ, i64_w, i32_w]
      rfl
    refine q_op (v := ?_) (a' := ?_) ?hw1 ?_ ?_ ?_
    case hw1 => rfl
    rotate_left
    rotate_left
    · intro w' hC_
      go_simp
      with_reducible rfl
    · show Act.put _ (some 129) _ = _
      simp only [Act.put, List.setIfInBounds_toArray, List.set_cons_zero, List.set_cons_succ, i64_w, i32_w]
      rfl
    refine q_op (v := ?_) (a' := ?_) ?hw1 ?_ ?_ ?_
    case hw1 => rfl
    rotate_left
    rotate_left
    · intro w' hC_
      go_simp
      with_reducible rfl
    · show Act.put _ (some 130) _ = _
      simp only [Act.put, List.setIfInBounds_toArray, List.set_cons_zero, List.set_cons_succ, i64_w, i32_w]
      rfl
    refine q_op (v := ?_) (a' := ?_) ?hw1 ?_ ?_ ?_
    case hw1 => exact wanted_on rfl rfl rfl rfl
    rotate_left
    rotate_left
    · intro w' hC_
      have z18_0 := blk_cell ((hC_.block _ (blk_lt X18.out)).trans X18.out) 0
      have z18_1 := blk_cell ((hC_.block _ (blk_lt X18.out)).trans X18.out) 1
      have z18_2 := blk_cell ((hC_.block _ (blk_lt X18.out)).trans X18.out) 2
      have z18_3 := blk_cell ((hC_.block _ (blk_lt X18.out)).trans X18.out) 3
      have z18_4 := blk_cell ((hC_.block _ (blk_lt X18.out)).trans X18.out) 4
      go_simp
      with_reducible rfl
    · show Act.put _ (some 131) _ = _
      simp only [Act.put, List.setIfInBounds_toArray, List.set_cons_zero, List.set_cons_succ, i64_w, i32_w]
      rfl
    refine q_call (a' := ?_) Try.func18 (by kernel_rfl) rfl #[.agg #[.int .i64 vc1, .int .i64 vc2, .int .i64 vc3, .int .i64 vc4, .int .i64 vc5]] ?hw1 rfl ?hx1 (.agg #[.int .i64 vc1, .int .i64 vc2, .int .i64 vc3, .int .i64 vc4, .int .i64 vc5]) ?_ ?_ ?_
    case hw1 => exact wanted_on rfl rfl rfl rfl
    case hx1 => (try simp only [List.map_toArray, List.map_cons, List.map_nil]); first | done | rfl
    rotate_left
    · intro w' hC_
      exact (beadlelaw12_ownS.calls vc1 vc2 vc3 vc4 vc5 vc1 vc2 vc3 vc4 vc5 _ rfl).mono (by rintro e w'' ⟨rfl, hq⟩; exact ⟨rfl, hC_.trans (hq.mono hC_.size)⟩)
    · show Act.put _ (some 132) _ = _
      simp only [Act.put, List.setIfInBounds_toArray, List.set_cons_zero, List.set_cons_succ, i64_w, i32_w]
      rfl
    refine q_op (v := ?_) (a' := ?_) ?hw1 ?_ ?_ ?_
    case hw1 => exact wanted_on rfl rfl rfl rfl
    rotate_left
    rotate_left
    · intro w' hC_
      have z20_0 := blk_cell ((hC_.block _ (blk_lt X20.out)).trans X20.out) 0
      have z20_1 := blk_cell ((hC_.block _ (blk_lt X20.out)).trans X20.out) 1
      have z20_2 := blk_cell ((hC_.block _ (blk_lt X20.out)).trans X20.out) 2
      have z20_3 := blk_cell ((hC_.block _ (blk_lt X20.out)).trans X20.out) 3
      have z20_4 := blk_cell ((hC_.block _ (blk_lt X20.out)).trans X20.out) 4
      go_simp
      with_reducible rfl
    · show Act.put _ (some 133) _ = _
      simp only [Act.put, List.setIfInBounds_toArray, List.set_cons_zero, List.set_cons_succ, i64_w, i32_w]
      rfl
    refine q_op (v := ?_) (a' := ?_) ?hw1 ?_ ?_ ?_
    case hw1 => exact wanted_on rfl rfl rfl rfl
    rotate_left
    rotate_left
    · intro w' hC_
      go_simp
      with_reducible rfl
    · show Act.put _ (some 134) _ = _
      simp only [Act.put, List.setIfInBounds_toArray, List.set_cons_zero, List.set_cons_succ, i64_w, i32_w]
      rfl
    refine q_op (v := ?_) (a' := ?_) ?hw1 ?_ ?_ ?_
    case hw1 => rfl
    rotate_left
    rotate_left
    · intro w' hC_
      go_simp
      with_reducible rfl
    · show Act.put _ (some 135) _ = _
      simp only [Act.put, List.setIfInBounds_toArray, List.set_cons_zero, List.set_cons_succ, i64_w, i32_w]
      rfl
    refine q_op (v := ?_) (a' := ?_) ?hw1 ?_ ?_ ?_
    case hw1 => rfl
    rotate_left
    rotate_left
    · intro w' hC_
      go_simp
      with_reducible rfl
    · show Act.put _ (some 136) _ = _
      simp only [Act.put, List.setIfInBounds_toArray, List.set_cons_zero, List.set_cons_succ, i64_w, i32_w]
      rfl
    refine q_op (v := ?_) (a' := ?_) ?hw1 ?_ ?_ ?_
    case hw1 => exact wanted_on rfl rfl rfl rfl
    rotate_left
    rotate_left
    · intro w' hC_
      go_simp
      with_reducible rfl
    · show Act.put _ (some 137) _ = _
      simp only [Act.put, List.setIfInBounds_toArray, List.set_cons_zero, List.set_cons_succ, i64_w, i32_w]
      rfl
    refine q_op (v := ?_) (a' := ?_) ?hw1 ?_ ?_ ?_
    case hw1 => exact wanted_on rfl rfl rfl rfl
    rotate_left
    rotate_left
    · intro w' hC_
      go_simp
      with_reducible rfl
    · show Act.put _ (some 138) _ = _
      simp only [Act.put, List.setIfInBounds_toArray, List.set_cons_zero, List.set_cons_succ, i64_w, i32_w]
      rfl
    refine q_op (v := ?_) (a' := ?_) ?hw1 ?_ ?_ ?_
    case hw1 => exact wanted_on rfl rfl rfl rfl
    rotate_left
    rotate_left
    · intro w' hC_
      go_simp
      with_reducible rfl
    · show Act.put _ (some 139) _ = _
      simp only [Act.put, List.setIfInBounds_toArray, List.set_cons_zero, List.set_cons_succ, i64_w, i32_w]
      rfl
    refine q_op (v := ?_) (a' := ?_) ?hw1 ?_ ?_ ?_
    case hw1 => rfl
    rotate_left
    rotate_left
    · intro w' hC_
      go_simp
      with_reducible rfl
    · show Act.put _ (some 140) _ = _
      simp only [Act.put, List.setIfInBounds_toArray, List.set_cons_zero, List.set_cons_succ, i64_w, i32_w]
      rfl
    refine q_op (v := ?_) (a' := ?_) ?hw1 ?_ ?_ ?_
    case hw1 => rfl
    rotate_left
    rotate_left
    · intro w' hC_
      go_simp
      with_reducible rfl
    · show Act.put _ (some 141) _ = _
      simp only [Act.put, List.setIfInBounds_toArray, List.set_cons_zero, List.set_cons_succ, i64_w, i32_w]
      rfl
    refine q_op (v := ?_) (a' := ?_) ?hw1 ?_ ?_ ?_
    case hw1 => exact wanted_on rfl rfl rfl rfl
    rotate_left
    rotate_left
    · intro w' hC_
      have z22_0 := blk_cell ((hC_.block _ (blk_lt X22.out)).trans X22.out) 0
      have z22_1 := blk_cell ((hC_.block _ (blk_lt X22.out)).trans X22.out) 1
      have z22_2 := blk_cell ((hC_.block _ (blk_lt X22.out)).trans X22.out) 2
      have z22_3 := blk_cell ((hC_.block _ (blk_lt X22.out)).trans X22.out) 3
      have z22_4 := blk_cell ((hC_.block _ (blk_lt X22.out)).trans X22.out) 4
      go_simp
      with_reducible rfl
    · show Act.put _ (some 142) _ = _
      simp only [Act.put, List.setIfInBounds_toArray, List.set_cons_zero, List.set_cons_succ, i64_w, i32_w]
      rfl
    refine q_call (a' := ?_) Try.func18 (by kernel_rfl) rfl #[.agg #[.int .i64 vd1, .int .i64 vd2, .int .i64 vd3, .int .i64 vd4, .int .i64 vd5]] ?hw1 rfl ?hx1 (.agg #[.int .i64 vd1, .int .i64 vd2, .int .i64 vd3, .int .i64 vd4, .int .i64 vd5]) ?_ ?_ ?_
    case hw1 => exact wanted_on rfl rfl rfl rfl
    case hx1 => (try simp only [List.map_toArray, List.map_cons, List.map_nil]); first | done | rfl
    rotate_left
    · intro w' hC_
      exact (beadlelaw12_ownS.calls vd1 vd2 vd3 vd4 vd5 vd1 vd2 vd3 vd4 vd5 _ rfl).mono (by rintro e w'' ⟨rfl, hq⟩; exact ⟨rfl, hC_.trans (hq.mono hC_.size)⟩)
    · show Act.put _ (some 143) _ = _
      simp only [Act.put, List.setIfInBounds_toArray, List.set_cons_zero, List.set_cons_succ, i64_w, i32_w]
      rfl
    refine q_op (v := ?_) (a' := ?_) ?hw1 ?_ ?_ ?_
    case hw1 => exact wanted_on rfl rfl rfl rfl
    rotate_left
    rotate_left
    · intro w' hC_
      have z24_0 := blk_cell ((hC_.block _ (blk_lt X24.out)).trans X24.out) 0
      have z24_1 := blk_cell ((hC_.block _ (blk_lt X24.out)).trans X24.out) 1
      have z24_2 := blk_cell ((hC_.block _ (blk_lt X24.out)).trans X24.out) 2
      have z24_3 := blk_cell ((hC_.block _ (blk_lt X24.out)).trans X24.out) 3
      have z24_4 := blk_cell ((hC_.block _ (blk_lt X24.out)).trans X24.out) 4
      go_simp
      with_reducible rfl
    · show Act.put _ (some 144) _ = _
      simp only [Act.put, List.setIfInBounds_toArray, List.set_cons_zero, List.set_cons_succ, i64_w, i32_w]
      rfl
    refine q_op (v := ?_) (a' := ?_) ?hw1 ?_ ?_ ?_
    case hw1 => exact wanted_on rfl rfl rfl rfl
    rotate_left
    rotate_left
    · intro w' hC_
      go_simp
      with_reducible rfl
    · show Act.put _ (some 145) _ = _
      simp only [Act.put, List.setIfInBounds_toArray, List.set_cons_zero, List.set_cons_succ, i64_w, i32_w]
      rfl
    refine q_op (v := ?_) (a' := ?_) ?hw1 ?_ ?_ ?_
    case hw1 => rfl
    rotate_left
    rotate_left
    · intro w' hC_
      go_simp
      with_reducible rfl
    · show Act.put _ (some 146) _ = _
      simp only [Act.put, List.setIfInBounds_toArray, List.set_cons_zero, List.set_cons_succ, i64_w, i32_w]
      rfl
    refine q_op (v := ?_) (a' := ?_) ?hw1 ?_ ?_ ?_
    case hw1 => rfl
    rotate_left
    rotate_left
    · intro w' hC_
      go_simp
      with_reducible rfl
    · show Act.put _ (some 147) _ = _
      simp only [Act.put, List.setIfInBounds_toArray, List.set_cons_zero, List.set_cons_succ, i64_w, i32_w]
      rfl
    refine q_op (v := ?_) (a' := ?_) ?hw1 ?_ ?_ ?_
    case hw1 => exact wanted_on rfl rfl rfl rfl
    rotate_left
    rotate_left
    · intro w' hC_
      go_simp
      with_reducible rfl
    · show Act.put _ (some 148) _ = _
      simp only [Act.put, List.setIfInBounds_toArray, List.set_cons_zero, List.set_cons_succ, i64_w, i32_w]
      rfl
    refine q_op (v := ?_) (a' := ?_) ?hw1 ?_ ?_ ?_
    case hw1 => exact wanted_on rfl rfl rfl rfl
    rotate_left
    rotate_left
    · intro w' hC_
      go_simp
      with_reducible rfl
    · show Act.put _ (some 149) _ = _
      simp only [Act.put, List.setIfInBounds_toArray, List.set_cons_zero, List.set_cons_succ, i64_w, i32_w]
      rfl
    refine q_op (v := ?_) (a' := ?_) ?hw1 ?_ ?_ ?_
    case hw1 => exact wanted_on rfl rfl rfl rfl
    rotate_left
    rotate_left
    · intro w' hC_
      go_simp
      with_reducible rfl
    · show Act.put _ (some 150) _ = _
      simp only [Act.put, List.setIfInBounds_toArray, List.set_cons_zero, List.set_cons_succ, i64_w, i32_w]
      rfl
    refine q_op (v := ?_) (a' := ?_) ?hw1 ?_ ?_ ?_
    case hw1 => rfl
    rotate_left
    rotate_left
    · intro w' hC_
      go_simp
      with_reducible rfl
    · show Act.put _ (some 151) _ = _
      simp only [Act.put, List.setIfInBounds_toArray, List.set_cons_zero, List.set_cons_succ, i64_w, i32_w]
      rfl
    refine q_op (v := ?_) (a' := ?_) ?hw1 ?_ ?_ ?_
    case hw1 => rfl
    rotate_left
    rotate_left
    · intro w' hC_
      go_simp
      with_reducible rfl
    · show Act.put _ (some 152) _ = _
      simp only [Act.put, List.setIfInBounds_toArray, List.set_cons_zero, List.set_cons_succ, i64_w, i32_w]
      rfl
    refine q_op (v := ?_) (a' := ?_) ?hw1 ?_ ?_ ?_
    case hw1 => exact wanted_on rfl rfl rfl rfl
    rotate_left
    rotate_left
    · intro w' hC_
      have z26_0 := blk_cell ((hC_.block _ (blk_lt X26.out)).trans X26.out) 0
      have z26_1 := blk_cell ((hC_.block _ (blk_lt X26.out)).trans X26.out) 1
      have z26_2 := blk_cell ((hC_.block _ (blk_lt X26.out)).trans X26.out) 2
      have z26_3 := blk_cell ((hC_.block _ (blk_lt X26.out)).trans X26.out) 3
      have z26_4 := blk_cell ((hC_.block _ (blk_lt X26.out)).trans X26.out) 4
      go_simp
      with_reducible rfl
    · show Act.put _ (some 153) _ = _
      simp only [Act.put, List.setIfInBounds_toArray, List.set_cons_zero, List.set_cons_succ, i64_w, i32_w]
      rfl
    refine q_call (a' := ?_) Try.func18 (by kernel_rfl) rfl #[.agg #[.int .i64 ve1, .int .i64 ve2, .int .i64 ve3, .int .i64 ve4, .int .i64 ve5]] ?hw1 rfl ?hx1 (.agg #[.int .i64 ve1, .int .i64 ve2, .int .i64 ve3, .int .i64 ve4, .int .i64 ve5]) ?_ ?_ ?_
    case hw1 => exact wanted_on rfl rfl rfl rfl
    case hx1 => (try simp only [List.map_toArray, List.map_cons, List.map_nil]); first | done | rfl
    rotate_left
    · intro w' hC_
      exact (beadlelaw12_ownS.calls ve1 ve2 ve3 ve4 ve5 ve1 ve2 ve3 ve4 ve5 _ rfl).mono (by rintro e w'' ⟨rfl, hq⟩; exact ⟨rfl, hC_.trans (hq.mono hC_.size)⟩)
    · show Act.put _ (some 154) _ = _
      simp only [Act.put, List.setIfInBounds_toArray, List.set_cons_zero, List.set_cons_succ, i64_w, i32_w]
      rfl
    refine q_op (v := ?_) (a' := ?_) ?hw1 ?_ ?_ ?_
    case hw1 => exact wanted_on rfl rfl rfl rfl
    rotate_left
    rotate_left
    · intro w' hC_
      have z28_0 := blk_cell ((hC_.block _ (blk_lt X28.out)).trans X28.out) 0
      have z28_1 := blk_cell ((hC_.block _ (blk_lt X28.out)).trans X28.out) 1
      have z28_2 := blk_cell ((hC_.block _ (blk_lt X28.out)).trans X28.out) 2
      have z28_3 := blk_cell ((hC_.block _ (blk_lt X28.out)).trans X28.out) 3
      have z28_4 := blk_cell ((hC_.block _ (blk_lt X28.out)).trans X28.out) 4
      go_simp
      with_reducible rfl
    · show Act.put _ (some 155) _ = _
      simp only [Act.put, List.setIfInBounds_toArray, List.set_cons_zero, List.set_cons_succ, i64_w, i32_w]
      rfl
    refine q_op (v := ?_) (a' := ?_) ?hw1 ?_ ?_ ?_
    case hw1 => exact wanted_on rfl rfl rfl rfl
    rotate_left
    rotate_left
    · intro w' hC_
      go_simp
      with_reducible rfl
    · show Act.put _ (some 156) _ = _
      simp only [Act.put, List.setIfInBounds_toArray, List.set_cons_zero, List.set_cons_succ, i64_w, i32_w]
      rfl
    refine q_op (v := ?_) (a' := ?_) ?hw1 ?_ ?_ ?_
    case hw1 => rfl
    rotate_left
    rotate_left
    · intro w' hC_
      go_simp
      with_reducible rfl
    · show Act.put _ (some 157) _ = _
      simp only [Act.put, List.setIfInBounds_toArray, List.set_cons_zero, List.set_cons_succ, i64_w, i32_w]
      rfl
    refine q_op (v := ?_) (a' := ?_) ?hw1 ?_ ?_ ?_
    case hw1 => rfl
    rotate_left
    rotate_left
    · intro w' hC_
      go_simp
      with_reducible rfl
    · show Act.put _ (some 158) _ = _
      simp only [Act.put, List.setIfInBounds_toArray, List.set_cons_zero, List.set_cons_succ, i64_w, i32_w]
      rfl
    refine q_op (v := ?_) (a' := ?_) ?hw1 ?_ ?_ ?_
    case hw1 => exact wanted_on rfl rfl rfl rfl
    rotate_left
    rotate_left
    · intro w' hC_
      go_simp
      with_reducible rfl
    · show Act.put _ (some 159) _ = _
      simp only [Act.put, List.setIfInBounds_toArray, List.set_cons_zero, List.set_cons_succ, i64_w, i32_w]
      rfl
    refine q_op (v := ?_) (a' := ?_) ?hw1 ?_ ?_ ?_
    case hw1 => exact wanted_on rfl rfl rfl rfl
    rotate_left
    rotate_left
    · intro w' hC_
      go_simp
      with_reducible rfl
    · show Act.put _ (some 160) _ = _
      simp only [Act.put, List.setIfInBounds_toArray, List.set_cons_zero, List.set_cons_succ, i64_w, i32_w]
      rfl
    refine q_op (v := ?_) (a' := ?_) ?hw1 ?_ ?_ ?_
    case hw1 => exact wanted_on rfl rfl rfl rfl
    rotate_left
    rotate_left
    · intro w' hC_
      go_simp
      with_reducible rfl
    · show Act.put _ (some 161) _ = _
      simp only [Act.put, List.setIfInBounds_toArray, List.set_cons_zero, List.set_cons_succ, i64_w, i32_w]
      rfl
    refine q_op (v := ?_) (a' := ?_) ?hw1 ?_ ?_ ?_
    case hw1 => rfl
    rotate_left
    rotate_left
    · intro w' hC_
      go_simp
      with_reducible rfl
    · show Act.put _ (some 162) _ = _
      simp only [Act.put, List.setIfInBounds_toArray, List.set_cons_zero, List.set_cons_succ, i64_w, i32_w]
      rfl
    refine q_op (v := ?_) (a' := ?_) ?hw1 ?_ ?_ ?_
    case hw1 => rfl
    rotate_left
    rotate_left
    · intro w' hC_
      go_simp
      with_reducible rfl
    · show Act.put _ (some 163) _ = _
      simp only [Act.put, List.setIfInBounds_toArray, List.set_cons_zero, List.set_cons_succ, i64_w, i32_w]
      rfl
    refine q_op (v := ?_) (a' := ?_) ?hw1 ?_ ?_ ?_
    case hw1 => exact wanted_on rfl rfl rfl rfl
    rotate_left
    rotate_left
    · intro w' hC_
      have z30_0 := blk_cell ((hC_.block _ (blk_lt X30.out)).trans X30.out) 0
      have z30_1 := blk_cell ((hC_.block _ (blk_lt X30.out)).trans X30.out) 1
      have z30_2 := blk_cell ((hC_.block _ (blk_lt X30.out)).trans X30.out) 2
      have z30_3 := blk_cell ((hC_.block _ (blk_lt X30.out)).trans X30.out) 3
      have z30_4 := blk_cell ((hC_.block _ (blk_lt X30.out)).trans X30.out) 4
      go_simp
      with_reducible rfl
    · show Act.put _ (some 164) _ = _
      simp only [Act.put, List.setIfInBounds_toArray, List.set_cons_zero, List.set_cons_succ, i64_w, i32_w]
      rfl
    refine q_call (a' := ?_) Try.func18 (by kernel_rfl) rfl #[.agg #[.int .i64 vf1, .int .i64 vf2, .int .i64 vf3, .int .i64 vf4, .int .i64 vf5]] ?hw1 rfl ?hx1 (.agg #[.int .i64 vf1, .int .i64 vf2, .int .i64 vf3, .int .i64 vf4, .int .i64 vf5]) ?_ ?_ ?_
    case hw1 => exact wanted_on rfl rfl rfl rfl
    case hx1 => (try simp only [List.map_toArray, List.map_cons, List.map_nil]); first | done | rfl
    rotate_left
    · intro w' hC_
      exact (beadlelaw12_ownS.calls vf1 vf2 vf3 vf4 vf5 vf1 vf2 vf3 vf4 vf5 _ rfl).mono (by rintro e w'' ⟨rfl, hq⟩; exact ⟨rfl, hC_.trans (hq.mono hC_.size)⟩)
    · show Act.put _ (some 165) _ = _
      simp only [Act.put, List.setIfInBounds_toArray, List.set_cons_zero, List.set_cons_succ, i64_w, i32_w]
      rfl
    refine q_op (v := ?_) (a' := ?_) ?hw1 ?_ ?_ ?_
    case hw1 => exact wanted_on rfl rfl rfl rfl
    rotate_left
    rotate_left
    · intro w' hC_
      have z32_0 := blk_cell ((hC_.block _ (blk_lt X32.out)).trans X32.out) 0
      have z32_1 := blk_cell ((hC_.block _ (blk_lt X32.out)).trans X32.out) 1
      have z32_2 := blk_cell ((hC_.block _ (blk_lt X32.out)).trans X32.out) 2
      have z32_3 := blk_cell ((hC_.block _ (blk_lt X32.out)).trans X32.out) 3
      have z32_4 := blk_cell ((hC_.block _ (blk_lt X32.out)).trans X32.out) 4
      go_simp
      with_reducible rfl
    · show Act.put _ (some 166) _ = _
      simp only [Act.put, List.setIfInBounds_toArray, List.set_cons_zero, List.set_cons_succ, i64_w, i32_w]
      rfl
    refine q_op (v := ?_) (a' := ?_) ?hw1 ?_ ?_ ?_
    case hw1 => exact wanted_on rfl rfl rfl rfl
    rotate_left
    rotate_left
    · intro w' hC_
      go_simp
      with_reducible rfl
    · show Act.put _ (some 167) _ = _
      simp only [Act.put, List.setIfInBounds_toArray, List.set_cons_zero, List.set_cons_succ, i64_w, i32_w]
      rfl
    refine q_op (v := ?_) (a' := ?_) ?hw1 ?_ ?_ ?_
    case hw1 => rfl
    rotate_left
    rotate_left
    · intro w' hC_
      go_simp
      with_reducible rfl
    · show Act.put _ (some 168) _ = _
      simp only [Act.put, List.setIfInBounds_toArray, List.set_cons_zero, List.set_cons_succ, i64_w, i32_w]
      rfl
    refine q_op (v := ?_) (a' := ?_) ?hw1 ?_ ?_ ?_
    case hw1 => rfl
    rotate_left
    rotate_left
    · intro w' hC_
      go_simp
      with_reducible rfl
    · show Act.put _ (some 169) _ = _
      simp only [Act.put, List.setIfInBounds_toArray, List.set_cons_zero, List.set_cons_succ, i64_w, i32_w]
      rfl
    refine q_op (v := ?_) (a' := ?_) ?hw1 ?_ ?_ ?_
    case hw1 => exact wanted_on rfl rfl rfl rfl
    rotate_left
    rotate_left
    · intro w' hC_
      go_simp
      with_reducible rfl
    · show Act.put _ (some 170) _ = _
      simp only [Act.put, List.setIfInBounds_toArray, List.set_cons_zero, List.set_cons_succ, i64_w, i32_w]
      rfl
    refine q_op (v := ?_) (a' := ?_) ?hw1 ?_ ?_ ?_
    case hw1 => exact wanted_on rfl rfl rfl rfl
    rotate_left
    rotate_left
    · intro w' hC_
      go_simp
      with_reducible rfl
    · show Act.put _ (some 171) _ = _
      simp only [Act.put, List.setIfInBounds_toArray, List.set_cons_zero, List.set_cons_succ, i64_w, i32_w]
      rfl
    refine q_op (v := ?_) (a' := ?_) ?hw1 ?_ ?_ ?_
    case hw1 => exact wanted_on rfl rfl rfl rfl
    rotate_left
    rotate_left
    · intro w' hC_
      go_simp
      with_reducible rfl
    · show Act.put _ (some 172) _ = _
      simp only [Act.put, List.setIfInBounds_toArray, List.set_cons_zero, List.set_cons_succ, i64_w, i32_w]
      rfl
    refine q_op (v := ?_) (a' := ?_) ?hw1 ?_ ?_ ?_
    case hw1 => rfl
    rotate_left
    rotate_left
    · intro w' hC_
      go_simp
      with_reducible rfl
    · show Act.put _ (some 173) _ = _
      simp only [Act.put, List.setIfInBounds_toArray, List.set_cons_zero, List.set_cons_succ, i64_w, i32_w]
      rfl
    refine q_op (v := ?_) (a' := ?_) ?hw1 ?_ ?_ ?_
    case hw1 => rfl
    rotate_left
    rotate_left
    · intro w' hC_
      go_simp
      with_reducible rfl
    · show Act.put _ (some 174) _ = _
      simp only [Act.put, List.setIfInBounds_toArray, List.set_cons_zero, List.set_cons_succ, i64_w, i32_w]
      rfl
    refine q_op (v := ?_) (a' := ?_) ?hw1 ?_ ?_ ?_
    case hw1 => exact wanted_on rfl rfl rfl rfl
    rotate_left
    rotate_left
    · intro w' hC_
      have z4_0 := blk_cell ((hC_.block _ (blk_lt X4.out)).trans X4.out) 0
      have z4_1 := blk_cell ((hC_.block _ (blk_lt X4.out)).trans X4.out) 1
      have z4_2 := blk_cell ((hC_.block _ (blk_lt X4.out)).trans X4.out) 2
      have z4_3 := blk_cell ((hC_.block _ (blk_lt X4.out)).trans X4.out) 3
      have z4_4 := blk_cell ((hC_.block _ (blk_lt X4.out)).trans X4.out) 4
      go_simp
      with_reducible rfl
    · show Act.put _ (some 175) _ = _
      simp only [Act.put, List.setIfInBounds_toArray, List.set_cons_zero, List.set_cons_succ, i64_w, i32_w]
      rfl
    refine q_call (a' := ?_) Try.func10 (by kernel_rfl) rfl #[.agg #[.int .i64 q, .int .i64 p, .int .i64 b, .int .i64 d, .int .i64 mo]] ?hw1 rfl ?hx1 (.bool rg) ?_ ?_ ?_
    case hw1 => exact wanted_on rfl rfl rfl rfl
    case hx1 => (try simp only [List.map_toArray, List.map_cons, List.map_nil]); first | done | rfl
    rotate_left
    · intro w' hC_
      exact (cbs_Good.calls q p b d mo rg _ HG.out).mono (by rintro e w'' ⟨rfl, hq⟩; exact ⟨rfl, hC_.trans (hq.mono hC_.size)⟩)
    · show Act.put _ (some 176) _ = _
      simp only [Act.put, List.setIfInBounds_toArray, List.set_cons_zero, List.set_cons_succ, i64_w, i32_w]
      rfl
    refine q_op (v := ?_) (a' := ?_) ?hw1 ?_ ?_ ?_
    case hw1 => exact wanted_on rfl rfl rfl rfl
    rotate_left
    rotate_left
    · intro w' hC_
      have z9_0 := blk_cell ((hC_.block _ (blk_lt X9.out)).trans X9.out) 0
      have z9_1 := blk_cell ((hC_.block _ (blk_lt X9.out)).trans X9.out) 1
      have z9_2 := blk_cell ((hC_.block _ (blk_lt X9.out)).trans X9.out) 2
      have z9_3 := blk_cell ((hC_.block _ (blk_lt X9.out)).trans X9.out) 3
      have z9_4 := blk_cell ((hC_.block _ (blk_lt X9.out)).trans X9.out) 4
      go_simp
      with_reducible rfl
    · show Act.put _ (some 177) _ = _
      simp only [Act.put, List.setIfInBounds_toArray, List.set_cons_zero, List.set_cons_succ, i64_w, i32_w]
      rfl
    refine q_call (a' := ?_) Try.func25 (by kernel_rfl) rfl #[.agg #[.int .i64 q, .int .i64 p, .int .i64 b, .int .i64 d, .int .i64 mo]] ?hw1 rfl ?hx1 (.bool rg) ?_ ?_ ?_
    case hw1 => exact wanted_on rfl rfl rfl rfl
    case hx1 => (try simp only [List.map_toArray, List.map_cons, List.map_nil]); first | done | rfl
    rotate_left
    · intro w' hC_
      exact (beadleref10_GoodServer.calls q p b d mo rg _ HGr.out).mono (by rintro e w'' ⟨rfl, hq⟩; exact ⟨rfl, hC_.trans (hq.mono hC_.size)⟩)
    · show Act.put _ (some 178) _ = _
      simp only [Act.put, List.setIfInBounds_toArray, List.set_cons_zero, List.set_cons_succ, i64_w, i32_w]
      rfl
    refine q_op (v := ?_) (a' := ?_) ?hw1 ?_ ?_ ?_
    case hw1 => exact wanted_on rfl rfl rfl rfl
    rotate_left
    rotate_left
    · intro w' hC_
      go_simp
      with_reducible rfl
    · show Act.put _ (some 179) _ = _
      simp only [Act.put, List.setIfInBounds_toArray, List.set_cons_zero, List.set_cons_succ, i64_w, i32_w]
      rfl
    refine q_op (v := ?_) (a' := ?_) ?hw1 ?_ ?_ ?_
    case hw1 => rfl
    rotate_left
    rotate_left
    · intro w' hC_
      go_simp
      with_reducible rfl
    · show Act.put _ (some 180) _ = _
      simp only [Act.put, List.setIfInBounds_toArray, List.set_cons_zero, List.set_cons_succ, i64_w, i32_w]
      rfl
    refine q_op (v := ?_) (a' := ?_) ?hw1 ?_ ?_ ?_
    case hw1 => rfl
    rotate_left
    rotate_left
    · intro w' hC_
      go_simp
      with_reducible rfl
    · show Act.put _ (some 181) _ = _
      simp only [Act.put, List.setIfInBounds_toArray, List.set_cons_zero, List.set_cons_succ, i64_w, i32_w]
      rfl
    refine q_op (v := ?_) (a' := ?_) ?hw1 ?_ ?_ ?_
    case hw1 => exact wanted_on rfl rfl rfl rfl
    rotate_left
    rotate_left
    · intro w' hC_
      have z4_0 := blk_cell ((hC_.block _ (blk_lt X4.out)).trans X4.out) 0
      have z4_1 := blk_cell ((hC_.block _ (blk_lt X4.out)).trans X4.out) 1
      have z4_2 := blk_cell ((hC_.block _ (blk_lt X4.out)).trans X4.out) 2
      have z4_3 := blk_cell ((hC_.block _ (blk_lt X4.out)).trans X4.out) 3
      have z4_4 := blk_cell ((hC_.block _ (blk_lt X4.out)).trans X4.out) 4
      go_simp
      with_reducible rfl
    · show Act.put _ (some 182) _ = _
      simp only [Act.put, List.setIfInBounds_toArray, List.set_cons_zero, List.set_cons_succ, i64_w, i32_w]
      rfl
    refine q_op (v := ?_) (a' := ?_) ?hw1 ?_ ?_ ?_
    case hw1 => exact wanted_on rfl rfl rfl rfl
    rotate_left
    rotate_left
    · intro w' hC_
      have z5_0 := blk_cell ((hC_.block _ (blk_lt X5.out)).trans X5.out) 0
      have z5_1 := blk_cell ((hC_.block _ (blk_lt X5.out)).trans X5.out) 1
      have z5_2 := blk_cell ((hC_.block _ (blk_lt X5.out)).trans X5.out) 2
      have z5_3 := blk_cell ((hC_.block _ (blk_lt X5.out)).trans X5.out) 3
      have z5_4 := blk_cell ((hC_.block _ (blk_lt X5.out)).trans X5.out) 4
      go_simp
      with_reducible rfl
    · show Act.put _ (some 183) _ = _
      simp only [Act.put, List.setIfInBounds_toArray, List.set_cons_zero, List.set_cons_succ, i64_w, i32_w]
      rfl
    refine q_call (a' := ?_) Try.func17 (by kernel_rfl) rfl #[.agg #[.int .i64 q, .int .i64 p, .int .i64 b, .int .i64 d, .int .i64 mo], .agg #[.int .i64 q2, .int .i64 p2, .int .i64 b2, .int .i64 d2, .int .i64 m2]] ?hw1 rfl ?hx1 (.bool (decide (d < d2))) ?_ ?_ ?_
    case hw1 => exact wanted_on rfl rfl rfl rfl
    case hx1 => (try simp only [List.map_toArray, List.map_cons, List.map_nil]); first | done | rfl
    rotate_left
    · intro w' hC_
      exact (cbs_Less.calls q p b d mo q2 p2 b2 d2 m2 (decide (d < d2)) _ HLS.out).mono (by rintro e w'' ⟨rfl, hq⟩; exact ⟨rfl, hC_.trans (hq.mono hC_.size)⟩)
    · show Act.put _ (some 184) _ = _
      simp only [Act.put, List.setIfInBounds_toArray, List.set_cons_zero, List.set_cons_succ, i64_w, i32_w]
      rfl
    refine q_op (v := ?_) (a' := ?_) ?hw1 ?_ ?_ ?_
    case hw1 => exact wanted_on rfl rfl rfl rfl
    rotate_left
    rotate_left
    · intro w' hC_
      go_simp
      with_reducible rfl
    · show Act.put _ (some 185) _ = _
      simp only [Act.put, List.setIfInBounds_toArray, List.set_cons_zero, List.set_cons_succ, i64_w, i32_w]
      rfl
    refine q_op (v := ?_) (a' := ?_) ?hw1 ?_ ?_ ?_
    case hw1 => exact wanted_on rfl rfl rfl rfl
    rotate_left
    rotate_left
    · intro w' hC_
      have z4_0 := blk_cell ((hC_.block _ (blk_lt X4.out)).trans X4.out) 0
      have z4_1 := blk_cell ((hC_.block _ (blk_lt X4.out)).trans X4.out) 1
      have z4_2 := blk_cell ((hC_.block _ (blk_lt X4.out)).trans X4.out) 2
      have z4_3 := blk_cell ((hC_.block _ (blk_lt X4.out)).trans X4.out) 3
      have z4_4 := blk_cell ((hC_.block _ (blk_lt X4.out)).trans X4.out) 4
      go_simp
      with_reducible rfl
    · show Act.put _ (some 186) _ = _
      simp only [Act.put, List.setIfInBounds_toArray, List.set_cons_zero, List.set_cons_succ, i64_w, i32_w]
      rfl
    refine q_op (v := ?_) (a' := ?_) ?hw1 ?_ ?_ ?_
    case hw1 => exact wanted_on rfl rfl rfl rfl
    rotate_left
    rotate_left
    · intro w' hC_
      go_simp
      with_reducible rfl
    · show Act.put _ (some 187) _ = _
      simp only [Act.put, List.setIfInBounds_toArray, List.set_cons_zero, List.set_cons_succ, i64_w, i32_w]
      rfl
    refine q_op (v := ?_) (a' := ?_) ?hw1 ?_ ?_ ?_
    case hw1 => exact wanted_on rfl rfl rfl rfl
    rotate_left
    rotate_left
    · intro w' hC_
      have z5_0 := blk_cell ((hC_.block _ (blk_lt X5.out)).trans X5.out) 0
      have z5_1 := blk_cell ((hC_.block _ (blk_lt X5.out)).trans X5.out) 1
      have z5_2 := blk_cell ((hC_.block _ (blk_lt X5.out)).trans X5.out) 2
      have z5_3 := blk_cell ((hC_.block _ (blk_lt X5.out)).trans X5.out) 3
      have z5_4 := blk_cell ((hC_.block _ (blk_lt X5.out)).trans X5.out) 4
      go_simp
      with_reducible rfl
    · show Act.put _ (some 188) _ = _
      simp only [Act.put, List.setIfInBounds_toArray, List.set_cons_zero, List.set_cons_succ, i64_w, i32_w]
      rfl
    refine q_op (v := ?_) (a' := ?_) ?hw1 ?_ ?_ ?_
    case hw1 => exact wanted_on rfl rfl rfl rfl
    rotate_left
    rotate_left
    · intro w' hC_
      go_simp
      with_reducible rfl
    · show Act.put _ (some 189) _ = _
      simp only [Act.put, List.setIfInBounds_toArray, List.set_cons_zero, List.set_cons_succ, i64_w, i32_w]
      rfl
    refine q_op (v := ?_) (a' := ?_) ?hw1 ?_ ?_ ?_
    case hw1 => exact wanted_on rfl rfl rfl rfl
    rotate_left
    rotate_left
    · intro w' hC_
      go_simp
      with_reducible rfl
    · show Act.put _ (some 190) _ = _
      simp only [Act.put, List.setIfInBounds_toArray, List.set_cons_zero, List.set_cons_succ, i64_w, i32_w]
      rfl
    refine q_op (v := ?_) (a' := ?_) ?hw1 ?_ ?_ ?_
    case hw1 => rfl
    rotate_left
    rotate_left
    · intro w' hC_
      go_simp
      with_reducible rfl
    · show Act.put _ (some 191) _ = _
      simp only [Act.put, List.setIfInBounds_toArray, List.set_cons_zero, List.set_cons_succ, i64_w, i32_w]
      rfl
    refine q_op (v := ?_) (a' := ?_) ?hw1 ?_ ?_ ?_
    case hw1 => rfl
    rotate_left
    rotate_left
    · intro w' hC_
      go_simp
      with_reducible rfl
    · show Act.put _ (some 8) _ = _
      simp only [Act.put, List.setIfInBounds_toArray, List.set_cons_zero, List.set_cons_succ, i64_w, i32_w]
      rfl
    refine q_nil ?_
    intro wq hC_
    have BQ := Aside0.mk (B14.out.trans (hC_.mono B14.out.size))
    clear hC_
    go_wp2
    go_ret
    exact ⟨rfl, BQ.out⟩
end Go.Proofs.Ytofbjgkoaiiagaa.CbsS
