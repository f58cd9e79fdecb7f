/- The heap's methods: put (no law is stated here; each says its conditions). -/
import Derived.Test.YtdmoembbgcoeaaaHeap1
namespace Go.Proofs.Ytdmoembbgcoeaaa.Heap
open Go.RowKit Go.Proofs.YtdmoembbgcoeaaaW.PrintWords Go.Proofs.YtdmoembbgcoeaaaW.PrintLast Go.Proofs.YtdmoembbgcoeaaaW.PrintMore Go.Proofs.Ytdmoembbgcoeaaa.St Go.Proofs.Ytdmoembbgcoeaaa.Q
set_option linter.unusedVariables false
set_option linter.unusedSimpArgs false
attribute [local go_sem] max2_int min2_int max_two min_two max_three min_three max_four min_four

/-- What put leaves. -/
def putH (x : H) (i : Nat) (y : Int × Int) : H := { x with l := x.l.set i y, f := upd x.f y.1 (i : Int), sz := if (x.f y.1).isSome then x.sz else x.sz + 1 }
set_option maxHeartbeats 1000000 in
set_option maxRecDepth 100000 in
theorem put_calls {w : World} {b : Nat} {ok : Nat → Prop} {x : H} {v : Value} (i : Nat) (y : Int × Int) (hM : heap.M w b ok x v) (hi : i < x.l.length) (hw : (Lit.int .i64 y.1).wf = true) (hs : (if (x.f y.1).isSome then x.sz else x.sz + 1) ≤ 2000) :
    Calls Try.prog 52 #[v, .int .i64 (i : Int), .agg #[.int .i64 y.1, .int .i64 y.2]] w fun e w' => e = .returned (.tuple #[]) ∧ heap.M w' b (more w ok) (putH x i y) v ∧ Wrote w w' ok := by
  obtain ⟨g, sv, bm, rfl, hA⟩ := hM
  obtain ⟨g2, c, rfl, hg2, hn2, hn3⟩ := hA.form (by omega)
  have HA := Aside0.mk hA
  have HI := Aside0.mk hi
  have HW := Aside0.mk hw
  have HS := Aside0.mk hs
  obtain ⟨y1, y2⟩ := y
  have hlt : (i : Int) < (x.l.length : Int) := by omega
  clear hA hw hs
  go_enter Try.func52, Try.ntmps52
  go_upto_region 1 with (first | ((with_reducible refine gate_dst (N := 5) rfl ?_); refine box_event ?hg (N := 5) ?hd (cs := #[.int .i64 y1, .int .i64 y2]) (t := 62) ?hr ?_; (case hd => rfl); (case hg => rfl); (case hr => first | (go_simp; done) | (go_simp; rfl)); intro g5 hg5 w5 hx5 hb5; have HX5 := Aside0.mk hx5; have HB5 := Aside0.mk hb5; have HG5 := Aside0.mk hg5; have HA5 := Aside0.mk (HA.out.below hb5); have hc1 := blk_cell hx5 0; have hc2 := blk_cell hx5 1; have hc3 := HA5.out.c2; clear hx5 hb5 hg5))
  go_still_tail 7, (by kernel_rfl)
  change wpList _ _ _ _ _ w5.drew
  obtain ⟨w6, hw6⟩ : ∃ w6 : World, w5.drew = w6 := ⟨_, rfl⟩
  rw [hw6]
  have hb6 : Below w5.heap.size w5 w6 := by rw [← hw6]; exact below_drew (Below.refl _ _)
  have HA6 := Aside0.mk (HA5.out.below hb6)
  have HB6 := Aside0.mk (HB5.out.trans (hb6.mono HB5.out.size))
  have HX6 := Aside0.mk ((hb6.block g5 (blk_lt HX5.out)).trans HX5.out)
  clear hw6 hb6 hc1 hc2 hc3
  obtain ⟨⟨k1, k2⟩, k3, k4⟩ := item_get HA6.out.row hi
  go_upto_region 2 with (fail)
  have hA7 := HA6.out.item2 hi (y1, y2) HW.out
  have hW7 : Wrote w ((w6.setCell ⟨g2, i * 2, none⟩ (.int .i64 y1)).setCell ⟨g2, i * 2 + 1, none⟩ (.int .i64 y2)) ok := ((Wrote.of_below HB6.out ok).setCell (Or.inl hg2) _).setCell (Or.inl hg2) _
  have hX7 : ((w6.setCell ⟨g2, i * 2, none⟩ (.int .i64 y1)).setCell ⟨g2, i * 2 + 1, none⟩ (.int .i64 y2)).heap[g5]? = some (.cells #[.int .i64 y1, .int .i64 y2] 62 (0, 0)) := by
    have hne : g5 ≠ g2 := by have h1 := Kd.R_lt HA.out.row g2 rfl; have h2 := HG5.out; omega
    exact blk_far (blk_far HX6.out hne _) hne _
  clear k1 k2 k3 k4
  generalize ((w6.setCell ⟨g2, i * 2, none⟩ (.int .i64 y1)).setCell ⟨g2, i * 2 + 1, none⟩ (.int .i64 y2)) = w7 at hA7 hW7 hX7 ⊢
  have HA7 := Aside0.mk hA7
  have HW7 := Aside0.mk hW7
  have hc1 := blk_cell hX7 0
  have hc3 := hA7.c3
  clear hA7 hW7 hX7
  go_still_tail 7, (by kernel_rfl)
  change wpList _ _ _ _ _ w7.drew
  obtain ⟨w8, hw8⟩ : ∃ w8 : World, w7.drew = w8 := ⟨_, rfl⟩
  rw [hw8]
  have hb8 : Below w7.heap.size w7 w8 := by rw [← hw8]; exact below_drew (Below.refl _ _)
  have HA8 := Aside0.mk (HA7.out.below hb8)
  have HW8 := Aside0.mk (show Wrote w w8 ok from by rw [← hw8]; exact HW7.out.drew)
  clear hw8 hb8 hc1 hc3
  obtain ⟨D, hown, hsees, hsize⟩ := HA8.out.map
  have HD := Aside0.mk hsees
  have HZ := Aside0.mk hsize
  have HN := Aside0.mk hown
  clear hown hsees hsize
  go_wp2_with (first | (at_mapUpdate; refine wpList_mapUpdate_own _ rfl _ _ _ 71 rfl 3 3 law Try.underlying71 _ bm _ D rfl HN.out (by have := HA8.out.2.2.2.2.2; unfold maxLen; show x.sz < _; have : x.sz ≤ 2000 := this; omega) _ _ (kl y1) rfl rfl (Go.Maps.keyOf_int_mk Try.underlying3 HW.out) _ [] (plainElem_int Try.underlying3 (WalkArith.wf_i64 (by have := HA.out.len; have := HI.out; omega))) ?_; intro w9 hown9 hgrow9; have HM9 := Aside0.mk (MapIs.stored HN.out HD.out HZ.out hown9); have HG9 := Aside0.mk hgrow9; clear hown9 hgrow9))
  go_end0
  exact ⟨rfl, heap.mono (fun _ hk => Or.inl hk) (HA8.out.mapped HG9.out HM9.out HS.out).toM, HW8.out.grown HG9.out (fun k hk => by cases hk; exact Or.inl HA8.out.2.1.1)⟩
end Go.Proofs.Ytdmoembbgcoeaaa.Heap
