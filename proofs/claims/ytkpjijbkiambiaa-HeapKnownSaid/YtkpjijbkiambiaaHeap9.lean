/- The chapter's own example (awake) answers true (no law is stated here; no condition). -/
import Derived.Test.YtkpjijbkiambiaaHeap8p
namespace Go.Proofs.Ytkpjijbkiambiaa.Heap
open Go.RowKit Go.Proofs.YtkpjijbkiambiaaW.PrintWords Go.Proofs.YtkpjijbkiambiaaW.PrintLast Go.Proofs.YtkpjijbkiambiaaW.PrintMore Go.Proofs.Ytkpjijbkiambiaa.St Go.Proofs.Ytkpjijbkiambiaa.Q
set_option linter.unusedVariables false
set_option linter.unusedSimpArgs false
attribute [local go_sem] max2_int min2_int max_two min_two max_three min_three max_four min_four

/-- Who is first: nobody comes ahead of it. -/
theorem Ok.first {x : H} (h : Ok x) {y : Int × Int} (hy : y ∈ x.l) : lt x.great y (at_ x.l 0) = false := by
  obtain ⟨k, hk, rfl⟩ := mem_at hy
  exact h.2.top k hk
theorem Ok.top_is {x : H} (h : Ok x) {m : List (Int × Int)} (hp : x.l.Perm m) (z : Int × Int) (hz : z ∈ m) (hb : ∀ y ∈ m, y ≠ z → lt x.great z y = true) : 0 < x.l.length ∧ at_ x.l 0 = z := by
  have hzl : z ∈ x.l := hp.mem_iff.2 hz
  have h0 : 0 < x.l.length := List.length_pos_of_mem hzl
  refine ⟨h0, ?_⟩
  by_cases e : at_ x.l 0 = z
  · exact e
  · have h1 := hb _ (hp.mem_iff.1 (at_mem h0)) e
    rw [h.first hzl] at h1
    cases h1
theorem none_of {x : H} (h : Ok x) {a : Int} (hn : ∀ y ∈ x.l, y.1 ≠ a) : x.f a = none := by
  rcases hf : x.f a with _ | i
  · rfl
  · obtain ⟨j, hj, _, e⟩ := h.1.place hf
    exact absurd e (hn _ (at_mem hj))
/-- The law's one heap, in its own blocks. -/
def Own (w0 w : World) (x : H) (v : Value) : Prop := heap.M w w0.heap.size (fun k => w0.heap.size ≤ k) x v ∧ Below w0.heap.size w0 w
section
variable {w0 w w' : World} {x : H} {v : Value}
theorem Own.m (h : Own w0 w x v) : heap.M w w0.heap.size (fun k => w0.heap.size ≤ k) x v := h.1
theorem Own.far (h : Own w0 w x v) : Below w0.heap.size w0 w := h.2
theorem Own.wrote {x' : H} (h : Own w0 w x v) (hM : heap.M w' w0.heap.size (more w (fun k => w0.heap.size ≤ k)) x' v) (hw : Wrote w w' (fun k => w0.heap.size ≤ k)) : Own w0 w' x' v :=
  ⟨heap.mono (fun k hk => hk.elim id (fun h2 => Nat.le_trans h.2.size h2)) hM, hw.below h.2 (fun k hk => hk)⟩
theorem Own.below (h : Own w0 w x v) (hb : Below w.heap.size w w') : Own w0 w' x v :=
  ⟨heap.mono (fun k hk => hk.1) (heap.move (fun k hk => hb.block k hk.2.2) (heap.bound h.1)), h.2.trans (hb.mono h.2.size)⟩
end
theorem heap_lower {w : World} {b b' : Nat} {ok : Nat → Prop} {x : H} {v : Value} (h : heap.M w b ok x v) (hb : b' ≤ b) : heap.M w b' ok x v := by
  obtain ⟨g, sv, bm, e, ⟨h1, h2, h3⟩, ⟨m1, m2, m3⟩, h5, h6⟩ := h
  exact ⟨g, sv, bm, e, ⟨h1, Nat.le_trans hb h2, h3⟩, ⟨m1, Nat.le_trans hb m2, m3⟩, Kd.R_lower h5 hb, h6⟩
theorem new1 (n : Int) (gr : Bool) {w0 w : World} (hb : Below w0.heap.size w0 w) :
    Calls Try.prog 9 #[.int .i64 n, .bool gr] w fun e w' => ∃ g : Nat, e = .returned (.pointer (some ⟨g, 0, none⟩)) ∧ Own w0 w' (newH n gr) (.pointer (some ⟨g, 0, none⟩)) :=
  (new_calls n gr w).mono (fun e w' ⟨g, h1, h2, h3⟩ => ⟨g, h1, ⟨heap_lower (heap.mono (fun k hk => Nat.le_trans hb.size hk) h2) hb.size, hb.trans (h3.mono hb.size)⟩⟩)
theorem put1 (id key : Int) (m : List (Int × Int)) {w0 w : World} {x : H} {v : Value} (h : Own w0 w x v) (hw : (Lit.int .i64 id).wf = true) (hO : Ok x) (hp : x.l.Perm m) (hn : ∀ y ∈ m, y.1 ≠ id) (hr : (m.length : Int) < x.room) (hr2 : m.length < 1024) :
    Calls Try.prog 11 #[v, .int .i64 id, .int .i64 key] w fun e w' => e = .returned (.int .i64 0) ∧ ∃ x' : H, x'.great = x.great ∧ x'.room = x.room ∧ Ok x' ∧ x'.l.Perm (m ++ [(id, key)]) ∧ Own w0 w' x' v :=
  have hl := hp.length_eq
  (put_in id key h.1 hw hO (none_of hO (fun y hy => hn y (hp.mem_iff.1 hy))) (by omega) (by omega)).mono (fun e w' ⟨h1, ⟨x', e1, e2, e3, e4, e5⟩, h3⟩ => ⟨h1, x', e1, e2, e3, e4.trans (hp.append_right _), h.wrote e5 h3⟩)
theorem top95 {x : H} (hg : x.great = false) (h : Ok x) (hp : x.l.Perm [(1, 9), (2, 5)]) : 0 < x.l.length ∧ at_ x.l 0 = (2, 5) :=
  h.top_is hp (2, 5) (by decide) (by rw [hg]; decide)
set_option maxHeartbeats 1000000 in
set_option maxRecDepth 100000 in
theorem awake_calls (w : World) : Calls Try.prog 8 #[] w fun e w' => e = .returned (.bool true) ∧ Below w.heap.size w w' := by
  go_enter Try.func8, Try.ntmps8
  go_upto_region 6 with (first | (go_at_call 9; (with_reducible refine (new1 9 false (Below.refl _ w)).mono ?_); rintro e w1 ⟨g, rfl, h1⟩; have H1 := Aside0.mk h1; clear h1) | (go_at_call 11; (with_reducible refine (put1 1 9 [] H1.out (by decide) (ok_new 9 false) (List.Perm.refl _) (fun y hy => absurd hy (List.not_mem_nil)) (by decide) (by decide)).mono ?_); rintro e w2 ⟨rfl, x2, e1, e2, e3, e4, h2⟩; have H2 := Aside0.mk h2; have E1 := Aside0.mk e1; have E2 := Aside0.mk e2; have E3 := Aside0.mk e3; have E4 := Aside0.mk (show x2.l.Perm [(1, 9)] from e4); clear h2 e1 e2 e3 e4) | (go_at_call 11; (with_reducible refine (put1 2 5 [(1, 9)] H2.out (by decide) E3.out E4.out (by decide) (by rw [E2.out]; decide) (by decide)).mono ?_); rintro e w3 ⟨rfl, x3, f1, f2, f3, f4, h3⟩; have H3 := Aside0.mk h3; have F1 := Aside0.mk (f1.trans E1.out); have F3 := Aside0.mk f3; have F4 := Aside0.mk (show x3.l.Perm [(1, 9), (2, 5)] from f4); clear h3 f1 f2 f3 f4) | (go_at_call 12; (have FT := Aside0.mk (top95 F1.out F3.out F4.out)); (with_reducible refine (top_some H3.out.m FT.out.1).mono ?_); rintro e w4 ⟨rfl, h4⟩; rw [FT.out.2]; have H4 := Aside0.mk (H3.out.below h4); clear h4) | ((with_reducible refine gate_dst (N := 4) rfl ?_); refine box_event ?hg (N := 4) ?hd (cs := #[.int .i64 0, .int .i64 0]) (t := 32) ?hr ?_; (case hd => rfl); (case hg => rfl); (case hr => first | (go_simp; done) | (go_simp; rfl)); intro gr hgr w5 hx5 hb5; have HX5 := Aside0.mk hx5; have HB5 := Aside0.mk hb5; have HG5 := Aside0.mk hgr; have s0 := blk_cell hx5 0; have s1 := blk_cell hx5 1; have t0 := blk_frozen hx5 0; have t1 := blk_frozen hx5 1; clear hx5 hb5 hgr))
  have H5 := Aside0.mk (show Own w ((w5.setCell ⟨gr, 0, none⟩ (.int .i64 2)).setCell ⟨gr, 1, none⟩ (.int .i64 5)) x3 (.pointer (some ⟨g, 0, none⟩)) from H4.out.below ((HB5.out.setCell (by have := HG5.out; show w4.heap.size ≤ gr; omega) _).setCell (by have := HG5.out; show w4.heap.size ≤ gr; omega) _))
  have s2 : ((w5.setCell ⟨gr, 0, none⟩ (.int .i64 2)).setCell ⟨gr, 1, none⟩ (.int .i64 5)).heap[gr]? = some (.cells #[.int .i64 2, .int .i64 5] 32 (0, 0)) := blk_put (cs := #[.int .i64 2, .int .i64 0]) (blk_put (cs := #[.int .i64 0, .int .i64 0]) HX5.out 0 _ rfl) 1 _ rfl
  clear s0 s1 t0 t1
  generalize (w5.setCell ⟨gr, 0, none⟩ (.int .i64 2)).setCell ⟨gr, 1, none⟩ (.int .i64 5) = w6 at H5 s2 ⊢
  have s0 := blk_cell s2 0
  have s1 := blk_cell s2 1
  clear s2
  go_wp2_with (first | (go_at_call 13; (with_reducible refine (len_calls H5.out.m).mono ?_); rintro e w7 ⟨rfl, rfl⟩; rw [F4.out.length_eq]; rw [show ((([(1, 9), (2, 5)] : List (Int × Int)).length : Nat) : Int) = 2 from rfl]))
  go_ret
  exact ⟨rfl, H5.out.far⟩
end Go.Proofs.Ytkpjijbkiambiaa.Heap
