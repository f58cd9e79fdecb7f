/- Several texts in one (no law is stated here; each says its conditions). -/
import Derived.Test.YtdmoembbgcoeaaaMend
import Derived.Test.YtdmoembbgcoeaaaReg
import Derived.Test.YtdmoembbgcoeaaaWInvWords
/- The heap's methods: Set, Len, Top, Key (no law is stated here; each says its conditions). -/
namespace Go.Proofs.Ytdmoembbgcoeaaa.Heap
open Go.RowKit Go.Proofs.YtdmoembbgcoeaaaW.PrintWords Go.Proofs.YtdmoembbgcoeaaaW.PrintLast Go.Proofs.YtdmoembbgcoeaaaW.PrintMore Go.Proofs.Ytdmoembbgcoeaaa.St Go.Proofs.Ytdmoembbgcoeaaa.Q
set_option linter.unusedVariables false
set_option linter.unusedSimpArgs false
attribute [local go_sem] max2_int min2_int max_two min_two max_three min_three max_four min_four

/-- A heap between its calls. -/
def Ok (x : H) : Prop := Full x ∧ Ord x.great x.l
theorem lit_inj {a c : Int} {D : DataW Unit} {z : DataW Unit} (h1 : D.atKey (kl a) z = .lit (.int .i64 c)) {i : Int} (h2 : D.atKey (kl a) z = .lit (.int .i64 i)) : c = i := by
  rw [h1] at h2
  injection h2 with h2
  injection h2
/-- Where an id is. -/
theorem Full.place {x : H} (h : Full x) {a : Int} {i : Int} (hf : x.f a = some i) : ∃ j : Nat, j < x.l.length ∧ i = (j : Int) ∧ (at_ x.l j).1 = a := by
  obtain ⟨j, hj, e⟩ := h.dom a (by rw [hf]; rfl)
  have h2 := h.fwd j hj
  rw [e, hf] at h2
  injection h2 with h2
  exact ⟨j, hj, h2, e⟩
theorem Full.hole {x : H} (h : Full x) {j : Nat} (hj : j < x.l.length) : Hole x j (at_ x.l j) := by
  refine ⟨hj, fun i hi hij => ⟨h.fwd i hi, fun e => ?_⟩, fun a ha => ?_, ?_⟩
  · have h1 := h.fwd i hi
    have h2 := h.fwd j hj
    rw [e, h2] at h1
    injection h1 with h1
    omega
  · obtain ⟨i, hi, e⟩ := h.dom a ha
    by_cases c : i = j
    · subst c
      exact Or.inl e.symm
    · exact Or.inr ⟨i, hi, c, e⟩
  · rw [h.fwd j hj, h.size]
    rfl
theorem Hole.set {x : H} {k : Nat} {y : Int × Int} (h : Hole x k y) (z : Int × Int) (hz : z.1 = y.1) (x' : H) (hl : x'.l = x.l.set k z) (hf : x'.f = x.f) (hs : x'.sz = x.sz) : Hole x' k z := by
  have hlen : x'.l.length = x.l.length := by rw [hl, List.length_set]
  refine ⟨by rw [hlen]; exact h.lt, fun j hj hjk => ?_, fun a ha => ?_, ?_⟩
  · rw [hlen] at hj
    rw [hl, at_set_other hjk, hf, hz]
    exact h.fwd j hj hjk
  · rw [hf] at ha
    rcases h.dom a ha with r | ⟨j, hj, hjk, r⟩
    · exact Or.inl (by rw [hz]; exact r)
    · exact Or.inr ⟨j, by rw [hlen]; exact hj, hjk, by rw [hl, at_set_other hjk]; exact r⟩
  · rw [hs, hlen, hf, hz]
    exact h.size
end Go.Proofs.Ytdmoembbgcoeaaa.Heap

/- The heap's methods: Len, Top, Key, Put (no law is stated here; each says its conditions). -/
namespace Go.Proofs.Ytdmoembbgcoeaaa.Heap
open Go.RowKit Go.Proofs.YtdmoembbgcoeaaaW.PrintWords Go.Proofs.YtdmoembbgcoeaaaW.PrintLast Go.Proofs.YtdmoembbgcoeaaaW.PrintMore Go.Proofs.Ytdmoembbgcoeaaa.St Go.Proofs.Ytdmoembbgcoeaaa.Q
set_option linter.unusedVariables false
set_option linter.unusedSimpArgs false
attribute [local go_sem] max2_int min2_int max_two min_two max_three min_three max_four min_four

set_option maxHeartbeats 1000000 in
set_option maxRecDepth 100000 in
theorem top_none {w : World} {b : Nat} {ok : Nat → Prop} {x : H} {v : Value} (hM : heap.M w b ok x v) (h0 : x.l.length = 0) :
    Calls Try.prog 25 #[v] w fun e w' => e = .returned (.tuple #[.agg #[.int .i64 0, .int .i64 0], .bool false]) ∧ Below w.heap.size w w' := by
  obtain ⟨g, sv, bm, rfl, hA⟩ := hM
  obtain ⟨A, c, rfl⟩ := Kd.R_slice hA.row
  have HA := Aside0.mk hA
  have hd : ((x.l.length : Int) == 0) = true := beq_iff_eq.mpr (by omega)
  clear hA h0
  go_enter Try.func25, Try.ntmps25
  go_wp2_with (first | ((with_reducible refine gate_dst (N := 2) rfl ?_); refine box_event ?hg (N := 2) ?hd (cs := #[.int .i64 0, .int .i64 0]) (t := 62) ?hr ?_; (case hd => rfl); (case hg => rfl); (case hr => first | (go_simp; done) | (go_simp; rfl)); intro gr hgr wr hxr hbr; have HXR := Aside0.mk hxr; have HBR := Aside0.mk hbr; have HGR := Aside0.mk hgr; have r0 := blk_cell hxr 0; have r1 := blk_cell hxr 1; have fr0 := blk_frozen hxr 0; have fr1 := blk_frozen hxr 1; have hc2 := (HA.out.below hbr).c2; clear hxr hbr hgr))
  refine bodyPost_ret (results_ct rfl _ _ gr 62 #[.int .i64 0, .int .i64 0] (0, 0) _ rfl (blk_put (cs := #[.int .i64 0, .int .i64 0]) (blk_put (cs := #[.int .i64 0, .int .i64 0]) HXR.out 0 _ rfl) 1 _ rfl) Try.underlying62 rfl (by kernel_rfl)) rfl ?_
  exact ⟨rfl, (HBR.out.setCell (by have := HGR.out; show w.heap.size ≤ gr; omega) _).setCell (by have := HGR.out; show w.heap.size ≤ gr; omega) _⟩
set_option maxHeartbeats 1000000 in
set_option maxRecDepth 100000 in
theorem top_some {w : World} {b : Nat} {ok : Nat → Prop} {x : H} {v : Value} (hM : heap.M w b ok x v) (h0 : 0 < x.l.length) :
    Calls Try.prog 25 #[v] w fun e w' => e = .returned (.tuple #[.agg #[.int .i64 (at_ x.l 0).1, .int .i64 (at_ x.l 0).2], .bool true]) ∧ Below w.heap.size w w' := by
  obtain ⟨g, sv, bm, rfl, hA⟩ := hM
  obtain ⟨g2, c, rfl, _⟩ := hA.form h0
  have HA := Aside0.mk hA
  have HL := Aside0.mk h0
  have hd : ((x.l.length : Int) == 0) = false := beq_eq_false_iff_ne.mpr (by omega)
  have hq : (0 : Int) < (x.l.length : Int) := by omega
  clear hA
  go_enter Try.func25, Try.ntmps25
  go_wp2_with (first | ((with_reducible refine gate_dst (N := 2) rfl ?_); refine box_event ?hg (N := 2) ?hd (cs := #[.int .i64 0, .int .i64 0]) (t := 62) ?hr ?_; (case hd => rfl); (case hg => rfl); (case hr => first | (go_simp; done) | (go_simp; rfl)); intro gr hgr wr hxr hbr; have HXR := Aside0.mk hxr; have HBR := Aside0.mk hbr; have HGR := Aside0.mk hgr; have r0 := blk_cell hxr 0; have r1 := blk_cell hxr 1; have fr0 := blk_frozen hxr 0; have fr1 := blk_frozen hxr 1; have hA2 := HA.out.below hbr; have hc2 := hA2.c2; have k1 : wr.cell? ⟨g2, 0, none⟩ = some (.int .i64 (at_ x.l 0).1) := (item_get hA2.row HL.out).1.1; have k2 : wr.cell? ⟨g2, 1, none⟩ = some (.int .i64 (at_ x.l 0).2) := (item_get hA2.row HL.out).1.2; clear hA2; clear hxr hbr hgr))
  refine bodyPost_ret (results_ct rfl _ _ gr 62 #[.int .i64 (at_ x.l 0).1, .int .i64 (at_ x.l 0).2] (0, 0) _ rfl (blk_put (cs := #[.int .i64 (at_ x.l 0).1, .int .i64 0]) (blk_put (cs := #[.int .i64 0, .int .i64 0]) HXR.out 0 _ rfl) 1 _ rfl) Try.underlying62 rfl (by kernel_rfl)) rfl ?_
  exact ⟨rfl, (HBR.out.setCell (by have := HGR.out; show w.heap.size ≤ gr; omega) _).setCell (by have := HGR.out; show w.heap.size ≤ gr; omega) _⟩
set_option maxHeartbeats 1000000 in
set_option maxRecDepth 100000 in
theorem key_miss {w : World} {b : Nat} {ok : Nat → Prop} {x : H} {v : Value} (id : Int) (hM : heap.M w b ok x v) (hw : (Lit.int .i64 id).wf = true) (hf : x.f id = none) :
    Calls Try.prog 32 #[v, .int .i64 id] w fun e w' => e = .returned (.tuple #[.int .i64 0, .bool false]) ∧ w' = w := by
  obtain ⟨g, sv, bm, rfl, hA⟩ := hM
  obtain ⟨D, hown, hsees, hsize⟩ := hA.map
  have hc3 := hA.c3
  have hhas : Go.Maps.has D (kl id) = false := by rw [(hsees id).1, hf]; rfl
  have HN := Aside0.mk hown
  have HW := Aside0.mk hw
  clear hown hsees hsize hA hw hf
  go_enter Try.func32, Try.ntmps32
  go_wp2_with (first | (at_lookup; refine wpList_lookup_own_ok_int _ rfl _ _ 71 rfl 3 3 .i64 law Try.underlying71 Try.underlying3 (zeroE _) bm _ D rfl HN.out _ (kl id) rfl (Go.Maps.keyOf_int_mk Try.underlying3 HW.out) ?_; intro c hat hwc; rw [hhas]; clear hat hwc))
  go_ret2
  exact ⟨rfl, rfl⟩
set_option maxHeartbeats 1000000 in
set_option maxRecDepth 100000 in
theorem key_hit {w : World} {b : Nat} {ok : Nat → Prop} {x : H} {v : Value} (id : Int) (hM : heap.M w b ok x v) (hw : (Lit.int .i64 id).wf = true) (j : Nat) (hj : j < x.l.length) (hfi : x.f id = some (j : Int)) :
    Calls Try.prog 32 #[v, .int .i64 id] w fun e w' => e = .returned (.tuple #[.int .i64 (at_ x.l j).2, .bool true]) ∧ w' = w := by
  obtain ⟨g, sv, bm, rfl, hA⟩ := hM
  obtain ⟨D, hown, hsees, hsize⟩ := hA.map
  obtain ⟨g2, c2, rfl, hg2, hn2, hn3⟩ := hA.form (by omega)
  have hc3 := hA.c3
  have hc2 := hA.c2
  have hhas : Go.Maps.has D (kl id) = true := by rw [(hsees id).1, hfi]; rfl
  have HAT := Aside0.mk ((hsees id).2 _ hfi)
  have HN := Aside0.mk hown
  have HW := Aside0.mk hw
  have hlt : (j : Int) < (x.l.length : Int) := by omega
  obtain ⟨⟨k1, k2⟩, k3, k4⟩ := item_get hA.row hj
  rw [show x.l.getD j (0, 0) = at_ x.l j from rfl] at k1 k2
  clear hown hsees hsize hA hw hfi
  go_enter Try.func32, Try.ntmps32
  go_wp2_with (first | (at_lookup; refine wpList_lookup_own_ok_int _ rfl _ _ 71 rfl 3 3 .i64 law Try.underlying71 Try.underlying3 (zeroE _) bm _ D rfl HN.out _ (kl id) rfl (Go.Maps.keyOf_int_mk Try.underlying3 HW.out) ?_; intro c hat hwc; rw [hhas]; obtain rfl := lit_inj hat (HAT.out _); clear hat hwc))
  go_ret2
  exact ⟨rfl, rfl⟩
end Go.Proofs.Ytdmoembbgcoeaaa.Heap

/- The heap's methods: New, Put (no law is stated here; each says its conditions). -/
namespace Go.Proofs.Ytdmoembbgcoeaaa.Heap
open Go.RowKit Go.Proofs.YtdmoembbgcoeaaaW.PrintWords Go.Proofs.YtdmoembbgcoeaaaW.PrintLast Go.Proofs.YtdmoembbgcoeaaaW.PrintMore Go.Proofs.Ytdmoembbgcoeaaa.St Go.Proofs.Ytdmoembbgcoeaaa.Q
set_option linter.unusedVariables false
set_option linter.unusedSimpArgs false
attribute [local go_sem] max2_int min2_int max_two min_two max_three min_three max_four min_four

/-- The room that New gives. -/
def clamp (n : Int) : Int := if 1024 < (if n < 1 then 1 else n) then 1024 else (if n < 1 then 1 else n)
theorem clamp_le (n : Int) : 1 ≤ clamp n ∧ clamp n ≤ 1024 := by unfold clamp; split <;> split at * <;> omega
def newH (n : Int) (gr : Bool) : H := ⟨clamp n, gr, [], fun _ => none, 0⟩
theorem ok_new (n : Int) (gr : Bool) : Ok (newH n gr) := ⟨⟨fun j hj => absurd hj (Nat.not_lt_zero j), fun a ha => absurd (show false = true from ha) Bool.false_ne_true, rfl⟩, fun j _ hj => absurd hj (Nat.not_lt_zero j)⟩
set_option maxHeartbeats 1000000 in
set_option maxRecDepth 100000 in
theorem new_calls (n : Int) (gr : Bool) (w : World) :
    Calls Try.prog 22 #[.int .i64 n, .bool gr] w fun e w' => ∃ g : Nat, e = .returned (.pointer (some ⟨g, 0, none⟩)) ∧ heap.M w' w.heap.size (fun k => w.heap.size ≤ k) (newH n gr) (.pointer (some ⟨g, 0, none⟩)) ∧ Below w.heap.size w w' := by
  have hu := Try.underlying74
  have hmm := @run_makeMap Try.prog
  have HC := Aside0.mk (clamp_le n)
  obtain ⟨r, hr⟩ : ∃ r, clamp n = r := ⟨_, rfl⟩
  have HR := Aside0.mk hr
  have hr1 : (if 1024 < (if n < 1 then 1 else n) then 1024 else (if n < 1 then 1 else n)) = r := hr
  obtain ⟨j, hj⟩ : ∃ j : Int, (if n < 1 then 1 else n) = j := ⟨_, rfl⟩
  rw [hj] at hr1
  clear hr
  go_enter Try.func22, Try.ntmps22
  go_wp2_with (first | ((with_reducible refine gate_dst (N := 11) rfl ?_); refine box_event ?hg (N := 11) ?hd (cs := #[.int .i64 r, .bool gr, .slice none 0 0, .map (some w.heap.size)]) (t := 74) ?hr ?_; (case hd => rfl); (case hg => rfl); (case hr => first | (go_simp; done) | (go_simp; rfl)); intro gb hg w4 hbox hb; have HG := Aside0.mk hg; have HX := Aside0.mk hbox; have HB := Aside0.mk hb; clear hg hbox hb))
  go_ret
  have hs : (w.alloc (.map #[] 0)).heap.size = w.heap.size + 1 := Array.size_push _
  have hg1 : gb = w.heap.size + 1 := by rw [HG.out, hs]
  have hm0 : MapIs (w.alloc (.map #[] 0)) w.heap.size (fun _ => none) 0 := ⟨.map [], World.ownsMap_made w _ _ _, sees_empty, rfl⟩
  have hm : MapIs w4 w.heap.size (fun _ => none) 0 := hm0.move (HB.out.block _ (by rw [hs]; omega))
  have hBB : Below w.heap.size w w4 := (below_alloc (Below.refl _ _) (.map #[] 0)).trans (HB.out.mono (by rw [hs]; omega))
  refine ⟨gb, rfl, ⟨gb, _, w.heap.size, rfl, ⟨by omega, by omega, by rw [show (newH n gr).room = r from HR.out]; exact HX.out⟩, ⟨Nat.le_refl _, Nat.le_refl _, hm⟩, Kd.R_nil _ _ _ _ _, fun y hy => absurd hy (List.not_mem_nil), Nat.zero_le _, Nat.zero_le _⟩, hBB⟩
/-- What is put in. -/
theorem Full.next {x : H} (h : Full x) (id key : Int) (hf : x.f id = none) (x' : H) (hl : x'.l = x.l ++ [(id, key)]) (hx : x'.f = x.f) (hs : x'.sz = x.sz) : Hole x' x.l.length (id, key) := by
  have hlen : x'.l.length = x.l.length + 1 := by rw [hl, List.length_append]; rfl
  have hold : ∀ j, j < x.l.length → at_ x'.l j = at_ x.l j := fun j hj => by
    rw [hl]
    unfold at_
    rw [List.getD_eq_getElem?_getD, List.getElem?_append_left hj, List.getD_eq_getElem?_getD]
  refine ⟨by omega, fun j hj hjk => ?_, fun a ha => ?_, ?_⟩
  · have hj2 : j < x.l.length := by omega
    rw [hold j hj2, hx]
    refine ⟨h.fwd j hj2, fun e => ?_⟩
    have := h.fwd j hj2
    rw [e, hf] at this
    cases this
  · rw [hx] at ha
    obtain ⟨j, hj, e⟩ := h.dom a ha
    exact Or.inr ⟨j, by omega, by omega, by rw [hold j hj]; exact e⟩
  · rw [hs, hx, hf, h.size, hlen]
    rfl
theorem Ord.next {gr : Bool} {l : List (Int × Int)} (h : Ord gr l) (y : Int × Int) : Near gr (l ++ [y]) l.length := by
  have hold : ∀ j, j < l.length → at_ (l ++ [y]) j = at_ l j := fun j hj => by
    unfold at_
    rw [List.getD_eq_getElem?_getD, List.getElem?_append_left hj, List.getD_eq_getElem?_getD]
  refine ⟨fun j h0 hj hjk hp => ?_, fun h0 c hc0 hc hck => ?_⟩
  · rw [List.length_append, List.length_singleton] at hj
    rw [hold j (by omega), hold _ (by omega)]
    exact h j h0 (by omega)
  · rw [List.length_append, List.length_singleton] at hc
    omega
end Go.Proofs.Ytdmoembbgcoeaaa.Heap

/- The heap's method Put (no law is stated here; each says its conditions). -/
namespace Go.Proofs.Ytdmoembbgcoeaaa.Heap
open Go.RowKit Go.Proofs.YtdmoembbgcoeaaaW.PrintWords Go.Proofs.YtdmoembbgcoeaaaW.PrintLast Go.Proofs.YtdmoembbgcoeaaaW.PrintMore Go.Proofs.Ytdmoembbgcoeaaa.St Go.Proofs.Ytdmoembbgcoeaaa.Q
set_option linter.unusedVariables false
set_option linter.unusedSimpArgs false
attribute [local go_sem] max2_int min2_int max_two min_two max_three min_three max_four min_four

theorem info_item : (Try.prog.info? 62).map (fun i => (i.zero, i.size, i.bytes)) = some (some (.agg #[.int .i64 0, .int .i64 0]), 2, 16) := by kernel_rfl
set_option maxHeartbeats 1000000 in
set_option maxRecDepth 100000 in
theorem put_busy {w : World} {b : Nat} {ok : Nat → Prop} {x : H} {v : Value} (id key : Int) (hM : heap.M w b ok x v) (hw : (Lit.int .i64 id).wf = true) (hf : (x.f id).isSome = true) :
    Calls Try.prog 35 #[v, .int .i64 id, .int .i64 key] w fun e w' => e = .returned (.int .i64 5) ∧ w' = w := by
  obtain ⟨g, sv, bm, rfl, hA⟩ := hM
  obtain ⟨D, hown, hsees, hsize⟩ := hA.map
  have hc3 := hA.c3
  have hhas : Go.Maps.has D (kl id) = true := by rw [(hsees id).1, hf]
  have HN := Aside0.mk hown
  have HW := Aside0.mk hw
  clear hown hsees hsize hA hw hf
  go_enter Try.func35, Try.ntmps35
  go_wp2_with (first | (at_lookup; refine wpList_lookup_own_ok_int _ rfl _ _ 71 rfl 3 3 .i64 law Try.underlying71 Try.underlying3 (zeroE _) bm _ D rfl HN.out _ (kl id) rfl (Go.Maps.keyOf_int_mk Try.underlying3 HW.out) ?_; intro c hat hwc; rw [hhas]; clear hat hwc))
  go_ret
  exact ⟨rfl, rfl⟩
set_option maxHeartbeats 1000000 in
set_option maxRecDepth 100000 in
theorem put_full {w : World} {b : Nat} {ok : Nat → Prop} {x : H} {v : Value} (id key : Int) (hM : heap.M w b ok x v) (hw : (Lit.int .i64 id).wf = true) (hf : x.f id = none) (hr : (x.l.length : Int) = x.room) :
    Calls Try.prog 35 #[v, .int .i64 id, .int .i64 key] w fun e w' => e = .returned (.int .i64 3) ∧ ∃ n, w' = w.drewN n := by
  obtain ⟨g, sv, bm, rfl, hA⟩ := hM
  obtain ⟨D, hown, hsees, hsize⟩ := hA.map
  obtain ⟨A, c2, rfl⟩ := Kd.R_slice hA.row
  have hc0 := hA.c0
  have hc2 := hA.c2
  have hc3 := hA.c3
  have hd : ((x.l.length : Int) == x.room) = true := beq_iff_eq.mpr hr
  have hhas : Go.Maps.has D (kl id) = false := by rw [(hsees id).1, hf]; rfl
  have HN := Aside0.mk hown
  have HW := Aside0.mk hw
  clear hown hsees hsize hA hw hf hr
  go_enter Try.func35, Try.ntmps35
  go_wp2_with (first | (at_lookup; refine wpList_lookup_own_ok_int _ rfl _ _ 71 rfl 3 3 .i64 law Try.underlying71 Try.underlying3 (zeroE _) bm _ D rfl HN.out _ (kl id) rfl (Go.Maps.keyOf_int_mk Try.underlying3 HW.out) ?_; intro c hat hwc; rw [hhas]; clear hat hwc))
  go_quiet (fail)
  go_wp2
  go_ret
  exact ⟨rfl, _, rfl⟩
set_option maxHeartbeats 1000000 in
set_option maxRecDepth 100000 in
theorem put_in {w : World} {b : Nat} {ok : Nat → Prop} {x : H} {v : Value} (id key : Int) (hM : heap.M w b ok x v) (hw : (Lit.int .i64 id).wf = true) (hO : Ok x) (hf : x.f id = none) (hr : ¬ (x.l.length : Int) = x.room) (hr2 : (x.l.length : Int) < 1024) :
    Calls Try.prog 35 #[v, .int .i64 id, .int .i64 key] w fun e w' => e = .returned (.int .i64 0) ∧ (∃ x' : H, x'.great = x.great ∧ x'.room = x.room ∧ Ok x' ∧ x'.l.Perm (x.l ++ [(id, key)]) ∧ heap.M w' b (more w ok) x' v) ∧ Wrote w w' ok := by
  obtain ⟨g, sv, bm, rfl, hA⟩ := hM
  obtain ⟨D, hown, hsees, hsize⟩ := hA.map
  obtain ⟨A, c2, rfl⟩ := Kd.R_slice hA.row
  have hc0 := hA.c0
  have hc2 := hA.c2
  have hc3 := hA.c3
  have hf2 := hA.f2
  have hd : ((x.l.length : Int) == x.room) = false := beq_eq_false_iff_ne.mpr hr
  have hhas : Go.Maps.has D (kl id) = false := by rw [(hsees id).1, hf]; rfl
  have HN := Aside0.mk hown
  have HW := Aside0.mk hw
  have HA := Aside0.mk hA
  have HO := Aside0.mk hO
  have HF := Aside0.mk hf
  have HL := Aside0.mk hr2
  clear hown hsees hsize hA hw hf hr hO hr2
  go_enter Try.func35, Try.ntmps35
  go_wp2_with (first | (at_lookup; refine wpList_lookup_own_ok_int _ rfl _ _ 71 rfl 3 3 .i64 law Try.underlying71 Try.underlying3 (zeroE _) bm _ D rfl HN.out _ (kl id) rfl (Go.Maps.keyOf_int_mk Try.underlying3 HW.out) ?_; intro c hat hwc; rw [hhas]; clear hat hwc))
  go_quiet (fail)
  go_upto_region 7 with (first | ((with_reducible refine gate_builtin (b := .append) (xs := #[.tmp 33, .tmp 37]) rfl ?_); at_builtin; refine Kd.R_append KI (w0 := w) b rfl (.tmp 33) (.tmp 37) 72 62 (.agg #[.int .i64 0, .int .i64 0]) 16 rfl Try.underlying72 info_item rfl (by decide) (by decide) (.slice A x.l.length c2) x.l (id, key) [.int .i64 id, .int .i64 key] (fun k => more w ok k ∧ k ≠ g ∧ k ≠ bm) (fun _ => False) rfl rfl ?hp (fun _ h => h.elim) (fun k hk => ⟨Or.inr hk, Nat.ne_of_gt (Nat.lt_of_lt_of_le HA.out.glt hk), Nat.ne_of_gt (Nat.lt_of_lt_of_le HA.out.map.lt hk)⟩) (Kd.R_mono (Kd.R_drewN HA.out.row _) (fun k hk => ⟨Or.inl hk.1, hk.2⟩)) (pw_below_drewN (Below.refl _ _) _) (Nat.le_of_lt (Nat.lt_of_le_of_lt HA.out.1.2.1 HA.out.glt)) (by have := HL.out; omega) ?_; (case hp => exact ⟨[.int .i64 id], [.int .i64 key], rfl, rfl, rfl⟩); intro v1 w1 hO1 hB1 hG1 hat1; obtain ⟨A1, c1, rfl⟩ := Kd.R_slice hO1; have HO1 := Aside0.mk hO1; have HG1 := Aside0.mk hG1; have kg := hG1.block g HA.out.glt (Kd.R_away HA.out.row (fun k hk => hk.2.1)); have hcg := blk_cell (kg.trans HA.out.1.2.2) 2; have hfg := blk_frozen (kg.trans HA.out.1.2.2) 2; have KG := Aside0.mk kg; clear hO1 hB1 hG1 hat1 kg))
  obtain ⟨x1, hx1⟩ : ∃ x1 : H, ({ x with l := x.l ++ [(id, key)] } : H) = x1 := ⟨_, rfl⟩
  have hl1 : x1.l = x.l ++ [(id, key)] := by rw [← hx1]
  have hlen1 : x1.l.length = x.l.length + 1 := by rw [hl1, List.length_append]; rfl
  have hlen2 : (x.l ++ [(id, key)]).length = x.l.length + 1 := by rw [List.length_append]; rfl
  rw [hlen2] at HO1
  have hbm : w1.heap[bm]? = w.heap[bm]? := HG1.out.block bm HA.out.map.lt (Kd.R_away HA.out.row (fun k hk => hk.2.2))
  have hblk := blk_put (KG.out.trans HA.out.1.2.2) 2 (.slice A1 (x.l.length + 1) c1) (cs' := #[.int .i64 x.room, .bool x.great, .slice A1 (x.l.length + 1) c1, .map (some bm)]) rfl
  have hA3 : At (w1.setCell ⟨g, 2, none⟩ (.slice A1 (x.l.length + 1) c1)) b (more w ok) x1 g (.slice A1 (x.l.length + 1) c1) bm := by
    rw [← hx1]
    refine ⟨⟨Or.inl HA.out.1.1, HA.out.1.2.1, hblk⟩, ⟨Or.inl HA.out.2.1.1, HA.out.2.1.2.1, HA.out.map.move ((Below.heap_setCell w1 _ _ bm HA.out.ne).trans hbm)⟩, Kd.R_far HO1.out (fun k hk => hk.2.1) _, fun y hy => ?_, by rw [hlen2]; have := HL.out; omega, HA.out.2.2.2.2.2⟩
    rcases List.mem_append.1 hy with h | h
    · exact HA.out.wf y h
    · rw [List.mem_singleton] at h; subst h; exact HW.out
  have hW3 : Wrote w (w1.setCell ⟨g, 2, none⟩ (.slice A1 (x.l.length + 1) c1)) ok := (((Wrote.refl w ok).drewN nq).grown HG1.out (fun k hk => Or.inl (HA.out.row.1 k hk).1)).setCell (Or.inl HA.out.1.1) _
  have hat1 : at_ x1.l x.l.length = (id, key) := by rw [hl1]; unfold at_; rw [List.getD_eq_getElem?_getD, List.getElem?_append_right (Nat.le_refl _)]; simp
  have hH : Hole x1 x.l.length (at_ x1.l x.l.length) := by rw [hat1]; exact HO.out.1.next id key HF.out x1 hl1 (by rw [← hx1]) (by rw [← hx1])
  have hN1 : Near x1.great x1.l x.l.length := by rw [hl1, show x1.great = x.great by rw [← hx1]]; exact HO.out.2.next _
  have hgr : x1.great = x.great ∧ x1.room = x.room := by rw [← hx1]; exact ⟨rfl, rfl⟩
  clear hcg hfg hblk hbm hc0 hc2 hc3 hf2 hhas hd
  generalize w1.setCell ⟨g, 2, none⟩ (.slice A1 (x.l.length + 1) c1) = w3 at hA3 hW3 ⊢
  have HA3 := Aside0.mk hA3
  have HW3 := Aside0.mk hW3
  have HH := Aside0.mk hH
  have HN1 := Aside0.mk hN1
  have HL1 := Aside0.mk hl1
  have HGR := Aside0.mk hgr
  have hc2 := hA3.c2
  have e1 : (((x.l.length + 1 : Nat) : Int) - 1) = (x.l.length : Int) := by omega
  have HWR := Aside0.mk (show wrap64 (x.l.length : Int) = (x.l.length : Int) from by have := HL.out; unfold wrap64; omega)
  clear hA3 hW3 hH hN1 hl1 hgr hx1 hat1 hlen1 hlen2
  go_wp2_with (first | (go_at_call 40; rw [HWR.out]; (with_reducible refine (mend_calls x.l.length HA3.out.toM HH.out HN1.out).mono ?_); rintro e w6 ⟨rfl, hX, hW6⟩; have HX := Aside0.mk hX; have HW6 := Aside0.mk hW6; clear hX hW6))
  go_ret
  obtain ⟨x', e1, e2, e3, e4, e5, e6⟩ := HX.out
  have HG2 := HGR.out
  refine ⟨rfl, ⟨x', e1.trans HG2.1, e2.trans HG2.2, ⟨e3, by rw [e1]; exact e4⟩, by rw [← HL1.out]; exact e5, heap.mono (fun k hk => hk.elim (fun h => h) (fun h => Or.inr (Nat.le_trans HW3.out.size h))) e6⟩, HW3.out.trans HW6.out (fun k hk => hk)⟩
end Go.Proofs.Ytdmoembbgcoeaaa.Heap

/- The heap's method Drop (no law is stated here; each says its conditions). -/
namespace Go.Proofs.Ytdmoembbgcoeaaa.Heap
open Go.RowKit Go.Proofs.YtdmoembbgcoeaaaW.PrintWords Go.Proofs.YtdmoembbgcoeaaaW.PrintLast Go.Proofs.YtdmoembbgcoeaaaW.PrintMore Go.Proofs.Ytdmoembbgcoeaaa.St Go.Proofs.Ytdmoembbgcoeaaa.Q
set_option linter.unusedVariables false
set_option linter.unusedSimpArgs false
attribute [local go_sem] max2_int min2_int max_two min_two max_three min_three max_four min_four

set_option maxHeartbeats 1000000 in
set_option maxRecDepth 100000 in
theorem drop_miss {w : World} {b : Nat} {ok : Nat → Prop} {x : H} {v : Value} (id : Int) (hM : heap.M w b ok x v) (hw : (Lit.int .i64 id).wf = true) (hf : x.f id = none) :
    Calls Try.prog 33 #[v, .int .i64 id] w fun e w' => e = .returned (.bool false) ∧ w' = w := by
  obtain ⟨g, sv, bm, rfl, hA⟩ := hM
  obtain ⟨D, hown, hsees, hsize⟩ := hA.map
  have hc3 := hA.c3
  have hhas : Go.Maps.has D (kl id) = false := by rw [(hsees id).1, hf]; rfl
  have HN := Aside0.mk hown
  have HW := Aside0.mk hw
  clear hown hsees hsize hA hw hf
  go_enter Try.func33, Try.ntmps33
  go_wp2_with (first | (at_lookup; refine wpList_lookup_own_ok_int _ rfl _ _ 71 rfl 3 3 .i64 law Try.underlying71 Try.underlying3 (zeroE _) bm _ D rfl HN.out _ (kl id) rfl (Go.Maps.keyOf_int_mk Try.underlying3 HW.out) ?_; intro c hat hwc; rw [hhas]; clear hat hwc))
  go_ret
  exact ⟨rfl, rfl⟩
theorem perm_set : ∀ (l : List (Int × Int)) (j : Nat) (y : Int × Int), j < l.length → (at_ l j :: l.set j y).Perm (y :: l)
  | [], _, _, h => absurd h (Nat.not_lt_zero _)
  | a :: l, 0, y, _ => List.Perm.swap _ _ _
  | a :: l, j + 1, y, h => by
    have ih := perm_set l j y (by simpa using h)
    have e : at_ (a :: l) (j + 1) = at_ l j := rfl
    rw [e]
    show (at_ l j :: a :: l.set j y).Perm (y :: a :: l)
    exact ((List.Perm.swap _ _ _).trans (List.Perm.cons a ih)).trans (List.Perm.swap _ _ _)
/-- The last item goes. -/
theorem Full.last {x : H} (h : Full x) (n : Nat) (hn : x.l.length = n + 1) (j : Nat) (hj : j < n) (x' : H) (hl : x'.l = x.l.take n) (hf : x'.f = cut x.f (at_ x.l j).1) (hs : x'.sz = x.sz - 1) : Hole x' j (at_ x.l n) := by
  have hlen : x'.l.length = n := by rw [hl, List.length_take]; omega
  have hold : ∀ i, i < n → at_ x'.l i = at_ x.l i := fun i hi => by
    rw [hl]
    unfold at_
    rw [List.getD_eq_getElem?_getD, List.getElem?_take, if_pos hi, List.getD_eq_getElem?_getD]
  have hne : ∀ i k, i < x.l.length → k < x.l.length → i ≠ k → (at_ x.l i).1 ≠ (at_ x.l k).1 := fun i k hi hk hik e => by
    have h1 := h.fwd i hi
    rw [e, h.fwd k hk] at h1
    injection h1 with h1
    omega
  refine ⟨by omega, fun i hi hij => ?_, fun a ha => ?_, ?_⟩
  · rw [hlen] at hi
    rw [hold i hi, hf, cut_other (hne i j (by omega) (by omega) hij)]
    exact ⟨h.fwd i (by omega), hne i n (by omega) (by omega) (by omega)⟩
  · rw [hf] at ha
    by_cases e : a = (at_ x.l j).1
    · rw [e, cut_same] at ha
      cases ha
    · rw [cut_other e] at ha
      obtain ⟨i, hi, ei⟩ := h.dom a ha
      by_cases c : i = n
      · subst c
        exact Or.inl ei.symm
      · exact Or.inr ⟨i, by omega, fun e2 => e (by rw [← ei, e2]), by rw [hold i (by omega)]; exact ei⟩
  · rw [hf, cut_other (hne n j (by omega) (by omega) (by omega)), h.fwd n (by omega), hs, h.size, hlen, hn]
    simp
theorem Ord.last {gr : Bool} {l : List (Int × Int)} (h : Ord gr l) (n : Nat) (hn : l.length = n + 1) : Ord gr (l.take n) := by
  intro j h0 hj
  rw [List.length_take] at hj
  have hold : ∀ i, i < n → at_ (l.take n) i = at_ l i := fun i hi => by
    unfold at_
    rw [List.getD_eq_getElem?_getD, List.getElem?_take, if_pos hi, List.getD_eq_getElem?_getD]
  rw [hold j (by omega), hold _ (by omega)]
  exact h j h0 (by omega)
theorem Full.end {x : H} (h : Full x) (n : Nat) (hn : x.l.length = n + 1) (x' : H) (hl : x'.l = x.l.take n) (hf : x'.f = cut x.f (at_ x.l n).1) (hs : x'.sz = x.sz - 1) : Full x' := by
  have hlen : x'.l.length = n := by rw [hl, List.length_take]; omega
  have hold : ∀ i, i < n → at_ x'.l i = at_ x.l i := fun i hi => by
    rw [hl]
    unfold at_
    rw [List.getD_eq_getElem?_getD, List.getElem?_take, if_pos hi, List.getD_eq_getElem?_getD]
  have hne : ∀ i, i < n → (at_ x.l i).1 ≠ (at_ x.l n).1 := fun i hi e => by
    have h1 := h.fwd i (by omega)
    rw [e, h.fwd n (by omega)] at h1
    injection h1 with h1
    omega
  refine ⟨fun i hi => ?_, fun a ha => ?_, ?_⟩
  · rw [hlen] at hi
    rw [hold i hi, hf, cut_other (hne i hi)]
    exact h.fwd i (by omega)
  · rw [hf] at ha
    by_cases e : a = (at_ x.l n).1
    · rw [e, cut_same] at ha
      cases ha
    · rw [cut_other e] at ha
      obtain ⟨i, hi, ei⟩ := h.dom a ha
      have : i ≠ n := fun e2 => e (by rw [← ei, e2])
      exact ⟨i, by omega, by rw [hold i (by omega)]; exact ei⟩
  · rw [hs, h.size, hlen, hn]
    rfl
set_option maxHeartbeats 1000000 in
set_option maxRecDepth 100000 in
theorem drop_hit {w : World} {b : Nat} {ok : Nat → Prop} {x : H} {v : Value} (id : Int) (hM : heap.M w b ok x v) (hw : (Lit.int .i64 id).wf = true) (hO : Ok x) (j : Nat) (hj : j < x.l.length) (hid : (at_ x.l j).1 = id) :
    Calls Try.prog 33 #[v, .int .i64 id] w fun e w' => e = .returned (.bool true) ∧ (∃ x' : H, x'.great = x.great ∧ x'.room = x.room ∧ Ok x' ∧ (at_ x.l j :: x'.l).Perm x.l ∧ heap.M w' b (more w ok) x' v) ∧ Wrote w w' ok := by
  obtain ⟨g, sv, bm, rfl, hA⟩ := hM
  obtain ⟨D, hown, hsees, hsize⟩ := hA.map
  obtain ⟨g2, c2, rfl, hg2, hn2, hn3⟩ := hA.form (by omega)
  have hfi : x.f id = some (j : Int) := by rw [← hid]; exact hO.1.fwd j hj
  obtain ⟨n, hn⟩ : ∃ n : Nat, x.l.length = n + 1 := ⟨x.l.length - 1, by omega⟩
  have hc3 := hA.c3
  have hc2 := hA.c2
  have hf2 := hA.f2
  have hhas : Go.Maps.has D (kl id) = true := by rw [(hsees id).1, hfi]; rfl
  have HAT := Aside0.mk ((hsees id).2 _ hfi)
  have HN := Aside0.mk hown
  have HD := Aside0.mk hsees
  have HZ := Aside0.mk hsize
  have HW := Aside0.mk hw
  have HO := Aside0.mk hO
  have HID := Aside0.mk hid
  have HA := Aside0.mk hA
  have HFI := Aside0.mk hfi
  have HNL := Aside0.mk hn
  obtain ⟨⟨k1, k2⟩, k3, k4⟩ := item_get hA.row (show n < x.l.length by omega)
  rw [show x.l.getD n (0, 0) = at_ x.l n from rfl] at k1 k2
  have hn1024 : n < 1024 := by have := hA.len; omega
  rw [hn] at hc2
  clear hown hsees hsize hA hw hfi hO hid
  go_enter Try.func33, Try.ntmps33
  go_upto_region 6 with (first | (at_lookup; refine wpList_lookup_own_ok_int _ rfl _ _ 71 rfl 3 3 .i64 law Try.underlying71 Try.underlying3 (zeroE _) bm _ D rfl HN.out _ (kl id) rfl (Go.Maps.keyOf_int_mk Try.underlying3 HW.out) ?_; intro c hat hwc; rw [hhas]; obtain rfl := lit_inj hat (HAT.out _); clear hat hwc))
  obtain ⟨w4, hw4⟩ : ∃ w4 : World, (w.alloc (.cells #[.int .i64 (at_ x.l n).1, .int .i64 (at_ x.l n).2] 62)) = w4 := ⟨_, rfl⟩
  have hb4 : Below w.heap.size w w4 := by rw [← hw4]; exact below_alloc (Below.refl _ _) _
  have hx4 : w4.heap[w.heap.size]? = some (.cells #[.int .i64 (at_ x.l n).1, .int .i64 (at_ x.l n).2] 62 (0, 0)) := by rw [← hw4]; exact blk_new w _
  rw [hw4]
  have HA4 := Aside0.mk (HA.out.below hb4)
  have HB4 := Aside0.mk hb4
  have HX4 := Aside0.mk hx4
  have hd2 := HA4.out.c2
  have hd3 := HA4.out.c3
  have hdf := HA4.out.f2
  have hcap : n ≤ c2 := by have := (Kd.R_reads' HA.out.row).2.1; omega
  rw [hn] at hd2
  clear k1 k2 k3 k4 hc2 hc3 hf2 hw4 hb4 hx4 hhas
  go_upto_region 7 with (fail)
  obtain ⟨x5, hx5⟩ : ∃ x5 : H, ({ x with l := x.l.take n } : H) = x5 := ⟨_, rfl⟩
  have hl5 : x5.l = x.l.take n := by rw [← hx5]
  have hlen5 : x5.l.length = n := by rw [hl5, List.length_take]; omega
  have hA5 : At (w4.setCell ⟨g, 2, none⟩ (.slice (some ⟨g2, 0, none⟩) n c2)) b ok x5 g (.slice (some ⟨g2, 0, none⟩) n c2) bm := by
    rw [← hx5]
    refine ⟨⟨HA4.out.1.1, HA4.out.1.2.1, blk_put HA4.out.1.2.2 2 _ rfl⟩, ⟨HA4.out.2.1.1, HA4.out.2.1.2.1, HA4.out.map.move (Below.heap_setCell w4 _ _ bm HA4.out.ne)⟩, Kd.R_far (Kd.R_take HA4.out.row (by omega)) (fun k hk => hk.2.1) _, fun y hy => HA4.out.wf y (List.mem_of_mem_take hy), by rw [List.length_take]; omega, HA4.out.2.2.2.2.2⟩
  have hW5 : Wrote w (w4.setCell ⟨g, 2, none⟩ (.slice (some ⟨g2, 0, none⟩) n c2)) ok := (Wrote.of_below HB4.out ok).setCell (Or.inl HA.out.1.1) _
  have hx5b : (w4.setCell ⟨g, 2, none⟩ (.slice (some ⟨g2, 0, none⟩) n c2)).heap[w.heap.size]? = some (.cells #[.int .i64 (at_ x.l n).1, .int .i64 (at_ x.l n).2] 62 (0, 0)) := blk_far HX4.out (Nat.ne_of_gt HA.out.glt) _
  clear hd2 hd3 hdf
  generalize w4.setCell ⟨g, 2, none⟩ (.slice (some ⟨g2, 0, none⟩) n c2) = w5 at hA5 hW5 hx5b ⊢
  have HA5 := Aside0.mk hA5
  have HW5 := Aside0.mk hW5
  have HX5 := Aside0.mk hx5b
  have HL5 := Aside0.mk hl5
  have HE5 := Aside0.mk hx5
  have HLN := Aside0.mk hlen5
  have hc3 := hA5.c3
  obtain ⟨D5, hown5, hsees5, hsize5⟩ := hA5.map
  have HN5 := Aside0.mk hown5
  have HD5 := Aside0.mk hsees5
  have HZ5 := Aside0.mk hsize5
  have HF5 := Aside0.mk (show x5.f id = some (j : Int) from by rw [← hx5]; exact HFI.out)
  clear hA5 hW5 hx5b hl5 hx5 hlen5 hown5 hsees5 hsize5
  go_upto_region 8 with (first | (at_delete; refine wpList_delete_own _ rfl _ _ 71 3 rfl 3 law Try.underlying71 _ bm x5.sz D5 rfl HN5.out _ (kl id) rfl (Go.Maps.keyOf_int_mk Try.underlying3 HW.out) ?_; intro w6 hown6 hturn6; have HM6 := Aside0.mk (MapIs.struck HN5.out HD5.out HZ5.out (by rw [HF5.out]; rfl) hown6); have HG6 := Aside0.mk hturn6.grown; clear hown6 hturn6))
  obtain ⟨x6, hx6⟩ : ∃ x6 : H, ({ x5 with f := cut x5.f id, sz := x5.sz - 1 } : H) = x6 := ⟨_, rfl⟩
  have hl6 : x6.l = x.l.take n := by rw [← hx6]; exact HL5.out
  have hlen6 : x6.l.length = n := by rw [hl6, List.length_take]; omega
  have hf6 : x6.f = cut x.f (at_ x.l j).1 := by rw [← hx6, HID.out, ← HE5.out]
  have hs6 : x6.sz = x.sz - 1 := by rw [← hx6, ← HE5.out]
  have hgr : x6.great = x.great ∧ x6.room = x.room := by rw [← hx6, ← HE5.out]; exact ⟨rfl, rfl⟩
  have HA6 := Aside0.mk (show At w6 b ok x6 g (.slice (some ⟨g2, 0, none⟩) n c2) bm from by rw [← hx6]; exact HA5.out.mapped HG6.out HM6.out (by have : x5.sz ≤ 2000 := HA5.out.2.2.2.2.2; omega))
  have HW6 := Aside0.mk (HW5.out.grown HG6.out (fun k hk => by cases hk; exact Or.inl HA5.out.2.1.1))
  have HX6 := Aside0.mk ((HG6.out.block _ (blk_lt HX5.out) (fun e => by injection e with e; have := HA.out.map.lt; omega)).trans HX5.out)
  have HL6 := Aside0.mk hl6
  have HLN6 := Aside0.mk hlen6
  have HF6 := Aside0.mk hf6
  have HS6 := Aside0.mk hs6
  have HGR := Aside0.mk hgr
  clear hl6 hlen6 hf6 hs6 hgr hx6 hc3
  have hperm : (at_ x.l n :: x.l.take n).Perm x.l := by
    have e1 : x.l = x.l.take n ++ [at_ x.l n] := by
      have := List.take_append_drop n x.l
      rw [Mine.drop_at (Mine.getD_at (0, 0) (show n < x.l.length by omega)), List.drop_of_length_le (by omega)] at this
      exact this.symm
    have e2 : (at_ x.l n :: x.l.take n).Perm (x.l.take n ++ [at_ x.l n]) := (List.perm_append_singleton _ _).symm
    rw [← e1] at e2
    exact e2
  have HPM := Aside0.mk hperm
  clear hperm
  by_cases hjn : j < n
  · have hjd : decide ((j : Int) < (n : Int)) = true := decide_eq_true (by omega)
    have hjdn : decide (j < n) = true := decide_eq_true hjn
    have hc2' := HA6.out.c2
    have hji : (j : Int) < (n : Int) := by omega
    have q0 := blk_cell HX6.out 0
    have q1 := blk_cell HX6.out 1
    go_upto_region 9 with (fail)
    go_still_tail 7, (by kernel_rfl)
    change wpList _ _ _ _ _ w6.drew
    obtain ⟨w7, hw7⟩ : ∃ w7 : World, w6.drew = w7 := ⟨_, rfl⟩
    rw [hw7]
    have hb7 : Below w6.heap.size w6 w7 := by rw [← hw7]; exact below_drew (Below.refl _ _)
    have HA7 := Aside0.mk (show At w7 b ok x6 g (.slice (some ⟨g2, 0, none⟩) x6.l.length c2) bm from by rw [HLN6.out]; exact HA6.out.below hb7)
    have HW7 := Aside0.mk (show Wrote w w7 ok from by rw [← hw7]; exact HW6.out.drew)
    clear hw7 hb7 hc2' q0 q1
    have hj6 : j < x6.l.length := by rw [HLN6.out]; exact hjn
    obtain ⟨⟨k1, k2⟩, k3, k4⟩ := item_get HA7.out.row hj6
    go_upto_region 10 with (fail)
    obtain ⟨x8, hx8⟩ : ∃ x8 : H, ({ x6 with l := x6.l.set j (at_ x.l n) } : H) = x8 := ⟨_, rfl⟩
    have hl8 : x8.l = x6.l.set j (at_ x.l n) := by rw [← hx8]
    have hA8 := HA7.out.item2 hj6 (at_ x.l n) (HA.out.wf _ (at_mem (by omega)))
    rw [hx8] at hA8
    have hW8 : Wrote w ((w7.setCell ⟨g2, j * 2, none⟩ (.int .i64 (at_ x.l n).1)).setCell ⟨g2, j * 2 + 1, none⟩ (.int .i64 (at_ x.l n).2)) ok := (HW7.out.setCell (Or.inl hg2) _).setCell (Or.inl hg2) _
    clear k1 k2 k3 k4
    generalize ((w7.setCell ⟨g2, j * 2, none⟩ (.int .i64 (at_ x.l n).1)).setCell ⟨g2, j * 2 + 1, none⟩ (.int .i64 (at_ x.l n).2)) = w8 at hA8 hW8 ⊢
    have hat8 : at_ x8.l j = at_ x.l n := by rw [hl8]; exact at_set_same hj6 _
    have hgr8 : x8.great = x.great ∧ x8.room = x.room := by rw [← hx8]; exact HGR.out
    have HH := Aside0.mk (show Hole x8 j (at_ x8.l j) from by rw [hat8]; exact (HO.out.1.last n HNL.out j hjn x6 HL6.out HF6.out HS6.out).set (at_ x.l n) rfl x8 hl8 (by rw [← hx8]) (by rw [← hx8]))
    have HN8 := Aside0.mk (show Near x8.great x8.l j from by rw [hl8, hgr8.1, HL6.out]; exact ((HO.out.2.last n HNL.out).near (by rw [List.length_take]; omega)).set _)
    have HM8 := Aside0.mk hA8.toM
    have HW8 := Aside0.mk hW8
    have HL8 := Aside0.mk hl8
    have HG8 := Aside0.mk hgr8
    clear hl8 hA8 hW8 hat8 hgr8 hx8
    go_wp2_with (first | (go_at_call 40; (with_reducible refine (mend_calls j HM8.out HH.out HN8.out).mono ?_); rintro e w9 ⟨rfl, hX, hW9⟩; have HX := Aside0.mk hX; have HW9 := Aside0.mk hW9; clear hX hW9))
    go_ret
    obtain ⟨x', e1, e2, e3, e4, e5, e6⟩ := HX.out
    have HG2 := HG8.out
    have hp : (at_ x.l j :: x8.l).Perm x.l := by
      rw [HL8.out]
      have h1 := perm_set x6.l j (at_ x.l n) hj6
      have h2 : at_ x6.l j = at_ x.l j := by
        rw [HL6.out]
        unfold at_
        rw [List.getD_eq_getElem?_getD, List.getElem?_take, if_pos hjn, List.getD_eq_getElem?_getD]
      rw [h2] at h1
      refine h1.trans ?_
      rw [HL6.out]
      exact HPM.out
    refine ⟨rfl, ⟨x', e1.trans HG2.1, e2.trans HG2.2, ⟨e3, by rw [e1]; exact e4⟩, (List.Perm.cons _ e5).trans hp, heap.mono (fun k hk => hk.elim Or.inl (fun h => Or.inr (Nat.le_trans HW8.out.size h))) e6⟩, HW8.out.trans HW9.out (fun k hk => Or.inl hk)⟩
  · have hje : j = n := by omega
    subst hje
    have hjd : decide ((j : Int) < (j : Int)) = false := decide_eq_false (by omega)
    go_wp2
    go_ret
    refine ⟨rfl, ⟨x6, HGR.out.1, HGR.out.2, ⟨HO.out.1.end j HNL.out x6 HL6.out HF6.out HS6.out, by rw [HGR.out.1, HL6.out]; exact HO.out.2.last j HNL.out⟩, by rw [HL6.out]; exact HPM.out, heap.mono (fun _ hk => Or.inl hk) HA6.out.toM⟩, HW6.out⟩
end Go.Proofs.Ytdmoembbgcoeaaa.Heap

/- The heap's method Pop (no law is stated here; each says its conditions). -/
namespace Go.Proofs.Ytdmoembbgcoeaaa.Heap
open Go.RowKit Go.Proofs.YtdmoembbgcoeaaaW.PrintWords Go.Proofs.YtdmoembbgcoeaaaW.PrintLast Go.Proofs.YtdmoembbgcoeaaaW.PrintMore Go.Proofs.Ytdmoembbgcoeaaa.St Go.Proofs.Ytdmoembbgcoeaaa.Q
set_option linter.unusedVariables false
set_option linter.unusedSimpArgs false
attribute [local go_sem] max2_int min2_int max_two min_two max_three min_three max_four min_four

set_option maxHeartbeats 1000000 in
set_option maxRecDepth 100000 in
theorem pop_some {w : World} {b : Nat} {ok : Nat → Prop} {x : H} {v : Value} (hM : heap.M w b ok x v) (hO : Ok x) (h0 : 0 < x.l.length) :
    Calls Try.prog 26 #[v] w fun e w' => e = .returned (.tuple #[.agg #[.int .i64 (at_ x.l 0).1, .int .i64 (at_ x.l 0).2], .bool true]) ∧ (∃ x' : H, x'.great = x.great ∧ x'.room = x.room ∧ Ok x' ∧ (at_ x.l 0 :: x'.l).Perm x.l ∧ heap.M w' b (more w ok) x' v) ∧ Wrote w w' ok := by
  have HM := Aside0.mk hM
  have HO := Aside0.mk hO
  have HL := Aside0.mk h0
  have HWF := Aside0.mk (show (Lit.int .i64 (at_ x.l 0).1).wf = true from by obtain ⟨_, _, _, _, hA⟩ := hM; exact hA.wf _ (at_mem h0))
  clear hM hO h0
  have hMv := HM.out
  obtain ⟨g, sv, bm, rfl, _⟩ := hMv
  obtain ⟨y, hy⟩ : ∃ y : Int × Int, at_ x.l 0 = y := ⟨_, rfl⟩
  have HY := Aside0.mk hy
  rw [hy] at HWF ⊢
  clear hy
  go_enter Try.func26, Try.ntmps26
  go_upto_region 2 with (first | ((with_reducible refine gate_dst (N := 2) rfl ?_); refine box_event ?hg (N := 2) ?hd (cs := #[.int .i64 0, .int .i64 0]) (t := 62) ?hr ?_; (case hd => rfl); (case hg => rfl); (case hr => first | (go_simp; done) | (go_simp; rfl)); intro gr hgr wr hxr hbr; have HXR := Aside0.mk hxr; have HBR := Aside0.mk hbr; have HGR := Aside0.mk hgr; have HMR := Aside0.mk (heap.move (fun k hk => hbr.block k hk.2.2) (heap.bound HM.out)); clear hxr hbr hgr) | (go_at_call 25; (with_reducible refine (top_some HMR.out HL.out).mono ?_); rintro e w3 ⟨rfl, hb3⟩; rw [HY.out]; have HB3 := Aside0.mk hb3; have HM3 := Aside0.mk (heap.move (fun k hk => hb3.block k (Nat.lt_of_lt_of_le hk.2.2 HBR.out.size)) HMR.out); have HX3 := Aside0.mk ((hb3.block _ (blk_lt HXR.out)).trans HXR.out); clear hb3) | ((with_reducible refine gate_dst (N := 4) rfl ?_); refine box_event ?hg (N := 4) ?hd (cs := #[.int .i64 0, .int .i64 0]) (t := 62) ?hr ?_; (case hd => rfl); (case hg => rfl); (case hr => first | (go_simp; done) | (go_simp; rfl)); intro g4 hg4 w4 hx4 hb4; have HX4 := Aside0.mk hx4; have HB4 := Aside0.mk hb4; have HG4 := Aside0.mk hg4; have s0 := blk_cell hx4 0; have s1 := blk_cell hx4 1; have t0 := blk_frozen hx4 0; have t1 := blk_frozen hx4 1; clear hx4 hb4 hg4))
  have hM5 : heap.M ((w4.setCell ⟨g4, 0, none⟩ (.int .i64 y.1)).setCell ⟨g4, 1, none⟩ (.int .i64 y.2)) b (fun k => ok k ∧ b ≤ k ∧ k < w.heap.size) x (.pointer (some ⟨g, 0, none⟩)) := heap.move (fun k hk => by
    have h1 : k < w3.heap.size := Nat.lt_of_lt_of_le hk.2.2 (Nat.le_trans HBR.out.size HB3.out.size)
    have hne : k ≠ g4 := by have := HG4.out; omega
    rw [Below.heap_setCell _ _ _ k hne, Below.heap_setCell _ _ _ k hne]
    exact HB4.out.block k h1) HM3.out
  have hX5 : ((w4.setCell ⟨g4, 0, none⟩ (.int .i64 y.1)).setCell ⟨g4, 1, none⟩ (.int .i64 y.2)).heap[g4]? = some (.cells #[.int .i64 y.1, .int .i64 y.2] 62 (0, 0)) := blk_put (cs := #[.int .i64 y.1, .int .i64 0]) (blk_put (cs := #[.int .i64 0, .int .i64 0]) HX4.out 0 _ rfl) 1 _ rfl
  have hgr4 : gr ≠ g4 := by have h1 := blk_lt HX3.out; have := HG4.out; omega
  have hXR5 : ((w4.setCell ⟨g4, 0, none⟩ (.int .i64 y.1)).setCell ⟨g4, 1, none⟩ (.int .i64 y.2)).heap[gr]? = some (.cells #[.int .i64 0, .int .i64 0] 62 (0, 0)) := blk_far (blk_far ((HB4.out.block _ (blk_lt HX3.out)).trans HX3.out) hgr4 _) hgr4 _
  have hB5 : Below w.heap.size w ((w4.setCell ⟨g4, 0, none⟩ (.int .i64 y.1)).setCell ⟨g4, 1, none⟩ (.int .i64 y.2)) := by
    have h1 : Below w.heap.size w w4 := (HBR.out.trans (HB3.out.mono HBR.out.size)).trans (HB4.out.mono (Nat.le_trans HBR.out.size HB3.out.size))
    have h2 : w.heap.size ≤ g4 := by have := HG4.out; have := HBR.out.size; have := HB3.out.size; omega
    exact (h1.setCell h2 _).setCell h2 _
  clear s0 s1 t0 t1 hgr4
  generalize (w4.setCell ⟨g4, 0, none⟩ (.int .i64 y.1)).setCell ⟨g4, 1, none⟩ (.int .i64 y.2) = w5 at hM5 hX5 hXR5 hB5 ⊢
  have HM5 := Aside0.mk hM5
  have HX5 := Aside0.mk hX5
  have HXR5 := Aside0.mk hXR5
  have HB5 := Aside0.mk hB5
  have s0 := blk_cell hX5 0
  have s1 := blk_cell hX5 1
  clear hM5 hX5 hXR5 hB5
  refine start_ (n := 10) (S := fun w' => w'.cell? ⟨g4, 0, none⟩ = some (.int .i64 y.1) ∧ w'.cell? ⟨g4, 1, none⟩ = some (.int .i64 y.2)) (ds := []) #[false, false, false, false, false, false, false, false, false, false] (by kernel_rfl) rfl rfl ⟨(s0 : w5.drew.cell? _ = _), (s1 : w5.drew.cell? _ = _)⟩ (fun hHeld => ?_)
  clear s0 s1
  obtain ⟨w6, hw6⟩ : ∃ w6 : World, w5.drew = w6 := ⟨_, rfl⟩
  rw [hw6] at hHeld ⊢
  have hb6 : Below w5.heap.size w5 w6 := by rw [← hw6]; exact below_drew (Below.refl _ _)
  have HM6 := Aside0.mk (heap.move (fun k hk => hb6.block k (Nat.lt_of_lt_of_le hk.2.2 HB5.out.size)) HM5.out)
  have HX6 := Aside0.mk ((hb6.block _ (blk_lt HX5.out)).trans HX5.out)
  have HXR6 := Aside0.mk ((hb6.block _ (blk_lt HXR5.out)).trans HXR5.out)
  have HB6 := Aside0.mk (HB5.out.trans (hb6.mono HB5.out.size))
  clear hw6 hb6
  refine pure_ (i := 1) (N := some 12) (v := ?_) (a' := ?_) #[false, true, false, false, false, false, false, false, false, false] rfl rfl (by kernel_rfl) (fun _ _ _ h => h) (Or.inl ⟨by rfl, ?_⟩) ?_ ?_
  rotate_left
  · intro w'
    go_simp
    with_reducible rfl
  rotate_left
  · simp only [Act.put, List.setIfInBounds_toArray, List.set_cons_zero, List.set_cons_succ, i64_w, i32_w]
    rfl
  refine pure_ (i := 2) (N := some 13) (v := ?_) (a' := ?_) #[false, true, true, false, false, false, false, false, false, false] rfl rfl (by kernel_rfl) (fun _ _ _ h => h) (Or.inl ⟨by rfl, ?_⟩) ?_ ?_
  rotate_left
  · intro w'
    go_simp
    with_reducible rfl
  rotate_left
  · simp only [Act.put, List.setIfInBounds_toArray, List.set_cons_zero, List.set_cons_succ, i64_w, i32_w]
    rfl
  refine pure_ (i := 3) (N := some 14) (v := ?_) (a' := ?_) #[false, true, true, true, false, false, false, false, false, false] rfl rfl (by kernel_rfl) (fun _ _ _ h => h) (Or.inl ⟨wanted_on rfl rfl rfl rfl, ?_⟩) ?_ ?_
  rotate_left
  · intro w'
    go_simp
    with_reducible rfl
  rotate_left
  · simp only [Act.put, List.setIfInBounds_toArray, List.set_cons_zero, List.set_cons_succ, i64_w, i32_w]
    rfl
  refine pure_ (i := 4) (N := some 15) (v := ?_) (a' := ?_) #[false, true, true, true, true, false, false, false, false, false] rfl rfl (by kernel_rfl) (fun _ _ _ h => h) (Or.inl ⟨wanted_on rfl rfl rfl rfl, ?_⟩) ?_ ?_
  rotate_left
  · intro w'
    go_simp
    with_reducible rfl
  rotate_left
  · simp only [Act.put, List.setIfInBounds_toArray, List.set_cons_zero, List.set_cons_succ, i64_w, i32_w]
    rfl
  refine take_ (i := 0) (N := some 11) (v := ?_) (a' := ?_) #[true, true, true, true, true, false, false, false, false, false] rfl rfl (by kernel_rfl) (fun _ _ _ h => h) (Or.inl ⟨by rfl, ?_⟩) hHeld ?_ ?_
  rotate_left
  · intro w' hS_
    obtain ⟨s0_, s1_⟩ := hS_
    go_simp
    with_reducible rfl
  rotate_left
  · simp only [Act.put, List.setIfInBounds_toArray, List.set_cons_zero, List.set_cons_succ, i64_w, i32_w]
    rfl
  refine take_ (i := 5) (N := some 16) (v := ?_) (a' := ?_) #[true, true, true, true, true, true, false, false, false, false] rfl rfl (by kernel_rfl) (fun _ _ _ h => h) (Or.inl ⟨wanted_on rfl rfl rfl rfl, ?_⟩) hHeld ?_ ?_
  rotate_left
  · intro w' hS_
    obtain ⟨s0_, s1_⟩ := hS_
    go_simp
    with_reducible rfl
  rotate_left
  · simp only [Act.put, List.setIfInBounds_toArray, List.set_cons_zero, List.set_cons_succ, i64_w, i32_w]
    rfl
  refine one_ (i := 6) (N := some 17) #[true, true, true, true, true, true, true, false, false, false] rfl rfl (by kernel_rfl) (by decide) (fun K hK => ?_)
  refine goes_ Try.func33 (by kernel_rfl) rfl #[.pointer (some ⟨g, 0, none⟩), .int .i64 y.1] (wanted_on rfl rfl rfl rfl) rfl rfl (by first | rfl | (simp only [Array.map, List.map]; rfl) | (go_simp; done) | (go_simp; rfl)) ?_
  refine (drop_hit y.1 HM6.out HWF.out HO.out 0 HL.out (by rw [HY.out])).mono ?_
  rintro e w7 ⟨rfl, hX, hW7⟩
  have HX := Aside0.mk hX
  have HW7 := Aside0.mk hW7
  have HX7 := Aside0.mk ((hW7.block g4 (blk_lt HX6.out) (fun hk => by have := HG4.out; have := HBR.out.size; have := HB3.out.size; have := hk.2.2; omega)).trans HX6.out)
  have HXR7 := Aside0.mk ((hW7.block gr (blk_lt HXR6.out) (fun hk => by have := HGR.out; have := hk.2.2; omega)).trans HXR6.out)
  clear hX hW7
  refine ⟨_, rfl, hK.out _ _ ⟨blk_cell HX7.out 0, blk_cell HX7.out 1⟩ (fun hHeld => ?_)⟩
  clear hK K
  refine norm_ (a' := ?_) ?_ ?_
  rotate_left
  · show Act.put _ (some 17) _ = _
    simp only [Act.put, List.setIfInBounds_toArray, List.set_cons_zero, List.set_cons_succ, i64_w, i32_w]
    rfl
  refine pure_ (i := 7) (N := some 18) (v := ?_) (a' := ?_) #[true, true, true, true, true, true, true, true, false, false] rfl rfl (by kernel_rfl) (fun _ _ _ h => h) (Or.inl ⟨by rfl, ?_⟩) ?_ ?_
  rotate_left
  · intro w'
    go_simp
    with_reducible rfl
  rotate_left
  · simp only [Act.put, List.setIfInBounds_toArray, List.set_cons_zero, List.set_cons_succ, i64_w, i32_w]
    rfl
  refine one_ (i := 8) (N := none) #[true, true, true, true, true, true, true, true, true, false] rfl rfl (by kernel_rfl) (by decide) (fun K hK => ?_)
  have u0 := blk_cell HXR7.out 0
  have u1 := blk_cell HXR7.out 1
  have v0 := blk_frozen HXR7.out 0
  have v1 := blk_frozen HXR7.out 1
  refine skip_ rfl rfl (by first | (go_simp; done) | (go_simp; rfl)) ?_
  have hne4 : g4 ≠ gr := by have h1 := blk_lt HX3.out; have := HG4.out; omega
  have hX8 : ((w7.setCell ⟨gr, 0, none⟩ (.int .i64 y.1)).setCell ⟨gr, 1, none⟩ (.int .i64 y.2)).heap[g4]? = some (.cells #[.int .i64 y.1, .int .i64 y.2] 62 (0, 0)) := blk_far (blk_far HX7.out hne4 _) hne4 _
  refine hK.out _ _ ⟨blk_cell hX8 0, blk_cell hX8 1⟩ (fun hHeld => ?_)
  clear hK K u0 u1 v0 v1 hX8 hne4
  refine pure_ (i := 9) (N := some 3) (v := ?_) (a' := ?_) #[true, true, true, true, true, true, true, true, true, true] rfl rfl (by kernel_rfl) (fun _ _ _ h => h) (Or.inl ⟨by rfl, ?_⟩) ?_ ?_
  rotate_left
  · intro w'
    go_simp
    with_reducible rfl
  rotate_left
  · simp only [Act.put, List.setIfInBounds_toArray, List.set_cons_zero, List.set_cons_succ, i64_w, i32_w]
    rfl
  refine done_ (by kernel_rfl) ?_
  go_wp2
  refine bodyPost_ret (results_ct rfl _ _ gr 62 #[.int .i64 y.1, .int .i64 y.2] (0, 0) _ rfl (blk_put (cs := #[.int .i64 y.1, .int .i64 0]) (blk_put (cs := #[.int .i64 0, .int .i64 0]) HXR7.out 0 _ rfl) 1 _ rfl) Try.underlying62 rfl (by kernel_rfl)) rfl ?_
  obtain ⟨x', e1, e2, e3, e4, e5⟩ := HX.out
  have hs6 : w.heap.size ≤ w6.heap.size := HB6.out.size
  have hgr6 : gr < w6.heap.size := blk_lt HXR6.out
  refine ⟨rfl, ⟨x', e1, e2, e3, by rw [HY.out] at e4; exact e4, heap.mono (fun k hk => hk.elim (fun h => Or.inl h.1) (fun h => Or.inr (Nat.le_trans hs6 h))) (heap.move (fun k hk => ?_) e5)⟩, ?_⟩
  · have hne : k ≠ gr := by
      have := HGR.out
      rcases hk with h | h
      · have := h.2.2; omega
      · omega
    rw [Below.heap_setCell _ _ _ k hne, Below.heap_setCell _ _ _ k hne]
  · exact (((Wrote.of_below HB6.out ok).trans HW7.out (fun k hk => Or.inl hk.1)).setCell (Or.inr (by have := HGR.out; show w.heap.size ≤ gr; omega)) _).setCell (Or.inr (by have := HGR.out; show w.heap.size ≤ gr; omega)) _
set_option maxHeartbeats 1000000 in
set_option maxRecDepth 100000 in
theorem pop_none {w : World} {b : Nat} {ok : Nat → Prop} {x : H} {v : Value} (hM : heap.M w b ok x v) (h0 : x.l.length = 0) :
    Calls Try.prog 26 #[v] w fun e w' => e = .returned (.tuple #[.agg #[.int .i64 0, .int .i64 0], .bool false]) ∧ Below w.heap.size w w' := by
  have HM := Aside0.mk hM
  have HL := Aside0.mk h0
  clear hM h0
  have hMv := HM.out
  obtain ⟨g, sv, bm, rfl, _⟩ := hMv
  go_enter Try.func26, Try.ntmps26
  go_upto_region 2 with (first | ((with_reducible refine gate_dst (N := 2) rfl ?_); refine box_event ?hg (N := 2) ?hd (cs := #[.int .i64 0, .int .i64 0]) (t := 62) ?hr ?_; (case hd => rfl); (case hg => rfl); (case hr => first | (go_simp; done) | (go_simp; rfl)); intro gr hgr wr hxr hbr; have HXR := Aside0.mk hxr; have HBR := Aside0.mk hbr; have HGR := Aside0.mk hgr; have HMR := Aside0.mk (heap.move (fun k hk => hbr.block k hk.2.2) (heap.bound HM.out)); clear hxr hbr hgr) | (go_at_call 25; (with_reducible refine (top_none HMR.out HL.out).mono ?_); rintro e w3 ⟨rfl, hb3⟩; have HB3 := Aside0.mk hb3; have HM3 := Aside0.mk (heap.move (fun k hk => hb3.block k (Nat.lt_of_lt_of_le hk.2.2 HBR.out.size)) HMR.out); have HX3 := Aside0.mk ((hb3.block _ (blk_lt HXR.out)).trans HXR.out); clear hb3) | ((with_reducible refine gate_dst (N := 4) rfl ?_); refine box_event ?hg (N := 4) ?hd (cs := #[.int .i64 0, .int .i64 0]) (t := 62) ?hr ?_; (case hd => rfl); (case hg => rfl); (case hr => first | (go_simp; done) | (go_simp; rfl)); intro g4 hg4 w4 hx4 hb4; have HX4 := Aside0.mk hx4; have HB4 := Aside0.mk hb4; have HG4 := Aside0.mk hg4; have s0 := blk_cell hx4 0; have s1 := blk_cell hx4 1; have t0 := blk_frozen hx4 0; have t1 := blk_frozen hx4 1; clear hx4 hb4 hg4))
  have hX5 : ((w4.setCell ⟨g4, 0, none⟩ (.int .i64 0)).setCell ⟨g4, 1, none⟩ (.int .i64 0)).heap[g4]? = some (.cells #[.int .i64 0, .int .i64 0] 62 (0, 0)) := blk_put (cs := #[.int .i64 0, .int .i64 0]) (blk_put (cs := #[.int .i64 0, .int .i64 0]) HX4.out 0 _ rfl) 1 _ rfl
  have hgr4 : gr ≠ g4 := by have h1 := blk_lt HX3.out; have := HG4.out; omega
  have hXR5 : ((w4.setCell ⟨g4, 0, none⟩ (.int .i64 0)).setCell ⟨g4, 1, none⟩ (.int .i64 0)).heap[gr]? = some (.cells #[.int .i64 0, .int .i64 0] 62 (0, 0)) := blk_far (blk_far ((HB4.out.block _ (blk_lt HX3.out)).trans HX3.out) hgr4 _) hgr4 _
  have hB5 : Below w.heap.size w ((w4.setCell ⟨g4, 0, none⟩ (.int .i64 0)).setCell ⟨g4, 1, none⟩ (.int .i64 0)) := by
    have h1 : Below w.heap.size w w4 := (HBR.out.trans (HB3.out.mono HBR.out.size)).trans (HB4.out.mono (Nat.le_trans HBR.out.size HB3.out.size))
    have h2 : w.heap.size ≤ g4 := by have := HG4.out; have := HBR.out.size; have := HB3.out.size; omega
    exact (h1.setCell h2 _).setCell h2 _
  clear s0 s1 t0 t1 hgr4
  generalize (w4.setCell ⟨g4, 0, none⟩ (.int .i64 0)).setCell ⟨g4, 1, none⟩ (.int .i64 0) = w5 at hX5 hXR5 hB5 ⊢
  have HX5 := Aside0.mk hX5
  have HXR5 := Aside0.mk hXR5
  have HB5 := Aside0.mk hB5
  have s0 := blk_cell hX5 0
  have s1 := blk_cell hX5 1
  clear hX5 hXR5 hB5
  refine start_ (n := 10) (S := fun w' => w'.cell? ⟨g4, 0, none⟩ = some (.int .i64 0) ∧ w'.cell? ⟨g4, 1, none⟩ = some (.int .i64 0)) (ds := []) #[false, false, false, false, false, false, false, false, false, false] (by kernel_rfl) rfl rfl ⟨(s0 : w5.drew.cell? _ = _), (s1 : w5.drew.cell? _ = _)⟩ (fun hHeld => ?_)
  clear s0 s1
  obtain ⟨w6, hw6⟩ : ∃ w6 : World, w5.drew = w6 := ⟨_, rfl⟩
  rw [hw6] at hHeld ⊢
  have hb6 : Below w5.heap.size w5 w6 := by rw [← hw6]; exact below_drew (Below.refl _ _)
  have HX6 := Aside0.mk ((hb6.block _ (blk_lt HX5.out)).trans HX5.out)
  have HXR6 := Aside0.mk ((hb6.block _ (blk_lt HXR5.out)).trans HXR5.out)
  have HB6 := Aside0.mk (HB5.out.trans (hb6.mono HB5.out.size))
  clear hw6 hb6
  refine pure_ (i := 1) (N := some 12) (v := ?_) (a' := ?_) #[false, true, false, false, false, false, false, false, false, false] rfl rfl (by kernel_rfl) (fun _ _ _ h => h) (Or.inl ⟨by rfl, ?_⟩) ?_ ?_
  rotate_left
  · intro w'
    go_simp
    with_reducible rfl
  rotate_left
  · simp only [Act.put, List.setIfInBounds_toArray, List.set_cons_zero, List.set_cons_succ, i64_w, i32_w]
    rfl
  refine pure_ (i := 2) (N := some 13) (v := ?_) (a' := ?_) #[false, true, true, false, false, false, false, false, false, false] rfl rfl (by kernel_rfl) (fun _ _ _ h => h) (Or.inl ⟨by rfl, ?_⟩) ?_ ?_
  rotate_left
  · intro w'
    go_simp
    with_reducible rfl
  rotate_left
  · simp only [Act.put, List.setIfInBounds_toArray, List.set_cons_zero, List.set_cons_succ, i64_w, i32_w]
    rfl
  refine pure_ (i := 3) (N := some 14) (v := undef) (a' := ?_) #[false, true, true, true, false, false, false, false, false, false] rfl rfl (by kernel_rfl) (fun _ _ _ h => h) (Or.inr ⟨wanted_off rfl rfl rfl rfl, rfl⟩) ?_ ?_
  rotate_left
  · simp only [Act.put, List.setIfInBounds_toArray, List.set_cons_zero, List.set_cons_succ, i64_w, i32_w]
    rfl
  refine pure_ (i := 4) (N := some 15) (v := undef) (a' := ?_) #[false, true, true, true, true, false, false, false, false, false] rfl rfl (by kernel_rfl) (fun _ _ _ h => h) (Or.inr ⟨wanted_off rfl rfl rfl rfl, rfl⟩) ?_ ?_
  rotate_left
  · simp only [Act.put, List.setIfInBounds_toArray, List.set_cons_zero, List.set_cons_succ, i64_w, i32_w]
    rfl
  refine take_ (i := 0) (N := some 11) (v := ?_) (a' := ?_) #[true, true, true, true, true, false, false, false, false, false] rfl rfl (by kernel_rfl) (fun _ _ _ h => h) (Or.inl ⟨by rfl, ?_⟩) hHeld ?_ ?_
  rotate_left
  · intro w' hS_
    obtain ⟨s0_, s1_⟩ := hS_
    go_simp
    with_reducible rfl
  rotate_left
  · simp only [Act.put, List.setIfInBounds_toArray, List.set_cons_zero, List.set_cons_succ, i64_w, i32_w]
    rfl
  refine take_ (i := 5) (N := some 16) (v := undef) (a' := ?_) #[true, true, true, true, true, true, false, false, false, false] rfl rfl (by kernel_rfl) (fun _ _ _ h => h) (Or.inr ⟨wanted_off rfl rfl rfl rfl, rfl⟩) hHeld ?_ ?_
  rotate_left
  · simp only [Act.put, List.setIfInBounds_toArray, List.set_cons_zero, List.set_cons_succ, i64_w, i32_w]
    rfl
  refine one_ (i := 6) (N := some 17) #[true, true, true, true, true, true, true, false, false, false] rfl rfl (by kernel_rfl) (by decide) (fun K hK => ?_)
  refine off_ (N := some 17) (wanted_off rfl rfl rfl rfl) (hK.out _ _ hHeld (fun hHeld => ?_))
  clear hK K
  refine norm_ (a' := ?_) ?_ ?_
  rotate_left
  · show Act.put _ (some 17) _ = _
    simp only [Act.put, List.setIfInBounds_toArray, List.set_cons_zero, List.set_cons_succ, i64_w, i32_w]
    rfl
  refine pure_ (i := 7) (N := some 18) (v := ?_) (a' := ?_) #[true, true, true, true, true, true, true, true, false, false] rfl rfl (by kernel_rfl) (fun _ _ _ h => h) (Or.inl ⟨by rfl, ?_⟩) ?_ ?_
  rotate_left
  · intro w'
    go_simp
    with_reducible rfl
  rotate_left
  · simp only [Act.put, List.setIfInBounds_toArray, List.set_cons_zero, List.set_cons_succ, i64_w, i32_w]
    rfl
  refine one_ (i := 8) (N := none) #[true, true, true, true, true, true, true, true, true, false] rfl rfl (by kernel_rfl) (by decide) (fun K hK => ?_)
  have u0 := blk_cell HXR6.out 0
  have u1 := blk_cell HXR6.out 1
  have v0 := blk_frozen HXR6.out 0
  have v1 := blk_frozen HXR6.out 1
  refine skip_ rfl rfl (by first | (go_simp; done) | (go_simp; rfl)) ?_
  have hne4 : g4 ≠ gr := by have h1 := blk_lt HX3.out; have := HG4.out; omega
  have hX8 : ((w6.setCell ⟨gr, 0, none⟩ (.int .i64 0)).setCell ⟨gr, 1, none⟩ (.int .i64 0)).heap[g4]? = some (.cells #[.int .i64 0, .int .i64 0] 62 (0, 0)) := blk_far (blk_far HX6.out hne4 _) hne4 _
  refine hK.out _ _ ⟨blk_cell hX8 0, blk_cell hX8 1⟩ (fun hHeld => ?_)
  clear hK K u0 u1 v0 v1 hX8 hne4
  refine pure_ (i := 9) (N := some 3) (v := ?_) (a' := ?_) #[true, true, true, true, true, true, true, true, true, true] rfl rfl (by kernel_rfl) (fun _ _ _ h => h) (Or.inl ⟨by rfl, ?_⟩) ?_ ?_
  rotate_left
  · intro w'
    go_simp
    with_reducible rfl
  rotate_left
  · simp only [Act.put, List.setIfInBounds_toArray, List.set_cons_zero, List.set_cons_succ, i64_w, i32_w]
    rfl
  refine done_ (by kernel_rfl) ?_
  go_wp2
  refine bodyPost_ret (results_ct rfl _ _ gr 62 #[.int .i64 0, .int .i64 0] (0, 0) _ rfl (blk_put (cs := #[.int .i64 0, .int .i64 0]) (blk_put (cs := #[.int .i64 0, .int .i64 0]) HXR6.out 0 _ rfl) 1 _ rfl) Try.underlying62 rfl (by kernel_rfl)) rfl ?_
  refine ⟨rfl, (HB6.out.setCell ?_ _).setCell ?_ _⟩ <;> (have := HGR.out; show w.heap.size ≤ gr; omega)
end Go.Proofs.Ytdmoembbgcoeaaa.Heap

/- The chapter's own example (awake) answers true (no law is stated here; no condition). -/
namespace Go.Proofs.Ytdmoembbgcoeaaa.Heap
open Go.RowKit Go.Proofs.YtdmoembbgcoeaaaW.PrintWords Go.Proofs.YtdmoembbgcoeaaaW.PrintLast Go.Proofs.YtdmoembbgcoeaaaW.PrintMore Go.Proofs.Ytdmoembbgcoeaaa.St Go.Proofs.Ytdmoembbgcoeaaa.Q
set_option linter.unusedVariables false
set_option linter.unusedSimpArgs false
attribute [local go_sem] max2_int min2_int max_two min_two max_three min_three max_four min_four

/-- Who is first: nobody comes ahead of it. -/
theorem Ok.first {x : H} (h : Ok x) {y : Int × Int} (hy : y ∈ x.l) : lt x.great y (at_ x.l 0) = false := by
  obtain ⟨k, hk, rfl⟩ := mem_at hy
  exact h.2.top k hk
theorem Ok.top_is {x : H} (h : Ok x) {m : List (Int × Int)} (hp : x.l.Perm m) (z : Int × Int) (hz : z ∈ m) (hb : ∀ y ∈ m, y ≠ z → lt x.great z y = true) : 0 < x.l.length ∧ at_ x.l 0 = z := by
  have hzl : z ∈ x.l := hp.mem_iff.2 hz
  have h0 : 0 < x.l.length := List.length_pos_of_mem hzl
  refine ⟨h0, ?_⟩
  by_cases e : at_ x.l 0 = z
  · exact e
  · have h1 := hb _ (hp.mem_iff.1 (at_mem h0)) e
    rw [h.first hzl] at h1
    cases h1
theorem none_of {x : H} (h : Ok x) {a : Int} (hn : ∀ y ∈ x.l, y.1 ≠ a) : x.f a = none := by
  rcases hf : x.f a with _ | i
  · rfl
  · obtain ⟨j, hj, _, e⟩ := h.1.place hf
    exact absurd e (hn _ (at_mem hj))
/-- The law's one heap, in its own blocks. -/
def Own (w0 w : World) (x : H) (v : Value) : Prop := heap.M w w0.heap.size (fun k => w0.heap.size ≤ k) x v ∧ Below w0.heap.size w0 w
section
variable {w0 w w' : World} {x : H} {v : Value}
theorem Own.m (h : Own w0 w x v) : heap.M w w0.heap.size (fun k => w0.heap.size ≤ k) x v := h.1
theorem Own.far (h : Own w0 w x v) : Below w0.heap.size w0 w := h.2
theorem Own.wrote {x' : H} (h : Own w0 w x v) (hM : heap.M w' w0.heap.size (more w (fun k => w0.heap.size ≤ k)) x' v) (hw : Wrote w w' (fun k => w0.heap.size ≤ k)) : Own w0 w' x' v :=
  ⟨heap.mono (fun k hk => hk.elim id (fun h2 => Nat.le_trans h.2.size h2)) hM, hw.below h.2 (fun k hk => hk)⟩
theorem Own.below (h : Own w0 w x v) (hb : Below w.heap.size w w') : Own w0 w' x v :=
  ⟨heap.mono (fun k hk => hk.1) (heap.move (fun k hk => hb.block k hk.2.2) (heap.bound h.1)), h.2.trans (hb.mono h.2.size)⟩
end
theorem heap_lower {w : World} {b b' : Nat} {ok : Nat → Prop} {x : H} {v : Value} (h : heap.M w b ok x v) (hb : b' ≤ b) : heap.M w b' ok x v := by
  obtain ⟨g, sv, bm, e, ⟨h1, h2, h3⟩, ⟨m1, m2, m3⟩, h5, h6⟩ := h
  exact ⟨g, sv, bm, e, ⟨h1, Nat.le_trans hb h2, h3⟩, ⟨m1, Nat.le_trans hb m2, m3⟩, Kd.R_lower h5 hb, h6⟩
theorem new1 (n : Int) (gr : Bool) {w0 w : World} (hb : Below w0.heap.size w0 w) :
    Calls Try.prog 22 #[.int .i64 n, .bool gr] w fun e w' => ∃ g : Nat, e = .returned (.pointer (some ⟨g, 0, none⟩)) ∧ Own w0 w' (newH n gr) (.pointer (some ⟨g, 0, none⟩)) :=
  (new_calls n gr w).mono (fun e w' ⟨g, h1, h2, h3⟩ => ⟨g, h1, ⟨heap_lower (heap.mono (fun k hk => Nat.le_trans hb.size hk) h2) hb.size, hb.trans (h3.mono hb.size)⟩⟩)
theorem put1 (id key : Int) (m : List (Int × Int)) {w0 w : World} {x : H} {v : Value} (h : Own w0 w x v) (hw : (Lit.int .i64 id).wf = true) (hO : Ok x) (hp : x.l.Perm m) (hn : ∀ y ∈ m, y.1 ≠ id) (hr : (m.length : Int) < x.room) (hr2 : m.length < 1024) :
    Calls Try.prog 35 #[v, .int .i64 id, .int .i64 key] w fun e w' => e = .returned (.int .i64 0) ∧ ∃ x' : H, x'.great = x.great ∧ x'.room = x.room ∧ Ok x' ∧ x'.l.Perm (m ++ [(id, key)]) ∧ Own w0 w' x' v :=
  have hl := hp.length_eq
  (put_in id key h.1 hw hO (none_of hO (fun y hy => hn y (hp.mem_iff.1 hy))) (by omega) (by omega)).mono (fun e w' ⟨h1, ⟨x', e1, e2, e3, e4, e5⟩, h3⟩ => ⟨h1, x', e1, e2, e3, e4.trans (hp.append_right _), h.wrote e5 h3⟩)
theorem top95 {x : H} (hg : x.great = false) (h : Ok x) (hp : x.l.Perm [(1, 9), (2, 5)]) : 0 < x.l.length ∧ at_ x.l 0 = (2, 5) :=
  h.top_is hp (2, 5) (by decide) (by rw [hg]; decide)
end Go.Proofs.Ytdmoembbgcoeaaa.Heap

/- The heap's method All where it holds one (no law is stated here; each says its conditions). -/
namespace Go.Proofs.Ytdmoembbgcoeaaa.Heap
open Go.RowKit Go.Proofs.YtdmoembbgcoeaaaW.PrintWords Go.Proofs.YtdmoembbgcoeaaaW.PrintLast Go.Proofs.YtdmoembbgcoeaaaW.PrintMore Go.Proofs.Ytdmoembbgcoeaaa.St Go.Proofs.Ytdmoembbgcoeaaa.Q
set_option linter.unusedVariables false
set_option linter.unusedSimpArgs false
attribute [local go_sem] max2_int min2_int max_two min_two max_three min_three max_four min_four

theorem lit_KI (w : World) (e : Nat) : KI.R e (w.alloc (.cells #[] e)) w.heap.size (fun _ => True) (.slice (some ⟨w.heap.size, 0, none⟩) 0 0) [] := by
  refine ⟨fun _ _ => trivial, [], ?_, Reps.none _ _⟩
  have h2 := World.ownsRow_lit (base := w.heap.size) (e := e) (size := 2) w #[] 0 (Nat.le_refl _) (by simp [maxLen]) (by simp)
  show (w.alloc (.cells #[] e)).ownsRow w.heap.size e 2 _ _ _
  simpa using h2
set_option maxHeartbeats 1000000 in
set_option maxRecDepth 100000 in
theorem len64_one (w : World) : Calls Try.prog 50 #[.int .u64 1] w fun e w' => e = .returned (.int .i64 1) ∧ Below w.heap.size w w' := by
  go_enter Try.func50, Try.ntmps50
  go_wp2
  go_ret
  refine ⟨?_, Below.refl _ _⟩
  kernel_rfl
set_option maxHeartbeats 1000000 in
set_option maxRecDepth 100000 in
theorem len_one (w : World) : Calls Try.prog 37 #[.int .u64 1] w fun e w' => e = .returned (.int .i64 1) ∧ Below w.heap.size w w' := by
  go_enter Try.func37, Try.ntmps37
  go_wp2_with (first | (go_at_call 50; (with_reducible refine (len64_one _).mono ?_); rintro e w3 ⟨rfl, hb3⟩))
  go_ret
  exact ⟨rfl, hb3⟩
end Go.Proofs.Ytdmoembbgcoeaaa.Heap

/- The heap's methods told by the plain list of what it holds, and by colours (no law is stated here; each says its conditions). -/
namespace Go.Proofs.Ytdmoembbgcoeaaa.Heap
open Go.RowKit Go.Proofs.YtdmoembbgcoeaaaW.PrintWords Go.Proofs.YtdmoembbgcoeaaaW.PrintLast Go.Proofs.YtdmoembbgcoeaaaW.PrintMore Go.Proofs.Ytdmoembbgcoeaaa.St Go.Proofs.Ytdmoembbgcoeaaa.Q
set_option linter.unusedVariables false
set_option linter.unusedSimpArgs false

/-- A heap that holds the items of m: (m, great, room). -/
def hp : St (List (Int × Int) × Bool × Int) where
  M := fun w b ok t v => ∃ x : H, x.great = t.2.1 ∧ x.room = t.2.2 ∧ Ok x ∧ x.l.Perm t.1 ∧ heap.M w b ok x v
  mono := fun h ⟨x, e1, e2, e3, e4, e5⟩ => ⟨x, e1, e2, e3, e4, heap.mono h e5⟩
  move := fun h ⟨x, e1, e2, e3, e4, e5⟩ => ⟨x, e1, e2, e3, e4, heap.move h e5⟩
  bound := fun ⟨x, e1, e2, e3, e4, e5⟩ => ⟨x, e1, e2, e3, e4, heap.bound e5⟩
/-- A block that holds something. -/
def blk : St Obj where
  M := fun w b ok o v => ∃ g : Nat, v = .pointer (some ⟨g, 0, none⟩) ∧ ok g ∧ b ≤ g ∧ g < w.heap.size ∧ w.heap[g]? = some o
  mono := fun h ⟨g, e1, e2, e3, e4, e5⟩ => ⟨g, e1, h g e2, e3, e4, e5⟩
  move := fun h ⟨g, e1, e2, e3, e4, e5⟩ => ⟨g, e1, e2, e3, size_same (h g e2) e4, (h g e2).trans e5⟩
  bound := fun ⟨g, e1, e2, e3, e4, e5⟩ => ⟨g, e1, ⟨e2, e3, e4⟩, e3, e4, e5⟩
section
variable {w0 W W1 : World} {c : Nat → Nat} {i : Nat} {m : List (Int × Int)} {gr : Bool} {rm : Int} {v : Value}
theorem newC (c : Nat → Nat) (i : Nat) (n : Int) (gr : Bool) (hB : Below w0.heap.size w0 W) :
    Calls Try.prog 22 #[.int .i64 n, .bool gr] W fun e w' => ∃ g : Nat, e = .returned (.pointer (some ⟨g, 0, none⟩)) ∧ ∃ c', hp.M w' w0.heap.size (fun k => c' k = i) ([], gr, clamp n) (.pointer (some ⟨g, 0, none⟩)) ∧ Turned c c' i w0 W w' :=
  (new_calls n gr W).mono (fun e w' ⟨g, h1, h2, h3⟩ => ⟨g, h1, turned_new (s := hp) (x := ([], gr, clamp n)) (⟨newH n gr, rfl, rfl, ok_new n gr, List.Perm.refl _, h2⟩) h3 hB.size (fun ⟨x, e1, e2, e3, e4, e5⟩ => ⟨x, e1, e2, e3, e4, heap_lower e5 hB.size⟩)⟩)
theorem putC (id key : Int) (h : hp.M W w0.heap.size (fun k => c k = i) (m, gr, rm) v) (hs : w0.heap.size ≤ W.heap.size) (hw : (Lit.int .i64 id).wf = true) (hn : ∀ y ∈ m, y.1 ≠ id) (hr : (m.length : Int) < rm) (hr2 : m.length < 1024) :
    Calls Try.prog 35 #[v, .int .i64 id, .int .i64 key] W fun e w' => e = .returned (.int .i64 0) ∧ ∃ c', hp.M w' w0.heap.size (fun k => c' k = i) (m ++ [(id, key)], gr, rm) v ∧ Turned c c' i w0 W w' := by
  obtain ⟨x, e1, e2, hO, hp1, hM⟩ := h
  have hl : x.l.length = m.length := hp1.length_eq
  refine (put_in id key (St.mine (s := heap) hM) hw hO (none_of hO (fun y hy => hn y (hp1.mem_iff.1 hy))) (by rw [e2]; show ¬ _ = rm; omega) (by omega)).mono ?_
  rintro e w' ⟨h1, ⟨x', g1, g2, g3, g4, g5⟩, h3⟩
  exact ⟨h1, turned (s := hp) ⟨x', g1.trans e1, g2.trans e2, g3, g4.trans (hp1.append_right _), g5⟩ h3 hs⟩
theorem busyC (id key u : Int) (h : hp.M W w0.heap.size (fun k => c k = i) (m, gr, rm) v) (hw : (Lit.int .i64 id).wf = true) (hn : (id, u) ∈ m) :
    Calls Try.prog 35 #[v, .int .i64 id, .int .i64 key] W fun e w' => e = .returned (.int .i64 5) ∧ w' = W := by
  obtain ⟨x, e1, e2, hO, hp1, hM⟩ := h
  obtain ⟨j, hj, e⟩ := mem_at (hp1.mem_iff.2 hn)
  have hf := hO.1.fwd j hj
  rw [e] at hf
  exact put_busy id key hM hw (by rw [show x.f id = some (j : Int) from hf]; rfl)
theorem fullC (id key : Int) (h : hp.M W w0.heap.size (fun k => c k = i) (m, gr, rm) v) (hw : (Lit.int .i64 id).wf = true) (hn : ∀ y ∈ m, y.1 ≠ id) (hr : (m.length : Int) = rm) :
    Calls Try.prog 35 #[v, .int .i64 id, .int .i64 key] W fun e w' => e = .returned (.int .i64 3) ∧ ∃ n, w' = W.drewN n := by
  obtain ⟨x, e1, e2, hO, hp1, hM⟩ := h
  have hl : x.l.length = m.length := hp1.length_eq
  exact put_full id key hM hw (none_of hO (fun y hy => hn y (hp1.mem_iff.1 hy))) (by rw [e2]; show _ = rm; omega)
theorem perm_put {l : List (Int × Int)} {j : Nat} (hj : j < l.length) (z : Int × Int) : (at_ l j :: l.set j z).Perm (z :: l) := by
  induction l generalizing j with
  | nil => exact absurd hj (Nat.not_lt_zero j)
  | cons a t ih =>
    cases j with
    | zero => exact List.Perm.swap _ _ _
    | succ j =>
      have h1 := ih (j := j) (by simpa using hj)
      exact ((List.Perm.swap _ _ _).trans (h1.cons a)).trans (List.Perm.swap _ _ _)
theorem drop_missC (id : Int) (h : hp.M W w0.heap.size (fun k => c k = i) (m, gr, rm) v) (hw : (Lit.int .i64 id).wf = true) (hn : ∀ y ∈ m, y.1 ≠ id) :
    Calls Try.prog 33 #[v, .int .i64 id] W fun e w' => e = .returned (.bool false) ∧ w' = W := by
  obtain ⟨x, e1, e2, hO, hp1, hM⟩ := h
  exact drop_miss id hM hw (none_of hO (fun y hy => hn y (hp1.mem_iff.1 hy)))
theorem dropC (id u : Int) (p q : List (Int × Int)) (h : hp.M W w0.heap.size (fun k => c k = i) (p ++ (id, u) :: q, gr, rm) v) (hs : w0.heap.size ≤ W.heap.size) (hw : (Lit.int .i64 id).wf = true) :
    Calls Try.prog 33 #[v, .int .i64 id] W fun e w' => e = .returned (.bool true) ∧ ∃ c', hp.M w' w0.heap.size (fun k => c' k = i) (p ++ q, gr, rm) v ∧ Turned c c' i w0 W w' := by
  obtain ⟨x, e1, e2, hO, hp1, hM⟩ := h
  obtain ⟨j, hj, e⟩ := mem_at (hp1.mem_iff.2 (show (id, u) ∈ p ++ (id, u) :: q by simp))
  refine (drop_hit id (St.mine (s := heap) hM) hw hO j hj (by rw [e])).mono ?_
  rintro e0 w' ⟨h1, ⟨x', g1, g2, g3, g4, g5⟩, h3⟩
  rw [e] at g4
  exact ⟨h1, turned (s := hp) ⟨x', g1.trans e1, g2.trans e2, g3, (List.perm_cons _).1 (g4.trans (hp1.trans List.perm_middle)), g5⟩ h3 hs⟩
/-- Who comes first of all. -/
def FirstOf (gr : Bool) (m : List (Int × Int)) (z : Int × Int) : Prop := z ∈ m ∧ ∀ y ∈ m, y ≠ z → lt gr z y = true
theorem popC (z : Int × Int) (p q : List (Int × Int)) (h : hp.M W w0.heap.size (fun k => c k = i) (p ++ z :: q, gr, rm) v) (hs : w0.heap.size ≤ W.heap.size) (hz : FirstOf gr (p ++ z :: q) z) :
    Calls Try.prog 26 #[v] W fun e w' => e = .returned (.tuple #[.agg #[.int .i64 z.1, .int .i64 z.2], .bool true]) ∧ ∃ c', hp.M w' w0.heap.size (fun k => c' k = i) (p ++ q, gr, rm) v ∧ Turned c c' i w0 W w' := by
  obtain ⟨x, e1, e2, hO, hp1, hM⟩ := h
  have e1 : x.great = gr := e1
  obtain ⟨h0, e⟩ := hO.top_is hp1 z hz.1 (by rw [e1]; exact hz.2)
  refine (pop_some (St.mine (s := heap) hM) hO h0).mono ?_
  rintro e0 w' ⟨h1, ⟨x', g1, g2, g3, g4, g5⟩, h3⟩
  rw [e] at g4 h1
  exact ⟨h1, turned (s := hp) ⟨x', g1.trans e1, g2.trans e2, g3, (List.perm_cons _).1 (g4.trans (hp1.trans List.perm_middle)), g5⟩ h3 hs⟩
theorem pop_noneC (h : hp.M W w0.heap.size (fun k => c k = i) ([], gr, rm) v) :
    Calls Try.prog 26 #[v] W fun e w' => e = .returned (.tuple #[.agg #[.int .i64 0, .int .i64 0], .bool false]) ∧ Below W.heap.size W w' := by
  obtain ⟨x, e1, e2, hO, hp1, hM⟩ := h
  exact pop_none hM hp1.length_eq
theorem topC (z : Int × Int) (h : hp.M W w0.heap.size (fun k => c k = i) (m, gr, rm) v) (hz : FirstOf gr m z) :
    Calls Try.prog 25 #[v] W fun e w' => e = .returned (.tuple #[.agg #[.int .i64 z.1, .int .i64 z.2], .bool true]) ∧ Below W.heap.size W w' := by
  obtain ⟨x, e1, e2, hO, hp1, hM⟩ := h
  have e1 : x.great = gr := e1
  obtain ⟨h0, e⟩ := hO.top_is hp1 z hz.1 (by rw [e1]; exact hz.2)
  have := top_some hM h0
  rwa [e] at this
theorem top_noneC (h : hp.M W w0.heap.size (fun k => c k = i) ([], gr, rm) v) :
    Calls Try.prog 25 #[v] W fun e w' => e = .returned (.tuple #[.agg #[.int .i64 0, .int .i64 0], .bool false]) ∧ Below W.heap.size W w' := by
  obtain ⟨x, e1, e2, hO, hp1, hM⟩ := h
  exact top_none hM hp1.length_eq
theorem key_missC (id : Int) (h : hp.M W w0.heap.size (fun k => c k = i) (m, gr, rm) v) (hw : (Lit.int .i64 id).wf = true) (hn : ∀ y ∈ m, y.1 ≠ id) :
    Calls Try.prog 32 #[v, .int .i64 id] W fun e w' => e = .returned (.tuple #[.int .i64 0, .bool false]) ∧ w' = W := by
  obtain ⟨x, e1, e2, hO, hp1, hM⟩ := h
  exact key_miss id hM hw (none_of hO (fun y hy => hn y (hp1.mem_iff.1 hy)))
theorem keyC (id u : Int) (h : hp.M W w0.heap.size (fun k => c k = i) (m, gr, rm) v) (hw : (Lit.int .i64 id).wf = true) (hn : (id, u) ∈ m) :
    Calls Try.prog 32 #[v, .int .i64 id] W fun e w' => e = .returned (.tuple #[.int .i64 u, .bool true]) ∧ w' = W := by
  obtain ⟨x, e1, e2, hO, hp1, hM⟩ := h
  obtain ⟨j, hj, e⟩ := mem_at (hp1.mem_iff.2 hn)
  have hf := hO.1.fwd j hj
  rw [e] at hf
  have := key_hit id hM hw j hj hf
  rwa [e] at this
theorem read_item {A : Option Addr} {l : List (Int × Int)} (h : KI.C W A l.length l) {j : Nat} (hj : j < l.length) :
    ∃ ad, A = some ad ∧ W.cell? (ad.add (j * 2)) = some (.int .i64 (l.getD j (0, 0)).1) ∧ W.cell? ⟨(ad.add (j * 2)).block, (ad.add (j * 2)).off + 1, none⟩ = some (.int .i64 (l.getD j (0, 0)).2) := by
  obtain ⟨ad, c, e, _, hK, hc0⟩ := Kd.C_get h (0, 0) (j : Int) (by omega) (by omega)
  rw [Int.toNat_natCast] at hK hc0
  have hc : ∀ i u, c[i]? = some u → W.cell? (ad.add (j * 2 + i)) = some u := hc0
  obtain ⟨_, _, rfl, rfl, rfl⟩ := hK
  exact ⟨ad, e, hc 0 _ rfl, by rw [← add_field _ _ 1 (by omega)]; exact hc 1 _ rfl⟩
/-- A new block, its own colour. -/
theorem blk_new1 (c : Nat → Nat) (i : Nat) {o : Obj} {g : Nat} (hg : W.heap.size ≤ g) (hX : W1.heap[g]? = some o) (hb : Below W.heap.size W W1) (hs : w0.heap.size ≤ W.heap.size) : ∃ c', blk.M W1 w0.heap.size (fun k => c' k = i) o (.pointer (some ⟨g, 0, none⟩)) ∧ Turned c c' i w0 W W1 :=
  turned_new (s := blk) ⟨g, rfl, hg, hg, (Array.getElem?_eq_some_iff.1 hX).1, hX⟩ hb hs (fun ⟨g2, e1, e2, e3, e4, e5⟩ => ⟨g2, e1, e2, Nat.le_trans hs e3, e4, e5⟩)
theorem blk_at {o : Obj} {g : Nat} (h : blk.M W w0.heap.size (fun k => c k = i) o (.pointer (some ⟨g, 0, none⟩))) : W.heap[g]? = some o := by
  obtain ⟨g2, e1, _, _, _, e5⟩ := h
  injection e1 with e1
  injection e1 with e1
  injection e1 with e1
  subst e1
  exact e5
end
end Go.Proofs.Ytdmoembbgcoeaaa.Heap
