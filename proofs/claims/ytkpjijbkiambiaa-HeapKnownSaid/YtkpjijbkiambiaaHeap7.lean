/- The heap's method Drop (no law is stated here; each says its conditions). -/
import Derived.Test.YtkpjijbkiambiaaHeap6
namespace Go.Proofs.Ytkpjijbkiambiaa.Heap
open Go.RowKit Go.Proofs.YtkpjijbkiambiaaW.PrintWords Go.Proofs.YtkpjijbkiambiaaW.PrintLast Go.Proofs.YtkpjijbkiambiaaW.PrintMore Go.Proofs.Ytkpjijbkiambiaa.St Go.Proofs.Ytkpjijbkiambiaa.Q
set_option linter.unusedVariables false
set_option linter.unusedSimpArgs false
attribute [local go_sem] max2_int min2_int max_two min_two max_three min_three max_four min_four

set_option maxHeartbeats 1000000 in
set_option maxRecDepth 100000 in
theorem drop_miss {w : World} {b : Nat} {ok : Nat → Prop} {x : H} {v : Value} (id : Int) (hM : heap.M w b ok x v) (hw : (Lit.int .i64 id).wf = true) (hf : x.f id = none) :
    Calls Try.prog 16 #[v, .int .i64 id] w fun e w' => e = .returned (.bool false) ∧ w' = w := by
  obtain ⟨g, sv, bm, rfl, hA⟩ := hM
  obtain ⟨D, hown, hsees, hsize⟩ := hA.map
  have hc3 := hA.c3
  have hhas : Go.Maps.has D (kl id) = false := by rw [(hsees id).1, hf]; rfl
  have HN := Aside0.mk hown
  have HW := Aside0.mk hw
  clear hown hsees hsize hA hw hf
  go_enter Try.func16, Try.ntmps16
  go_wp2_with (first | (at_lookup; refine wpList_lookup_own_ok_int _ rfl _ _ 55 rfl 3 3 .i64 law Try.underlying55 Try.underlying3 (zeroE _) bm _ D rfl HN.out _ (kl id) rfl (Go.Maps.keyOf_int_mk Try.underlying3 HW.out) ?_; intro c hat hwc; rw [hhas]; clear hat hwc))
  go_ret
  exact ⟨rfl, rfl⟩
theorem perm_set : ∀ (l : List (Int × Int)) (j : Nat) (y : Int × Int), j < l.length → (at_ l j :: l.set j y).Perm (y :: l)
  | [], _, _, h => absurd h (Nat.not_lt_zero _)
  | a :: l, 0, y, _ => List.Perm.swap _ _ _
  | a :: l, j + 1, y, h => by
    have ih := perm_set l j y (by simpa using h)
    have e : at_ (a :: l) (j + 1) = at_ l j := rfl
    rw [e]
    show (at_ l j :: a :: l.set j y).Perm (y :: a :: l)
    exact ((List.Perm.swap _ _ _).trans (List.Perm.cons a ih)).trans (List.Perm.swap _ _ _)
/-- The last item goes. -/
theorem Full.last {x : H} (h : Full x) (n : Nat) (hn : x.l.length = n + 1) (j : Nat) (hj : j < n) (x' : H) (hl : x'.l = x.l.take n) (hf : x'.f = cut x.f (at_ x.l j).1) (hs : x'.sz = x.sz - 1) : Hole x' j (at_ x.l n) := by
  have hlen : x'.l.length = n := by rw [hl, List.length_take]; omega
  have hold : ∀ i, i < n → at_ x'.l i = at_ x.l i := fun i hi => by
    rw [hl]
    unfold at_
    rw [List.getD_eq_getElem?_getD, List.getElem?_take, if_pos hi, List.getD_eq_getElem?_getD]
  have hne : ∀ i k, i < x.l.length → k < x.l.length → i ≠ k → (at_ x.l i).1 ≠ (at_ x.l k).1 := fun i k hi hk hik e => by
    have h1 := h.fwd i hi
    rw [e, h.fwd k hk] at h1
    injection h1 with h1
    omega
  refine ⟨by omega, fun i hi hij => ?_, fun a ha => ?_, ?_⟩
  · rw [hlen] at hi
    rw [hold i hi, hf, cut_other (hne i j (by omega) (by omega) hij)]
    exact ⟨h.fwd i (by omega), hne i n (by omega) (by omega) (by omega)⟩
  · rw [hf] at ha
    by_cases e : a = (at_ x.l j).1
    · rw [e, cut_same] at ha
      cases ha
    · rw [cut_other e] at ha
      obtain ⟨i, hi, ei⟩ := h.dom a ha
      by_cases c : i = n
      · subst c
        exact Or.inl ei.symm
      · exact Or.inr ⟨i, by omega, fun e2 => e (by rw [← ei, e2]), by rw [hold i (by omega)]; exact ei⟩
  · rw [hf, cut_other (hne n j (by omega) (by omega) (by omega)), h.fwd n (by omega), hs, h.size, hlen, hn]
    simp
theorem Ord.last {gr : Bool} {l : List (Int × Int)} (h : Ord gr l) (n : Nat) (hn : l.length = n + 1) : Ord gr (l.take n) := by
  intro j h0 hj
  rw [List.length_take] at hj
  have hold : ∀ i, i < n → at_ (l.take n) i = at_ l i := fun i hi => by
    unfold at_
    rw [List.getD_eq_getElem?_getD, List.getElem?_take, if_pos hi, List.getD_eq_getElem?_getD]
  rw [hold j (by omega), hold _ (by omega)]
  exact h j h0 (by omega)
theorem Full.end {x : H} (h : Full x) (n : Nat) (hn : x.l.length = n + 1) (x' : H) (hl : x'.l = x.l.take n) (hf : x'.f = cut x.f (at_ x.l n).1) (hs : x'.sz = x.sz - 1) : Full x' := by
  have hlen : x'.l.length = n := by rw [hl, List.length_take]; omega
  have hold : ∀ i, i < n → at_ x'.l i = at_ x.l i := fun i hi => by
    rw [hl]
    unfold at_
    rw [List.getD_eq_getElem?_getD, List.getElem?_take, if_pos hi, List.getD_eq_getElem?_getD]
  have hne : ∀ i, i < n → (at_ x.l i).1 ≠ (at_ x.l n).1 := fun i hi e => by
    have h1 := h.fwd i (by omega)
    rw [e, h.fwd n (by omega)] at h1
    injection h1 with h1
    omega
  refine ⟨fun i hi => ?_, fun a ha => ?_, ?_⟩
  · rw [hlen] at hi
    rw [hold i hi, hf, cut_other (hne i hi)]
    exact h.fwd i (by omega)
  · rw [hf] at ha
    by_cases e : a = (at_ x.l n).1
    · rw [e, cut_same] at ha
      cases ha
    · rw [cut_other e] at ha
      obtain ⟨i, hi, ei⟩ := h.dom a ha
      have : i ≠ n := fun e2 => e (by rw [← ei, e2])
      exact ⟨i, by omega, by rw [hold i (by omega)]; exact ei⟩
  · rw [hs, h.size, hlen, hn]
    rfl
set_option maxHeartbeats 1000000 in
set_option maxRecDepth 100000 in
theorem drop_hit {w : World} {b : Nat} {ok : Nat → Prop} {x : H} {v : Value} (id : Int) (hM : heap.M w b ok x v) (hw : (Lit.int .i64 id).wf = true) (hO : Ok x) (j : Nat) (hj : j < x.l.length) (hid : (at_ x.l j).1 = id) :
    Calls Try.prog 16 #[v, .int .i64 id] w fun e w' => e = .returned (.bool true) ∧ (∃ x' : H, x'.great = x.great ∧ x'.room = x.room ∧ Ok x' ∧ (at_ x.l j :: x'.l).Perm x.l ∧ heap.M w' b (more w ok) x' v) ∧ Wrote w w' ok := by
  obtain ⟨g, sv, bm, rfl, hA⟩ := hM
  obtain ⟨D, hown, hsees, hsize⟩ := hA.map
  obtain ⟨g2, c2, rfl, hg2, hn2, hn3⟩ := hA.form (by omega)
  have hfi : x.f id = some (j : Int) := by rw [← hid]; exact hO.1.fwd j hj
  obtain ⟨n, hn⟩ : ∃ n : Nat, x.l.length = n + 1 := ⟨x.l.length - 1, by omega⟩
  have hc3 := hA.c3
  have hc2 := hA.c2
  have hf2 := hA.f2
  have hhas : Go.Maps.has D (kl id) = true := by rw [(hsees id).1, hfi]; rfl
  have HAT := Aside0.mk ((hsees id).2 _ hfi)
  have HN := Aside0.mk hown
  have HD := Aside0.mk hsees
  have HZ := Aside0.mk hsize
  have HW := Aside0.mk hw
  have HO := Aside0.mk hO
  have HID := Aside0.mk hid
  have HA := Aside0.mk hA
  have HFI := Aside0.mk hfi
  have HNL := Aside0.mk hn
  obtain ⟨⟨k1, k2⟩, k3, k4⟩ := item_get hA.row (show n < x.l.length by omega)
  rw [show x.l.getD n (0, 0) = at_ x.l n from rfl] at k1 k2
  have hn1024 : n < 1024 := by have := hA.len; omega
  rw [hn] at hc2
  clear hown hsees hsize hA hw hfi hO hid
  go_enter Try.func16, Try.ntmps16
  go_upto_region 6 with (first | (at_lookup; refine wpList_lookup_own_ok_int _ rfl _ _ 55 rfl 3 3 .i64 law Try.underlying55 Try.underlying3 (zeroE _) bm _ D rfl HN.out _ (kl id) rfl (Go.Maps.keyOf_int_mk Try.underlying3 HW.out) ?_; intro c hat hwc; rw [hhas]; obtain rfl := lit_inj hat (HAT.out _); clear hat hwc))
  obtain ⟨w4, hw4⟩ : ∃ w4 : World, (w.alloc (.cells #[.int .i64 (at_ x.l n).1, .int .i64 (at_ x.l n).2] 32)) = w4 := ⟨_, rfl⟩
  have hb4 : Below w.heap.size w w4 := by rw [← hw4]; exact below_alloc (Below.refl _ _) _
  have hx4 : w4.heap[w.heap.size]? = some (.cells #[.int .i64 (at_ x.l n).1, .int .i64 (at_ x.l n).2] 32 (0, 0)) := by rw [← hw4]; exact blk_new w _
  rw [hw4]
  have HA4 := Aside0.mk (HA.out.below hb4)
  have HB4 := Aside0.mk hb4
  have HX4 := Aside0.mk hx4
  have hd2 := HA4.out.c2
  have hd3 := HA4.out.c3
  have hdf := HA4.out.f2
  have hcap : n ≤ c2 := by have := (Kd.R_reads' HA.out.row).2.1; omega
  rw [hn] at hd2
  clear k1 k2 k3 k4 hc2 hc3 hf2 hw4 hb4 hx4 hhas
  go_upto_region 7 with (fail)
  obtain ⟨x5, hx5⟩ : ∃ x5 : H, ({ x with l := x.l.take n } : H) = x5 := ⟨_, rfl⟩
  have hl5 : x5.l = x.l.take n := by rw [← hx5]
  have hlen5 : x5.l.length = n := by rw [hl5, List.length_take]; omega
  have hA5 : At (w4.setCell ⟨g, 2, none⟩ (.slice (some ⟨g2, 0, none⟩) n c2)) b ok x5 g (.slice (some ⟨g2, 0, none⟩) n c2) bm := by
    rw [← hx5]
    refine ⟨⟨HA4.out.1.1, HA4.out.1.2.1, blk_put HA4.out.1.2.2 2 _ rfl⟩, ⟨HA4.out.2.1.1, HA4.out.2.1.2.1, HA4.out.map.move (Below.heap_setCell w4 _ _ bm HA4.out.ne)⟩, Kd.R_far (Kd.R_take HA4.out.row (by omega)) (fun k hk => hk.2.1) _, fun y hy => HA4.out.wf y (List.mem_of_mem_take hy), by rw [List.length_take]; omega, HA4.out.2.2.2.2.2⟩
  have hW5 : Wrote w (w4.setCell ⟨g, 2, none⟩ (.slice (some ⟨g2, 0, none⟩) n c2)) ok := (Wrote.of_below HB4.out ok).setCell (Or.inl HA.out.1.1) _
  have hx5b : (w4.setCell ⟨g, 2, none⟩ (.slice (some ⟨g2, 0, none⟩) n c2)).heap[w.heap.size]? = some (.cells #[.int .i64 (at_ x.l n).1, .int .i64 (at_ x.l n).2] 32 (0, 0)) := blk_far HX4.out (Nat.ne_of_gt HA.out.glt) _
  clear hd2 hd3 hdf
  generalize w4.setCell ⟨g, 2, none⟩ (.slice (some ⟨g2, 0, none⟩) n c2) = w5 at hA5 hW5 hx5b ⊢
  have HA5 := Aside0.mk hA5
  have HW5 := Aside0.mk hW5
  have HX5 := Aside0.mk hx5b
  have HL5 := Aside0.mk hl5
  have HE5 := Aside0.mk hx5
  have HLN := Aside0.mk hlen5
  have hc3 := hA5.c3
  obtain ⟨D5, hown5, hsees5, hsize5⟩ := hA5.map
  have HN5 := Aside0.mk hown5
  have HD5 := Aside0.mk hsees5
  have HZ5 := Aside0.mk hsize5
  have HF5 := Aside0.mk (show x5.f id = some (j : Int) from by rw [← hx5]; exact HFI.out)
  clear hA5 hW5 hx5b hl5 hx5 hlen5 hown5 hsees5 hsize5
  go_upto_region 8 with (first | (at_delete; refine wpList_delete_own _ rfl _ _ 55 3 rfl 3 law Try.underlying55 _ bm x5.sz D5 rfl HN5.out _ (kl id) rfl (Go.Maps.keyOf_int_mk Try.underlying3 HW.out) ?_; intro w6 hown6 hturn6; have HM6 := Aside0.mk (MapIs.struck HN5.out HD5.out HZ5.out (by rw [HF5.out]; rfl) hown6); have HG6 := Aside0.mk hturn6.grown; clear hown6 hturn6))
  obtain ⟨x6, hx6⟩ : ∃ x6 : H, ({ x5 with f := cut x5.f id, sz := x5.sz - 1 } : H) = x6 := ⟨_, rfl⟩
  have hl6 : x6.l = x.l.take n := by rw [← hx6]; exact HL5.out
  have hlen6 : x6.l.length = n := by rw [hl6, List.length_take]; omega
  have hf6 : x6.f = cut x.f (at_ x.l j).1 := by rw [← hx6, HID.out, ← HE5.out]
  have hs6 : x6.sz = x.sz - 1 := by rw [← hx6, ← HE5.out]
  have hgr : x6.great = x.great ∧ x6.room = x.room := by rw [← hx6, ← HE5.out]; exact ⟨rfl, rfl⟩
  have HA6 := Aside0.mk (show At w6 b ok x6 g (.slice (some ⟨g2, 0, none⟩) n c2) bm from by rw [← hx6]; exact HA5.out.mapped HG6.out HM6.out (by have : x5.sz ≤ 2000 := HA5.out.2.2.2.2.2; omega))
  have HW6 := Aside0.mk (HW5.out.grown HG6.out (fun k hk => by cases hk; exact Or.inl HA5.out.2.1.1))
  have HX6 := Aside0.mk ((HG6.out.block _ (blk_lt HX5.out) (fun e => by injection e with e; have := HA.out.map.lt; omega)).trans HX5.out)
  have HL6 := Aside0.mk hl6
  have HLN6 := Aside0.mk hlen6
  have HF6 := Aside0.mk hf6
  have HS6 := Aside0.mk hs6
  have HGR := Aside0.mk hgr
  clear hl6 hlen6 hf6 hs6 hgr hx6 hc3
  have hperm : (at_ x.l n :: x.l.take n).Perm x.l := by
    have e1 : x.l = x.l.take n ++ [at_ x.l n] := by
      have := List.take_append_drop n x.l
      rw [Mine.drop_at (Mine.getD_at (0, 0) (show n < x.l.length by omega)), List.drop_of_length_le (by omega)] at this
      exact this.symm
    have e2 : (at_ x.l n :: x.l.take n).Perm (x.l.take n ++ [at_ x.l n]) := (List.perm_append_singleton _ _).symm
    rw [← e1] at e2
    exact e2
  have HPM := Aside0.mk hperm
  clear hperm
  by_cases hjn : j < n
  · have hjd : decide ((j : Int) < (n : Int)) = true := decide_eq_true (by omega)
    have hjdn : decide (j < n) = true := decide_eq_true hjn
    have hc2' := HA6.out.c2
    have hji : (j : Int) < (n : Int) := by omega
    have q0 := blk_cell HX6.out 0
    have q1 := blk_cell HX6.out 1
    go_upto_region 9 with (fail)
    go_still_tail 7, (by kernel_rfl)
    change wpList _ _ _ _ _ w6.drew
    obtain ⟨w7, hw7⟩ : ∃ w7 : World, w6.drew = w7 := ⟨_, rfl⟩
    rw [hw7]
    have hb7 : Below w6.heap.size w6 w7 := by rw [← hw7]; exact below_drew (Below.refl _ _)
    have HA7 := Aside0.mk (show At w7 b ok x6 g (.slice (some ⟨g2, 0, none⟩) x6.l.length c2) bm from by rw [HLN6.out]; exact HA6.out.below hb7)
    have HW7 := Aside0.mk (show Wrote w w7 ok from by rw [← hw7]; exact HW6.out.drew)
    clear hw7 hb7 hc2' q0 q1
    have hj6 : j < x6.l.length := by rw [HLN6.out]; exact hjn
    obtain ⟨⟨k1, k2⟩, k3, k4⟩ := item_get HA7.out.row hj6
    go_upto_region 10 with (fail)
    obtain ⟨x8, hx8⟩ : ∃ x8 : H, ({ x6 with l := x6.l.set j (at_ x.l n) } : H) = x8 := ⟨_, rfl⟩
    have hl8 : x8.l = x6.l.set j (at_ x.l n) := by rw [← hx8]
    have hA8 := HA7.out.item2 hj6 (at_ x.l n) (HA.out.wf _ (at_mem (by omega)))
    rw [hx8] at hA8
    have hW8 : Wrote w ((w7.setCell ⟨g2, j * 2, none⟩ (.int .i64 (at_ x.l n).1)).setCell ⟨g2, j * 2 + 1, none⟩ (.int .i64 (at_ x.l n).2)) ok := (HW7.out.setCell (Or.inl hg2) _).setCell (Or.inl hg2) _
    clear k1 k2 k3 k4
    generalize ((w7.setCell ⟨g2, j * 2, none⟩ (.int .i64 (at_ x.l n).1)).setCell ⟨g2, j * 2 + 1, none⟩ (.int .i64 (at_ x.l n).2)) = w8 at hA8 hW8 ⊢
    have hat8 : at_ x8.l j = at_ x.l n := by rw [hl8]; exact at_set_same hj6 _
    have hgr8 : x8.great = x.great ∧ x8.room = x.room := by rw [← hx8]; exact HGR.out
    have HH := Aside0.mk (show Hole x8 j (at_ x8.l j) from by rw [hat8]; exact (HO.out.1.last n HNL.out j hjn x6 HL6.out HF6.out HS6.out).set (at_ x.l n) rfl x8 hl8 (by rw [← hx8]) (by rw [← hx8]))
    have HN8 := Aside0.mk (show Near x8.great x8.l j from by rw [hl8, hgr8.1, HL6.out]; exact ((HO.out.2.last n HNL.out).near (by rw [List.length_take]; omega)).set _)
    have HM8 := Aside0.mk hA8.toM
    have HW8 := Aside0.mk hW8
    have HL8 := Aside0.mk hl8
    have HG8 := Aside0.mk hgr8
    clear hl8 hA8 hW8 hat8 hgr8 hx8
    go_wp2_with (first | (go_at_call 23; (with_reducible refine (mend_calls j HM8.out HH.out HN8.out).mono ?_); rintro e w9 ⟨rfl, hX, hW9⟩; have HX := Aside0.mk hX; have HW9 := Aside0.mk hW9; clear hX hW9))
    go_ret
    obtain ⟨x', e1, e2, e3, e4, e5, e6⟩ := HX.out
    have HG2 := HG8.out
    have hp : (at_ x.l j :: x8.l).Perm x.l := by
      rw [HL8.out]
      have h1 := perm_set x6.l j (at_ x.l n) hj6
      have h2 : at_ x6.l j = at_ x.l j := by
        rw [HL6.out]
        unfold at_
        rw [List.getD_eq_getElem?_getD, List.getElem?_take, if_pos hjn, List.getD_eq_getElem?_getD]
      rw [h2] at h1
      refine h1.trans ?_
      rw [HL6.out]
      exact HPM.out
    refine ⟨rfl, ⟨x', e1.trans HG2.1, e2.trans HG2.2, ⟨e3, by rw [e1]; exact e4⟩, (List.Perm.cons _ e5).trans hp, heap.mono (fun k hk => hk.elim Or.inl (fun h => Or.inr (Nat.le_trans HW8.out.size h))) e6⟩, HW8.out.trans HW9.out (fun k hk => Or.inl hk)⟩
  · have hje : j = n := by omega
    subst hje
    have hjd : decide ((j : Int) < (j : Int)) = false := decide_eq_false (by omega)
    go_wp2
    go_ret
    refine ⟨rfl, ⟨x6, HGR.out.1, HGR.out.2, ⟨HO.out.1.end j HNL.out x6 HL6.out HF6.out HS6.out, by rw [HGR.out.1, HL6.out]; exact HO.out.2.last j HNL.out⟩, by rw [HL6.out]; exact HPM.out, heap.mono (fun _ hk => Or.inl hk) HA6.out.toM⟩, HW6.out⟩
end Go.Proofs.Ytkpjijbkiambiaa.Heap
