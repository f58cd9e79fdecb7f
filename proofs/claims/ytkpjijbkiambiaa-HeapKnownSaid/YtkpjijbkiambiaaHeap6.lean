/- The heap's method Put (no law is stated here; each says its conditions). -/
import Derived.Test.YtkpjijbkiambiaaHeap5
namespace Go.Proofs.Ytkpjijbkiambiaa.Heap
open Go.RowKit Go.Proofs.YtkpjijbkiambiaaW.PrintWords Go.Proofs.YtkpjijbkiambiaaW.PrintLast Go.Proofs.YtkpjijbkiambiaaW.PrintMore Go.Proofs.Ytkpjijbkiambiaa.St Go.Proofs.Ytkpjijbkiambiaa.Q
set_option linter.unusedVariables false
set_option linter.unusedSimpArgs false
attribute [local go_sem] max2_int min2_int max_two min_two max_three min_three max_four min_four

theorem info_item : (Try.prog.info? 32).map (fun i => (i.zero, i.size, i.bytes)) = some (some (.agg #[.int .i64 0, .int .i64 0]), 2, 16) := by kernel_rfl
set_option maxHeartbeats 1000000 in
set_option maxRecDepth 100000 in
theorem put_busy {w : World} {b : Nat} {ok : Nat → Prop} {x : H} {v : Value} (id key : Int) (hM : heap.M w b ok x v) (hw : (Lit.int .i64 id).wf = true) (hf : (x.f id).isSome = true) :
    Calls Try.prog 11 #[v, .int .i64 id, .int .i64 key] w fun e w' => e = .returned (.int .i64 5) ∧ w' = w := by
  obtain ⟨g, sv, bm, rfl, hA⟩ := hM
  obtain ⟨D, hown, hsees, hsize⟩ := hA.map
  have hc3 := hA.c3
  have hhas : Go.Maps.has D (kl id) = true := by rw [(hsees id).1, hf]
  have HN := Aside0.mk hown
  have HW := Aside0.mk hw
  clear hown hsees hsize hA hw hf
  go_enter Try.func11, Try.ntmps11
  go_wp2_with (first | (at_lookup; refine wpList_lookup_own_ok_int _ rfl _ _ 55 rfl 3 3 .i64 law Try.underlying55 Try.underlying3 (zeroE _) bm _ D rfl HN.out _ (kl id) rfl (Go.Maps.keyOf_int_mk Try.underlying3 HW.out) ?_; intro c hat hwc; rw [hhas]; clear hat hwc))
  go_ret
  exact ⟨rfl, rfl⟩
set_option maxHeartbeats 1000000 in
set_option maxRecDepth 100000 in
theorem put_full {w : World} {b : Nat} {ok : Nat → Prop} {x : H} {v : Value} (id key : Int) (hM : heap.M w b ok x v) (hw : (Lit.int .i64 id).wf = true) (hf : x.f id = none) (hr : (x.l.length : Int) = x.room) :
    Calls Try.prog 11 #[v, .int .i64 id, .int .i64 key] w fun e w' => e = .returned (.int .i64 3) ∧ ∃ n, w' = w.drewN n := by
  obtain ⟨g, sv, bm, rfl, hA⟩ := hM
  obtain ⟨D, hown, hsees, hsize⟩ := hA.map
  obtain ⟨A, c2, rfl⟩ := Kd.R_slice hA.row
  have hc0 := hA.c0
  have hc2 := hA.c2
  have hc3 := hA.c3
  have hd : ((x.l.length : Int) == x.room) = true := beq_iff_eq.mpr hr
  have hhas : Go.Maps.has D (kl id) = false := by rw [(hsees id).1, hf]; rfl
  have HN := Aside0.mk hown
  have HW := Aside0.mk hw
  clear hown hsees hsize hA hw hf hr
  go_enter Try.func11, Try.ntmps11
  go_wp2_with (first | (at_lookup; refine wpList_lookup_own_ok_int _ rfl _ _ 55 rfl 3 3 .i64 law Try.underlying55 Try.underlying3 (zeroE _) bm _ D rfl HN.out _ (kl id) rfl (Go.Maps.keyOf_int_mk Try.underlying3 HW.out) ?_; intro c hat hwc; rw [hhas]; clear hat hwc))
  go_quiet (fail)
  go_wp2
  go_ret
  exact ⟨rfl, _, rfl⟩
set_option maxHeartbeats 1000000 in
set_option maxRecDepth 100000 in
theorem put_in {w : World} {b : Nat} {ok : Nat → Prop} {x : H} {v : Value} (id key : Int) (hM : heap.M w b ok x v) (hw : (Lit.int .i64 id).wf = true) (hO : Ok x) (hf : x.f id = none) (hr : ¬ (x.l.length : Int) = x.room) (hr2 : (x.l.length : Int) < 1024) :
    Calls Try.prog 11 #[v, .int .i64 id, .int .i64 key] w fun e w' => e = .returned (.int .i64 0) ∧ (∃ x' : H, x'.great = x.great ∧ x'.room = x.room ∧ Ok x' ∧ x'.l.Perm (x.l ++ [(id, key)]) ∧ heap.M w' b (more w ok) x' v) ∧ Wrote w w' ok := by
  obtain ⟨g, sv, bm, rfl, hA⟩ := hM
  obtain ⟨D, hown, hsees, hsize⟩ := hA.map
  obtain ⟨A, c2, rfl⟩ := Kd.R_slice hA.row
  have hc0 := hA.c0
  have hc2 := hA.c2
  have hc3 := hA.c3
  have hf2 := hA.f2
  have hd : ((x.l.length : Int) == x.room) = false := beq_eq_false_iff_ne.mpr hr
  have hhas : Go.Maps.has D (kl id) = false := by rw [(hsees id).1, hf]; rfl
  have HN := Aside0.mk hown
  have HW := Aside0.mk hw
  have HA := Aside0.mk hA
  have HO := Aside0.mk hO
  have HF := Aside0.mk hf
  have HL := Aside0.mk hr2
  clear hown hsees hsize hA hw hf hr hO hr2
  go_enter Try.func11, Try.ntmps11
  go_wp2_with (first | (at_lookup; refine wpList_lookup_own_ok_int _ rfl _ _ 55 rfl 3 3 .i64 law Try.underlying55 Try.underlying3 (zeroE _) bm _ D rfl HN.out _ (kl id) rfl (Go.Maps.keyOf_int_mk Try.underlying3 HW.out) ?_; intro c hat hwc; rw [hhas]; clear hat hwc))
  go_quiet (fail)
  go_upto_region 7 with (first | ((with_reducible refine gate_builtin (b := .append) (xs := #[.tmp 33, .tmp 37]) rfl ?_); at_builtin; refine Kd.R_append KI (w0 := w) b rfl (.tmp 33) (.tmp 37) 39 32 (.agg #[.int .i64 0, .int .i64 0]) 16 rfl Try.underlying39 info_item rfl (by decide) (by decide) (.slice A x.l.length c2) x.l (id, key) [.int .i64 id, .int .i64 key] (fun k => more w ok k ∧ k ≠ g ∧ k ≠ bm) (fun _ => False) rfl rfl ?hp (fun _ h => h.elim) (fun k hk => ⟨Or.inr hk, Nat.ne_of_gt (Nat.lt_of_lt_of_le HA.out.glt hk), Nat.ne_of_gt (Nat.lt_of_lt_of_le HA.out.map.lt hk)⟩) (Kd.R_mono (Kd.R_drewN HA.out.row _) (fun k hk => ⟨Or.inl hk.1, hk.2⟩)) (pw_below_drewN (Below.refl _ _) _) (Nat.le_of_lt (Nat.lt_of_le_of_lt HA.out.1.2.1 HA.out.glt)) (by have := HL.out; omega) ?_; (case hp => exact ⟨[.int .i64 id], [.int .i64 key], rfl, rfl, rfl⟩); intro v1 w1 hO1 hB1 hG1 hat1; obtain ⟨A1, c1, rfl⟩ := Kd.R_slice hO1; have HO1 := Aside0.mk hO1; have HG1 := Aside0.mk hG1; have kg := hG1.block g HA.out.glt (Kd.R_away HA.out.row (fun k hk => hk.2.1)); have hcg := blk_cell (kg.trans HA.out.1.2.2) 2; have hfg := blk_frozen (kg.trans HA.out.1.2.2) 2; have KG := Aside0.mk kg; clear hO1 hB1 hG1 hat1 kg))
  obtain ⟨x1, hx1⟩ : ∃ x1 : H, ({ x with l := x.l ++ [(id, key)] } : H) = x1 := ⟨_, rfl⟩
  have hl1 : x1.l = x.l ++ [(id, key)] := by rw [← hx1]
  have hlen1 : x1.l.length = x.l.length + 1 := by rw [hl1, List.length_append]; rfl
  have hlen2 : (x.l ++ [(id, key)]).length = x.l.length + 1 := by rw [List.length_append]; rfl
  rw [hlen2] at HO1
  have hbm : w1.heap[bm]? = w.heap[bm]? := HG1.out.block bm HA.out.map.lt (Kd.R_away HA.out.row (fun k hk => hk.2.2))
  have hblk := blk_put (KG.out.trans HA.out.1.2.2) 2 (.slice A1 (x.l.length + 1) c1) (cs' := #[.int .i64 x.room, .bool x.great, .slice A1 (x.l.length + 1) c1, .map (some bm)]) rfl
  have hA3 : At (w1.setCell ⟨g, 2, none⟩ (.slice A1 (x.l.length + 1) c1)) b (more w ok) x1 g (.slice A1 (x.l.length + 1) c1) bm := by
    rw [← hx1]
    refine ⟨⟨Or.inl HA.out.1.1, HA.out.1.2.1, hblk⟩, ⟨Or.inl HA.out.2.1.1, HA.out.2.1.2.1, HA.out.map.move ((Below.heap_setCell w1 _ _ bm HA.out.ne).trans hbm)⟩, Kd.R_far HO1.out (fun k hk => hk.2.1) _, fun y hy => ?_, by rw [hlen2]; have := HL.out; omega, HA.out.2.2.2.2.2⟩
    rcases List.mem_append.1 hy with h | h
    · exact HA.out.wf y h
    · rw [List.mem_singleton] at h; subst h; exact HW.out
  have hW3 : Wrote w (w1.setCell ⟨g, 2, none⟩ (.slice A1 (x.l.length + 1) c1)) ok := (((Wrote.refl w ok).drewN nq).grown HG1.out (fun k hk => Or.inl (HA.out.row.1 k hk).1)).setCell (Or.inl HA.out.1.1) _
  have hat1 : at_ x1.l x.l.length = (id, key) := by rw [hl1]; unfold at_; rw [List.getD_eq_getElem?_getD, List.getElem?_append_right (Nat.le_refl _)]; simp
  have hH : Hole x1 x.l.length (at_ x1.l x.l.length) := by rw [hat1]; exact HO.out.1.next id key HF.out x1 hl1 (by rw [← hx1]) (by rw [← hx1])
  have hN1 : Near x1.great x1.l x.l.length := by rw [hl1, show x1.great = x.great by rw [← hx1]]; exact HO.out.2.next _
  have hgr : x1.great = x.great ∧ x1.room = x.room := by rw [← hx1]; exact ⟨rfl, rfl⟩
  clear hcg hfg hblk hbm hc0 hc2 hc3 hf2 hhas hd
  generalize w1.setCell ⟨g, 2, none⟩ (.slice A1 (x.l.length + 1) c1) = w3 at hA3 hW3 ⊢
  have HA3 := Aside0.mk hA3
  have HW3 := Aside0.mk hW3
  have HH := Aside0.mk hH
  have HN1 := Aside0.mk hN1
  have HL1 := Aside0.mk hl1
  have HGR := Aside0.mk hgr
  have hc2 := hA3.c2
  have e1 : (((x.l.length + 1 : Nat) : Int) - 1) = (x.l.length : Int) := by omega
  have HWR := Aside0.mk (show wrap64 (x.l.length : Int) = (x.l.length : Int) from by have := HL.out; unfold wrap64; omega)
  clear hA3 hW3 hH hN1 hl1 hgr hx1 hat1 hlen1 hlen2
  go_wp2_with (first | (go_at_call 23; rw [HWR.out]; (with_reducible refine (mend_calls x.l.length HA3.out.toM HH.out HN1.out).mono ?_); rintro e w6 ⟨rfl, hX, hW6⟩; have HX := Aside0.mk hX; have HW6 := Aside0.mk hW6; clear hX hW6))
  go_ret
  obtain ⟨x', e1, e2, e3, e4, e5, e6⟩ := HX.out
  have HG2 := HGR.out
  refine ⟨rfl, ⟨x', e1.trans HG2.1, e2.trans HG2.2, ⟨e3, by rw [e1]; exact e4⟩, by rw [← HL1.out]; exact e5, heap.mono (fun k hk => hk.elim (fun h => h) (fun h => Or.inr (Nat.le_trans HW3.out.size h))) e6⟩, HW3.out.trans HW6.out (fun k hk => hk)⟩
end Go.Proofs.Ytkpjijbkiambiaa.Heap
