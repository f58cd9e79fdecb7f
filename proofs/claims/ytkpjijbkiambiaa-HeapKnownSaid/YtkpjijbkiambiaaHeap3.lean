/- The heap's methods: Set, Len, Top, Key (no law is stated here; each says its conditions). -/
import Derived.Test.YtkpjijbkiambiaaMend
namespace Go.Proofs.Ytkpjijbkiambiaa.Heap
open Go.RowKit Go.Proofs.YtkpjijbkiambiaaW.PrintWords Go.Proofs.YtkpjijbkiambiaaW.PrintLast Go.Proofs.YtkpjijbkiambiaaW.PrintMore Go.Proofs.Ytkpjijbkiambiaa.St Go.Proofs.Ytkpjijbkiambiaa.Q
set_option linter.unusedVariables false
set_option linter.unusedSimpArgs false
attribute [local go_sem] max2_int min2_int max_two min_two max_three min_three max_four min_four

/-- A heap between its calls. -/
def Ok (x : H) : Prop := Full x ∧ Ord x.great x.l
theorem lit_inj {a c : Int} {D : DataW Unit} {z : DataW Unit} (h1 : D.atKey (kl a) z = .lit (.int .i64 c)) {i : Int} (h2 : D.atKey (kl a) z = .lit (.int .i64 i)) : c = i := by
  rw [h1] at h2
  injection h2 with h2
  injection h2
/-- Where an id is. -/
theorem Full.place {x : H} (h : Full x) {a : Int} {i : Int} (hf : x.f a = some i) : ∃ j : Nat, j < x.l.length ∧ i = (j : Int) ∧ (at_ x.l j).1 = a := by
  obtain ⟨j, hj, e⟩ := h.dom a (by rw [hf]; rfl)
  have h2 := h.fwd j hj
  rw [e, hf] at h2
  injection h2 with h2
  exact ⟨j, hj, h2, e⟩
theorem Full.hole {x : H} (h : Full x) {j : Nat} (hj : j < x.l.length) : Hole x j (at_ x.l j) := by
  refine ⟨hj, fun i hi hij => ⟨h.fwd i hi, fun e => ?_⟩, fun a ha => ?_, ?_⟩
  · have h1 := h.fwd i hi
    have h2 := h.fwd j hj
    rw [e, h2] at h1
    injection h1 with h1
    omega
  · obtain ⟨i, hi, e⟩ := h.dom a ha
    by_cases c : i = j
    · subst c
      exact Or.inl e.symm
    · exact Or.inr ⟨i, hi, c, e⟩
  · rw [h.fwd j hj, h.size]
    rfl
theorem Hole.set {x : H} {k : Nat} {y : Int × Int} (h : Hole x k y) (z : Int × Int) (hz : z.1 = y.1) (x' : H) (hl : x'.l = x.l.set k z) (hf : x'.f = x.f) (hs : x'.sz = x.sz) : Hole x' k z := by
  have hlen : x'.l.length = x.l.length := by rw [hl, List.length_set]
  refine ⟨by rw [hlen]; exact h.lt, fun j hj hjk => ?_, fun a ha => ?_, ?_⟩
  · rw [hlen] at hj
    rw [hl, at_set_other hjk, hf, hz]
    exact h.fwd j hj hjk
  · rw [hf] at ha
    rcases h.dom a ha with r | ⟨j, hj, hjk, r⟩
    · exact Or.inl (by rw [hz]; exact r)
    · exact Or.inr ⟨j, by rw [hlen]; exact hj, hjk, by rw [hl, at_set_other hjk]; exact r⟩
  · rw [hs, hlen, hf, hz]
    exact h.size
set_option maxHeartbeats 1000000 in
set_option maxRecDepth 100000 in
theorem set_miss {w : World} {b : Nat} {ok : Nat → Prop} {x : H} {v : Value} (id key : Int) (hM : heap.M w b ok x v) (hw : (Lit.int .i64 id).wf = true) (hf : x.f id = none) :
    Calls Try.prog 10 #[v, .int .i64 id, .int .i64 key] w fun e w' => e = .returned (.int .i64 2) ∧ w' = w := by
  obtain ⟨g, sv, bm, rfl, hA⟩ := hM
  obtain ⟨D, hown, hsees, hsize⟩ := hA.map
  have hc3 := hA.c3
  have hhas : Go.Maps.has D (kl id) = false := by rw [(hsees id).1, hf]; rfl
  have HN := Aside0.mk hown
  have HW := Aside0.mk hw
  clear hown hsees hsize hA hw hf
  go_enter Try.func10, Try.ntmps10
  go_wp2_with (first | (at_lookup; refine wpList_lookup_own_ok_int _ rfl _ _ 55 rfl 3 3 .i64 law Try.underlying55 Try.underlying3 (zeroE _) bm _ D rfl HN.out _ (kl id) rfl (Go.Maps.keyOf_int_mk Try.underlying3 HW.out) ?_; intro c hat hwc; rw [hhas]; clear hat hwc))
  go_ret
  exact ⟨rfl, rfl⟩
set_option maxHeartbeats 1000000 in
set_option maxRecDepth 100000 in
theorem set_hit {w : World} {b : Nat} {ok : Nat → Prop} {x : H} {v : Value} (id key : Int) (hM : heap.M w b ok x v) (hw : (Lit.int .i64 id).wf = true) (hO : Ok x) (j : Nat) (hj : j < x.l.length) (hid : (at_ x.l j).1 = id) :
    Calls Try.prog 10 #[v, .int .i64 id, .int .i64 key] w fun e w' => e = .returned (.int .i64 0) ∧ (∃ x' : H, x'.great = x.great ∧ x'.room = x.room ∧ Ok x' ∧ x'.l.Perm (x.l.set j (id, key)) ∧ heap.M w' b (more w ok) x' v) ∧ Wrote w w' ok := by
  obtain ⟨g, sv, bm, rfl, hA⟩ := hM
  obtain ⟨D, hown, hsees, hsize⟩ := hA.map
  obtain ⟨g2, c2, rfl, hg2, hn2, hn3⟩ := hA.form (by omega)
  have hfi : x.f id = some (j : Int) := by rw [← hid]; exact hO.1.fwd j hj
  have hc3 := hA.c3
  have hc2 := hA.c2
  have hhas : Go.Maps.has D (kl id) = true := by rw [(hsees id).1, hfi]; rfl
  have HAT := Aside0.mk ((hsees id).2 _ hfi)
  have HN := Aside0.mk hown
  have HW := Aside0.mk hw
  have HO := Aside0.mk hO
  have HID := Aside0.mk hid
  have HA := Aside0.mk hA
  have hlt : (j : Int) < (x.l.length : Int) := by omega
  obtain ⟨⟨k1, k2⟩, k3, k4⟩ := item_get hA.row hj
  have HA2 := Aside0.mk (hA.item hj (f := 1) (by omega) (.int .i64 key) (id, key) (by
    show [Value.int .i64 id, .int .i64 key] = [Value.int .i64 (at_ x.l j).1, .int .i64 key]
    rw [hid]) hw)
  clear hown hsees hsize hA hw hfi hO hid
  go_enter Try.func10, Try.ntmps10
  go_upto_region 5 with (first | (at_lookup; refine wpList_lookup_own_ok_int _ rfl _ _ 55 rfl 3 3 .i64 law Try.underlying55 Try.underlying3 (zeroE _) bm _ D rfl HN.out _ (kl id) rfl (Go.Maps.keyOf_int_mk Try.underlying3 HW.out) ?_; intro c hat hwc; rw [hhas]; obtain rfl := lit_inj hat (HAT.out _); clear hat hwc))
  obtain ⟨x1, hx1⟩ : ∃ x1 : H, ({ x with l := x.l.set j (id, key) } : H) = x1 := ⟨_, rfl⟩
  have hl1 : x1.l = x.l.set j (id, key) := by rw [← hx1]
  have hM4 : heap.M (w.setCell ⟨g2, j * 2 + 1, none⟩ (.int .i64 key)) b ok x1 (.pointer (some ⟨g, 0, none⟩)) := by rw [← hx1]; exact HA2.out.toM
  have hW4 : Wrote w (w.setCell ⟨g2, j * 2 + 1, none⟩ (.int .i64 key)) ok := (Wrote.refl w ok).setCell (Or.inl hg2) _
  have hat1 : at_ x1.l j = (id, key) := by rw [hl1]; exact at_set_same hj _
  have hH : Hole x1 j (at_ x1.l j) := by rw [hat1]; exact (HO.out.1.hole hj).set (id, key) HID.out.symm x1 hl1 (by rw [← hx1]) (by rw [← hx1])
  have hN1 : Near x1.great x1.l j := by rw [hl1, show x1.great = x.great by rw [← hx1]]; exact (HO.out.2.near hj).set _
  have hgr : x1.great = x.great ∧ x1.room = x.room := by rw [← hx1]; exact ⟨rfl, rfl⟩
  clear k1 k2 k3 k4 hc2 hc3 hhas
  generalize w.setCell ⟨g2, j * 2 + 1, none⟩ (.int .i64 key) = w4 at hM4 hW4 ⊢
  have HM4 := Aside0.mk hM4
  have HW4 := Aside0.mk hW4
  have HH := Aside0.mk hH
  have HN1 := Aside0.mk hN1
  have HL1 := Aside0.mk hl1
  have HG := Aside0.mk hgr
  clear hM4 hW4 hH hN1 hl1 hgr hx1 hat1
  go_wp2_with (first | (go_at_call 23; (with_reducible refine (mend_calls j HM4.out HH.out HN1.out).mono ?_); rintro e w6 ⟨rfl, hX, hW6⟩; have HX := Aside0.mk hX; have HW6 := Aside0.mk hW6; clear hX hW6))
  go_ret
  obtain ⟨x', e1, e2, e3, e4, e5, e6⟩ := HX.out
  have HG2 := HG.out
  refine ⟨rfl, ⟨x', e1.trans HG2.1, e2.trans HG2.2, ⟨e3, by rw [e1]; exact e4⟩, by rw [← HL1.out]; exact e5, heap.mono (fun k hk => hk.elim Or.inl (fun h => Or.inr (Nat.le_trans HW4.out.size h))) e6⟩, HW4.out.trans HW6.out (fun k hk => Or.inl hk)⟩
end Go.Proofs.Ytkpjijbkiambiaa.Heap
