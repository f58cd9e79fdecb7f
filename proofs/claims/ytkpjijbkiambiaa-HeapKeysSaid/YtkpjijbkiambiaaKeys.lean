/- HeapKeys: keys that change again and again: first is always who has the least of the last ones told (the walk; no condition). -/
import Derived.Test.YtkpjijbkiambiaaKeysP
import Derived.Test.YtkpjijbkiambiaaWGuard
namespace Go.Proofs.Ytkpjijbkiambiaa.Heap
open Go.RowKit Go.Proofs.YtkpjijbkiambiaaW.PrintWords Go.Proofs.YtkpjijbkiambiaaW.PrintLast Go.Proofs.YtkpjijbkiambiaaW.PrintMore Go.Proofs.Ytkpjijbkiambiaa.St Go.Proofs.Ytkpjijbkiambiaa.Q
set_option linter.unusedVariables false
set_option linter.unusedSimpArgs false
attribute [local go_sem] max2_int min2_int max_two min_two max_three min_three max_four min_four

theorem own_move {w w1 : World} {bm n : Nat} {D : DataW Unit} (h : w.ownsMap Try.prog 3 (plainElem Try.prog 2) bm n D) (e : w1.heap[bm]? = w.heap[bm]?) : w1.ownsMap Try.prog 3 (plainElem Try.prog 2) bm n D := by
  obtain ⟨es, clock, h1, h2⟩ := h
  exact ⟨es, clock, e.trans h1, h2⟩
/-- Where the law stands. -/
def At1 (w : World) (v : Value) (bm : Nat) (x : H) (f : Int → Option Int) (sz : Nat) (W : World) : Prop :=
  Holds x f sz ∧ heap.M W w.heap.size (fun k => w.heap.size ≤ k ∧ k ≠ bm) x v ∧ NowIs W bm f sz ∧ Below w.heap.size w W ∧ w.heap.size ≤ bm
def RelK (w : World) (n : Nat) (v : Value) (bm : Nat) (i : Value) (wr : World) : Prop :=
  ∃ (j : Nat) (x : H) (f : Int → Option Int) (sz : Nat), j ≤ n ∧ i = .int .i64 (j : Int) ∧ sz ≤ j ∧ At1 w v bm x f sz wr
def RelI (f : Int → Option Int) (wo : World) (bv i : Value) (wr : World) : Prop := wr = wo ∧ ∃ (k : Nat) (b : Int), k ≤ 16 ∧ i = .int .i64 (k : Int) ∧ bv = .int .i64 b ∧ BestOk f k b
section
variable {w W W1 : World} {v : Value} {bm : Nat} {x x' : H} {f f' : Int → Option Int} {sz sz' : Nat}
theorem At1.put {id key : Int} (h : At1 w v bm x f sz W) (hf : f id = none) (hd : ∃ k : Nat, k < 16 ∧ id = (k : Int)) (hw : (Lit.int .i64 id).wf = true) (hs : sz < 100) :
    Calls Try.prog 11 #[v, .int .i64 id, .int .i64 key] W fun e w' => e = .returned (.int .i64 0) ∧ ∃ x' : H, Holds x' (upd f id key) (sz + 1) ∧ heap.M w' w.heap.size (fun k => w.heap.size ≤ k ∧ k ≠ bm) x' v ∧ w'.heap[bm]? = W.heap[bm]? ∧ bm < w'.heap.size ∧ Below w.heap.size w w' := by
  obtain ⟨h1, h2, h3, h4, h5⟩ := h
  refine (put_in id key h2 hw h1.ok (h1.free hf) (by rw [h1.len, h1.room]; omega) (by rw [h1.len]; omega)).mono ?_
  rintro e w' ⟨rfl, ⟨x', g, r, o, p, m⟩, hW⟩
  exact ⟨rfl, x', h1.put hf hd g r o p, heap.mono (fun k hk => hk.elim (fun h => h) (fun h6 => ⟨Nat.le_trans h4.size h6, by have := h3.lt; omega⟩)) m, hW.block bm h3.lt (fun h6 => h6.2 rfl), Nat.lt_of_lt_of_le h3.lt hW.size, hW.below h4 (fun k hk => hk.1)⟩
theorem At1.set {id key u : Int} (h : At1 w v bm x f sz W) (hf : f id = some u) (hw : (Lit.int .i64 id).wf = true) :
    Calls Try.prog 10 #[v, .int .i64 id, .int .i64 key] W fun e w' => e = .returned (.int .i64 0) ∧ ∃ x' : H, Holds x' (upd f id key) sz ∧ heap.M w' w.heap.size (fun k => w.heap.size ≤ k ∧ k ≠ bm) x' v ∧ w'.heap[bm]? = W.heap[bm]? ∧ bm < w'.heap.size ∧ Below w.heap.size w w' := by
  obtain ⟨h1, h2, h3, h4, h5⟩ := h
  obtain ⟨j, hj, e⟩ := h1.at hf
  refine (set_hit id key h2 hw h1.ok j hj (by rw [e])).mono ?_
  rintro e2 w' ⟨rfl, ⟨x', g, r, o, p, m⟩, hW⟩
  exact ⟨rfl, x', h1.set hj e g r o p, heap.mono (fun k hk => hk.elim (fun h => h) (fun h6 => ⟨Nat.le_trans h4.size h6, by have := h3.lt; omega⟩)) m, hW.block bm h3.lt (fun h6 => h6.2 rfl), Nat.lt_of_lt_of_le h3.lt hW.size, hW.below h4 (fun k hk => hk.1)⟩
theorem At1.told (h1 : Holds x f' sz') (h2 : heap.M W w.heap.size (fun k => w.heap.size ≤ k ∧ k ≠ bm) x v) (h4 : Below w.heap.size w W) (h5 : w.heap.size ≤ bm) (hg : W.grownBy W1 (some bm)) (hn : NowIs W1 bm f' sz') : At1 w v bm x f' sz' W1 := by
  have hW : Wrote W W1 (fun k => k = bm) := (Wrote.refl W _).grown hg (fun k hk => by cases hk; exact Or.inl rfl)
  exact ⟨h1, heap.mono (fun k hk => hk.1) (heap.move (fun k hk => hW.block k hk.2.2 (fun e => hk.1.2 e)) (heap.bound h2)), hn, hW.below h4 (fun k hk => by subst hk; exact h5), h5⟩
theorem At1.m (h : At1 w v bm x f sz W) : heap.M W w.heap.size (fun k => w.heap.size ≤ k ∧ k ≠ bm) x v := h.2.1
theorem At1.holds (h : At1 w v bm x f sz W) : Holds x f sz := h.1
theorem At1.below (h : At1 w v bm x f sz W) (hb : Below W.heap.size W W1) : At1 w v bm x f sz W1 :=
  ⟨h.1, heap.mono (fun k hk => hk.1) (heap.move (fun k hk => hb.block k hk.2.2) (heap.bound h.2.1)), h.2.2.1.move (hb.block bm h.2.2.1.lt), h.2.2.2.1.trans (hb.mono h.2.2.2.1.size), h.2.2.2.2⟩
end
set_option maxHeartbeats 4000000 in
set_option maxRecDepth 100000 in
theorem keys_walk (A : Option Addr) (cap : Nat) (l : List Int) {w : World} (hr : (Kd.int .i64).C w A l.length l) (hc : l.length ≤ cap) (hg : ∀ a ∈ l, (Lit.int .i64 a).wf = true) (A2 : Option Addr) (cap2 : Nat) (m : List Int) (hr2 : (Kd.int .i64).C w A2 m.length m) (hc2 : m.length ≤ cap2) (hg2 : ∀ a ∈ m, (Lit.int .i64 a).wf = true) (_ : World) :
    Calls Try.prog 3 #[.slice A l.length cap, .slice A2 m.length cap2] w fun e w' => e = .returned (.bool true) ∧ Below w.heap.size w w' := by
  have HC := Aside0.mk hr
  have HC2 := Aside0.mk hr2
  have HG2 := Aside0.mk hg2
  clear hr hg hr2 hg2
  by_cases hl : 100 < l.length
  · have hd : decide (100 < l.length) = true := decide_eq_true hl
    have hdi : decide ((100 : Int) < (l.length : Int)) = true := decide_eq_true (by omega)
    clear hl
    go_enter Try.func3, Try.ntmps3
    go_wp2_with (first | (go_at_call 8; (with_reducible refine (awake_calls _).mono ?_); rintro e w1 ⟨rfl, hb1⟩; have HB1 := Aside0.mk hb1; clear hb1))
    go_ret
    exact ⟨rfl, HB1.out⟩
  by_cases hlm : m.length = l.length
  rotate_left
  · have hd : decide (100 < l.length) = false := decide_eq_false hl
    have hdi : decide ((100 : Int) < (l.length : Int)) = false := decide_eq_false (by omega)
    have hd2 : ((m.length : Int) != (l.length : Int)) = true := by rw [bne, beq_eq_false_iff_ne.mpr (by omega)]; rfl
    have hd3 : (m.length != l.length) = true := by rw [bne, beq_eq_false_iff_ne.mpr hlm]; rfl
    clear hl
    go_enter Try.func3, Try.ntmps3
    go_wp2_with (first | (go_at_call 8; (with_reducible refine (awake_calls _).mono ?_); rintro e w1 ⟨rfl, hb1⟩; have HB1 := Aside0.mk hb1; clear hb1))
    go_ret
    exact ⟨rfl, HB1.out⟩
  · have hd : decide (100 < l.length) = false := decide_eq_false hl
    have hdi : decide ((100 : Int) < (l.length : Int)) = false := decide_eq_false (by omega)
    have hd2 : ((m.length : Int) != (l.length : Int)) = false := by rw [bne, beq_iff_eq.mpr (by omega)]; rfl
    have hd3 : (m.length != l.length) = false := by rw [bne, beq_iff_eq.mpr hlm]; rfl
    have HL := Aside0.mk hl
    have HLM := Aside0.mk hlm
    clear hl hlm
    have hu := Try.underlying27
    have hmm := @run_makeMap Try.prog
    go_enter Try.func3, Try.ntmps3
    go_wp2_with (first | (go_at_call 8; (with_reducible refine (awake_calls _).mono ?_); rintro e w1 ⟨rfl, hb1⟩; have HB1 := Aside0.mk hb1; clear hb1) | (go_at_call 9; (with_reducible refine (new1 (w0 := w) 100 false HB1.out).mono ?_); rintro e w2 ⟨g, rfl, h2⟩; have H2 := Aside0.mk h2; clear h2))
    clear hu hmm
    have hbb : Below w2.heap.size w2 (w2.alloc (.map #[] 0)) := below_alloc (Below.refl _ _) (.map #[] 0)
    have H3 := Aside0.mk (show At1 w (.pointer (some ⟨g, 0, none⟩)) w2.heap.size (newH 100 false) (fun _ => none) 0 (w2.alloc (.map #[] 0)) from
      ⟨holds_new, heap.mono (fun k hk => ⟨hk.1, by have := hk.2.2; omega⟩) (heap.move (fun k hk => hbb.block k hk.2.2) (heap.bound H2.out.m)), ⟨.map [], World.ownsMap_made w2 _ _ _, sees_empty, rfl⟩, H2.out.far.trans (hbb.mono H2.out.far.size), H2.out.far.size⟩)
    clear hbb
    generalize w2.alloc (.map #[] 0) = w3 at H3 ⊢
    obtain ⟨bm, hbm⟩ : ∃ bm : Nat, w2.heap.size = bm := ⟨_, rfl⟩
    rw [hbm] at H3 ⊢
    clear hbm
    generalize hv : (Value.pointer (some ⟨g, 0, none⟩)) = v at H2 H3 ⊢
    go_loopw [7] (fun i wr => RelK w l.length v bm i wr) (fun i _ => l.length - (intOf i).toNat)
    case atStart => exact ⟨0, newH 100 false, fun _ => none, 0, Nat.zero_le _, rfl, Nat.le_refl _, H3.out⟩
    case round =>
      obtain ⟨j, x, f, sz, hj, rfl, hsz, hA⟩ := hrel
      have HA := Aside0.mk hA
      have HSZ := Aside0.mk hsz
      have hj100 : j ≤ 100 := by have := HL.out; omega
      clear hA hsz H2 H3
      by_cases hlt : j < l.length
      · have hjm : j < m.length := by have := HLM.out; omega
        obtain ⟨a, ha16, hlow⟩ := low4 (l.getD j 0)
        obtain ⟨ad, hAd, hcell⟩ := Mine.read_at (Kd.C_below HC.out HA.out.2.2.2.1) hlt
        have HKEY := Aside0.mk (fun {W : World} (h : Below w.heap.size w W) => Mine.read_at (Kd.C_below HC2.out h) (show j < m.length by have := HLM.out; omega))
        have HWK := Aside0.mk (show (Lit.int .i64 (m.getD j 0)).wf = true from by
          have hjm : j < m.length := by have := HLM.out; omega
          refine HG2.out _ ?_
          rw [List.getD_eq_getElem?_getD, List.getElem?_eq_getElem hjm]
          exact List.getElem_mem hjm)
        subst hAd
        generalize l.getD j 0 = y at hcell hlow
        generalize m.getD j 0 = z at HKEY HWK
        obtain ⟨ad2, hAd2, hcell2⟩ := HKEY.out HA.out.2.2.2.1
        subst hAd2
        have HWF := Aside0.mk (show (Lit.int .i64 ((a : Nat) : Int)).wf = true from wf_small a (by omega))
        obtain ⟨D, hown, hsees, hsize⟩ := HA.out.2.2.1
        have HN := Aside0.mk hown
        have HS := Aside0.mk hsees
        have HZ := Aside0.mk hsize
        clear hown hsees hsize
        rcases hf : f (a : Int) with _ | u
        · have hhas : Go.Maps.has D (kl (a : Int)) = false := by rw [(HS.out _).1, hf]; rfl
          have HF := Aside0.mk hf
          clear hf
          go_wp2_with (first | (at_lookup; refine wpList_lookup_own_ok_int _ rfl _ _ 27 rfl 3 2 .i64 law Try.underlying27 Try.underlying2 (zero64 _) bm _ D rfl HN.out _ (kl (a : Int)) rfl (Go.Maps.keyOf_int_mk Try.underlying3 HWF.out) ?_; intro c hat hwc;  rw [hhas]; clear hat hwc) | (go_at_call 11; (with_reducible refine (HA.out.put (key := z) HF.out ⟨a, ha16, rfl⟩ HWF.out (by have := HSZ.out; have := HL.out; omega)).mono ?_); rintro e w4 ⟨rfl, x4, k1, k2, k3, k4, k5⟩; have K1 := Aside0.mk k1; have K2 := Aside0.mk k2; have K3 := Aside0.mk k3; have K5 := Aside0.mk k5; obtain ⟨ad3, hAd3, hcell3⟩ := HKEY.out k5; cases hAd3; clear k1 k2 k3 k4 k5) | (at_mapUpdate; refine wpList_mapUpdate_own _ rfl _ _ _ 27 rfl 3 2 law Try.underlying27 _ bm _ D rfl (own_move HN.out K3.out) (by have := HSZ.out; unfold maxLen; omega) _ _ (kl (a : Int)) rfl rfl (Go.Maps.keyOf_int_mk Try.underlying3 HWF.out) _ [] (plainElem_int Try.underlying2 HWK.out) ?_; intro w5 hown5 hgrow5; have H5 := Aside0.mk (At1.told K1.out K2.out K5.out HA.out.2.2.2.2 hgrow5 (by have h6 := NowIs.stored (own_move HN.out K3.out) HS.out HZ.out hown5; rw [HF.out] at h6; exact h6)); clear hown5 hgrow5))
          clear hhas hcell hcell2
          have HSZ5 := Aside0.mk (show (sz + 1) ≤ j + 1 from by have := HSZ.out; omega)
          have HSP5 := Aside0.mk (show 0 < (sz + 1) from Nat.succ_pos _)
          generalize (sz + 1) = sz5 at H5 HSZ5 HSP5
          generalize upd f (a : Int) z = f5 at H5
          obtain ⟨D5, hown5, hsees5, hsize5⟩ := H5.out.2.2.1
          have HN5 := Aside0.mk hown5
          have HS5 := Aside0.mk hsees5
          have HZ5 := Aside0.mk hsize5
          clear hown5 hsees5 hsize5 HN HS HZ HF HWK HKEY K1 K2 K3 K5 HA HSZ
          obtain ⟨wo, hwo⟩ : ∃ wo : World, wo = w5 := ⟨_, rfl⟩
          have HWO := Aside0.mk hwo
          clear hwo
          go_loopw [11, 12] (fun bv i wr => RelI f5 w5 bv i wr) (fun _ i _ => 16 - (intOf i).toNat)
          case atStart => exact ⟨rfl, 0, -1, Nat.zero_le _, rfl, rfl, Or.inl ⟨rfl, fun k hk => absurd hk (Nat.not_lt_zero k)⟩⟩
          case round =>
            obtain ⟨rfl, k, b, hk, rfl, rfl, hb⟩ := hrel
            have HBO := Aside0.mk hb
            clear hb
            by_cases hk16 : k < 16
            · have HWFK := Aside0.mk (show (Lit.int .i64 ((k : Nat) : Int)).wf = true from wf_small k (by omega))
              rcases hfk : f5 (k : Int) with _ | u5
              · have hhk : Go.Maps.has D5 (kl (k : Int)) = false := by rw [(HS5.out _).1, hfk]; rfl
                have HFK := Aside0.mk hfk
                clear hfk
                go_wp2_with (first | (at_lookup; refine wpList_lookup_own_ok_int _ rfl _ _ 27 rfl 3 2 .i64 law Try.underlying27 Try.underlying2 (zero64 _) bm _ D5 rfl HN5.out _ (kl (k : Int)) rfl (Go.Maps.keyOf_int_mk Try.underlying3 HWFK.out) ?_; intro c hat hwc;  rw [hhk]; clear hat hwc))
                exact ⟨⟨rfl, k + 1, b, by omega, by go_num, rfl, best_none HBO.out HFK.out⟩, by simp [intOf]; omega⟩
              · have hhk : Go.Maps.has D5 (kl (k : Int)) = true := by rw [(HS5.out _).1, hfk]; rfl
                have HFK := Aside0.mk hfk
                have HATK := Aside0.mk ((HS5.out (k : Int)).2 u5 hfk)
                clear hfk
                rcases best_of HBO.out with rfl | ⟨jb, vb, hjb, rfl, hfb⟩
                · go_wp2_with (first | (at_lookup; refine wpList_lookup_own_ok_int _ rfl _ _ 27 rfl 3 2 .i64 law Try.underlying27 Try.underlying2 (zero64 _) bm _ D5 rfl HN5.out _ (kl (k : Int)) rfl (Go.Maps.keyOf_int_mk Try.underlying3 HWFK.out) ?_; intro c hat hwc;  rw [hhk]; obtain rfl := lit_inj hat (HATK.out _); clear hat hwc))
                  exact ⟨⟨rfl, k + 1, (k : Int), by omega, by go_num, rfl, best_first HBO.out HFK.out⟩, by simp [intOf]; omega⟩
                · have HFB := Aside0.mk hfb
                  have HATB := Aside0.mk ((HS5.out (jb : Int)).2 vb hfb)
                  have HWFB := Aside0.mk (show (Lit.int .i64 ((jb : Nat) : Int)).wf = true from wf_small jb (by omega))
                  clear hfb
                  by_cases huv : u5 < vb
                  · have hduv : decide (u5 < vb) = true := decide_eq_true huv
                    go_wp2_with (first | (at_lookup; refine wpList_lookup_own_ok_int _ rfl _ _ 27 rfl 3 2 .i64 law Try.underlying27 Try.underlying2 (zero64 _) bm _ D5 rfl HN5.out _ (kl (k : Int)) rfl (Go.Maps.keyOf_int_mk Try.underlying3 HWFK.out) ?_; intro c hat hwc;  rw [hhk]; obtain rfl := lit_inj hat (HATK.out _); clear hat hwc) | (at_lookup; refine gate_guard (by rfl) ?_; refine wpList_lookup_own_int _ rfl _ _ 27 rfl 3 2 .i64 law Try.underlying27 Try.underlying2 (zero64 _) bm _ D5 rfl HN5.out _ (kl (jb : Int)) rfl (Go.Maps.keyOf_int_mk Try.underlying3 HWFB.out) ?_; intro c hat hwc;  obtain rfl := lit_inj hat (HATB.out _); clear hat hwc))
                    exact ⟨⟨rfl, k + 1, (k : Int), by omega, by go_num, rfl, best_less HBO.out HFK.out HFB.out huv⟩, by simp [intOf]; omega⟩
                  · have hduv : decide (u5 < vb) = false := decide_eq_false huv
                    go_wp2_with (first | (at_lookup; refine wpList_lookup_own_ok_int _ rfl _ _ 27 rfl 3 2 .i64 law Try.underlying27 Try.underlying2 (zero64 _) bm _ D5 rfl HN5.out _ (kl (k : Int)) rfl (Go.Maps.keyOf_int_mk Try.underlying3 HWFK.out) ?_; intro c hat hwc;  rw [hhk]; obtain rfl := lit_inj hat (HATK.out _); clear hat hwc) | (at_lookup; refine gate_guard (by rfl) ?_; refine wpList_lookup_own_int _ rfl _ _ 27 rfl 3 2 .i64 law Try.underlying27 Try.underlying2 (zero64 _) bm _ D5 rfl HN5.out _ (kl (jb : Int)) rfl (Go.Maps.keyOf_int_mk Try.underlying3 HWFB.out) ?_; intro c hat hwc;  obtain rfl := lit_inj hat (HATB.out _); clear hat hwc))
                    exact ⟨⟨rfl, k + 1, (jb : Int), by omega, by go_num, rfl, best_same HBO.out HFK.out HFB.out huv⟩, by simp [intOf]; omega⟩
            · obtain rfl : k = 16 := by omega
              obtain ⟨jb, vb, hjb, rfl, hfb, hxl, hat0⟩ := H5.out.1.top HSP5.out HBO.out
              have HXL := Aside0.mk hxl
              have HAT0 := Aside0.mk hat0
              have HATB := Aside0.mk ((HS5.out (jb : Int)).2 vb hfb)
              have HWFB := Aside0.mk (show (Lit.int .i64 ((jb : Nat) : Int)).wf = true from wf_small jb (by omega))
              clear hxl hat0 hfb hk16 hk
              go_upto_region 26 with (first | (go_at_call 12; (with_reducible refine (top_some H5.out.m HXL.out).mono ?_); rintro e w6 ⟨rfl, hb6⟩; rw [HAT0.out]; have HB6 := Aside0.mk hb6; clear hb6) | ((with_reducible refine gate_dst (N := 15) rfl ?_); refine box_event ?hg (N := 15) ?hd (cs := #[.int .i64 0, .int .i64 0]) (t := 32) ?hr ?_; (case hd => rfl); (case hg => rfl); (case hr => first | (go_simp; done) | (go_simp; rfl)); intro gx hgx w7 hx7 hb7; have HX7 := Aside0.mk hx7; have HB7 := Aside0.mk hb7; have HG7 := Aside0.mk hgx; have s0 := blk_cell hx7 0; have s1 := blk_cell hx7 1; have t0 := blk_frozen hx7 0; have t1 := blk_frozen hx7 1; clear hx7 hb7 hgx))
              have hb8 : Below wr.heap.size wr ((w7.setCell ⟨gx, 0, none⟩ (.int .i64 (jb : Int))).setCell ⟨gx, 1, none⟩ (.int .i64 vb)) := by
                have h1 : w6.heap.size ≤ gx := by have := HG7.out; omega
                have h2 : wr.heap.size ≤ gx := Nat.le_trans HB6.out.size h1
                exact ((HB6.out.trans (HB7.out.mono HB6.out.size)).setCell h2 _).setCell h2 _
              have H8 := Aside0.mk (H5.out.below hb8)
              have HN8 := Aside0.mk (own_move HN5.out (hb8.block bm H5.out.2.2.1.lt))
              have hx8 : ((w7.setCell ⟨gx, 0, none⟩ (.int .i64 (jb : Int))).setCell ⟨gx, 1, none⟩ (.int .i64 vb)).heap[gx]? = some (.cells #[.int .i64 (jb : Int), .int .i64 vb] 32 (0, 0)) := blk_put (cs := #[.int .i64 (jb : Int), .int .i64 0]) (blk_put (cs := #[.int .i64 0, .int .i64 0]) HX7.out 0 _ rfl) 1 _ rfl
              clear s0 s1 t0 t1 hb8
              generalize ((w7.setCell ⟨gx, 0, none⟩ (.int .i64 (jb : Int))).setCell ⟨gx, 1, none⟩ (.int .i64 vb)) = w8 at H8 HN8 hx8 ⊢
              have s0 := blk_cell hx8 0
              have s1 := blk_cell hx8 1
              clear hx8
              have e1 : ((jb : Int) != (jb : Int)) = false := by simp
              have e2 : (vb != vb) = false := by simp
              go_wp2_with (first | (at_lookup; refine gate_guard (by rfl) ?_; refine wpList_lookup_own_int _ rfl _ _ 27 rfl 3 2 .i64 law Try.underlying27 Try.underlying2 (zero64 _) bm _ D5 rfl HN8.out _ (kl (jb : Int)) rfl (Go.Maps.keyOf_int_mk Try.underlying3 HWFB.out) ?_; intro c hat hwc;  obtain rfl := lit_inj hat (HATB.out _); clear hat hwc) | (go_at_call 13; (with_reducible refine (len_calls H8.out.m).mono ?_); rintro e w9 ⟨rfl, rfl⟩; rw [H8.out.holds.len]) | (at_len; refine gate_guard (by rfl) ?_; refine wpList_len_own _ rfl _ 27 rfl 3 2 Try.underlying27 _ bm _ D5 rfl HN8.out ?_; rw [HZ5.out]))
              go_roundw
              case rel => exact ⟨j + 1, x4, f5, sz5, by omega, by go_num, HSZ5.out, H8.out⟩
              case measure => simp [intOf]; omega
        · have hhas : Go.Maps.has D (kl (a : Int)) = true := by rw [(HS.out _).1, hf]; rfl
          have HF := Aside0.mk hf
          clear hf
          go_wp2_with (first | (at_lookup; refine wpList_lookup_own_ok_int _ rfl _ _ 27 rfl 3 2 .i64 law Try.underlying27 Try.underlying2 (zero64 _) bm _ D rfl HN.out _ (kl (a : Int)) rfl (Go.Maps.keyOf_int_mk Try.underlying3 HWF.out) ?_; intro c hat hwc;  rw [hhas]; clear hat hwc) | (go_at_call 10; (with_reducible refine (HA.out.set (key := z) HF.out HWF.out).mono ?_); rintro e w4 ⟨rfl, x4, k1, k2, k3, k4, k5⟩; have K1 := Aside0.mk k1; have K2 := Aside0.mk k2; have K3 := Aside0.mk k3; have K5 := Aside0.mk k5; obtain ⟨ad3, hAd3, hcell3⟩ := HKEY.out k5; cases hAd3; clear k1 k2 k3 k4 k5) | (at_mapUpdate; refine wpList_mapUpdate_own _ rfl _ _ _ 27 rfl 3 2 law Try.underlying27 _ bm _ D rfl (own_move HN.out K3.out) (by have := HSZ.out; unfold maxLen; omega) _ _ (kl (a : Int)) rfl rfl (Go.Maps.keyOf_int_mk Try.underlying3 HWF.out) _ [] (plainElem_int Try.underlying2 HWK.out) ?_; intro w5 hown5 hgrow5; have H5 := Aside0.mk (At1.told K1.out K2.out K5.out HA.out.2.2.2.2 hgrow5 (by have h6 := NowIs.stored (own_move HN.out K3.out) HS.out HZ.out hown5; rw [HF.out] at h6; exact h6)); clear hown5 hgrow5))
          clear hhas hcell hcell2
          have HSZ5 := Aside0.mk (show sz ≤ j + 1 from by have := HSZ.out; omega)
          have HSP5 := Aside0.mk (show 0 < sz from by have h6 := HA.out.1.bwd _ _ HF.out; have h7 := HA.out.1.len; have h8 := List.length_pos_of_mem h6; omega)
          obtain ⟨sz5, hsz5⟩ : ∃ s : Nat, sz = s := ⟨_, rfl⟩
          rw [hsz5] at H5 HSZ5 HSP5
          generalize upd f (a : Int) z = f5 at H5
          obtain ⟨D5, hown5, hsees5, hsize5⟩ := H5.out.2.2.1
          have HN5 := Aside0.mk hown5
          have HS5 := Aside0.mk hsees5
          have HZ5 := Aside0.mk hsize5
          clear hown5 hsees5 hsize5 HN HS HZ HF HWK HKEY K1 K2 K3 K5 HA HSZ
          obtain ⟨wo, hwo⟩ : ∃ wo : World, wo = w5 := ⟨_, rfl⟩
          have HWO := Aside0.mk hwo
          clear hwo
          go_loopw [11, 12] (fun bv i wr => RelI f5 w5 bv i wr) (fun _ i _ => 16 - (intOf i).toNat)
          case atStart => exact ⟨rfl, 0, -1, Nat.zero_le _, rfl, rfl, Or.inl ⟨rfl, fun k hk => absurd hk (Nat.not_lt_zero k)⟩⟩
          case round =>
            obtain ⟨rfl, k, b, hk, rfl, rfl, hb⟩ := hrel
            have HBO := Aside0.mk hb
            clear hb
            by_cases hk16 : k < 16
            · have HWFK := Aside0.mk (show (Lit.int .i64 ((k : Nat) : Int)).wf = true from wf_small k (by omega))
              rcases hfk : f5 (k : Int) with _ | u5
              · have hhk : Go.Maps.has D5 (kl (k : Int)) = false := by rw [(HS5.out _).1, hfk]; rfl
                have HFK := Aside0.mk hfk
                clear hfk
                go_wp2_with (first | (at_lookup; refine wpList_lookup_own_ok_int _ rfl _ _ 27 rfl 3 2 .i64 law Try.underlying27 Try.underlying2 (zero64 _) bm _ D5 rfl HN5.out _ (kl (k : Int)) rfl (Go.Maps.keyOf_int_mk Try.underlying3 HWFK.out) ?_; intro c hat hwc;  rw [hhk]; clear hat hwc))
                exact ⟨⟨rfl, k + 1, b, by omega, by go_num, rfl, best_none HBO.out HFK.out⟩, by simp [intOf]; omega⟩
              · have hhk : Go.Maps.has D5 (kl (k : Int)) = true := by rw [(HS5.out _).1, hfk]; rfl
                have HFK := Aside0.mk hfk
                have HATK := Aside0.mk ((HS5.out (k : Int)).2 u5 hfk)
                clear hfk
                rcases best_of HBO.out with rfl | ⟨jb, vb, hjb, rfl, hfb⟩
                · go_wp2_with (first | (at_lookup; refine wpList_lookup_own_ok_int _ rfl _ _ 27 rfl 3 2 .i64 law Try.underlying27 Try.underlying2 (zero64 _) bm _ D5 rfl HN5.out _ (kl (k : Int)) rfl (Go.Maps.keyOf_int_mk Try.underlying3 HWFK.out) ?_; intro c hat hwc;  rw [hhk]; obtain rfl := lit_inj hat (HATK.out _); clear hat hwc))
                  exact ⟨⟨rfl, k + 1, (k : Int), by omega, by go_num, rfl, best_first HBO.out HFK.out⟩, by simp [intOf]; omega⟩
                · have HFB := Aside0.mk hfb
                  have HATB := Aside0.mk ((HS5.out (jb : Int)).2 vb hfb)
                  have HWFB := Aside0.mk (show (Lit.int .i64 ((jb : Nat) : Int)).wf = true from wf_small jb (by omega))
                  clear hfb
                  by_cases huv : u5 < vb
                  · have hduv : decide (u5 < vb) = true := decide_eq_true huv
                    go_wp2_with (first | (at_lookup; refine wpList_lookup_own_ok_int _ rfl _ _ 27 rfl 3 2 .i64 law Try.underlying27 Try.underlying2 (zero64 _) bm _ D5 rfl HN5.out _ (kl (k : Int)) rfl (Go.Maps.keyOf_int_mk Try.underlying3 HWFK.out) ?_; intro c hat hwc;  rw [hhk]; obtain rfl := lit_inj hat (HATK.out _); clear hat hwc) | (at_lookup; refine gate_guard (by rfl) ?_; refine wpList_lookup_own_int _ rfl _ _ 27 rfl 3 2 .i64 law Try.underlying27 Try.underlying2 (zero64 _) bm _ D5 rfl HN5.out _ (kl (jb : Int)) rfl (Go.Maps.keyOf_int_mk Try.underlying3 HWFB.out) ?_; intro c hat hwc;  obtain rfl := lit_inj hat (HATB.out _); clear hat hwc))
                    exact ⟨⟨rfl, k + 1, (k : Int), by omega, by go_num, rfl, best_less HBO.out HFK.out HFB.out huv⟩, by simp [intOf]; omega⟩
                  · have hduv : decide (u5 < vb) = false := decide_eq_false huv
                    go_wp2_with (first | (at_lookup; refine wpList_lookup_own_ok_int _ rfl _ _ 27 rfl 3 2 .i64 law Try.underlying27 Try.underlying2 (zero64 _) bm _ D5 rfl HN5.out _ (kl (k : Int)) rfl (Go.Maps.keyOf_int_mk Try.underlying3 HWFK.out) ?_; intro c hat hwc;  rw [hhk]; obtain rfl := lit_inj hat (HATK.out _); clear hat hwc) | (at_lookup; refine gate_guard (by rfl) ?_; refine wpList_lookup_own_int _ rfl _ _ 27 rfl 3 2 .i64 law Try.underlying27 Try.underlying2 (zero64 _) bm _ D5 rfl HN5.out _ (kl (jb : Int)) rfl (Go.Maps.keyOf_int_mk Try.underlying3 HWFB.out) ?_; intro c hat hwc;  obtain rfl := lit_inj hat (HATB.out _); clear hat hwc))
                    exact ⟨⟨rfl, k + 1, (jb : Int), by omega, by go_num, rfl, best_same HBO.out HFK.out HFB.out huv⟩, by simp [intOf]; omega⟩
            · obtain rfl : k = 16 := by omega
              obtain ⟨jb, vb, hjb, rfl, hfb, hxl, hat0⟩ := H5.out.1.top HSP5.out HBO.out
              have HXL := Aside0.mk hxl
              have HAT0 := Aside0.mk hat0
              have HATB := Aside0.mk ((HS5.out (jb : Int)).2 vb hfb)
              have HWFB := Aside0.mk (show (Lit.int .i64 ((jb : Nat) : Int)).wf = true from wf_small jb (by omega))
              clear hxl hat0 hfb hk16 hk
              go_upto_region 26 with (first | (go_at_call 12; (with_reducible refine (top_some H5.out.m HXL.out).mono ?_); rintro e w6 ⟨rfl, hb6⟩; rw [HAT0.out]; have HB6 := Aside0.mk hb6; clear hb6) | ((with_reducible refine gate_dst (N := 15) rfl ?_); refine box_event ?hg (N := 15) ?hd (cs := #[.int .i64 0, .int .i64 0]) (t := 32) ?hr ?_; (case hd => rfl); (case hg => rfl); (case hr => first | (go_simp; done) | (go_simp; rfl)); intro gx hgx w7 hx7 hb7; have HX7 := Aside0.mk hx7; have HB7 := Aside0.mk hb7; have HG7 := Aside0.mk hgx; have s0 := blk_cell hx7 0; have s1 := blk_cell hx7 1; have t0 := blk_frozen hx7 0; have t1 := blk_frozen hx7 1; clear hx7 hb7 hgx))
              have hb8 : Below wr.heap.size wr ((w7.setCell ⟨gx, 0, none⟩ (.int .i64 (jb : Int))).setCell ⟨gx, 1, none⟩ (.int .i64 vb)) := by
                have h1 : w6.heap.size ≤ gx := by have := HG7.out; omega
                have h2 : wr.heap.size ≤ gx := Nat.le_trans HB6.out.size h1
                exact ((HB6.out.trans (HB7.out.mono HB6.out.size)).setCell h2 _).setCell h2 _
              have H8 := Aside0.mk (H5.out.below hb8)
              have HN8 := Aside0.mk (own_move HN5.out (hb8.block bm H5.out.2.2.1.lt))
              have hx8 : ((w7.setCell ⟨gx, 0, none⟩ (.int .i64 (jb : Int))).setCell ⟨gx, 1, none⟩ (.int .i64 vb)).heap[gx]? = some (.cells #[.int .i64 (jb : Int), .int .i64 vb] 32 (0, 0)) := blk_put (cs := #[.int .i64 (jb : Int), .int .i64 0]) (blk_put (cs := #[.int .i64 0, .int .i64 0]) HX7.out 0 _ rfl) 1 _ rfl
              clear s0 s1 t0 t1 hb8
              generalize ((w7.setCell ⟨gx, 0, none⟩ (.int .i64 (jb : Int))).setCell ⟨gx, 1, none⟩ (.int .i64 vb)) = w8 at H8 HN8 hx8 ⊢
              have s0 := blk_cell hx8 0
              have s1 := blk_cell hx8 1
              clear hx8
              have e1 : ((jb : Int) != (jb : Int)) = false := by simp
              have e2 : (vb != vb) = false := by simp
              go_wp2_with (first | (at_lookup; refine gate_guard (by rfl) ?_; refine wpList_lookup_own_int _ rfl _ _ 27 rfl 3 2 .i64 law Try.underlying27 Try.underlying2 (zero64 _) bm _ D5 rfl HN8.out _ (kl (jb : Int)) rfl (Go.Maps.keyOf_int_mk Try.underlying3 HWFB.out) ?_; intro c hat hwc;  obtain rfl := lit_inj hat (HATB.out _); clear hat hwc) | (go_at_call 13; (with_reducible refine (len_calls H8.out.m).mono ?_); rintro e w9 ⟨rfl, rfl⟩; rw [H8.out.holds.len]) | (at_len; refine gate_guard (by rfl) ?_; refine wpList_len_own _ rfl _ 27 rfl 3 2 Try.underlying27 _ bm _ D5 rfl HN8.out ?_; rw [HZ5.out]))
              go_roundw
              case rel => exact ⟨j + 1, x4, f5, sz5, by omega, by go_num, HSZ5.out, H8.out⟩
              case measure => simp [intOf]; omega
      · have hje : j = l.length := by omega
        subst hje
        clear hlt hj
        go_wp2
        go_ret
        exact ⟨rfl, HA.out.2.2.2.1⟩
end Go.Proofs.Ytkpjijbkiambiaa.Heap
