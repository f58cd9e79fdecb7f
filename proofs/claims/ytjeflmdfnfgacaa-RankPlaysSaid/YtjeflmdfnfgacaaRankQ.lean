/- RankPlays: any calls: who is where, who is last, is as the document says (the walk; no condition). -/
import Derived.Test.YtjeflmdfnfgacaaRankB
import Derived.Test.YtjeflmdfnfgacaaRankE
import Derived.Test.YtjeflmdfnfgacaaQx34
import Derived.Deep.CutBlock
import Derived.Deep.CutRange
import Derived.Test.YtjeflmdfnfgacaaReg
import Derived.Test.YtjeflmdfnfgacaaQx27
namespace Go.Proofs.Ytjeflmdfnfgacaa.Rank
open Go.RowKit Go.Proofs.YtjeflmdfnfgacaaW.PrintWords Go.Proofs.YtjeflmdfnfgacaaW.PrintLast Go.Proofs.YtjeflmdfnfgacaaW.PrintMore Go.Proofs.Ytjeflmdfnfgacaa.St Go.Proofs.Ytjeflmdfnfgacaa.Q Go.Proofs.Ytjeflmdfnfgacaa.Heap
set_option linter.unusedVariables false
set_option linter.unusedSimpArgs false
attribute [local go_sem] max2_int min2_int max_two min_two max_three min_three max_four min_four

theorem blk_ne {W : World} {b : Nat} {c : Nat → Nat} {i1 i2 g1 g2 : Nat} {o1 o2 : Obj} (h1 : blk.M W b (fun k => c k = i1) o1 (.pointer (some ⟨g1, 0, none⟩))) (h2 : blk.M W b (fun k => c k = i2) o2 (.pointer (some ⟨g2, 0, none⟩))) (hi : i1 ≠ i2) : g1 ≠ g2 := by
  obtain ⟨a1, e1, e2, _⟩ := h1
  obtain ⟨a2, e3, e4, _⟩ := h2
  injection e1 with e1; injection e1 with e1; injection e1 with e1
  injection e3 with e3; injection e3 with e3; injection e3 with e3
  subst e1; subst e3
  intro e
  subst e
  have e2 : c g1 = i1 := e2
  have e4 : c g1 = i2 := e4
  omega
theorem then_self (Q : Exit → Act → World → Prop) : Exit.then (Q .normal) Q = Q := by
  funext e a w
  cases e <;> rfl
theorem wp_tail {P : Program} {c : Code} {Q : Exit → Act → World → Prop} {a : Act} {w : World} (h : Code.wp P c (Exit.then (Q .normal) Q) a w) : Code.wp P c Q a w := by
  rw [then_self] at h
  exact h
theorem at_size {cs : Array Value} {z k : Nat} (h : cs.size = z) (hk : k < z) : ∃ u, cs[k]? = some u := ⟨_, Array.getElem?_eq_getElem (by omega)⟩
set_option maxHeartbeats 16000000 in
set_option maxRecDepth 100000 in
theorem plays_main (cpus : Int) (n : Nat) (A : Option Addr) (cap : Nat) (l : List (Int × Int × Int × Int × Bool)) {w : World} (hr : (Kd.pair (Kd.int .i64) (Kd.pair (Kd.int .i64) (Kd.pair (Kd.int .i64) (Kd.pair (Kd.int .i64) Kd.bool)))).C w A l.length l) (hn : cpus = (n : Int)) (h1 : 1 ≤ n) (h2 : n ≤ 64) (hl : ¬ 80 < (l.length : Int)) :
    Calls Try.prog 4 #[.int .i64 cpus, .slice A l.length cap] w fun e w' => e = .returned (.bool true) ∧ Below w.heap.size w w' := by
  have HC := Aside0.mk hr
  have HL := Aside0.mk (show l.length ≤ 80 from by omega)
  have HN := Aside0.mk (show cpus = (n : Int) ∧ 1 ≤ n ∧ n ≤ 64 from ⟨hn, h1, h2⟩)
  have p0 : decide (cpus < 1) = false := decide_eq_false (by omega)
  have p1 : decide (64 < cpus) = false := decide_eq_false (by omega)
  have p2 : decide (80 < (l.length : Int)) = false := decide_eq_false hl
  have p3 : decide (80 < l.length) = false := decide_eq_false (by omega)
  clear hr hn h1 h2 hl
  go_enter Try.func4, Try.ntmps4
  go_wp2_with (first | (go_at_call 6; (with_reducible refine (awake_calls _).mono ?_); rintro e w1 ⟨rfl, hb1⟩; have B1 := Aside0.mk hb1; clear hb1) | (go_at_call 7; (with_reducible refine (newL (w0 := w) (fun _ => 9) 0 cpus n (List.replicate n none) HN.out.1 rfl HN.out.2.1 HN.out.2.2 B1.out).mono ?_); rintro e w2 ⟨gn, rfl, c2, h2, t2⟩; have H2 := Aside0.mk h2; have B2 := Aside0.mk (t2.far B1.out); clear h2 t2) | ((with_reducible refine gate_dst (N := 7) rfl ?_); refine box_event ?hg (N := 7) ?hd (cs := zw) (t := 44) ?hr ?_; (case hd => rfl); (case hg => rfl); (case hr => first | (go_simp; done) | (go_simp; rfl) | kernel_rfl); intro gw hg7 w7 hx7 hb7; have HX7 := Aside0.mk hx7; have HB7 := Aside0.mk hb7; have HG7 := Aside0.mk hg7; clear hx7 hb7 hg7) | ((with_reducible refine gate_dst (N := 8) rfl ?_); refine box_event ?hg (N := 8) ?hd (cs := Array.replicate 64 (.bool false)) (t := 45) ?hr ?_; (case hd => rfl); (case hg => rfl); (case hr => first | (go_simp; done) | (go_simp; rfl) | kernel_rfl); intro gi hg8 w8 hx8 hb8; have HX8 := Aside0.mk hx8; have HB8 := Aside0.mk hb8; have HG8 := Aside0.mk hg8; clear hx8 hb8 hg8))
  obtain ⟨c7, h7, t7⟩ := blk_new1 (w0 := w) c2 1 (Nat.le_of_eq HG7.out.symm) HX7.out HB7.out (Below.size B2.out)
  have R7 := Aside0.mk (t7.keep _ rank 0 _ _ (by decide) H2.out)
  have W7 := Aside0.mk h7
  have B7 := Aside0.mk (t7.far B2.out)
  obtain ⟨c8, h8, t8⟩ := blk_new1 (w0 := w) c7 2 (Nat.le_of_eq HG8.out.symm) HX8.out HB8.out (Below.size B7.out)
  have P8 := Aside0.mk (show PS w n (.pointer (some ⟨gn, 0, none⟩)) gw gi c8 (List.replicate n none) zw (Array.replicate 64 (.bool false)) w8 from
    ⟨good_new n, List.length_replicate, t8.keep _ rank 0 _ _ (by decide) R7.out, t8.keep _ blk 1 _ _ (by decide) W7.out, h8, wOk_new _ _ zw_size, iOk_new n, t8.far B7.out⟩)
  clear h7 t7 h8 t8 R7 W7 B7 H2 B2 HG7 HX7 HB7 HG8 HX8 HB8
  generalize hv : (Value.pointer (some ⟨gn, 0, none⟩)) = v at P8 ⊢
  go_loopw [9] (fun i wr => RelP w l.length n v gw gi i wr) (fun i _ => l.length - (intOf i).toNat)
  case atStart => exact ⟨0, c8, _, _, _, Nat.zero_le _, rfl, P8.out⟩
  case round =>
    obtain ⟨j, c, s, csw, csi, hj, rfl, hP⟩ := hrel
    have HP := Aside0.mk hP
    have hj80 : j ≤ 80 := by have := HL.out; omega
    clear hP P8
    by_cases hlt : j < l.length
    · obtain ⟨ad, hAd⟩ := some_ad5 HC.out hlt
      subst hAd
      obtain ⟨x1, x2, x3, x4, x5, hx⟩ : ∃ x1 x2 x3 x4 x5, l.getD j (0, 0, 0, 0, false) = (x1, x2, x3, x4, x5) := ⟨_, _, _, _, _, rfl⟩
      obtain ⟨a0, a1, a2, a3, a4⟩ := read_act5 (Kd.C_below HC.out HP.out.far) hlt hx
      clear hx
      have bq : (0 ≤ (j : Int) ∧ (j : Int) < (l.length : Int)) := by omega
      go_upto_region 14 with (first | ((with_reducible refine gate_dst (N := 10) rfl ?_); refine box_event ?hg (N := 10) ?hd (cs := #[.int .i64 0, .int .i64 0, .int .i64 0, .int .i64 0, .bool false]) (t := 47) ?hr ?_; (case hd => rfl); (case hg => rfl); (case hr => first | (go_simp; done) | (go_simp; rfl) | kernel_rfl); intro g10 hg10 w10 hx10 hb10; have HX10 := Aside0.mk hx10; have HB10 := Aside0.mk hb10; have HG10 := Aside0.mk hg10; have r010 := blk_cell hx10 0; have q010 := blk_frozen hx10 0; have r110 := blk_cell hx10 1; have q110 := blk_frozen hx10 1; have r210 := blk_cell hx10 2; have q210 := blk_frozen hx10 2; have r310 := blk_cell hx10 3; have q310 := blk_frozen hx10 3; have r410 := blk_cell hx10 4; have q410 := blk_frozen hx10 4; clear hx10 hb10 hg10))
      have hz10 : wr.heap.size ≤ g10 := Nat.le_of_eq HG10.out.symm
      have hb11 : Below wr.heap.size wr (((((w10.setCell ⟨g10, 0, none⟩ (.int .i64 x1)).setCell ⟨g10, 1, none⟩ (.int .i64 x2)).setCell ⟨g10, 2, none⟩ (.int .i64 x3)).setCell ⟨g10, 3, none⟩ (.int .i64 x4)).setCell ⟨g10, 4, none⟩ (.bool x5)) := (((((HB10.out.setCell hz10 _).setCell hz10 _).setCell hz10 _).setCell hz10 _).setCell hz10 _)
      have hx11 : (((((w10.setCell ⟨g10, 0, none⟩ (.int .i64 x1)).setCell ⟨g10, 1, none⟩ (.int .i64 x2)).setCell ⟨g10, 2, none⟩ (.int .i64 x3)).setCell ⟨g10, 3, none⟩ (.int .i64 x4)).setCell ⟨g10, 4, none⟩ (.bool x5)).heap[g10]? = some (.cells #[.int .i64 x1, .int .i64 x2, .int .i64 x3, .int .i64 x4, .bool x5] 47 (0, 0)) := (blk_put (cs := #[.int .i64 x1, .int .i64 x2, .int .i64 x3, .int .i64 x4, .bool false]) (blk_put (cs := #[.int .i64 x1, .int .i64 x2, .int .i64 x3, .int .i64 0, .bool false]) (blk_put (cs := #[.int .i64 x1, .int .i64 x2, .int .i64 0, .int .i64 0, .bool false]) (blk_put (cs := #[.int .i64 x1, .int .i64 0, .int .i64 0, .int .i64 0, .bool false]) (blk_put (cs := #[.int .i64 0, .int .i64 0, .int .i64 0, .int .i64 0, .bool false]) HX10.out 0 _ rfl) 1 _ rfl) 2 _ rfl) 3 _ rfl) 4 _ rfl)
      clear r010 r110 r210 r310 r410 q010 q110 q210 q310 q410 a0 a1 a2 a3 a4
      generalize (((((w10.setCell ⟨g10, 0, none⟩ (.int .i64 x1)).setCell ⟨g10, 1, none⟩ (.int .i64 x2)).setCell ⟨g10, 2, none⟩ (.int .i64 x3)).setCell ⟨g10, 3, none⟩ (.int .i64 x4)).setCell ⟨g10, 4, none⟩ (.bool x5)) = w11 at hb11 hx11 ⊢
      obtain ⟨c11, h11, t11⟩ := blk_new1 (w0 := w) c 3 hz10 hx11 hb11 (Below.size HP.out.far)
      have P11 := Aside0.mk (HP.out.turn t11)
      have X11 := Aside0.mk (show blk.M w11 w.heap.size (fun k => c11 k = 3) (.cells #[.int .i64 x1, .int .i64 x2, .int .i64 x3, .int .i64 x4, .bool x5] 47 (0, 0)) (.pointer (some ⟨g10, 0, none⟩)) from h11)
      clear h11 t11 hb11 hx11 hz10 HP HB10 HX10 HG10
      have y0 := blk_cell (blk_at X11.out) 0
      have y1 := blk_cell (blk_at X11.out) 1
      have y2 := blk_cell (blk_at X11.out) 2
      have y3 := blk_cell (blk_at X11.out) 3
      have y4 := blk_cell (blk_at X11.out) 4
      obtain ⟨gd, hgd⟩ : ∃ gd, (decide (0 ≤ x2) && decide (x2 < cpus)) = gd := ⟨_, rfl⟩
      have GD := Aside0.mk hgd
      clear hgd
      go_cut [11] from 75 to 83 (fun a wx => wx = w11 ∧ a = .bool gd)
      case first =>
        by_cases g0 : 0 ≤ x2
        · have o0 : decide (0 ≤ x2) = true := decide_eq_true g0
          by_cases g1 : x2 < cpus
          · have o1 : decide (x2 < cpus) = true := decide_eq_true g1
            have HE := Aside0.mk (show gd = true from by rw [← GD.out, o0, o1]; rfl)
            clear g0 g1
            go_wp2
            go_meet
            exact ⟨rfl, by rw [HE.out]⟩
          · have o1 : decide (x2 < cpus) = false := decide_eq_false g1
            have HE := Aside0.mk (show gd = false from by rw [← GD.out, o0, o1]; rfl)
            clear g0 g1
            go_wp2
            go_meet
            exact ⟨rfl, by rw [HE.out]⟩
        · have o0 : decide (0 ≤ x2) = false := decide_eq_false g0
          have HE := Aside0.mk (show gd = false from by rw [← GD.out, o0]; rfl)
          clear g0
          go_wp2
          go_meet
          exact ⟨rfl, by rw [HE.out]⟩
      case rest =>
        obtain ⟨hw, rfl⟩ := hcut
        subst hw
        go_upto_region 15 with (fail)
        go_wp2
        obtain ⟨wo, hwo⟩ : ∃ wo : World, wo = wc := ⟨_, rfl⟩
        go_loopw [12, 13] (fun a k wz => RelAt wc s x3 n a k wz) (fun _ k _ => n - (intOf k).toNat)
        case atStart => exact ⟨0, Nat.zero_le _, rfl, rfl, Below.refl _ _⟩
        case round =>
          obtain ⟨q, hq, rfl, rfl, hBz⟩ := hrel
          have PZ := Aside0.mk (P11.out.below hBz)
          have XZ := Aside0.mk (St.below (s := blk) X11.out hBz)
          have BZ := Aside0.mk hBz
          clear hBz y0 y1 y2 y3 y4
          have y2 := blk_cell (blk_at XZ.out) 2
          have hq64 : q ≤ 64 := by have := HN.out; omega
          by_cases hqn : q < n
          · have pq : decide ((q : Int) < cpus) = true := decide_eq_true (by have := HN.out; omega)
            have bq : (0 ≤ (q : Int) ∧ (q : Int) < 64) := by have := HN.out; omega
            obtain ⟨i0, _⟩ := PZ.out.icell (k := q) (by have := HN.out; omega)
            cases hs : s.getD q none with
            | none =>
              have hb : inB s q = false := by unfold inB; rw [hs]; rfl
              have HA := Aside0.mk (show atUp s x3 (q + 1) = atUp s x3 q from by rw [atUp, if_neg]; unfold hasId; rw [hs]; exact Bool.false_ne_true)
              rw [hb] at i0
              clear hb hs
              generalize atUp s x3 q = aq at *
              go_upto_region 19 with (fail)
              go_quiet (fail)
              go_wp2
              exact ⟨⟨q + 1, by omega, by go_num, by rw [HA.out], pw_below_drewN BZ.out _⟩, by simp [intOf]; omega⟩
            | some e =>
              obtain ⟨e1, e2, e3⟩ := e
              have hb : inB s q = true := by unfold inB; rw [hs]; rfl
              rw [hb] at i0
              obtain ⟨k0, _, _⟩ := PZ.out.wcell hs
              by_cases he : e1 = x3
              · have HA := Aside0.mk (show atUp s x3 (q + 1) = (q : Int) from by rw [atUp, if_pos]; unfold hasId; rw [hs]; exact beq_iff_eq.2 he)
                have pe : (e1 == x3) = true := beq_iff_eq.2 he
                clear hb hs he
                go_upto_region 19 with (fail)
                go_quiet (fail)
                go_wp2
                exact ⟨⟨q + 1, by omega, by go_num, by rw [HA.out], pw_below_drewN BZ.out _⟩, by simp [intOf]; omega⟩
              · have HA := Aside0.mk (show atUp s x3 (q + 1) = atUp s x3 q from by rw [atUp, if_neg]; unfold hasId; rw [hs]; exact fun h => he (beq_iff_eq.1 h))
                have pe : (e1 == x3) = false := beq_eq_false_iff_ne.2 he
                clear hb hs he
                generalize atUp s x3 q = aq at *
                go_upto_region 19 with (fail)
                go_quiet (fail)
                go_wp2
                exact ⟨⟨q + 1, by omega, by go_num, by rw [HA.out], pw_below_drewN BZ.out _⟩, by simp [intOf]; omega⟩
          · have pq : decide ((q : Int) < cpus) = false := decide_eq_false (by have := HN.out; omega)
            have hqn' : q = n := by omega
            have y0 := blk_cell (blk_at XZ.out) 0
            have y1 := blk_cell (blk_at XZ.out) 1
            have y3 := blk_cell (blk_at XZ.out) 3
            have y4 := blk_cell (blk_at XZ.out) 4
            have pn : decide ((n : Int) < cpus) = false := decide_eq_false (by have := HN.out; omega)
            rw [hqn']
            clear hqn' hq
            generalize hAT : atUp s x3 n = at0
            have AT := Aside0.mk hAT
            clear hAT
            obtain ⟨op, po⟩ : ∃ op, (x1 == 0) = op := ⟨_, rfl⟩
            go_upto_if 105 with (fail)
            clear po
            go_cut [14, 15] from 106 to 169 (fun _ _ wd => ∃ (c2 : Nat → Nat) (s2 : List (Option Ent)) (csw2 csi2 : Array Value), PS w n v gw gi c2 s2 csw2 csi2 wd)
            case first =>
              as_aux_lemma =>
              cases op with
              | true =>
                cases gd with
                | true =>
                  as_aux_lemma =>
                  have g01 : 0 ≤ x2 ∧ x2 < cpus := by have h := GD.out; rw [Bool.and_eq_true, decide_eq_true_eq, decide_eq_true_eq] at h; exact h
                  obtain ⟨p, rfl⟩ : ∃ p : Nat, x2 = (p : Int) := ⟨x2.toNat, by omega⟩
                  have hp64 : p < 64 := by have := HN.out; omega
                  by_cases g3 : x3 < 0
                  · have d3 : decide (x3 < 0) = true := decide_eq_true g3
                    have SV := Aside0.mk (show setv s (p : Int) (x3, x4, x5) = (1, s) from (set_says PZ.out.good (p : Int) (x3, x4, x5)).1 (Or.inr (Or.inl g3)))
                    clear g3
                    go_upto_region 26 with (first | (go_at_call 8; (with_reducible refine (setC (p : Int) x3 x4 x5 PZ.out.st (Below.size PZ.out.far)).mono ?_); rintro e w20 ⟨rfl, c20, h20, t20⟩; rw [show setv s (p : Int) (x3, x4, x5) = (1, s) from SV.out] at h20 ⊢; have H20 := Aside0.mk h20; have T20 := Aside0.mk t20; clear h20 t20 y0 y1 y2 y3 y4))
                    have P20 := Aside0.mk (PZ.out.same H20.out T20.out)
                    have X20 := Aside0.mk (T20.out.keep _ blk 3 _ _ (by decide) XZ.out)
                    have y1 := blk_cell (blk_at X20.out) 1
                    have y2 := blk_cell (blk_at X20.out) 2
                    go_wp2
                    go_meet
                    exact ⟨c20, s, csw, csi, P20.out⟩
                  · have d3 : decide (x3 < 0) = false := decide_eq_false g3
                    by_cases g4 : 1023 < x3
                    · have d4 : decide (1023 < x3) = true := decide_eq_true g4
                      have SV := Aside0.mk (show setv s (p : Int) (x3, x4, x5) = (1, s) from (set_says PZ.out.good (p : Int) (x3, x4, x5)).1 (Or.inr (Or.inr g4)))
                      clear g3 g4
                      go_upto_region 26 with (first | (go_at_call 8; (with_reducible refine (setC (p : Int) x3 x4 x5 PZ.out.st (Below.size PZ.out.far)).mono ?_); rintro e w20 ⟨rfl, c20, h20, t20⟩; rw [show setv s (p : Int) (x3, x4, x5) = (1, s) from SV.out] at h20 ⊢; have H20 := Aside0.mk h20; have T20 := Aside0.mk t20; clear h20 t20 y0 y1 y2 y3 y4))
                      have P20 := Aside0.mk (PZ.out.same H20.out T20.out)
                      have X20 := Aside0.mk (T20.out.keep _ blk 3 _ _ (by decide) XZ.out)
                      have y1 := blk_cell (blk_at X20.out) 1
                      have y2 := blk_cell (blk_at X20.out) 2
                      go_wp2
                      go_meet
                      exact ⟨c20, s, csw, csi, P20.out⟩
                    · have d4 : decide (1023 < x3) = false := decide_eq_false g4
                      by_cases g5 : 0 ≤ at0
                      · have d5 : decide (0 ≤ at0) = true := decide_eq_true g5
                        by_cases g6 : at0 ≠ (p : Int)
                        · as_aux_lemma =>
                          have d6 : (at0 != (p : Int)) = true := bne_iff_ne.2 g6
                          have SV := Aside0.mk (show setv s (p : Int) (x3, x4, x5) = (5, s) from (set_says PZ.out.good (p : Int) (x3, x4, x5)).2.1 (by rw [PZ.out.len]; rintro (g | g | g); exact g (by have := HN.out; omega); omega; omega) (by rw [(show atUp s x3 s.length = at0 from by rw [PZ.out.len]; exact AT.out)]; exact ⟨g5, g6⟩))
                          clear g3 g4 g5 g6
                          go_upto_region 26 with (first | (go_at_call 8; (with_reducible refine (setC (p : Int) x3 x4 x5 PZ.out.st (Below.size PZ.out.far)).mono ?_); rintro e w20 ⟨rfl, c20, h20, t20⟩; rw [show setv s (p : Int) (x3, x4, x5) = (5, s) from SV.out] at h20 ⊢; have H20 := Aside0.mk h20; have T20 := Aside0.mk t20; clear h20 t20 y0 y1 y2 y3 y4))
                          have P20 := Aside0.mk (PZ.out.same H20.out T20.out)
                          have X20 := Aside0.mk (T20.out.keep _ blk 3 _ _ (by decide) XZ.out)
                          have y1 := blk_cell (blk_at X20.out) 1
                          have y2 := blk_cell (blk_at X20.out) 2
                          go_wp2
                          go_meet
                          exact ⟨c20, s, csw, csi, P20.out⟩
                        · as_aux_lemma =>
                          have d6 : (at0 != (p : Int)) = false := bne_eq_false_iff_eq.2 (Classical.not_not.1 g6)
                          have SV := Aside0.mk (show setv s (p : Int) (x3, x4, x5) = (0, s.set p (some (x3, x4, x5))) from by have h := (set_says PZ.out.good (p : Int) (x3, x4, x5)).2.2 (by rw [PZ.out.len]; rintro (g | g | g); exact g (by have := HN.out; omega); omega; omega) (by rw [(show atUp s x3 s.length = at0 from by rw [PZ.out.len]; exact AT.out)]; exact fun g => g6 g.2); rw [Int.toNat_natCast] at h; exact h)
                          have HG := Aside0.mk (show Good (s.set p (some (x3, x4, x5))) from by have h := good_setv PZ.out.good (p : Int) (x3, x4, x5); rw [SV.out] at h; exact h)
                          clear g3 g4 g5
                          go_upto_region 26 with (first | (go_at_call 8; (with_reducible refine (setC (p : Int) x3 x4 x5 PZ.out.st (Below.size PZ.out.far)).mono ?_); rintro e w20 ⟨rfl, c20, h20, t20⟩; rw [show setv s (p : Int) (x3, x4, x5) = (0, (s.set p (some (x3, x4, x5)))) from SV.out] at h20 ⊢; have H20 := Aside0.mk h20; have T20 := Aside0.mk t20; clear h20 t20 y0 y1 y2 y3 y4))
                          have X20 := Aside0.mk (T20.out.keep _ blk 3 _ _ (by decide) XZ.out)
                          have W20 := Aside0.mk (show blk.M w20 w.heap.size (fun k => c20 k = 1) (.cells csw 44 (0, 0)) (.pointer (some ⟨gw, 0, none⟩)) from T20.out.keep _ blk 1 _ _ (by decide) PZ.out.aw)
                          have I20 := Aside0.mk (show blk.M w20 w.heap.size (fun k => c20 k = 2) (.cells csi 45 (0, 0)) (.pointer (some ⟨gi, 0, none⟩)) from T20.out.keep _ blk 2 _ _ (by decide) PZ.out.ai)
                          have y1 := blk_cell (blk_at X20.out) 1
                          have y2 := blk_cell (blk_at X20.out) 2
                          have y3 := blk_cell (blk_at X20.out) 3
                          have y4 := blk_cell (blk_at X20.out) 4
                          have b64 : (0 ≤ (p : Int) ∧ (p : Int) < 64) := by have := HN.out; omega
                          obtain ⟨u0, hu0⟩ := at_size PZ.out.wok.1 (show p * 3 < 192 by omega)
                          obtain ⟨u1, hu1⟩ := at_size PZ.out.wok.1 (show p * 3 + 1 < 192 by omega)
                          obtain ⟨u2, hu2⟩ := at_size PZ.out.wok.1 (show p * 3 + 2 < 192 by omega)
                          have k0 := (blk_cell (blk_at W20.out) (p * 3)).trans hu0
                          have k1 := (blk_cell (blk_at W20.out) (p * 3 + 1)).trans hu1
                          have k2 := (blk_cell (blk_at W20.out) (p * 3 + 2)).trans hu2
                          clear hu0 hu1 hu2
                          have k3 := blk_frozen (blk_at W20.out) (p * 3)
                          have k4 := blk_frozen (blk_at W20.out) (p * 3 + 1)
                          have k5 := blk_frozen (blk_at W20.out) (p * 3 + 2)
                          have k6 := (blk_cell (blk_at I20.out) p).trans (PZ.out.iok.2 p (by omega))
                          have k7 := blk_frozen (blk_at I20.out) p
                          have n0 : gw ≠ gi := blk_ne W20.out I20.out (by decide)
                          have n1 : gi ≠ gw := fun e => n0 e.symm
                          have n2 : gw ≠ g10 := blk_ne W20.out X20.out (by decide)
                          have n3 : g10 ≠ gw := fun e => n2 e.symm
                          have n4 : gi ≠ g10 := blk_ne I20.out X20.out (by decide)
                          have n5 : g10 ≠ gi := fun e => n4 e.symm
                          go_upto_region 23 with (fail)
                          go_region
                          go_wp2
                          go_meet
                          obtain ⟨c21, h21⟩ := PZ.out.filled (show p < n by have := HN.out; omega) HN.out.2.2 HG.out H20.out T20.out
                          exact ⟨c21, _, _, _, h21.below (below_drew (Below.refl _ _))⟩
                      · as_aux_lemma =>
                        have d5 : decide (0 ≤ at0) = false := decide_eq_false g5
                        have SV := Aside0.mk (show setv s (p : Int) (x3, x4, x5) = (0, s.set p (some (x3, x4, x5))) from by have h := (set_says PZ.out.good (p : Int) (x3, x4, x5)).2.2 (by rw [PZ.out.len]; rintro (g | g | g); exact g (by have := HN.out; omega); omega; omega) (by rw [(show atUp s x3 s.length = at0 from by rw [PZ.out.len]; exact AT.out)]; exact fun g => g5 g.1); rw [Int.toNat_natCast] at h; exact h)
                        have HG := Aside0.mk (show Good (s.set p (some (x3, x4, x5))) from by have h := good_setv PZ.out.good (p : Int) (x3, x4, x5); rw [SV.out] at h; exact h)
                        clear g3 g4 g5
                        go_upto_region 26 with (first | (go_at_call 8; (with_reducible refine (setC (p : Int) x3 x4 x5 PZ.out.st (Below.size PZ.out.far)).mono ?_); rintro e w20 ⟨rfl, c20, h20, t20⟩; rw [show setv s (p : Int) (x3, x4, x5) = (0, (s.set p (some (x3, x4, x5)))) from SV.out] at h20 ⊢; have H20 := Aside0.mk h20; have T20 := Aside0.mk t20; clear h20 t20 y0 y1 y2 y3 y4))
                        have X20 := Aside0.mk (T20.out.keep _ blk 3 _ _ (by decide) XZ.out)
                        have W20 := Aside0.mk (show blk.M w20 w.heap.size (fun k => c20 k = 1) (.cells csw 44 (0, 0)) (.pointer (some ⟨gw, 0, none⟩)) from T20.out.keep _ blk 1 _ _ (by decide) PZ.out.aw)
                        have I20 := Aside0.mk (show blk.M w20 w.heap.size (fun k => c20 k = 2) (.cells csi 45 (0, 0)) (.pointer (some ⟨gi, 0, none⟩)) from T20.out.keep _ blk 2 _ _ (by decide) PZ.out.ai)
                        have y1 := blk_cell (blk_at X20.out) 1
                        have y2 := blk_cell (blk_at X20.out) 2
                        have y3 := blk_cell (blk_at X20.out) 3
                        have y4 := blk_cell (blk_at X20.out) 4
                        have b64 : (0 ≤ (p : Int) ∧ (p : Int) < 64) := by have := HN.out; omega
                        obtain ⟨u0, hu0⟩ := at_size PZ.out.wok.1 (show p * 3 < 192 by omega)
                        obtain ⟨u1, hu1⟩ := at_size PZ.out.wok.1 (show p * 3 + 1 < 192 by omega)
                        obtain ⟨u2, hu2⟩ := at_size PZ.out.wok.1 (show p * 3 + 2 < 192 by omega)
                        have k0 := (blk_cell (blk_at W20.out) (p * 3)).trans hu0
                        have k1 := (blk_cell (blk_at W20.out) (p * 3 + 1)).trans hu1
                        have k2 := (blk_cell (blk_at W20.out) (p * 3 + 2)).trans hu2
                        clear hu0 hu1 hu2
                        have k3 := blk_frozen (blk_at W20.out) (p * 3)
                        have k4 := blk_frozen (blk_at W20.out) (p * 3 + 1)
                        have k5 := blk_frozen (blk_at W20.out) (p * 3 + 2)
                        have k6 := (blk_cell (blk_at I20.out) p).trans (PZ.out.iok.2 p (by omega))
                        have k7 := blk_frozen (blk_at I20.out) p
                        have n0 : gw ≠ gi := blk_ne W20.out I20.out (by decide)
                        have n1 : gi ≠ gw := fun e => n0 e.symm
                        have n2 : gw ≠ g10 := blk_ne W20.out X20.out (by decide)
                        have n3 : g10 ≠ gw := fun e => n2 e.symm
                        have n4 : gi ≠ g10 := blk_ne I20.out X20.out (by decide)
                        have n5 : g10 ≠ gi := fun e => n4 e.symm
                        go_upto_region 23 with (fail)
                        go_region
                        go_wp2
                        go_meet
                        obtain ⟨c21, h21⟩ := PZ.out.filled (show p < n by have := HN.out; omega) HN.out.2.2 HG.out H20.out T20.out
                        exact ⟨c21, _, _, _, h21.below (below_drew (Below.refl _ _))⟩
                | false =>
                  as_aux_lemma =>
                  have g01 : ¬ (0 ≤ x2 ∧ x2 < cpus) := by have h := GD.out; rw [Bool.and_eq_false_iff, decide_eq_false_iff_not, decide_eq_false_iff_not] at h; omega
                  have SV := Aside0.mk (show setv s x2 (x3, x4, x5) = (1, s) from (set_says PZ.out.good x2 (x3, x4, x5)).1 (Or.inl (by rw [PZ.out.len]; have := HN.out; omega)))
                  clear g01
                  go_upto_region 26 with (first | (go_at_call 8; (with_reducible refine (setC x2 x3 x4 x5 PZ.out.st (Below.size PZ.out.far)).mono ?_); rintro e w20 ⟨rfl, c20, h20, t20⟩; rw [show setv s x2 (x3, x4, x5) = (1, s) from SV.out] at h20 ⊢; have H20 := Aside0.mk h20; have T20 := Aside0.mk t20; clear h20 t20 y0 y1 y2 y3 y4))
                  have P20 := Aside0.mk (PZ.out.same H20.out T20.out)
                  have X20 := Aside0.mk (T20.out.keep _ blk 3 _ _ (by decide) XZ.out)
                  have y1 := blk_cell (blk_at X20.out) 1
                  have y2 := blk_cell (blk_at X20.out) 2
                  go_wp2
                  go_meet
                  exact ⟨c20, s, csw, csi, P20.out⟩
              | false =>
                cases gd with
                | true =>
                  as_aux_lemma =>
                  have g01 : 0 ≤ x2 ∧ x2 < cpus := by have h := GD.out; rw [Bool.and_eq_true, decide_eq_true_eq, decide_eq_true_eq] at h; exact h
                  obtain ⟨p, rfl⟩ : ∃ p : Nat, x2 = (p : Int) := ⟨x2.toNat, by omega⟩
                  have hp64 : p < 64 := by have := HN.out; omega
                  have SV := Aside0.mk (show clearv s (p : Int) = (0, s.set p none) from by unfold clearv; rw [if_pos (isv_of (by rw [PZ.out.len]; have := HN.out; omega)), Int.toNat_natCast])
                  go_upto_region 35 with (first | (go_at_call 13; (with_reducible refine (clearC (p : Int) PZ.out.st (Below.size PZ.out.far)).mono ?_); rintro e w20 ⟨rfl, c20, h20, t20⟩; rw [show clearv s (p : Int) = (0, s.set p none) from SV.out] at h20 ⊢; have H20 := Aside0.mk h20; have T20 := Aside0.mk t20; clear h20 t20 y0 y1 y2 y3 y4))
                  have X20 := Aside0.mk (T20.out.keep _ blk 3 _ _ (by decide) XZ.out)
                  have I20 := Aside0.mk (show blk.M w20 w.heap.size (fun k => c20 k = 2) (.cells csi 45 (0, 0)) (.pointer (some ⟨gi, 0, none⟩)) from T20.out.keep _ blk 2 _ _ (by decide) PZ.out.ai)
                  have y1 := blk_cell (blk_at X20.out) 1
                  have b64 : (0 ≤ (p : Int) ∧ (p : Int) < 64) := by have := HN.out; omega
                  have k6 := (blk_cell (blk_at I20.out) p).trans (PZ.out.iok.2 p (by omega))
                  have k7 := blk_frozen (blk_at I20.out) p
                  go_wp2
                  go_meet
                  obtain ⟨c21, h21, _⟩ := PZ.out.cleared (show p < n by have := HN.out; omega) HN.out.2.2 H20.out T20.out
                  exact ⟨c21, _, _, _, h21⟩
                | false =>
                  as_aux_lemma =>
                  have g01 : ¬ (0 ≤ x2 ∧ x2 < cpus) := by have h := GD.out; rw [Bool.and_eq_false_iff, decide_eq_false_iff_not, decide_eq_false_iff_not] at h; omega
                  have SV := Aside0.mk (show clearv s x2 = (1, s) from by unfold clearv; rw [if_neg]; unfold isv; rw [Bool.and_eq_true, decide_eq_true_eq, decide_eq_true_eq, PZ.out.len]; have := HN.out; omega)
                  go_upto_region 33 with (first | (go_at_call 13; (with_reducible refine (clearC x2 PZ.out.st (Below.size PZ.out.far)).mono ?_); rintro e w20 ⟨rfl, c20, h20, t20⟩; rw [show clearv s x2 = (1, s) from SV.out] at h20 ⊢; have H20 := Aside0.mk h20; have T20 := Aside0.mk t20; clear h20 t20 y0 y1 y2 y3 y4))
                  have P20 := Aside0.mk (PZ.out.same H20.out T20.out)
                  go_wp2
                  go_meet
                  exact ⟨c20, s, csw, csi, P20.out⟩
            case rest =>
              as_aux_lemma =>
              obtain ⟨c2, s2, csw2, csi2, hP2⟩ := hcut
              have P2 := Aside0.mk hP2
              clear hP2 y0 y1 y2 y3 y4
              go_upto_block 5 with (fail)
              refine loop3_piece P2.out HN.out _ _ ?hk3 ?hq3
              case hq3 => exact fun _ _ _ _ _ h => h
              intro a' wd hR_
              obtain ⟨x4, hR_⟩ := hR_
              obtain ⟨x16, hR_⟩ := hR_
              obtain ⟨x17, hR_⟩ := hR_
              obtain ⟨x18, hR_⟩ := hR_
              obtain ⟨x19, hR_⟩ := hR_
              obtain ⟨x20, hR_⟩ := hR_
              obtain ⟨x21, hR_⟩ := hR_
              obtain ⟨x22, hR_⟩ := hR_
              obtain ⟨x23, hR_⟩ := hR_
              obtain ⟨x170, hR_⟩ := hR_
              obtain ⟨x171, hR_⟩ := hR_
              obtain ⟨x172, hR_⟩ := hR_
              obtain ⟨x173, hR_⟩ := hR_
              obtain ⟨x174, hR_⟩ := hR_
              obtain ⟨x175, hR_⟩ := hR_
              obtain ⟨x176, hR_⟩ := hR_
              obtain ⟨x177, hR_⟩ := hR_
              obtain ⟨x178, hR_⟩ := hR_
              obtain ⟨x179, hR_⟩ := hR_
              obtain ⟨x180, hR_⟩ := hR_
              obtain ⟨x181, hR_⟩ := hR_
              obtain ⟨x182, hR_⟩ := hR_
              obtain ⟨x183, hR_⟩ := hR_
              obtain ⟨x184, hR_⟩ := hR_
              obtain ⟨x185, hR_⟩ := hR_
              obtain ⟨x186, hR_⟩ := hR_
              obtain ⟨x187, hR_⟩ := hR_
              obtain ⟨x188, hR_⟩ := hR_
              obtain ⟨x189, hR_⟩ := hR_
              obtain ⟨x190, hR_⟩ := hR_
              obtain ⟨x191, hR_⟩ := hR_
              obtain ⟨x192, hR_⟩ := hR_
              obtain ⟨x193, hR_⟩ := hR_
              obtain ⟨x194, hR_⟩ := hR_
              obtain ⟨x195, hR_⟩ := hR_
              obtain ⟨x196, hR_⟩ := hR_
              obtain ⟨x197, hR_⟩ := hR_
              obtain ⟨x198, hR_⟩ := hR_
              obtain ⟨x199, hR_⟩ := hR_
              obtain ⟨x200, hR_⟩ := hR_
              obtain ⟨x201, hR_⟩ := hR_
              obtain ⟨x202, hR_⟩ := hR_
              obtain ⟨x203, hR_⟩ := hR_
              obtain ⟨x204, hR_⟩ := hR_
              obtain ⟨x205, hR_⟩ := hR_
              obtain ⟨x206, hR_⟩ := hR_
              obtain ⟨x207, hR_⟩ := hR_
              obtain ⟨x208, hR_⟩ := hR_
              obtain ⟨x209, hR_⟩ := hR_
              obtain ⟨x210, hR_⟩ := hR_
              obtain ⟨x211, hR_⟩ := hR_
              obtain ⟨x212, hR_⟩ := hR_
              obtain ⟨x213, hR_⟩ := hR_
              obtain ⟨x214, hR_⟩ := hR_
              obtain ⟨x215, hR_⟩ := hR_
              obtain ⟨x216, hR_⟩ := hR_
              obtain ⟨x217, hR_⟩ := hR_
              obtain ⟨x218, hR_⟩ := hR_
              obtain ⟨x219, hR_⟩ := hR_
              obtain ⟨x220, hR_⟩ := hR_
              obtain ⟨x221, hR_⟩ := hR_
              obtain ⟨x222, hR_⟩ := hR_
              obtain ⟨x223, hR_⟩ := hR_
              obtain ⟨x224, hR_⟩ := hR_
              obtain ⟨x225, hR_⟩ := hR_
              obtain ⟨x226, hR_⟩ := hR_
              obtain ⟨x227, hR_⟩ := hR_
              obtain ⟨x228, hR_⟩ := hR_
              obtain ⟨x229, hR_⟩ := hR_
              obtain ⟨x230, hR_⟩ := hR_
              obtain ⟨x231, hR_⟩ := hR_
              obtain ⟨x232, hR_⟩ := hR_
              obtain ⟨x233, hR_⟩ := hR_
              obtain ⟨x234, hR_⟩ := hR_
              obtain ⟨x235, hR_⟩ := hR_
              obtain ⟨x236, hR_⟩ := hR_
              obtain ⟨x237, hR_⟩ := hR_
              obtain ⟨x238, hR_⟩ := hR_
              obtain ⟨x239, hR_⟩ := hR_
              obtain ⟨x240, hR_⟩ := hR_
              obtain ⟨x241, hR_⟩ := hR_
              obtain ⟨x242, hR_⟩ := hR_
              obtain ⟨x243, hR_⟩ := hR_
              obtain ⟨x244, hR_⟩ := hR_
              obtain ⟨x245, hR_⟩ := hR_
              obtain ⟨hcut, ha_⟩ := hR_
              subst ha_
              obtain ⟨r, m, c3, rfl, hU, rfl, hI, hP3, hR3⟩ := hcut
              obtain ⟨al, hal⟩ : ∃ al, allOf s2 = al := ⟨_, rfl⟩
              rw [hal] at hR3
              obtain ⟨A1, k1, rfl⟩ := Kd.R_slice hR3
              have P3 := Aside0.mk hP3
              have R3 := Aside0.mk hR3
              have HAL := Aside0.mk hal
              have HI := Aside0.mk (idU_end (show IdU m s2 s2.length from by rw [hP3.len]; exact hI))
              have HAS := Aside0.mk (show al.length ≤ 64 from by rw [← hal]; have := all_le s2 s2.length; rw [List.take_of_length_le (Nat.le_refl _)] at this; have := hP3.len; have := HN.out; omega)
              have hUB := up_best (show Up s2 s2.length r from by rw [hP3.len]; exact hU)
              clear hU hI hP3 hR3 hal P2
              rcases hUB with ⟨hr, hd⟩ | ⟨t, ⟨e1, e2, e3⟩, hr, hbe⟩
              · as_aux_lemma =>
                subst hr
                have HD := Aside0.mk hd
                clear hd
                go_upto_region 54 with (first | (go_at_call 9; (with_reducible refine (worst_none P3.out.st HD.out).mono ?_); rintro e w50 ⟨rfl, hb50⟩; rw [show entv z0 = .agg #[.int .i64 0, .int .i64 0, .bool false] from rfl]; have P50 := Aside0.mk (P3.out.below hb50); have R50 := Aside0.mk (St.below (s := row 29 KE) R3.out hb50); clear hb50) | ((with_reducible refine gate_dst (N := 25) rfl ?_); refine box_event ?hg (N := 25) ?hd (cs := #[(.int .i64 0), (.int .i64 0), (.bool false)]) (t := 29) ?hr ?_; (case hd => rfl); (case hg => rfl); (case hr => first | (go_simp; done) | (go_simp; rfl)); intro g51 hg51 w51 hx51 hb51; have HX51 := Aside0.mk hx51; have HB51 := Aside0.mk hb51; have HG51 := Aside0.mk hg51; have r051 := blk_cell hx51 0; have r151 := blk_cell hx51 1; have r251 := blk_cell hx51 2; have q051 := blk_frozen hx51 0; have q151 := blk_frozen hx51 1; have q251 := blk_frozen hx51 2; clear hx51 hb51 hg51))
                have hbz : Below w50.heap.size w50 (((w51.setCell ⟨g51, 0, none⟩ (.int .i64 (0))).setCell ⟨g51, 1, none⟩ (.int .i64 (0))).setCell ⟨g51, 2, none⟩ (.bool false)) := ((HB51.out.setCell (by have := HG51.out; show w50.heap.size ≤ g51; omega) _).setCell (by have := HG51.out; show w50.heap.size ≤ g51; omega) _).setCell (by have := HG51.out; show w50.heap.size ≤ g51; omega) _
                have hy : (((w51.setCell ⟨g51, 0, none⟩ (.int .i64 (0))).setCell ⟨g51, 1, none⟩ (.int .i64 (0))).setCell ⟨g51, 2, none⟩ (.bool false)).heap[g51]? = some (.cells #[.int .i64 (0), .int .i64 (0), .bool false] 29 (0, 0)) := blk_put (cs := #[.int .i64 (0), .int .i64 (0), .bool false]) (blk_put (cs := #[.int .i64 (0), .int .i64 0, .bool false]) (blk_put (cs := #[.int .i64 0, .int .i64 0, .bool false]) HX51.out 0 _ rfl) 1 _ rfl) 2 _ rfl
                clear r051 r151 r251 q051 q151 q251
                generalize (((w51.setCell ⟨g51, 0, none⟩ (.int .i64 (0))).setCell ⟨g51, 1, none⟩ (.int .i64 (0))).setCell ⟨g51, 2, none⟩ (.bool false)) = w52 at hbz hy ⊢
                have P52 := Aside0.mk (P50.out.below hbz)
                have R52 := Aside0.mk (St.below (s := row 29 KE) R50.out hbz)
                have XB := Aside0.mk hy
                clear hbz hy HX51 HB51 HG51
                go_upto_region 55 with (first | (go_at_call 12; (with_reducible refine (all_calls P52.out.st).mono ?_); rintro e w53 ⟨va, rfl, hv53, hb53⟩; rw [HAL.out] at hv53; obtain ⟨A2, k2, rfl⟩ := Kd.R_slice hv53; have H2 := Aside0.mk (row_C hv53); have P53 := Aside0.mk (P52.out.below hb53); have R53 := Aside0.mk (St.below (s := row 29 KE) R52.out hb53); have XC := Aside0.mk ((hb53.block _ (blk_lt XB.out)).trans XB.out); clear hb53 hv53))
                refine q_start (by kernel_rfl) (by kernel_rfl) (fun w' => Below w53.heap.size w53 w') (below_drew (Below.refl _ _)) ?_
                refine q_op (v := ?_) (a' := ?_) ?hw10 ?_ ?_ ?_
                case hw10 => rfl
                rotate_left
                rotate_left
                · intro w' hC_
                  go_simp
                  with_reducible rfl
                · show Act.put _ (some 254) _ = _
                  simp only [Act.put, List.setIfInBounds_toArray, List.set_cons_zero, List.set_cons_succ, i64_w, i32_w]
                  rfl
                refine q_op (v := ?_) (a' := ?_) ?hw10 ?_ ?_ ?_
                case hw10 => rfl
                rotate_left
                rotate_left
                · intro w' hC_
                  go_simp
                  with_reducible rfl
                · show Act.put _ (some 255) _ = _
                  simp only [Act.put, List.setIfInBounds_toArray, List.set_cons_zero, List.set_cons_succ, i64_w, i32_w]
                  rfl
                refine q_op (v := .bool false) (a' := ?_) ?hw10 ?_ ?_ ?_
                case hw10 => rfl
                rotate_left
                · intro w' hC_
                  obtain _ := hC_
                  go_simp
                · show Act.put _ (some 256) _ = _
                  simp only [Act.put, List.setIfInBounds_toArray, List.set_cons_zero, List.set_cons_succ, i64_w, i32_w]
                  rfl
                refine q_op (v := ?_) (a' := ?_) ?hw10 ?_ ?_ ?_
                case hw10 => rfl
                rotate_left
                rotate_left
                · intro w' hC_
                  go_simp
                  with_reducible rfl
                · show Act.put _ (some 257) _ = _
                  simp only [Act.put, List.setIfInBounds_toArray, List.set_cons_zero, List.set_cons_succ, i64_w, i32_w]
                  rfl
                refine q_op (v := ?_) (a' := ?_) ?hw10 ?_ ?_ ?_
                case hw10 => rfl
                rotate_left
                rotate_left
                · intro w' hC_
                  go_simp
                  with_reducible rfl
                · show Act.put _ (some 258) _ = _
                  simp only [Act.put, List.setIfInBounds_toArray, List.set_cons_zero, List.set_cons_succ, i64_w, i32_w]
                  rfl
                refine q_op (v := ?_) (a' := ?_) ?hw10 ?_ ?_ ?_
                case hw10 => exact wanted_on rfl rfl rfl rfl
                rotate_left
                rotate_left
                · intro w' hC_
                  go_simp
                  with_reducible rfl
                · show Act.put _ (some 259) _ = _
                  simp only [Act.put, List.setIfInBounds_toArray, List.set_cons_zero, List.set_cons_succ, i64_w, i32_w]
                  rfl
                refine q_op (v := ?_) (a' := ?_) ?hw10 ?_ ?_ ?_
                case hw10 => exact wanted_on rfl rfl rfl rfl
                rotate_left
                rotate_left
                · intro w' hC_
                  go_simp
                  with_reducible rfl
                · show Act.put _ (some 260) _ = _
                  simp only [Act.put, List.setIfInBounds_toArray, List.set_cons_zero, List.set_cons_succ, i64_w, i32_w]
                  rfl
                refine q_off (a' := ?_) ?hw10 ?_ ?_
                case hw10 => exact wanted_off rfl rfl rfl rfl
                rotate_left
                · show Act.put _ (some 261) _ = _
                  simp only [Act.put, List.setIfInBounds_toArray, List.set_cons_zero, List.set_cons_succ, i64_w, i32_w]
                  rfl
                refine q_off (a' := ?_) ?hw10 ?_ ?_
                case hw10 => exact wanted_off rfl rfl rfl rfl
                rotate_left
                · show Act.put _ (some 262) _ = _
                  simp only [Act.put, List.setIfInBounds_toArray, List.set_cons_zero, List.set_cons_succ, i64_w, i32_w]
                  rfl
                refine q_off (a' := ?_) ?hw10 ?_ ?_
                case hw10 => exact wanted_off rfl rfl rfl rfl
                rotate_left
                · show Act.put _ (some 263) _ = _
                  simp only [Act.put, List.setIfInBounds_toArray, List.set_cons_zero, List.set_cons_succ, i64_w, i32_w]
                  rfl
                refine q_off (a' := ?_) ?hw10 ?_ ?_
                case hw10 => exact wanted_off rfl rfl rfl rfl
                rotate_left
                · show Act.put _ (some 264) _ = _
                  simp only [Act.put, List.setIfInBounds_toArray, List.set_cons_zero, List.set_cons_succ, i64_w, i32_w]
                  rfl
                refine q_off (a' := ?_) ?hw10 ?_ ?_
                case hw10 => exact wanted_none rfl rfl rfl rfl
                rotate_left
                · show Act.put _ (some 265) _ = _
                  simp only [Act.put, List.setIfInBounds_toArray, List.set_cons_zero, List.set_cons_succ, i64_w, i32_w]
                  rfl
                refine q_off (a' := ?_) ?hw10 ?_ ?_
                case hw10 => exact wanted_none rfl rfl rfl rfl
                rotate_left
                · show Act.put _ (some 266) _ = _
                  simp only [Act.put, List.setIfInBounds_toArray, List.set_cons_zero, List.set_cons_succ, i64_w, i32_w]
                  rfl
                refine q_off (a' := ?_) ?hw10 ?_ ?_
                case hw10 => exact wanted_none rfl rfl rfl rfl
                rotate_left
                · show Act.put _ (some 267) _ = _
                  simp only [Act.put, List.setIfInBounds_toArray, List.set_cons_zero, List.set_cons_succ, i64_w, i32_w]
                  rfl
                refine q_off (a' := ?_) ?hw10 ?_ ?_
                case hw10 => exact wanted_none rfl rfl rfl rfl
                rotate_left
                · show Act.put _ (some 268) _ = _
                  simp only [Act.put, List.setIfInBounds_toArray, List.set_cons_zero, List.set_cons_succ, i64_w, i32_w]
                  rfl
                refine q_off (a' := ?_) ?hw10 ?_ ?_
                case hw10 => exact wanted_none rfl rfl rfl rfl
                rotate_left
                · show Act.put _ (some 269) _ = _
                  simp only [Act.put, List.setIfInBounds_toArray, List.set_cons_zero, List.set_cons_succ, i64_w, i32_w]
                  rfl
                refine q_off (a' := ?_) ?hw10 ?_ ?_
                case hw10 => exact wanted_off rfl rfl rfl rfl
                rotate_left
                · show Act.put _ (some 270) _ = _
                  simp only [Act.put, List.setIfInBounds_toArray, List.set_cons_zero, List.set_cons_succ, i64_w, i32_w]
                  rfl
                refine q_op (v := ?_) (a' := ?_) ?hw10 ?_ ?_ ?_
                case hw10 => exact wanted_on rfl rfl rfl rfl
                rotate_left
                rotate_left
                · intro w' hC_
                  go_simp
                  with_reducible rfl
                · show Act.put _ (some 271) _ = _
                  simp only [Act.put, List.setIfInBounds_toArray, List.set_cons_zero, List.set_cons_succ, i64_w, i32_w]
                  rfl
                refine q_op (v := ?_) (a' := ?_) ?hw10 ?_ ?_ ?_
                case hw10 => rfl
                rotate_left
                rotate_left
                · intro w' hC_
                  go_simp
                  with_reducible rfl
                · show Act.put _ (some 272) _ = _
                  simp only [Act.put, List.setIfInBounds_toArray, List.set_cons_zero, List.set_cons_succ, i64_w, i32_w]
                  rfl
                refine q_op (v := ?_) (a' := ?_) ?hw10 ?_ ?_ ?_
                case hw10 => rfl
                rotate_left
                rotate_left
                · intro w' hC_
                  go_simp
                  with_reducible rfl
                · show Act.put _ (some 273) _ = _
                  simp only [Act.put, List.setIfInBounds_toArray, List.set_cons_zero, List.set_cons_succ, i64_w, i32_w]
                  rfl
                refine q_op (v := ?_) (a' := ?_) ?hw10 ?_ ?_ ?_
                case hw10 => exact wanted_on rfl rfl rfl rfl
                rotate_left
                rotate_left
                · intro w' hC_
                  go_simp
                  with_reducible rfl
                · show Act.put _ (some 274) _ = _
                  simp only [Act.put, List.setIfInBounds_toArray, List.set_cons_zero, List.set_cons_succ, i64_w, i32_w]
                  rfl
                refine q_call (a' := ?_) Try.func14 (by kernel_rfl) rfl #[v] ?hw10 rfl ?hx10 (.int .u64 (m : Int)) ?_ ?_ ?_
                case hw10 => exact wanted_on rfl rfl rfl rfl
                case hx10 => (try simp only [List.map_toArray, List.map_cons, List.map_nil]); first | done | rfl
                rotate_left
                · intro w' hC_
                  exact (idle_known HI.out (P53.out.below hC_).st).mono (by rintro e w'' ⟨rfl, rfl⟩; exact ⟨rfl, hC_⟩)
                · show Act.put _ (some 275) _ = _
                  simp only [Act.put, List.setIfInBounds_toArray, List.set_cons_zero, List.set_cons_succ, i64_w, i32_w]
                  rfl
                refine q_op (v := ?_) (a' := ?_) ?hw10 ?_ ?_ ?_
                case hw10 => exact wanted_on rfl rfl rfl rfl
                rotate_left
                rotate_left
                · intro w' hC_
                  go_simp
                  with_reducible rfl
                · show Act.put _ (some 276) _ = _
                  simp only [Act.put, List.setIfInBounds_toArray, List.set_cons_zero, List.set_cons_succ, i64_w, i32_w]
                  rfl
                refine q_op (v := .bool false) (a' := ?_) ?hw10 ?_ ?_ ?_
                case hw10 => exact wanted_on rfl rfl rfl rfl
                rotate_left
                · intro w' hC_
                  obtain _ := hC_
                  go_simp
                · show Act.put _ (some 277) _ = _
                  simp only [Act.put, List.setIfInBounds_toArray, List.set_cons_zero, List.set_cons_succ, i64_w, i32_w]
                  rfl
                refine q_op (v := ?_) (a' := ?_) ?hw10 ?_ ?_ ?_
                case hw10 => rfl
                rotate_left
                rotate_left
                · intro w' hC_
                  go_simp
                  with_reducible rfl
                · show Act.put _ (some 278) _ = _
                  simp only [Act.put, List.setIfInBounds_toArray, List.set_cons_zero, List.set_cons_succ, i64_w, i32_w]
                  rfl
                refine q_op (v := ?_) (a' := ?_) ?hw10 ?_ ?_ ?_
                case hw10 => rfl
                rotate_left
                rotate_left
                · intro w' hC_
                  go_simp
                  with_reducible rfl
                · show Act.put _ (some 279) _ = _
                  simp only [Act.put, List.setIfInBounds_toArray, List.set_cons_zero, List.set_cons_succ, i64_w, i32_w]
                  rfl
                refine q_op (v := ?_) (a' := ?_) ?hw10 ?_ ?_ ?_
                case hw10 => exact wanted_on rfl rfl rfl rfl
                rotate_left
                rotate_left
                · intro w' hC_
                  go_simp
                  with_reducible rfl
                · show Act.put _ (some 280) _ = _
                  simp only [Act.put, List.setIfInBounds_toArray, List.set_cons_zero, List.set_cons_succ, i64_w, i32_w]
                  rfl
                refine q_op (v := ?_) (a' := ?_) ?hw10 ?_ ?_ ?_
                case hw10 => exact wanted_on rfl rfl rfl rfl
                rotate_left
                rotate_left
                · intro w' hC_
                  go_simp
                  with_reducible rfl
                · show Act.put _ (some 281) _ = _
                  simp only [Act.put, List.setIfInBounds_toArray, List.set_cons_zero, List.set_cons_succ, i64_w, i32_w]
                  rfl
                refine q_op (v := ?_) (a' := ?_) ?hw10 ?_ ?_ ?_
                case hw10 => exact wanted_on rfl rfl rfl rfl
                rotate_left
                rotate_left
                · intro w' hC_
                  go_simp
                  with_reducible rfl
                · show Act.put _ (some 282) _ = _
                  simp only [Act.put, List.setIfInBounds_toArray, List.set_cons_zero, List.set_cons_succ, i64_w, i32_w]
                  rfl
                refine q_op (v := ?_) (a' := ?_) ?hw10 ?_ ?_ ?_
                case hw10 => exact wanted_on rfl rfl rfl rfl
                rotate_left
                rotate_left
                · intro w' hC_
                  go_simp
                  with_reducible rfl
                · show Act.put _ (some 283) _ = _
                  simp only [Act.put, List.setIfInBounds_toArray, List.set_cons_zero, List.set_cons_succ, i64_w, i32_w]
                  rfl
                refine q_op (v := ?_) (a' := ?_) ?hw10 ?_ ?_ ?_
                case hw10 => exact wanted_on rfl rfl rfl rfl
                rotate_left
                rotate_left
                · intro w' hC_
                  go_simp
                  with_reducible rfl
                · show Act.put _ (some 284) _ = _
                  simp only [Act.put, List.setIfInBounds_toArray, List.set_cons_zero, List.set_cons_succ, i64_w, i32_w]
                  rfl
                refine q_op (v := ?_) (a' := ?_) ?hw10 ?_ ?_ ?_
                case hw10 => rfl
                rotate_left
                rotate_left
                · intro w' hC_
                  go_simp
                  with_reducible rfl
                · show Act.put _ (some 285) _ = _
                  simp only [Act.put, List.setIfInBounds_toArray, List.set_cons_zero, List.set_cons_succ, i64_w, i32_w]
                  rfl
                refine q_nil ?_
                intro w54 hC_
                have P54 := Aside0.mk (P53.out.below hC_)
                have R54 := Aside0.mk (St.below (s := row 29 KE) R53.out hC_)
                have H24 := Aside0.mk (Kd.C_below H2.out hC_)
                clear hC_
                go_upto_block 7 with (fail)
                refine wp_tail ?_
                refine loop4_piece (row_C R54.out) H24.out HAS.out _ _ ?hk4none ?hq4none
                case hq4none => exact fun _ _ _ _ _ h => h
                intro a' wd hR_
                obtain ⟨x4, hR_⟩ := hR_
                obtain ⟨x28, hR_⟩ := hR_
                obtain ⟨x286, hR_⟩ := hR_
                obtain ⟨x287, hR_⟩ := hR_
                obtain ⟨x288, hR_⟩ := hR_
                obtain ⟨x289, hR_⟩ := hR_
                obtain ⟨x290, hR_⟩ := hR_
                obtain ⟨x291, hR_⟩ := hR_
                obtain ⟨x292, hR_⟩ := hR_
                obtain ⟨x293, hR_⟩ := hR_
                obtain ⟨x294, hR_⟩ := hR_
                obtain ⟨x295, hR_⟩ := hR_
                obtain ⟨x296, hR_⟩ := hR_
                obtain ⟨x297, hR_⟩ := hR_
                obtain ⟨x298, hR_⟩ := hR_
                obtain ⟨x299, hR_⟩ := hR_
                obtain ⟨x300, hR_⟩ := hR_
                obtain ⟨hcut, ha_⟩ := hR_
                subst ha_
                have P55 := Aside0.mk (P54.out.below hcut)
                clear hcut
                go_wp2
                exact ⟨⟨j + 1, c3, s2, csw2, csi2, by omega, by go_num, P55.out⟩, by simp [intOf]; omega⟩
              · as_aux_lemma =>
                subst hr
                have dt : decide (0 ≤ (t : Int)) = true := decide_eq_true (by omega)
                have st : ((t : Int) != (t : Int)) = false := by simp
                have ht64 : t < 64 := by have := hbe.1.1; have := P3.out.len; have := HN.out; omega
                have bt : (0 ≤ (t : Int) ∧ (t : Int) < 64) := by omega
                have HBE := Aside0.mk hbe
                clear hbe
                go_upto_region 54 with (first | (go_at_call 9; (with_reducible refine (worst_some t e1 e2 e3 P3.out.st HBE.out).mono ?_); rintro e w50 ⟨rfl, hb50⟩; rw [show entv (e1, e2, e3) = .agg #[.int .i64 e1, .int .i64 e2, .bool e3] from rfl]; have P50 := Aside0.mk (P3.out.below hb50); have R50 := Aside0.mk (St.below (s := row 29 KE) R3.out hb50); clear hb50) | ((with_reducible refine gate_dst (N := 25) rfl ?_); refine box_event ?hg (N := 25) ?hd (cs := #[(.int .i64 0), (.int .i64 0), (.bool false)]) (t := 29) ?hr ?_; (case hd => rfl); (case hg => rfl); (case hr => first | (go_simp; done) | (go_simp; rfl)); intro g51 hg51 w51 hx51 hb51; have HX51 := Aside0.mk hx51; have HB51 := Aside0.mk hb51; have HG51 := Aside0.mk hg51; have r051 := blk_cell hx51 0; have r151 := blk_cell hx51 1; have r251 := blk_cell hx51 2; have q051 := blk_frozen hx51 0; have q151 := blk_frozen hx51 1; have q251 := blk_frozen hx51 2; clear hx51 hb51 hg51))
                have hbz : Below w50.heap.size w50 (((w51.setCell ⟨g51, 0, none⟩ (.int .i64 (e1))).setCell ⟨g51, 1, none⟩ (.int .i64 (e2))).setCell ⟨g51, 2, none⟩ (.bool e3)) := ((HB51.out.setCell (by have := HG51.out; show w50.heap.size ≤ g51; omega) _).setCell (by have := HG51.out; show w50.heap.size ≤ g51; omega) _).setCell (by have := HG51.out; show w50.heap.size ≤ g51; omega) _
                have hy : (((w51.setCell ⟨g51, 0, none⟩ (.int .i64 (e1))).setCell ⟨g51, 1, none⟩ (.int .i64 (e2))).setCell ⟨g51, 2, none⟩ (.bool e3)).heap[g51]? = some (.cells #[.int .i64 (e1), .int .i64 (e2), .bool e3] 29 (0, 0)) := blk_put (cs := #[.int .i64 (e1), .int .i64 (e2), .bool false]) (blk_put (cs := #[.int .i64 (e1), .int .i64 0, .bool false]) (blk_put (cs := #[.int .i64 0, .int .i64 0, .bool false]) HX51.out 0 _ rfl) 1 _ rfl) 2 _ rfl
                clear r051 r151 r251 q051 q151 q251
                generalize (((w51.setCell ⟨g51, 0, none⟩ (.int .i64 (e1))).setCell ⟨g51, 1, none⟩ (.int .i64 (e2))).setCell ⟨g51, 2, none⟩ (.bool e3)) = w52 at hbz hy ⊢
                have P52 := Aside0.mk (P50.out.below hbz)
                have R52 := Aside0.mk (St.below (s := row 29 KE) R50.out hbz)
                have XB := Aside0.mk hy
                clear hbz hy HX51 HB51 HG51
                go_upto_region 55 with (first | (go_at_call 12; (with_reducible refine (all_calls P52.out.st).mono ?_); rintro e w53 ⟨va, rfl, hv53, hb53⟩; rw [HAL.out] at hv53; obtain ⟨A2, k2, rfl⟩ := Kd.R_slice hv53; have H2 := Aside0.mk (row_C hv53); have P53 := Aside0.mk (P52.out.below hb53); have R53 := Aside0.mk (St.below (s := row 29 KE) R52.out hb53); have XC := Aside0.mk ((hb53.block _ (blk_lt XB.out)).trans XB.out); clear hb53 hv53))
                refine q_start (by kernel_rfl) (by kernel_rfl) (fun w' => Below w53.heap.size w53 w') (below_drew (Below.refl _ _)) ?_
                refine q_op (v := ?_) (a' := ?_) ?hw11 ?_ ?_ ?_
                case hw11 => rfl
                rotate_left
                rotate_left
                · intro w' hC_
                  go_simp
                  with_reducible rfl
                · show Act.put _ (some 254) _ = _
                  simp only [Act.put, List.setIfInBounds_toArray, List.set_cons_zero, List.set_cons_succ, i64_w, i32_w]
                  rfl
                refine q_op (v := ?_) (a' := ?_) ?hw11 ?_ ?_ ?_
                case hw11 => rfl
                rotate_left
                rotate_left
                · intro w' hC_
                  go_simp
                  with_reducible rfl
                · show Act.put _ (some 255) _ = _
                  simp only [Act.put, List.setIfInBounds_toArray, List.set_cons_zero, List.set_cons_succ, i64_w, i32_w]
                  rfl
                refine q_op (v := .bool true) (a' := ?_) ?hw11 ?_ ?_ ?_
                case hw11 => rfl
                rotate_left
                · intro w' hC_
                  obtain _ := hC_
                  go_simp
                · show Act.put _ (some 256) _ = _
                  simp only [Act.put, List.setIfInBounds_toArray, List.set_cons_zero, List.set_cons_succ, i64_w, i32_w]
                  rfl
                refine q_op (v := ?_) (a' := ?_) ?hw11 ?_ ?_ ?_
                case hw11 => rfl
                rotate_left
                rotate_left
                · intro w' hC_
                  go_simp
                  with_reducible rfl
                · show Act.put _ (some 257) _ = _
                  simp only [Act.put, List.setIfInBounds_toArray, List.set_cons_zero, List.set_cons_succ, i64_w, i32_w]
                  rfl
                refine q_op (v := ?_) (a' := ?_) ?hw11 ?_ ?_ ?_
                case hw11 => rfl
                rotate_left
                rotate_left
                · intro w' hC_
                  go_simp
                  with_reducible rfl
                · show Act.put _ (some 258) _ = _
                  simp only [Act.put, List.setIfInBounds_toArray, List.set_cons_zero, List.set_cons_succ, i64_w, i32_w]
                  rfl
                refine q_op (v := ?_) (a' := ?_) ?hw11 ?_ ?_ ?_
                case hw11 => exact wanted_on rfl rfl rfl rfl
                rotate_left
                rotate_left
                · intro w' hC_
                  go_simp
                  with_reducible rfl
                · show Act.put _ (some 259) _ = _
                  simp only [Act.put, List.setIfInBounds_toArray, List.set_cons_zero, List.set_cons_succ, i64_w, i32_w]
                  rfl
                refine q_op (v := ?_) (a' := ?_) ?hw11 ?_ ?_ ?_
                case hw11 => exact wanted_on rfl rfl rfl rfl
                rotate_left
                rotate_left
                · intro w' hC_
                  go_simp
                  with_reducible rfl
                · show Act.put _ (some 260) _ = _
                  simp only [Act.put, List.setIfInBounds_toArray, List.set_cons_zero, List.set_cons_succ, i64_w, i32_w]
                  rfl
                refine q_op (v := ?_) (a' := ?_) ?hw11 ?_ ?_ ?_
                case hw11 => exact wanted_on rfl rfl rfl rfl
                rotate_left
                rotate_left
                · intro w' hC_
                  go_simp
                  with_reducible rfl
                · show Act.put _ (some 261) _ = _
                  simp only [Act.put, List.setIfInBounds_toArray, List.set_cons_zero, List.set_cons_succ, i64_w, i32_w]
                  rfl
                refine q_op (v := ?_) (a' := ?_) ?hw11 ?_ ?_ ?_
                case hw11 => exact wanted_on rfl rfl rfl rfl
                rotate_left
                rotate_left
                · intro w' hC_
                  go_simp
                  with_reducible rfl
                · show Act.put _ (some 262) _ = _
                  simp only [Act.put, List.setIfInBounds_toArray, List.set_cons_zero, List.set_cons_succ, i64_w, i32_w]
                  rfl
                refine q_op (v := .bool false) (a' := ?_) ?hw11 ?_ ?_ ?_
                case hw11 => exact wanted_on rfl rfl rfl rfl
                rotate_left
                · intro w' hC_
                  obtain _ := hC_
                  go_simp
                · show Act.put _ (some 263) _ = _
                  simp only [Act.put, List.setIfInBounds_toArray, List.set_cons_zero, List.set_cons_succ, i64_w, i32_w]
                  rfl
                refine q_op (v := ?_) (a' := ?_) ?hw11 ?_ ?_ ?_
                case hw11 => exact wanted_on rfl rfl rfl rfl
                rotate_left
                rotate_left
                · intro w' hC_
                  go_simp
                  with_reducible rfl
                · show Act.put _ (some 264) _ = _
                  simp only [Act.put, List.setIfInBounds_toArray, List.set_cons_zero, List.set_cons_succ, i64_w, i32_w]
                  rfl
                refine q_op (v := ?_) (a' := ?_) ?hw11 ?_ ?_ ?_
                case hw11 => exact wanted_on rfl rfl rfl rfl
                rotate_left
                rotate_left
                · intro w' hC_
                  have y0 := blk_cell ((hC_.block _ (blk_lt XC.out)).trans XC.out) 0
                  have y1 := blk_cell ((hC_.block _ (blk_lt XC.out)).trans XC.out) 1
                  have y2 := blk_cell ((hC_.block _ (blk_lt XC.out)).trans XC.out) 2
                  go_simp
                  with_reducible rfl
                · show Act.put _ (some 265) _ = _
                  simp only [Act.put, List.setIfInBounds_toArray, List.set_cons_zero, List.set_cons_succ, i64_w, i32_w]
                  rfl
                refine q_op (v := ?_) (a' := ?_) ?hw11 ?_ ?_ ?_
                case hw11 => exact wanted_on rfl rfl rfl rfl
                rotate_left
                rotate_left
                · intro w' hC_
                  go_simp
                  with_reducible rfl
                · show Act.put _ (some 266) _ = _
                  simp only [Act.put, List.setIfInBounds_toArray, List.set_cons_zero, List.set_cons_succ, i64_w, i32_w]
                  rfl
                refine q_op (v := ?_) (a' := ?_) ?hw11 ?_ ?_ ?_
                case hw11 => exact wanted_on rfl rfl rfl rfl
                rotate_left
                rotate_left
                · intro w' hC_
                  go_simp
                  with_reducible rfl
                · show Act.put _ (some 267) _ = _
                  simp only [Act.put, List.setIfInBounds_toArray, List.set_cons_zero, List.set_cons_succ, i64_w, i32_w]
                  rfl
                refine q_op (v := ?_) (a' := ?_) ?hw11 ?_ ?_ ?_
                case hw11 => exact wanted_on rfl rfl rfl rfl
                rotate_left
                rotate_left
                · intro w' hC_
                  obtain ⟨z1, z2, z3⟩ := (P53.out.below hC_).wcell HBE.out.1.2.1
                  go_simp
                  with_reducible rfl
                · show Act.put _ (some 268) _ = _
                  simp only [Act.put, List.setIfInBounds_toArray, List.set_cons_zero, List.set_cons_succ, i64_w, i32_w]
                  rfl
                refine q_op (v := .bool false) (a' := ?_) ?hw11 ?_ ?_ ?_
                case hw11 => exact wanted_on rfl rfl rfl rfl
                rotate_left
                · intro w' hC_
                  obtain _ := hC_
                  go_simp
                · show Act.put _ (some 269) _ = _
                  simp only [Act.put, List.setIfInBounds_toArray, List.set_cons_zero, List.set_cons_succ, i64_w, i32_w]
                  rfl
                refine q_op (v := ?_) (a' := ?_) ?hw11 ?_ ?_ ?_
                case hw11 => exact wanted_on rfl rfl rfl rfl
                rotate_left
                rotate_left
                · intro w' hC_
                  go_simp
                  with_reducible rfl
                · show Act.put _ (some 270) _ = _
                  simp only [Act.put, List.setIfInBounds_toArray, List.set_cons_zero, List.set_cons_succ, i64_w, i32_w]
                  rfl
                refine q_op (v := ?_) (a' := ?_) ?hw11 ?_ ?_ ?_
                case hw11 => exact wanted_on rfl rfl rfl rfl
                rotate_left
                rotate_left
                · intro w' hC_
                  go_simp
                  with_reducible rfl
                · show Act.put _ (some 271) _ = _
                  simp only [Act.put, List.setIfInBounds_toArray, List.set_cons_zero, List.set_cons_succ, i64_w, i32_w]
                  rfl
                refine q_op (v := ?_) (a' := ?_) ?hw11 ?_ ?_ ?_
                case hw11 => rfl
                rotate_left
                rotate_left
                · intro w' hC_
                  go_simp
                  with_reducible rfl
                · show Act.put _ (some 272) _ = _
                  simp only [Act.put, List.setIfInBounds_toArray, List.set_cons_zero, List.set_cons_succ, i64_w, i32_w]
                  rfl
                refine q_op (v := ?_) (a' := ?_) ?hw11 ?_ ?_ ?_
                case hw11 => rfl
                rotate_left
                rotate_left
                · intro w' hC_
                  go_simp
                  with_reducible rfl
                · show Act.put _ (some 273) _ = _
                  simp only [Act.put, List.setIfInBounds_toArray, List.set_cons_zero, List.set_cons_succ, i64_w, i32_w]
                  rfl
                refine q_op (v := ?_) (a' := ?_) ?hw11 ?_ ?_ ?_
                case hw11 => exact wanted_on rfl rfl rfl rfl
                rotate_left
                rotate_left
                · intro w' hC_
                  go_simp
                  with_reducible rfl
                · show Act.put _ (some 274) _ = _
                  simp only [Act.put, List.setIfInBounds_toArray, List.set_cons_zero, List.set_cons_succ, i64_w, i32_w]
                  rfl
                refine q_call (a' := ?_) Try.func14 (by kernel_rfl) rfl #[v] ?hw11 rfl ?hx11 (.int .u64 (m : Int)) ?_ ?_ ?_
                case hw11 => exact wanted_on rfl rfl rfl rfl
                case hx11 => (try simp only [List.map_toArray, List.map_cons, List.map_nil]); first | done | rfl
                rotate_left
                · intro w' hC_
                  exact (idle_known HI.out (P53.out.below hC_).st).mono (by rintro e w'' ⟨rfl, rfl⟩; exact ⟨rfl, hC_⟩)
                · show Act.put _ (some 275) _ = _
                  simp only [Act.put, List.setIfInBounds_toArray, List.set_cons_zero, List.set_cons_succ, i64_w, i32_w]
                  rfl
                refine q_op (v := ?_) (a' := ?_) ?hw11 ?_ ?_ ?_
                case hw11 => exact wanted_on rfl rfl rfl rfl
                rotate_left
                rotate_left
                · intro w' hC_
                  go_simp
                  with_reducible rfl
                · show Act.put _ (some 276) _ = _
                  simp only [Act.put, List.setIfInBounds_toArray, List.set_cons_zero, List.set_cons_succ, i64_w, i32_w]
                  rfl
                refine q_op (v := .bool false) (a' := ?_) ?hw11 ?_ ?_ ?_
                case hw11 => exact wanted_on rfl rfl rfl rfl
                rotate_left
                · intro w' hC_
                  obtain _ := hC_
                  go_simp
                · show Act.put _ (some 277) _ = _
                  simp only [Act.put, List.setIfInBounds_toArray, List.set_cons_zero, List.set_cons_succ, i64_w, i32_w]
                  rfl
                refine q_op (v := ?_) (a' := ?_) ?hw11 ?_ ?_ ?_
                case hw11 => rfl
                rotate_left
                rotate_left
                · intro w' hC_
                  go_simp
                  with_reducible rfl
                · show Act.put _ (some 278) _ = _
                  simp only [Act.put, List.setIfInBounds_toArray, List.set_cons_zero, List.set_cons_succ, i64_w, i32_w]
                  rfl
                refine q_op (v := ?_) (a' := ?_) ?hw11 ?_ ?_ ?_
                case hw11 => rfl
                rotate_left
                rotate_left
                · intro w' hC_
                  go_simp
                  with_reducible rfl
                · show Act.put _ (some 279) _ = _
                  simp only [Act.put, List.setIfInBounds_toArray, List.set_cons_zero, List.set_cons_succ, i64_w, i32_w]
                  rfl
                refine q_op (v := ?_) (a' := ?_) ?hw11 ?_ ?_ ?_
                case hw11 => exact wanted_on rfl rfl rfl rfl
                rotate_left
                rotate_left
                · intro w' hC_
                  go_simp
                  with_reducible rfl
                · show Act.put _ (some 280) _ = _
                  simp only [Act.put, List.setIfInBounds_toArray, List.set_cons_zero, List.set_cons_succ, i64_w, i32_w]
                  rfl
                refine q_op (v := ?_) (a' := ?_) ?hw11 ?_ ?_ ?_
                case hw11 => exact wanted_on rfl rfl rfl rfl
                rotate_left
                rotate_left
                · intro w' hC_
                  go_simp
                  with_reducible rfl
                · show Act.put _ (some 281) _ = _
                  simp only [Act.put, List.setIfInBounds_toArray, List.set_cons_zero, List.set_cons_succ, i64_w, i32_w]
                  rfl
                refine q_op (v := ?_) (a' := ?_) ?hw11 ?_ ?_ ?_
                case hw11 => exact wanted_on rfl rfl rfl rfl
                rotate_left
                rotate_left
                · intro w' hC_
                  go_simp
                  with_reducible rfl
                · show Act.put _ (some 282) _ = _
                  simp only [Act.put, List.setIfInBounds_toArray, List.set_cons_zero, List.set_cons_succ, i64_w, i32_w]
                  rfl
                refine q_op (v := ?_) (a' := ?_) ?hw11 ?_ ?_ ?_
                case hw11 => exact wanted_on rfl rfl rfl rfl
                rotate_left
                rotate_left
                · intro w' hC_
                  go_simp
                  with_reducible rfl
                · show Act.put _ (some 283) _ = _
                  simp only [Act.put, List.setIfInBounds_toArray, List.set_cons_zero, List.set_cons_succ, i64_w, i32_w]
                  rfl
                refine q_op (v := ?_) (a' := ?_) ?hw11 ?_ ?_ ?_
                case hw11 => exact wanted_on rfl rfl rfl rfl
                rotate_left
                rotate_left
                · intro w' hC_
                  go_simp
                  with_reducible rfl
                · show Act.put _ (some 284) _ = _
                  simp only [Act.put, List.setIfInBounds_toArray, List.set_cons_zero, List.set_cons_succ, i64_w, i32_w]
                  rfl
                refine q_op (v := ?_) (a' := ?_) ?hw11 ?_ ?_ ?_
                case hw11 => rfl
                rotate_left
                rotate_left
                · intro w' hC_
                  go_simp
                  with_reducible rfl
                · show Act.put _ (some 285) _ = _
                  simp only [Act.put, List.setIfInBounds_toArray, List.set_cons_zero, List.set_cons_succ, i64_w, i32_w]
                  rfl
                refine q_nil ?_
                intro w54 hC_
                have P54 := Aside0.mk (P53.out.below hC_)
                have R54 := Aside0.mk (St.below (s := row 29 KE) R53.out hC_)
                have H24 := Aside0.mk (Kd.C_below H2.out hC_)
                clear hC_
                go_upto_block 7 with (fail)
                refine wp_tail ?_
                refine loop4_piece (row_C R54.out) H24.out HAS.out _ _ ?hk4some ?hq4some
                case hq4some => exact fun _ _ _ _ _ h => h
                intro a' wd hR_
                obtain ⟨x4, hR_⟩ := hR_
                obtain ⟨x28, hR_⟩ := hR_
                obtain ⟨x286, hR_⟩ := hR_
                obtain ⟨x287, hR_⟩ := hR_
                obtain ⟨x288, hR_⟩ := hR_
                obtain ⟨x289, hR_⟩ := hR_
                obtain ⟨x290, hR_⟩ := hR_
                obtain ⟨x291, hR_⟩ := hR_
                obtain ⟨x292, hR_⟩ := hR_
                obtain ⟨x293, hR_⟩ := hR_
                obtain ⟨x294, hR_⟩ := hR_
                obtain ⟨x295, hR_⟩ := hR_
                obtain ⟨x296, hR_⟩ := hR_
                obtain ⟨x297, hR_⟩ := hR_
                obtain ⟨x298, hR_⟩ := hR_
                obtain ⟨x299, hR_⟩ := hR_
                obtain ⟨x300, hR_⟩ := hR_
                obtain ⟨hcut, ha_⟩ := hR_
                subst ha_
                have P55 := Aside0.mk (P54.out.below hcut)
                clear hcut
                go_wp2
                exact ⟨⟨j + 1, c3, s2, csw2, csi2, by omega, by go_num, P55.out⟩, by simp [intOf]; omega⟩
    · go_wp2
      go_ret
      exact ⟨rfl, HP.out.far⟩
set_option maxHeartbeats 4000000 in
set_option maxRecDepth 100000 in
theorem plays_walk (cpus : Int) (_ : (Lit.int .i64 cpus).wf = true) (A : Option Addr) (cap : Nat) (l : List (Int × Int × Int × Int × Bool)) {good : (Int × Int × Int × Int × Bool) → Prop} {w : World} (hr : (Kd.pair (Kd.int .i64) (Kd.pair (Kd.int .i64) (Kd.pair (Kd.int .i64) (Kd.pair (Kd.int .i64) Kd.bool)))).C w A l.length l) (hc : l.length ≤ cap) (hg : ∀ a ∈ l, good a) (_ : World) :
    Calls Try.prog 4 #[.int .i64 cpus, .slice A l.length cap] w fun e w' => e = .returned (.bool true) ∧ Below w.heap.size w w' := by
  by_cases h0 : cpus < 1 ∨ 64 < cpus
  · exact plays_bad cpus A cap l h0
  · by_cases h1 : 80 < (l.length : Int)
    · exact plays_long cpus cpus.toNat A cap l (by omega) (by omega) (by omega) h1
    · exact plays_main cpus cpus.toNat A cap l hr (by omega) (by omega) (by omega) h1
end Go.Proofs.Ytjeflmdfnfgacaa.Rank
