/- RobinPlays: any calls: who is taken, who is next, is as the document says (the walk; no condition). -/
import Derived.Test.YtmjmfkbdnhdafaaRobC
import Derived.Test.YtmjmfkbdnhdafaaQt
import Derived.Deep.DeepCutAuto
import Derived.Deep.CutBlock
import Derived.Deep.CutRange
namespace Go.Proofs.Ytmjmfkbdnhdafaa.Robin
open Go.RowKit Go.Proofs.YtmjmfkbdnhdafaaW.PrintWords Go.Proofs.YtmjmfkbdnhdafaaW.PrintLast Go.Proofs.YtmjmfkbdnhdafaaW.PrintMore Go.Proofs.Ytmjmfkbdnhdafaa.St Go.Proofs.Ytmjmfkbdnhdafaa.Q Go.Proofs.Ytmjmfkbdnhdafaa.Fifo
set_option linter.unusedVariables false
set_option linter.unusedSimpArgs false
attribute [local go_sem] max2_int min2_int max_two min_two max_three min_three max_four min_four

theorem read_quad {w : World} {A : Option Addr} {l : List (Int × Int × Int × Int)} (h : (Kd.pair (Kd.int .i64) (Kd.pair (Kd.int .i64) (Kd.pair (Kd.int .i64) (Kd.int .i64)))).C w A l.length l) {j : Nat} (hj : j < l.length) :
    ∃ ad, A = some ad ∧ w.cell? (ad.add (j * 4)) = some (.int .i64 (l.getD j (0, 0, 0, 0)).1) ∧ w.cell? ⟨(ad.add (j * 4)).block, (ad.add (j * 4)).off + 1, none⟩ = some (.int .i64 (l.getD j (0, 0, 0, 0)).2.1) ∧ w.cell? ⟨(ad.add (j * 4)).block, (ad.add (j * 4)).off + 2, none⟩ = some (.int .i64 (l.getD j (0, 0, 0, 0)).2.2.1) ∧ w.cell? ⟨(ad.add (j * 4)).block, (ad.add (j * 4)).off + 3, none⟩ = some (.int .i64 (l.getD j (0, 0, 0, 0)).2.2.2) := by
  obtain ⟨ad, c, e, _, hK, hc0⟩ := Kd.C_get h (0, 0, 0, 0) (j : Int) (by omega) (by omega)
  rw [Int.toNat_natCast] at hK hc0
  have hc : ∀ i u, c[i]? = some u → w.cell? (ad.add (j * 4 + i)) = some u := hc0
  obtain ⟨_, _, rfl, rfl, _, _, rfl, rfl, _, _, rfl, rfl, rfl⟩ := hK
  exact ⟨ad, e, hc 0 _ rfl, by rw [← add_field _ _ 1 (by omega)]; exact hc 1 _ rfl, by rw [← add_field _ _ 2 (by omega)]; exact hc 2 _ rfl, by rw [← add_field _ _ 3 (by omega)]; exact hc 3 _ rfl⟩
theorem blk_put {w : World} {g : Nat} {cs cs' : Array Value} {t : TypeId} (h : w.heap[g]? = some (.cells cs t (0, 0))) (j : Nat) (u : Value) (hc : cs.setIfInBounds j u = cs') : (w.setCell ⟨g, j, none⟩ u).heap[g]? = some (.cells cs' t (0, 0)) := by
  subst hc
  exact blk_set h j u
def RelQ (w : World) (m : Nat) (room : Int) (vr vw i : Value) (wr : World) : Prop :=
  ∃ (j : Nat) (c : Nat → Nat) (q : List Int), j ≤ m ∧ i = .int .i64 (j : Int) ∧ robin.M wr w.heap.size (fun k => c k = 0) (room, q) vr ∧ (crow .i64).M wr w.heap.size (fun k => c k = 1) q vw ∧ q.Nodup ∧ (∀ y ∈ q, (Lit.int .i64 y).wf = true) ∧ Below w.heap.size w wr
def CutP (w : World) (room : Int) (vr vw : Value) (wr : World) : Prop :=
  ∃ (c : Nat → Nat) (q : List Int), robin.M wr w.heap.size (fun k => c k = 0) (room, q) vr ∧ (crow .i64).M wr w.heap.size (fun k => c k = 1) q vw ∧ q.Nodup ∧ (∀ y ∈ q, (Lit.int .i64 y).wf = true) ∧ Below w.heap.size w wr
def RelA (wo : World) (q : List Int) (x : Int) (a k : Value) (wz : World) : Prop := ∃ n : Nat, n ≤ q.length ∧ k = .int .i64 (n : Int) ∧ a = .int .i64 (atUp q x n) ∧ Below wo.heap.size wo wz
theorem then_self (Q : Exit → Act → World → Prop) : Exit.then (Q .normal) Q = Q := by
  funext e a w
  cases e <;> rfl
theorem wp_tail {P : Program} {c : Code} {Q : Exit → Act → World → Prop} {a : Act} {w : World} (h : Code.wp P c (Exit.then (Q .normal) Q) a w) : Code.wp P c Q a w := by
  rw [then_self] at h
  exact h
theorem held_n {q : List Int} {n : Int} : (if (q.length : Int) < (if n < 0 then 0 else n) then (q.length : Int) else (if n < 0 then 0 else n)) = (heldN n q : Int) := by
  rcases held_cases n q with ⟨h1, h2⟩ | ⟨h1, h2, h3⟩ | ⟨h1, h2, h3⟩
  · rw [if_pos h1, if_neg (show ¬ (q.length : Int) < 0 by omega), h2]; rfl
  · rw [if_neg (show ¬ n < 0 by omega), if_pos h2, h3]
  · rw [if_neg (show ¬ n < 0 by omega), if_neg (show ¬ (q.length : Int) < n by omega), h3]
/-- What Many tells is what was counted. -/
theorem counts_eq {q xs : List Int} {n t : Int} {f : Int → Int} (hT : clampT t = (t.toNat : Int)) (hC : Counts (wholeOf n t q) (restOf n t q) q.length xs) (hf : Cnt q (t.toNat * heldN n q) f) : ∀ k, k < q.length → xs.getD k 0 = f (q.getD k 0) := by
  intro k hk
  rw [hC k hk, hf k hk, (many_turns hT).1, (many_turns hT).2]
set_option maxHeartbeats 16000000 in
set_option maxRecDepth 100000 in
theorem plays_walk (most : Int) (_ : (Lit.int .i64 most).wf = true) (A : Option Addr) (cap : Nat) (l : List (Int × Int × Int × Int)) {w : World} (hr : (Kd.pair (Kd.int .i64) (Kd.pair (Kd.int .i64) (Kd.pair (Kd.int .i64) (Kd.int .i64)))).C w A l.length l) (hc : l.length ≤ cap) (hg : ∀ a ∈ l, (Lit.int .i64 a.1).wf = true ∧ (Lit.int .i64 a.2.1).wf = true ∧ (Lit.int .i64 a.2.2.1).wf = true ∧ (Lit.int .i64 a.2.2.2).wf = true) (_ : World) :
    Calls Try.prog 6 #[.int .i64 most, .slice A l.length cap] w fun e w' => e = .returned (.bool true) ∧ Below w.heap.size w w' := by
  have HC := Aside0.mk hr
  have HG := Aside0.mk hg
  clear hr hg
  by_cases hl : l.length ≤ 60
  · have d1 : decide (60 < l.length) = false := decide_eq_false (by omega)
    have d1i : decide ((60 : Int) < (l.length : Int)) = false := decide_eq_false (by omega)
    go_enter Try.func6, Try.ntmps6
    go_upto_if 31 with (first | (go_at_call 7; (with_reducible refine (awake_calls _).mono ?_); rintro e w1 ⟨rfl, hb1⟩; have HB1 := Aside0.mk hb1; clear hb1) | (go_at_call 8; (with_reducible refine (newC (w0 := w) (fun _ => 9) 0 most HB1.out).mono ?_); rintro e w2 ⟨g2, rfl, c2, h2, t2⟩; have H2 := Aside0.mk h2; have HB2 := Aside0.mk (t2.far HB1.out); clear h2 t2))
    generalize hvr : (Value.pointer (some ⟨g2, 0, none⟩)) = vr at H2 ⊢
    go_cut [6] (fun v6 wc => wc = w2 ∧ v6 = .int .i64 (if most < 1 then 1 else most))
    case first =>
      by_cases hm : most < 1
      · go_wp2
        go_meet
        exact ⟨rfl, by rw [if_pos hm]⟩
      · go_wp2
        go_meet
        exact ⟨rfl, by rw [if_neg (by omega)]⟩
    case rest =>
      as_aux_lemma =>
      obtain ⟨rfl, rfl⟩ := hcut
      obtain ⟨r1, hr1⟩ : ∃ r : Int, (if most < 1 then 1 else most) = r := ⟨_, rfl⟩
      have HR1 := Aside0.mk hr1
      rw [hr1]
      clear hr1
      go_upto_if 33 with (fail)
      go_cut [6] (fun v6 wx => wx = wc ∧ v6 = .int .i64 (if 256 < r1 then 256 else r1))
      case first =>
        by_cases hm : 256 < r1
        · go_wp2
          go_meet
          exact ⟨rfl, by rw [if_pos hm]⟩
        · go_wp2
          go_meet
          exact ⟨rfl, by rw [if_neg (by omega)]⟩
      case rest =>
        as_aux_lemma =>
        obtain ⟨rfl, rfl⟩ := hcut
        have hroom : (if 256 < r1 then 256 else r1) = clamp most := by rw [← HR1.out]; rfl
        rw [hroom]
        clear hroom HR1
        generalize clamp most = room at H2 ⊢
        go_wp2
        go_loopw [7, 8] (fun vw i wr => RelQ w l.length room vr vw i wr) (fun _ i _ => l.length - (intOf i).toNat)
        case atStart => exact ⟨0, c2, [], Nat.zero_le _, rfl, H2.out, crow_nil _ _ _ _, List.nodup_nil, fun y hy => absurd hy List.not_mem_nil, HB2.out⟩
        case round =>
          as_aux_lemma =>
          obtain ⟨j, c, q, hj, rfl, hM, hW, hN, hF, hB⟩ := hrel
          have HM := Aside0.mk hM
          have HB := Aside0.mk hB
          have HND := Aside0.mk hN
          have HWF := Aside0.mk hF
          have HLN := Aside0.mk (robin_len hM)
          have hq256 : q.length ≤ 256 := (robin_len hM).2.1
          obtain ⟨A1, k1, rfl, hk1, -⟩ := crow_reads hW
          have HW := Aside0.mk hW
          clear hM hB hN hF hW H2 HB1 HB2
          by_cases hlt : j < l.length
          · obtain ⟨ad, hA, a0, a1, a2, a3⟩ := read_quad (Kd.C_below HC.out HB.out) hlt
            subst hA
            obtain ⟨⟨x1, x2, x3, x4⟩, hx⟩ : ∃ x, l.getD j (0, 0, 0, 0) = x := ⟨_, rfl⟩
            have HWX := Aside0.mk (show (Lit.int .i64 x2).wf = true from by
              have h := HG.out (l.getD j (0, 0, 0, 0)) (by rw [List.getD_eq_getElem?_getD, List.getElem?_eq_getElem hlt]; exact List.getElem_mem _)
              rw [hx] at h
              exact h.2.1)
            rw [hx] at a0 a1 a2 a3
            clear hx
            have bq : (0 ≤ (j : Int) ∧ (j : Int) < (l.length : Int)) := by omega
            go_upto_region 16 with (first | ((with_reducible refine gate_dst (N := 9) rfl ?_); refine box_event ?hg (N := 9) ?hd (cs := #[.int .i64 0, .int .i64 0, .int .i64 0, .int .i64 0]) (t := 37) ?hr ?_; (case hd => rfl); (case hg => rfl); (case hr => first | (go_simp; done) | (go_simp; rfl) | kernel_rfl); intro g9 hg5 w5 hx5 hb5; have HX5 := Aside0.mk hx5; have HB5 := Aside0.mk hb5; have HG5 := Aside0.mk hg5; have s0 := blk_cell hx5 0; have t0 := blk_frozen hx5 0; have s1 := blk_cell hx5 1; have t1 := blk_frozen hx5 1; have s2 := blk_cell hx5 2; have t2 := blk_frozen hx5 2; have s3 := blk_cell hx5 3; have t3 := blk_frozen hx5 3; clear hx5 hb5 hg5))
            have hgx : wr.heap.size ≤ g9 := Nat.le_of_eq HG5.out.symm
            have hb5 : Below wr.heap.size wr ((((w5.setCell ⟨g9, 0, none⟩ (.int .i64 x1)).setCell ⟨g9, 1, none⟩ (.int .i64 x2)).setCell ⟨g9, 2, none⟩ (.int .i64 x3)).setCell ⟨g9, 3, none⟩ (.int .i64 x4)) := ((((HB5.out.setCell hgx _).setCell hgx _).setCell hgx _).setCell hgx _)
            have hx5 : ((((w5.setCell ⟨g9, 0, none⟩ (.int .i64 x1)).setCell ⟨g9, 1, none⟩ (.int .i64 x2)).setCell ⟨g9, 2, none⟩ (.int .i64 x3)).setCell ⟨g9, 3, none⟩ (.int .i64 x4)).heap[g9]? = some (.cells #[.int .i64 x1, .int .i64 x2, .int .i64 x3, .int .i64 x4] 37 (0, 0)) := blk_put (cs := #[.int .i64 x1, .int .i64 x2, .int .i64 x3, .int .i64 0]) (blk_put (cs := #[.int .i64 x1, .int .i64 x2, .int .i64 0, .int .i64 0]) (blk_put (cs := #[.int .i64 x1, .int .i64 0, .int .i64 0, .int .i64 0]) (blk_put (cs := #[.int .i64 0, .int .i64 0, .int .i64 0, .int .i64 0]) HX5.out 0 _ rfl) 1 _ rfl) 2 _ rfl) 3 _ rfl
            clear s0 s1 s2 s3 t0 t1 t2 t3 a0 a1 a2 a3 HX5 HB5 HG5
            generalize ((((w5.setCell ⟨g9, 0, none⟩ (.int .i64 x1)).setCell ⟨g9, 1, none⟩ (.int .i64 x2)).setCell ⟨g9, 2, none⟩ (.int .i64 x3)).setCell ⟨g9, 3, none⟩ (.int .i64 x4)) = wa at hb5 hx5 ⊢
            obtain ⟨ca, ha, ta⟩ := blk_new1 (w0 := w) c 2 hgx hx5 hb5 (Below.size HB.out)
            have MA := Aside0.mk (ta.keep _ robin 0 _ _ (by decide) HM.out)
            have WA := Aside0.mk (ta.keep _ (crow .i64) 1 _ _ (by decide) HW.out)
            have XA := Aside0.mk ha
            have BA := Aside0.mk (ta.far HB.out)
            clear ha ta hb5 hx5 hgx HM HW HB
            obtain ⟨wo, hwo⟩ : ∃ wo : World, wo = wa := ⟨_, rfl⟩
            go_wp2
            go_loopw [10, 11] (fun a k wz => RelA wa q x2 a k wz) (fun _ k _ => q.length - (intOf k).toNat)
            case atStart => exact ⟨0, Nat.zero_le _, rfl, rfl, Below.refl _ _⟩
            case round =>
              as_aux_lemma =>
              obtain ⟨n, hn, rfl, rfl, hBz⟩ := hrel
              have WZ := Aside0.mk (St.below (s := crow .i64) WA.out hBz)
              have XZ := Aside0.mk (St.below (s := blk) XA.out hBz)
              have BZ := Aside0.mk hBz
              clear hBz
              by_cases hnq : n < q.length
              · have pq : decide ((n : Int) < (q.length : Int)) = true := decide_eq_true (by omega)
                have bn : (0 ≤ (n : Int) ∧ (n : Int) < (q.length : Int)) := by omega
                obtain ⟨a1, e, hcell⟩ := Mine.read_at (crow_C WZ.out) hnq
                subst e
                have y1 := blk_cell (blk_at XZ.out) 1
                obtain ⟨z, hz⟩ : ∃ z, q.getD n 0 = z := ⟨_, rfl⟩
                rw [hz] at hcell
                by_cases hv : z = x2
                · have HA := Aside0.mk (show atUp q x2 (n + 1) = (n : Int) from by rw [atUp, if_pos (hz.trans hv)])
                  have pe : (z == x2) = true := beq_iff_eq.2 hv
                  clear hz hv
                  go_upto_region 20 with (fail)
                  go_quiet (fail)
                  go_wp2
                  exact ⟨⟨n + 1, by omega, by go_num, by rw [HA.out], pw_below_drewN BZ.out _⟩, by simp [intOf]; omega⟩
                · have HA := Aside0.mk (show atUp q x2 (n + 1) = atUp q x2 n from by rw [atUp, if_neg (fun e => hv (hz.symm.trans e))])
                  have pe : (z == x2) = false := beq_eq_false_iff_ne.2 hv
                  clear hz hv
                  generalize atUp q x2 n = aq at *
                  go_upto_region 20 with (fail)
                  go_quiet (fail)
                  go_wp2
                  exact ⟨⟨n + 1, by omega, by go_num, by rw [HA.out], pw_below_drewN BZ.out _⟩, by simp [intOf]; omega⟩
              · have pq : decide ((n : Int) < (q.length : Int)) = false := decide_eq_false (by omega)
                have hne : n = q.length := by omega
                have MZ := Aside0.mk (St.below (s := robin) MA.out BZ.out)
                have BW := Aside0.mk (Below.trans BA.out (Below.mono BZ.out (Below.size BA.out)))
                have pn : decide ((q.length : Int) < (q.length : Int)) = false := decide_eq_false (by omega)
                rw [hne]
                clear hne hn hnq pq BZ XA WA MA BA
                have HAT := Aside0.mk (at_end HND.out x2)
                generalize atUp q x2 q.length = at0 at HAT ⊢
                have y2 := blk_cell (blk_at XZ.out) 2
                go_upto_if 61 with (fail)
                go_cut [12] (fun v wd => wd = wr ∧ v = .int .i64 (if x3 < 0 then 0 else x3))
                case first =>
                  as_aux_lemma =>
                  by_cases h0 : x3 < 0
                  · have d0 : decide (x3 < 0) = true := decide_eq_true h0
                    go_wp2
                    go_meet
                    exact ⟨rfl, by rw [if_pos (by omega)]⟩
                  · have d0 : decide (x3 < 0) = false := decide_eq_false h0
                    go_wp2
                    go_meet
                    exact ⟨rfl, by rw [if_neg (by omega)]⟩
                case rest =>
                  as_aux_lemma =>
                  obtain ⟨hwd, rfl⟩ := hcut
                  subst hwd
                  obtain ⟨r1, hr1⟩ : ∃ r, (if x3 < 0 then 0 else x3) = r := ⟨_, rfl⟩
                  have HR1 := Aside0.mk hr1
                  rw [hr1]
                  clear hr1
                  go_upto_if 65 with (fail)
                  go_cut [12] (fun v wd => wd = wc ∧ v = .int .i64 (if (q.length : Int) < r1 then (q.length : Int) else r1))
                  case first =>
                    as_aux_lemma =>
                    by_cases h0 : (q.length : Int) < r1
                    · have d0 : decide ((q.length : Int) < r1) = true := decide_eq_true h0
                      go_wp2
                      go_meet
                      exact ⟨rfl, by rw [if_pos (by omega)]⟩
                    · have d0 : decide ((q.length : Int) < r1) = false := decide_eq_false h0
                      go_wp2
                      go_meet
                      exact ⟨rfl, by rw [if_neg (by omega)]⟩
                  case rest =>
                    as_aux_lemma =>
                    obtain ⟨hwd, rfl⟩ := hcut
                    subst hwd
                    rw [show (if (q.length : Int) < r1 then (q.length : Int) else r1) = (heldN x3 q : Int) from by rw [← HR1.out]; exact held_n]
                    obtain ⟨n, hn⟩ : ∃ n, heldN x3 q = n := ⟨_, rfl⟩
                    have HH := Aside0.mk hn
                    have hnq : n ≤ q.length := by rw [← hn]; exact held_le _ _
                    rw [hn]
                    clear hn HR1 y2
                    have y0 := blk_cell (blk_at XZ.out) 0
                    go_upto_block 4 with (fail)
                    clear y0
                    go_cut [7] (fun vw wd => CutP w room vr vw wd)
                    case first =>
                      as_aux_lemma =>
                      by_cases o0 : x1 = 0
                      · have q0 : (x1 == 0) = true := beq_iff_eq.mpr o0
                        clear o0
                        by_cases g0 : x2 < 0
                        · as_aux_lemma =>
                          have d0 : decide (x2 < 0) = true := decide_eq_true g0
                          have G0 := Aside0.mk g0
                          clear g0
                          have y1 := blk_cell (blk_at XZ.out) 1
                          go_wp2_with (first | (go_at_call 9; (with_reducible refine (toC MZ.out (add_neg x2 (St.mine (s := robin) MZ.out) G0.out)).mono ?_); rintro e w20 ⟨rfl, c20, h20, t20⟩; have HM20 := Aside0.mk (show (robin).M w20 w.heap.size (fun k => c20 k = 0) (room, q) vr from h20); have HW20 := Aside0.mk (t20.keep _ (crow .i64) 1 _ _ (by decide) WZ.out); have HX20 := Aside0.mk (t20.keep _ (blk) 2 _ _ (by decide) XZ.out); have B20 := Aside0.mk (t20.far BW.out); clear h20 t20; clear y1; have y1 := blk_cell (blk_at HX20.out) 1))
                          go_meet
                          exact ⟨c20, q, HM20.out, HW20.out, HND.out, HWF.out, B20.out⟩
                        have d0 : decide (x2 < 0) = false := decide_eq_false g0
                        have G0 := Aside0.mk g0
                        clear g0
                        rcases HAT.out with ⟨hm, ha, hi⟩ | ⟨hm, ha⟩
                        · as_aux_lemma =>
                          have HMM := Aside0.mk hm
                          have d1 : decide (0 ≤ at0) = true := decide_eq_true (by omega)
                          clear hm hi ha
                          have y1 := blk_cell (blk_at XZ.out) 1
                          go_wp2_with (first | (go_at_call 9; (with_reducible refine (toC MZ.out (add_busy x2 (St.mine (s := robin) MZ.out) G0.out HMM.out)).mono ?_); rintro e w20 ⟨rfl, c20, h20, t20⟩; have HM20 := Aside0.mk (show (robin).M w20 w.heap.size (fun k => c20 k = 0) (room, q) vr from h20); have HW20 := Aside0.mk (t20.keep _ (crow .i64) 1 _ _ (by decide) WZ.out); have HX20 := Aside0.mk (t20.keep _ (blk) 2 _ _ (by decide) XZ.out); have B20 := Aside0.mk (t20.far BW.out); clear h20 t20; clear y1; have y1 := blk_cell (blk_at HX20.out) 1))
                          go_meet
                          exact ⟨c20, q, HM20.out, HW20.out, HND.out, HWF.out, B20.out⟩
                        subst ha
                        have HMM := Aside0.mk hm
                        clear hm
                        by_cases g2 : (q.length : Int) = room
                        · as_aux_lemma =>
                          have d2 : decide (room ≤ (q.length : Int)) = true := decide_eq_true (by omega)
                          have G2 := Aside0.mk g2
                          clear g2
                          have y1 := blk_cell (blk_at XZ.out) 1
                          go_wp2_with (first | (go_at_call 9; (with_reducible refine (toC MZ.out (add_full x2 (St.mine (s := robin) MZ.out) G0.out HMM.out G2.out)).mono ?_); rintro e w20 ⟨rfl, c20, h20, t20⟩; have HM20 := Aside0.mk (show (robin).M w20 w.heap.size (fun k => c20 k = 0) (room, q) vr from h20); have HW20 := Aside0.mk (t20.keep _ (crow .i64) 1 _ _ (by decide) WZ.out); have HX20 := Aside0.mk (t20.keep _ (blk) 2 _ _ (by decide) XZ.out); have B20 := Aside0.mk (t20.far BW.out); clear h20 t20; clear y1; have y1 := blk_cell (blk_at HX20.out) 1))
                          go_meet
                          exact ⟨c20, q, HM20.out, HW20.out, HND.out, HWF.out, B20.out⟩
                        · as_aux_lemma =>
                          have d2 : decide (room ≤ (q.length : Int)) = false := decide_eq_false (by have := HLN.out; omega)
                          have G2 := Aside0.mk g2
                          clear g2
                          obtain ⟨q2, hq2⟩ : ∃ q2, q ++ [x2] = q2 := ⟨_, rfl⟩
                          have HQ2 := Aside0.mk hq2
                          have hlq : q2.length ≤ 257 := by rw [← hq2, List.length_append]; simp; omega
                          clear hq2
                          have y1 := blk_cell (blk_at XZ.out) 1
                          go_upto_region 50 with (first | (go_at_call 9; (with_reducible refine (toC MZ.out (add_ok x2 (St.mine (s := robin) MZ.out) G0.out HMM.out G2.out)).mono ?_); rintro e w20 ⟨rfl, c20, h20, t20⟩; rw [HQ2.out] at h20; have HM20 := Aside0.mk (show (robin).M w20 w.heap.size (fun k => c20 k = 0) (room, q2) vr from h20); have HW20 := Aside0.mk (t20.keep _ (crow .i64) 1 _ _ (by decide) WZ.out); have HX20 := Aside0.mk (t20.keep _ (blk) 2 _ _ (by decide) XZ.out); have B20 := Aside0.mk (t20.far BW.out); clear h20 t20; clear y1; have y1 := blk_cell (blk_at HX20.out) 1))
                          clear y1
                          refine start_ (n := 8) (S := fun w' => w'.cell? ⟨g9, 1, none⟩ = some (.int .i64 x2)) (ds := []) #[false, false, false, false, false, false, false, false] (by kernel_rfl) rfl rfl (show w20.drew.cell? ⟨g9, 1, none⟩ = _ from blk_cell (blk_at (St.drewN (s := blk) HX20.out 1)) 1) (fun hHeld => ?_)
                          obtain ⟨w30, hw30⟩ : ∃ w30 : World, w20.drew = w30 := ⟨_, rfl⟩
                          have hb30 : Below w20.heap.size w20 w30 := by rw [← hw30]; exact below_drew (Below.refl _ _)
                          (try rw [hw30] at hHeld)
                          rw [hw30]
                          have HM30 := Aside0.mk (St.below (s := robin) HM20.out hb30)
                          have HW30 := Aside0.mk (St.below (s := crow .i64) HW20.out hb30)
                          have HX30 := Aside0.mk (St.below (s := blk) HX20.out hb30)
                          have B30 := Aside0.mk (Below.trans B20.out (Below.mono hb30 (Below.size B20.out)))
                          clear hw30 hb30
                          refine pure_ (i := 1) (N := some 148) (v := ?_) (a' := ?_) #[false, true, false, false, false, false, false, false] rfl rfl (by kernel_rfl) (fun _ _ _ h => h) (Or.inl ⟨by rfl, ?_⟩) ?_ ?_
                          rotate_left
                          · intro w'
                            go_simp
                            with_reducible rfl
                          rotate_left
                          · simp only [Act.put, List.setIfInBounds_toArray, List.set_cons_zero, List.set_cons_succ, i64_w, i32_w]
                            rfl
                          refine pure_ (i := 3) (N := some 150) (v := ?_) (a' := ?_) #[false, true, false, true, false, false, false, false] rfl rfl (by kernel_rfl) (fun _ _ _ h => h) (Or.inl ⟨by rfl, ?_⟩) ?_ ?_
                          rotate_left
                          · intro w'
                            go_simp
                            with_reducible rfl
                          rotate_left
                          · simp only [Act.put, List.setIfInBounds_toArray, List.set_cons_zero, List.set_cons_succ, i64_w, i32_w]
                            rfl
                          refine take_ (i := 4) (N := some 151) (v := ?_) (a' := ?_) #[false, true, false, true, true, false, false, false] rfl rfl (by kernel_rfl) (fun _ _ _ h => h) (Or.inl ⟨by rfl, ?_⟩) hHeld ?_ ?_
                          rotate_left
                          · intro w' hS_
                            obtain s0_ := hS_
                            go_simp
                            with_reducible rfl
                          rotate_left
                          · simp only [Act.put, List.setIfInBounds_toArray, List.set_cons_zero, List.set_cons_succ, i64_w, i32_w]
                            rfl
                          refine join_ (σ := Value × Value × Value × Value) 0 #[true, true, true, true, true, true, true, true] (fun s_ => [(147, s_.1), (149, s_.2.1), (152, s_.2.2.1), (153, s_.2.2.2), (7, s_.2.2.2)]) (fun s_ w' => ∃ c' : Nat → Nat, (row 3 (Kd.int .i64)).M w' w.heap.size (fun k => c' k = 6) q2 (s_.2.2.2 : Value) ∧ robin.M w' w.heap.size (fun k => c' k = 0) (room, q2) vr ∧ Below w.heap.size w w') ?_ ?_
                          rotate_left
                          · intro hCont
                            refine two_ (i := 0) (j := 5) (Ni := some 147) (Nj := some 152) #[true, true, false, true, true, false, false, false] #[false, true, false, true, true, true, false, false] rfl rfl rfl rfl (by kernel_rfl) (by decide) (by decide) (fun K hK => ?_) (fun K hK => ?_)
                            · skip
                              refine lit_step (e := 3) (c := c20) (w0 := w) (Kd.int .i64) 6 ?hg (N := 147) ?hd ([] : List Int) [] ?hr ?hp ?hs (by simp) ?_
                              (case hd => rfl)
                              (case hg => rfl)
                              (case hp => exact Reps.none _ _)
                              (case hr => first | (go_simp; done) | (go_simp; rfl))
                              (case hs => exact Below.size B30.out)
                              intro v30x0 w30x0 c30x0 h30x0 t30x0
                              have HN30x0 := Aside0.mk (show (row 3 (Kd.int .i64)).M w30x0 w.heap.size (fun k => c30x0 k = 6) ([] : List Int) v30x0 from h30x0)
                              have HM30x0 := Aside0.mk (t30x0.keep _ (robin) 0 _ _ (by decide) HM30.out)
                              have HW30x0 := Aside0.mk (t30x0.keep _ (crow .i64) 1 _ _ (by decide) HW30.out)
                              have HX30x0 := Aside0.mk (t30x0.keep _ (blk) 2 _ _ (by decide) HX30.out)
                              have B30x0 := Aside0.mk (t30x0.far B30.out)
                              have hHeld := (show _ = some (Value.int IntKind.i64 x2) from blk_cell (blk_at HX30x0.out) 1)
                              refine hK.out _ _ hHeld (fun hHeld => ?_)
                              clear hK K
                              refine norm_ (a' := ?_) ?_ ?_
                              rotate_left
                              · show Act.put _ (some 147) _ = _
                                simp only [Act.put, List.setIfInBounds_toArray, List.set_cons_zero, List.set_cons_succ, i64_w, i32_w]
                                rfl
                              clear h30x0 t30x0
                              refine two_ (i := 2) (j := 5) (Ni := some 149) (Nj := some 152) #[true, true, true, true, true, false, false, false] #[true, true, false, true, true, true, false, false] rfl rfl rfl rfl (by kernel_rfl) (by decide) (by decide) (fun K hK => ?_) (fun K hK => ?_)
                              · skip
                                refine app_step (e := 3) (c := c30x0) (w0 := w) (d := Kd.int .i64) (i := 6) (by rfl) (.tmp 147) (.tmp 148) 28 (.int .i64 0) 8 rfl Try.underlying28 info_int rfl (by decide) (by decide) (flat_int _) v30x0 (([] : List Int)) (q) _ _ _ rfl rfl HN30x0.out (crow_C HW30x0.out) ?hs (by show (0 + q.length) * 8 ≤ _; omega) ?_
                                (case hs => exact Below.size B30x0.out)
                                intro v30x0x2 w30x0x2 c30x0x2 h30x0x2 t30x0x2
                                have HN30x0x2 := Aside0.mk (show (row 3 (Kd.int .i64)).M w30x0x2 w.heap.size (fun k => c30x0x2 k = 6) (([] : List Int) ++ (q)) v30x0x2 from h30x0x2)
                                have HM30x0x2 := Aside0.mk (t30x0x2.keep _ (robin) 0 _ _ (by decide) HM30x0.out)
                                have HW30x0x2 := Aside0.mk (t30x0x2.keep _ (crow .i64) 1 _ _ (by decide) HW30x0.out)
                                have HX30x0x2 := Aside0.mk (t30x0x2.keep _ (blk) 2 _ _ (by decide) HX30x0.out)
                                have B30x0x2 := Aside0.mk (t30x0x2.far B30x0.out)
                                have hHeld := (show _ = some (Value.int IntKind.i64 x2) from blk_cell (blk_at HX30x0x2.out) 1)
                                refine hK.out _ _ hHeld (fun hHeld => ?_)
                                clear hK K
                                refine norm_ (a' := ?_) ?_ ?_
                                rotate_left
                                · show Act.put _ (some 149) _ = _
                                  simp only [Act.put, List.setIfInBounds_toArray, List.set_cons_zero, List.set_cons_succ, i64_w, i32_w]
                                  rfl
                                clear h30x0x2 t30x0x2
                                refine one_ (i := 5) (N := some 152) #[true, true, true, true, true, true, false, false] rfl rfl (by kernel_rfl) (by decide) (fun K hK => ?_)
                                refine lit_step (e := 3) (c := c30x0x2) (w0 := w) (Kd.int .i64) 7 ?hg (N := 152) ?hd ([x2] : List Int) [.int .i64 x2] ?hr ?hp ?hs (by simp) ?_
                                (case hd => rfl)
                                (case hg => rfl)
                                (case hp => exact reps_nums .i64 _ _ _ [x2])
                                (case hr => first | (go_simp; done) | (go_simp; rfl))
                                (case hs => exact Below.size B30x0x2.out)
                                intro v30x0x2x5 w30x0x2x5 c30x0x2x5 h30x0x2x5 t30x0x2x5
                                have HP30x0x2x5 := Aside0.mk (show (row 3 (Kd.int .i64)).M w30x0x2x5 w.heap.size (fun k => c30x0x2x5 k = 7) ([x2] : List Int) v30x0x2x5 from h30x0x2x5)
                                have HM30x0x2x5 := Aside0.mk (t30x0x2x5.keep _ (robin) 0 _ _ (by decide) HM30x0x2.out)
                                have HW30x0x2x5 := Aside0.mk (t30x0x2x5.keep _ (crow .i64) 1 _ _ (by decide) HW30x0x2.out)
                                have HX30x0x2x5 := Aside0.mk (t30x0x2x5.keep _ (blk) 2 _ _ (by decide) HX30x0x2.out)
                                have HN30x0x2x5 := Aside0.mk (t30x0x2x5.keep _ (row 3 (Kd.int .i64)) 6 _ _ (by decide) HN30x0x2.out)
                                have B30x0x2x5 := Aside0.mk (t30x0x2x5.far B30x0x2.out)
                                obtain ⟨A30x0x2x5, k30x0x2x5, rfl, l30x0x2x5, g30x0x2x5⟩ := row_reads h30x0x2x5
                                have hHeld := (show _ = some (Value.int IntKind.i64 x2) from blk_cell (blk_at HX30x0x2x5.out) 1)
                                refine hK.out _ _ hHeld (fun hHeld => ?_)
                                clear hK K
                                refine norm_ (a' := ?_) ?_ ?_
                                rotate_left
                                · show Act.put _ (some 152) _ = _
                                  simp only [Act.put, List.setIfInBounds_toArray, List.set_cons_zero, List.set_cons_succ, i64_w, i32_w]
                                  rfl
                                clear h30x0x2x5 t30x0x2x5
                                refine one_ (i := 6) (N := some 153) #[true, true, true, true, true, true, true, false] rfl rfl (by kernel_rfl) (by decide) (fun K hK => ?_)
                                refine app_step (e := 3) (c := c30x0x2x5) (w0 := w) (d := Kd.int .i64) (i := 6) (by rfl) (.tmp 149) (.tmp 152) 28 (.int .i64 0) 8 rfl Try.underlying28 info_int rfl (by decide) (by decide) (flat_int _) v30x0x2 ((([] : List Int) ++ (q))) ([x2]) _ _ _ rfl rfl HN30x0x2x5.out (row_C HP30x0x2x5.out) ?hs (by rw [List.length_append]; show ((0 + q.length) + 1) * 8 ≤ _; omega) ?_
                                (case hs => exact Below.size B30x0x2x5.out)
                                intro v30x0x2x5x6 w30x0x2x5x6 c30x0x2x5x6 h30x0x2x5x6 t30x0x2x5x6
                                have HN30x0x2x5x6 := Aside0.mk (show (row 3 (Kd.int .i64)).M w30x0x2x5x6 w.heap.size (fun k => c30x0x2x5x6 k = 6) ((([] : List Int) ++ (q)) ++ ([x2])) v30x0x2x5x6 from h30x0x2x5x6)
                                have HM30x0x2x5x6 := Aside0.mk (t30x0x2x5x6.keep _ (robin) 0 _ _ (by decide) HM30x0x2x5.out)
                                have HW30x0x2x5x6 := Aside0.mk (t30x0x2x5x6.keep _ (crow .i64) 1 _ _ (by decide) HW30x0x2x5.out)
                                have HX30x0x2x5x6 := Aside0.mk (t30x0x2x5x6.keep _ (blk) 2 _ _ (by decide) HX30x0x2x5.out)
                                have HP30x0x2x5x6 := Aside0.mk (t30x0x2x5x6.keep _ (row 3 (Kd.int .i64)) 7 _ _ (by decide) HP30x0x2x5.out)
                                have B30x0x2x5x6 := Aside0.mk (t30x0x2x5x6.far B30x0x2x5.out)
                                have hHeld := (show _ = some (Value.int IntKind.i64 x2) from blk_cell (blk_at HX30x0x2x5x6.out) 1)
                                refine hK.out _ _ hHeld (fun hHeld => ?_)
                                clear hK K
                                refine norm_ (a' := ?_) ?_ ?_
                                rotate_left
                                · show Act.put _ (some 153) _ = _
                                  simp only [Act.put, List.setIfInBounds_toArray, List.set_cons_zero, List.set_cons_succ, i64_w, i32_w]
                                  rfl
                                clear h30x0x2x5x6 t30x0x2x5x6
                                refine pure_ (i := 7) (N := some 7) (v := ?_) (a' := ?_) #[true, true, true, true, true, true, true, true] rfl rfl (by kernel_rfl) (fun _ _ _ h => h) (Or.inl ⟨by rfl, ?_⟩) ?_ ?_
                                rotate_left
                                · intro w'
                                  go_simp
                                  with_reducible rfl
                                rotate_left
                                · simp only [Act.put, List.setIfInBounds_toArray, List.set_cons_zero, List.set_cons_succ, i64_w, i32_w]
                                  rfl
                                exact norm_ (by simp only [putAll, Act.put, List.setIfInBounds_toArray, List.set_cons_zero, List.set_cons_succ]) (hCont (v30x0, v30x0x2, (.slice A30x0x2x5 ([x2] : List Int).length k30x0x2x5), v30x0x2x5x6) _ ⟨c30x0x2x5x6, (by have h := HN30x0x2x5x6.out; rwa [show ([] ++ q ++ [x2]) = q2 from HQ2.out] at h), HM30x0x2x5x6.out, B30x0x2x5x6.out⟩)
                              · skip
                                refine lit_step (e := 3) (c := c30x0) (w0 := w) (Kd.int .i64) 7 ?hg (N := 152) ?hd ([x2] : List Int) [.int .i64 x2] ?hr ?hp ?hs (by simp) ?_
                                (case hd => rfl)
                                (case hg => rfl)
                                (case hp => exact reps_nums .i64 _ _ _ [x2])
                                (case hr => first | (go_simp; done) | (go_simp; rfl))
                                (case hs => exact Below.size B30x0.out)
                                intro v30x0x5 w30x0x5 c30x0x5 h30x0x5 t30x0x5
                                have HP30x0x5 := Aside0.mk (show (row 3 (Kd.int .i64)).M w30x0x5 w.heap.size (fun k => c30x0x5 k = 7) ([x2] : List Int) v30x0x5 from h30x0x5)
                                have HM30x0x5 := Aside0.mk (t30x0x5.keep _ (robin) 0 _ _ (by decide) HM30x0.out)
                                have HW30x0x5 := Aside0.mk (t30x0x5.keep _ (crow .i64) 1 _ _ (by decide) HW30x0.out)
                                have HX30x0x5 := Aside0.mk (t30x0x5.keep _ (blk) 2 _ _ (by decide) HX30x0.out)
                                have HN30x0x5 := Aside0.mk (t30x0x5.keep _ (row 3 (Kd.int .i64)) 6 _ _ (by decide) HN30x0.out)
                                have B30x0x5 := Aside0.mk (t30x0x5.far B30x0.out)
                                obtain ⟨A30x0x5, k30x0x5, rfl, l30x0x5, g30x0x5⟩ := row_reads h30x0x5
                                have hHeld := (show _ = some (Value.int IntKind.i64 x2) from blk_cell (blk_at HX30x0x5.out) 1)
                                refine hK.out _ _ hHeld (fun hHeld => ?_)
                                clear hK K
                                refine norm_ (a' := ?_) ?_ ?_
                                rotate_left
                                · show Act.put _ (some 152) _ = _
                                  simp only [Act.put, List.setIfInBounds_toArray, List.set_cons_zero, List.set_cons_succ, i64_w, i32_w]
                                  rfl
                                clear h30x0x5 t30x0x5
                                refine one_ (i := 2) (N := some 149) #[true, true, true, true, true, true, false, false] rfl rfl (by kernel_rfl) (by decide) (fun K hK => ?_)
                                refine app_step (e := 3) (c := c30x0x5) (w0 := w) (d := Kd.int .i64) (i := 6) (by rfl) (.tmp 147) (.tmp 148) 28 (.int .i64 0) 8 rfl Try.underlying28 info_int rfl (by decide) (by decide) (flat_int _) v30x0 (([] : List Int)) (q) _ _ _ rfl rfl HN30x0x5.out (crow_C HW30x0x5.out) ?hs (by show (0 + q.length) * 8 ≤ _; omega) ?_
                                (case hs => exact Below.size B30x0x5.out)
                                intro v30x0x5x2 w30x0x5x2 c30x0x5x2 h30x0x5x2 t30x0x5x2
                                have HN30x0x5x2 := Aside0.mk (show (row 3 (Kd.int .i64)).M w30x0x5x2 w.heap.size (fun k => c30x0x5x2 k = 6) (([] : List Int) ++ (q)) v30x0x5x2 from h30x0x5x2)
                                have HM30x0x5x2 := Aside0.mk (t30x0x5x2.keep _ (robin) 0 _ _ (by decide) HM30x0x5.out)
                                have HW30x0x5x2 := Aside0.mk (t30x0x5x2.keep _ (crow .i64) 1 _ _ (by decide) HW30x0x5.out)
                                have HX30x0x5x2 := Aside0.mk (t30x0x5x2.keep _ (blk) 2 _ _ (by decide) HX30x0x5.out)
                                have HP30x0x5x2 := Aside0.mk (t30x0x5x2.keep _ (row 3 (Kd.int .i64)) 7 _ _ (by decide) HP30x0x5.out)
                                have B30x0x5x2 := Aside0.mk (t30x0x5x2.far B30x0x5.out)
                                have hHeld := (show _ = some (Value.int IntKind.i64 x2) from blk_cell (blk_at HX30x0x5x2.out) 1)
                                refine hK.out _ _ hHeld (fun hHeld => ?_)
                                clear hK K
                                refine norm_ (a' := ?_) ?_ ?_
                                rotate_left
                                · show Act.put _ (some 149) _ = _
                                  simp only [Act.put, List.setIfInBounds_toArray, List.set_cons_zero, List.set_cons_succ, i64_w, i32_w]
                                  rfl
                                clear h30x0x5x2 t30x0x5x2
                                refine one_ (i := 6) (N := some 153) #[true, true, true, true, true, true, true, false] rfl rfl (by kernel_rfl) (by decide) (fun K hK => ?_)
                                refine app_step (e := 3) (c := c30x0x5x2) (w0 := w) (d := Kd.int .i64) (i := 6) (by rfl) (.tmp 149) (.tmp 152) 28 (.int .i64 0) 8 rfl Try.underlying28 info_int rfl (by decide) (by decide) (flat_int _) v30x0x5x2 ((([] : List Int) ++ (q))) ([x2]) _ _ _ rfl rfl HN30x0x5x2.out (row_C HP30x0x5x2.out) ?hs (by rw [List.length_append]; show ((0 + q.length) + 1) * 8 ≤ _; omega) ?_
                                (case hs => exact Below.size B30x0x5x2.out)
                                intro v30x0x5x2x6 w30x0x5x2x6 c30x0x5x2x6 h30x0x5x2x6 t30x0x5x2x6
                                have HN30x0x5x2x6 := Aside0.mk (show (row 3 (Kd.int .i64)).M w30x0x5x2x6 w.heap.size (fun k => c30x0x5x2x6 k = 6) ((([] : List Int) ++ (q)) ++ ([x2])) v30x0x5x2x6 from h30x0x5x2x6)
                                have HM30x0x5x2x6 := Aside0.mk (t30x0x5x2x6.keep _ (robin) 0 _ _ (by decide) HM30x0x5x2.out)
                                have HW30x0x5x2x6 := Aside0.mk (t30x0x5x2x6.keep _ (crow .i64) 1 _ _ (by decide) HW30x0x5x2.out)
                                have HX30x0x5x2x6 := Aside0.mk (t30x0x5x2x6.keep _ (blk) 2 _ _ (by decide) HX30x0x5x2.out)
                                have HP30x0x5x2x6 := Aside0.mk (t30x0x5x2x6.keep _ (row 3 (Kd.int .i64)) 7 _ _ (by decide) HP30x0x5x2.out)
                                have B30x0x5x2x6 := Aside0.mk (t30x0x5x2x6.far B30x0x5x2.out)
                                have hHeld := (show _ = some (Value.int IntKind.i64 x2) from blk_cell (blk_at HX30x0x5x2x6.out) 1)
                                refine hK.out _ _ hHeld (fun hHeld => ?_)
                                clear hK K
                                refine norm_ (a' := ?_) ?_ ?_
                                rotate_left
                                · show Act.put _ (some 153) _ = _
                                  simp only [Act.put, List.setIfInBounds_toArray, List.set_cons_zero, List.set_cons_succ, i64_w, i32_w]
                                  rfl
                                clear h30x0x5x2x6 t30x0x5x2x6
                                refine pure_ (i := 7) (N := some 7) (v := ?_) (a' := ?_) #[true, true, true, true, true, true, true, true] rfl rfl (by kernel_rfl) (fun _ _ _ h => h) (Or.inl ⟨by rfl, ?_⟩) ?_ ?_
                                rotate_left
                                · intro w'
                                  go_simp
                                  with_reducible rfl
                                rotate_left
                                · simp only [Act.put, List.setIfInBounds_toArray, List.set_cons_zero, List.set_cons_succ, i64_w, i32_w]
                                  rfl
                                exact norm_ (by simp only [putAll, Act.put, List.setIfInBounds_toArray, List.set_cons_zero, List.set_cons_succ]) (hCont (v30x0, v30x0x5x2, (.slice A30x0x5 ([x2] : List Int).length k30x0x5), v30x0x5x2x6) _ ⟨c30x0x5x2x6, (by have h := HN30x0x5x2x6.out; rwa [show ([] ++ q ++ [x2]) = q2 from HQ2.out] at h), HM30x0x5x2x6.out, B30x0x5x2x6.out⟩)
                            · skip
                              refine lit_step (e := 3) (c := c20) (w0 := w) (Kd.int .i64) 7 ?hg (N := 152) ?hd ([x2] : List Int) [.int .i64 x2] ?hr ?hp ?hs (by simp) ?_
                              (case hd => rfl)
                              (case hg => rfl)
                              (case hp => exact reps_nums .i64 _ _ _ [x2])
                              (case hr => first | (go_simp; done) | (go_simp; rfl))
                              (case hs => exact Below.size B30.out)
                              intro v30x5 w30x5 c30x5 h30x5 t30x5
                              have HP30x5 := Aside0.mk (show (row 3 (Kd.int .i64)).M w30x5 w.heap.size (fun k => c30x5 k = 7) ([x2] : List Int) v30x5 from h30x5)
                              have HM30x5 := Aside0.mk (t30x5.keep _ (robin) 0 _ _ (by decide) HM30.out)
                              have HW30x5 := Aside0.mk (t30x5.keep _ (crow .i64) 1 _ _ (by decide) HW30.out)
                              have HX30x5 := Aside0.mk (t30x5.keep _ (blk) 2 _ _ (by decide) HX30.out)
                              have B30x5 := Aside0.mk (t30x5.far B30.out)
                              obtain ⟨A30x5, k30x5, rfl, l30x5, g30x5⟩ := row_reads h30x5
                              have hHeld := (show _ = some (Value.int IntKind.i64 x2) from blk_cell (blk_at HX30x5.out) 1)
                              refine hK.out _ _ hHeld (fun hHeld => ?_)
                              clear hK K
                              refine norm_ (a' := ?_) ?_ ?_
                              rotate_left
                              · show Act.put _ (some 152) _ = _
                                simp only [Act.put, List.setIfInBounds_toArray, List.set_cons_zero, List.set_cons_succ, i64_w, i32_w]
                                rfl
                              clear h30x5 t30x5
                              refine one_ (i := 0) (N := some 147) #[true, true, false, true, true, true, false, false] rfl rfl (by kernel_rfl) (by decide) (fun K hK => ?_)
                              refine lit_step (e := 3) (c := c30x5) (w0 := w) (Kd.int .i64) 6 ?hg (N := 147) ?hd ([] : List Int) [] ?hr ?hp ?hs (by simp) ?_
                              (case hd => rfl)
                              (case hg => rfl)
                              (case hp => exact Reps.none _ _)
                              (case hr => first | (go_simp; done) | (go_simp; rfl))
                              (case hs => exact Below.size B30x5.out)
                              intro v30x5x0 w30x5x0 c30x5x0 h30x5x0 t30x5x0
                              have HN30x5x0 := Aside0.mk (show (row 3 (Kd.int .i64)).M w30x5x0 w.heap.size (fun k => c30x5x0 k = 6) ([] : List Int) v30x5x0 from h30x5x0)
                              have HM30x5x0 := Aside0.mk (t30x5x0.keep _ (robin) 0 _ _ (by decide) HM30x5.out)
                              have HW30x5x0 := Aside0.mk (t30x5x0.keep _ (crow .i64) 1 _ _ (by decide) HW30x5.out)
                              have HX30x5x0 := Aside0.mk (t30x5x0.keep _ (blk) 2 _ _ (by decide) HX30x5.out)
                              have HP30x5x0 := Aside0.mk (t30x5x0.keep _ (row 3 (Kd.int .i64)) 7 _ _ (by decide) HP30x5.out)
                              have B30x5x0 := Aside0.mk (t30x5x0.far B30x5.out)
                              have hHeld := (show _ = some (Value.int IntKind.i64 x2) from blk_cell (blk_at HX30x5x0.out) 1)
                              refine hK.out _ _ hHeld (fun hHeld => ?_)
                              clear hK K
                              refine norm_ (a' := ?_) ?_ ?_
                              rotate_left
                              · show Act.put _ (some 147) _ = _
                                simp only [Act.put, List.setIfInBounds_toArray, List.set_cons_zero, List.set_cons_succ, i64_w, i32_w]
                                rfl
                              clear h30x5x0 t30x5x0
                              refine one_ (i := 2) (N := some 149) #[true, true, true, true, true, true, false, false] rfl rfl (by kernel_rfl) (by decide) (fun K hK => ?_)
                              refine app_step (e := 3) (c := c30x5x0) (w0 := w) (d := Kd.int .i64) (i := 6) (by rfl) (.tmp 147) (.tmp 148) 28 (.int .i64 0) 8 rfl Try.underlying28 info_int rfl (by decide) (by decide) (flat_int _) v30x5x0 (([] : List Int)) (q) _ _ _ rfl rfl HN30x5x0.out (crow_C HW30x5x0.out) ?hs (by show (0 + q.length) * 8 ≤ _; omega) ?_
                              (case hs => exact Below.size B30x5x0.out)
                              intro v30x5x0x2 w30x5x0x2 c30x5x0x2 h30x5x0x2 t30x5x0x2
                              have HN30x5x0x2 := Aside0.mk (show (row 3 (Kd.int .i64)).M w30x5x0x2 w.heap.size (fun k => c30x5x0x2 k = 6) (([] : List Int) ++ (q)) v30x5x0x2 from h30x5x0x2)
                              have HM30x5x0x2 := Aside0.mk (t30x5x0x2.keep _ (robin) 0 _ _ (by decide) HM30x5x0.out)
                              have HW30x5x0x2 := Aside0.mk (t30x5x0x2.keep _ (crow .i64) 1 _ _ (by decide) HW30x5x0.out)
                              have HX30x5x0x2 := Aside0.mk (t30x5x0x2.keep _ (blk) 2 _ _ (by decide) HX30x5x0.out)
                              have HP30x5x0x2 := Aside0.mk (t30x5x0x2.keep _ (row 3 (Kd.int .i64)) 7 _ _ (by decide) HP30x5x0.out)
                              have B30x5x0x2 := Aside0.mk (t30x5x0x2.far B30x5x0.out)
                              have hHeld := (show _ = some (Value.int IntKind.i64 x2) from blk_cell (blk_at HX30x5x0x2.out) 1)
                              refine hK.out _ _ hHeld (fun hHeld => ?_)
                              clear hK K
                              refine norm_ (a' := ?_) ?_ ?_
                              rotate_left
                              · show Act.put _ (some 149) _ = _
                                simp only [Act.put, List.setIfInBounds_toArray, List.set_cons_zero, List.set_cons_succ, i64_w, i32_w]
                                rfl
                              clear h30x5x0x2 t30x5x0x2
                              refine one_ (i := 6) (N := some 153) #[true, true, true, true, true, true, true, false] rfl rfl (by kernel_rfl) (by decide) (fun K hK => ?_)
                              refine app_step (e := 3) (c := c30x5x0x2) (w0 := w) (d := Kd.int .i64) (i := 6) (by rfl) (.tmp 149) (.tmp 152) 28 (.int .i64 0) 8 rfl Try.underlying28 info_int rfl (by decide) (by decide) (flat_int _) v30x5x0x2 ((([] : List Int) ++ (q))) ([x2]) _ _ _ rfl rfl HN30x5x0x2.out (row_C HP30x5x0x2.out) ?hs (by rw [List.length_append]; show ((0 + q.length) + 1) * 8 ≤ _; omega) ?_
                              (case hs => exact Below.size B30x5x0x2.out)
                              intro v30x5x0x2x6 w30x5x0x2x6 c30x5x0x2x6 h30x5x0x2x6 t30x5x0x2x6
                              have HN30x5x0x2x6 := Aside0.mk (show (row 3 (Kd.int .i64)).M w30x5x0x2x6 w.heap.size (fun k => c30x5x0x2x6 k = 6) ((([] : List Int) ++ (q)) ++ ([x2])) v30x5x0x2x6 from h30x5x0x2x6)
                              have HM30x5x0x2x6 := Aside0.mk (t30x5x0x2x6.keep _ (robin) 0 _ _ (by decide) HM30x5x0x2.out)
                              have HW30x5x0x2x6 := Aside0.mk (t30x5x0x2x6.keep _ (crow .i64) 1 _ _ (by decide) HW30x5x0x2.out)
                              have HX30x5x0x2x6 := Aside0.mk (t30x5x0x2x6.keep _ (blk) 2 _ _ (by decide) HX30x5x0x2.out)
                              have HP30x5x0x2x6 := Aside0.mk (t30x5x0x2x6.keep _ (row 3 (Kd.int .i64)) 7 _ _ (by decide) HP30x5x0x2.out)
                              have B30x5x0x2x6 := Aside0.mk (t30x5x0x2x6.far B30x5x0x2.out)
                              have hHeld := (show _ = some (Value.int IntKind.i64 x2) from blk_cell (blk_at HX30x5x0x2x6.out) 1)
                              refine hK.out _ _ hHeld (fun hHeld => ?_)
                              clear hK K
                              refine norm_ (a' := ?_) ?_ ?_
                              rotate_left
                              · show Act.put _ (some 153) _ = _
                                simp only [Act.put, List.setIfInBounds_toArray, List.set_cons_zero, List.set_cons_succ, i64_w, i32_w]
                                rfl
                              clear h30x5x0x2x6 t30x5x0x2x6
                              refine pure_ (i := 7) (N := some 7) (v := ?_) (a' := ?_) #[true, true, true, true, true, true, true, true] rfl rfl (by kernel_rfl) (fun _ _ _ h => h) (Or.inl ⟨by rfl, ?_⟩) ?_ ?_
                              rotate_left
                              · intro w'
                                go_simp
                                with_reducible rfl
                              rotate_left
                              · simp only [Act.put, List.setIfInBounds_toArray, List.set_cons_zero, List.set_cons_succ, i64_w, i32_w]
                                rfl
                              exact norm_ (by simp only [putAll, Act.put, List.setIfInBounds_toArray, List.set_cons_zero, List.set_cons_succ]) (hCont (v30x5x0, v30x5x0x2, (.slice A30x5 ([x2] : List Int).length k30x5), v30x5x0x2x6) _ ⟨c30x5x0x2x6, (by have h := HN30x5x0x2x6.out; rwa [show ([] ++ q ++ [x2]) = q2 from HQ2.out] at h), HM30x5x0x2x6.out, B30x5x0x2x6.out⟩)
                          rintro s_ w21 ⟨c21, hN, hM, hB⟩
                          refine done_ (by kernel_rfl) ?_
                          simp only [putAll, Act.put, List.setIfInBounds_toArray, List.set_cons_zero, List.set_cons_succ]
                          have M21 := Aside0.mk (recol (robin) (c' := (fun k => if c21 k = 6 then 1 else if c21 k = 1 then 9 else c21 k)) hM (fun k hk => by simp only [hk]; rfl))
                          have W21 := Aside0.mk (crow_of_R (show (Kd.int .i64).R 3 _ w.heap.size (fun k => (fun k => if c21 k = 6 then 1 else if c21 k = 1 then 9 else c21 k) k = 1) _ _ from (recol (row 3 (Kd.int .i64)) (c' := (fun k => if c21 k = 6 then 1 else if c21 k = 1 then 9 else c21 k)) hN (fun k hk => by simp only [hk]; rfl))))
                          have B21 := Aside0.mk hB
                          clear hN hM hB
                          go_wp2
                          go_meet
                          exact ⟨_, q2, M21.out, W21.out, by rw [← HQ2.out]; exact nodup_snoc HND.out HMM.out, by rw [← HQ2.out]; intro y hy; rcases List.mem_append.1 hy with h | h; exact HWF.out y h; rw [List.mem_singleton.1 h]; exact HWX.out, B21.out⟩
                      have q0 : (x1 == 0) = false := beq_eq_false_iff_ne.mpr o0
                      clear o0
                      by_cases o1 : x1 = 1
                      · have q1 : (x1 == 1) = true := beq_iff_eq.mpr o1
                        clear o1
                        rcases HAT.out with ⟨hm, ha, hi⟩ | ⟨hm, ha⟩
                        rotate_left
                        · as_aux_lemma =>
                          subst ha
                          have HMM := Aside0.mk hm
                          clear hm
                          have y1 := blk_cell (blk_at XZ.out) 1
                          go_wp2_with (first | (go_at_call 13; (with_reducible refine (toC MZ.out (drop_none x2 (St.mine (s := robin) MZ.out) HMM.out)).mono ?_); rintro e w20 ⟨rfl, c20, h20, t20⟩; have HM20 := Aside0.mk (show (robin).M w20 w.heap.size (fun k => c20 k = 0) (room, q) vr from h20); have HW20 := Aside0.mk (t20.keep _ (crow .i64) 1 _ _ (by decide) WZ.out); have HX20 := Aside0.mk (t20.keep _ (blk) 2 _ _ (by decide) XZ.out); have B20 := Aside0.mk (t20.far BW.out); clear h20 t20; clear y1; have y1 := blk_cell (blk_at HX20.out) 1))
                          go_meet
                          exact ⟨c20, q, HM20.out, HW20.out, HND.out, HWF.out, B20.out⟩
                        · as_aux_lemma =>
                          obtain ⟨q2, hq2⟩ : ∃ q2, q.erase x2 = q2 := ⟨_, rfl⟩
                          have HQ2 := Aside0.mk hq2
                          have hlq : q2.length ≤ 256 := by rw [← hq2, List.length_erase]; split <;> omega
                          obtain ⟨n2, hn2⟩ : ∃ n2, q.idxOf x2 = n2 := ⟨_, rfl⟩
                          have hnl : n2 < q.length := by rw [← hn2]; exact hi
                          have HER := Aside0.mk (show ([] : List Int) ++ q.take n2 ++ q.drop (n2 + 1) = q2 from by rw [← hq2, ← erase_parts hm, hn2]; rfl)
                          rw [hn2] at ha
                          subst ha
                          have HMM := Aside0.mk hm
                          clear hm hi hq2 hn2
                          obtain ⟨hrun, hcr, hcc⟩ := crow_to (k := .i64) 28 3 Try.underlying28 info_row.choose_spec.1 A1 k1 n2 q (by omega) hk1
                          obtain ⟨A', hrun2, hcr2, hcc2⟩ := crow_from (k := .i64) 28 3 Try.underlying28 info_row.choose_spec.1 info_row.choose_spec.2 A1 k1 (n2 + 1) q (by omega)
                          rw [show ((n2 + 1 : Nat) : Int) = (n2 : Int) + 1 by omega] at hrun2
                          have HC4 := Aside0.mk hcc
                          have HC5 := Aside0.mk hcc2
                          clear hcr hcr2 hcc hcc2
                          have hge : decide ((0 : Int) ≤ (n2 : Int)) = true := decide_eq_true (by omega)
                          have hge2 : ((0 : Int) ≤ (n2 : Int)) = True := eq_true (by omega)
                          have hlt0 : decide ((n2 : Int) < 0) = false := decide_eq_false (by omega)
                          have hnw : wrap64 ((n2 : Int) + 1) = (n2 : Int) + 1 := by unfold wrap64; omega
                          have y1 := blk_cell (blk_at XZ.out) 1
                          go_upto_region 67 with (first | (go_at_call 13; (with_reducible refine (toC MZ.out (drop_ok x2 (St.mine (s := robin) MZ.out) HMM.out)).mono ?_); rintro e w20 ⟨rfl, c20, h20, t20⟩; rw [HQ2.out] at h20; have HM20 := Aside0.mk (show (robin).M w20 w.heap.size (fun k => c20 k = 0) (room, q2) vr from h20); have HW20 := Aside0.mk (t20.keep _ (crow .i64) 1 _ _ (by decide) WZ.out); have HX20 := Aside0.mk (t20.keep _ (blk) 2 _ _ (by decide) XZ.out); have B20 := Aside0.mk (t20.far BW.out); clear h20 t20; clear y1))
                          refine start_ (n := 11) (S := fun w' => True) (ds := []) #[false, false, false, false, false, false, false, false, false, false, false] (by kernel_rfl) rfl rfl trivial (fun hHeld => ?_)
                          obtain ⟨w30, hw30⟩ : ∃ w30 : World, w20.drew = w30 := ⟨_, rfl⟩
                          have hb30 : Below w20.heap.size w20 w30 := by rw [← hw30]; exact below_drew (Below.refl _ _)
                          (try rw [hw30] at hHeld)
                          rw [hw30]
                          have HM30 := Aside0.mk (St.below (s := robin) HM20.out hb30)
                          have HW30 := Aside0.mk (St.below (s := crow .i64) HW20.out hb30)
                          have HX30 := Aside0.mk (St.below (s := blk) HX20.out hb30)
                          have B30 := Aside0.mk (Below.trans B20.out (Below.mono hb30 (Below.size B20.out)))
                          clear hw30 hb30
                          refine pure_ (i := 1) (N := some 196) (v := ?_) (a' := ?_) #[false, true, false, false, false, false, false, false, false, false, false] rfl rfl (by kernel_rfl) (fun _ _ _ h => h) (Or.inl ⟨by rfl, ?_⟩) ?_ ?_
                          rotate_left
                          · intro w'
                            go_simp
                            with_reducible rfl
                          rotate_left
                          · simp only [Act.put, List.setIfInBounds_toArray, List.set_cons_zero, List.set_cons_succ, i64_w, i32_w]
                            rfl
                          refine pure_ (i := 2) (N := some 197) (v := ?_) (a' := ?_) #[false, true, true, false, false, false, false, false, false, false, false] rfl rfl (by kernel_rfl) (fun _ _ _ h => h) (Or.inl ⟨by rfl, ?_⟩) ?_ ?_
                          rotate_left
                          · intro w'
                            go_simp
                            with_reducible rfl
                          rotate_left
                          · simp only [Act.put, List.setIfInBounds_toArray, List.set_cons_zero, List.set_cons_succ, i64_w, i32_w]
                            rfl
                          refine pure_ (i := 3) (N := some 198) (v := ?_) (a' := ?_) #[false, true, true, true, false, false, false, false, false, false, false] rfl rfl (by kernel_rfl) (fun _ _ _ h => h) (Or.inl ⟨by rfl, ?_⟩) ?_ ?_
                          rotate_left
                          · intro w'
                            go_simp
                            with_reducible rfl
                          rotate_left
                          · simp only [Act.put, List.setIfInBounds_toArray, List.set_cons_zero, List.set_cons_succ, i64_w, i32_w]
                            rfl
                          refine pure_ (i := 5) (N := some 200) (v := ?_) (a' := ?_) #[false, true, true, true, false, true, false, false, false, false, false] rfl rfl (by kernel_rfl) (fun _ _ _ h => h) (Or.inl ⟨by rfl, ?_⟩) ?_ ?_
                          rotate_left
                          · intro w'
                            go_simp
                            with_reducible rfl
                          rotate_left
                          · simp only [Act.put, List.setIfInBounds_toArray, List.set_cons_zero, List.set_cons_succ, i64_w, i32_w]
                            rfl
                          refine pure_ (i := 6) (N := some 201) (v := ?_) (a' := ?_) #[false, true, true, true, false, true, true, false, false, false, false] rfl rfl (by kernel_rfl) (fun _ _ _ h => h) (Or.inl ⟨by rfl, ?_⟩) ?_ ?_
                          rotate_left
                          · intro w'
                            go_simp
                            with_reducible rfl
                          rotate_left
                          · simp only [Act.put, List.setIfInBounds_toArray, List.set_cons_zero, List.set_cons_succ, i64_w, i32_w]
                            rfl
                          refine pure_ (i := 7) (N := some 202) (v := ?_) (a' := ?_) #[false, true, true, true, false, true, true, true, false, false, false] rfl rfl (by kernel_rfl) (fun _ _ _ h => h) (Or.inl ⟨by rfl, ?_⟩) ?_ ?_
                          rotate_left
                          · intro w'
                            go_simp
                            with_reducible rfl
                          rotate_left
                          · simp only [Act.put, List.setIfInBounds_toArray, List.set_cons_zero, List.set_cons_succ, i64_w, i32_w]
                            rfl
                          refine pure_ (i := 8) (N := some 203) (v := ?_) (a' := ?_) #[false, true, true, true, false, true, true, true, true, false, false] rfl rfl (by kernel_rfl) (fun _ _ _ h => h) (Or.inl ⟨by rfl, ?_⟩) ?_ ?_
                          rotate_left
                          · intro w'
                            go_simp
                            with_reducible rfl
                          rotate_left
                          · simp only [Act.put, List.setIfInBounds_toArray, List.set_cons_zero, List.set_cons_succ, i64_w, i32_w]
                            rfl
                          refine join_ (σ := Value × Value × Value) 0 #[true, true, true, true, true, true, true, true, true, true, true] (fun s_ => [(195, s_.1), (199, s_.2.1), (204, s_.2.2), (7, s_.2.2)]) (fun s_ w' => ∃ c' : Nat → Nat, (row 3 (Kd.int .i64)).M w' w.heap.size (fun k => c' k = 6) q2 (s_.2.2 : Value) ∧ robin.M w' w.heap.size (fun k => c' k = 0) (room, q2) vr ∧ Below w.heap.size w w') ?_ ?_
                          rotate_left
                          · intro hCont
                            refine one_ (i := 0) (N := some 195) #[true, true, true, true, false, true, true, true, true, false, false] rfl rfl (by kernel_rfl) (by decide) (fun K hK => ?_)
                            refine lit_step (e := 3) (c := c20) (w0 := w) (Kd.int .i64) 6 ?hg (N := 195) ?hd ([] : List Int) [] ?hr ?hp ?hs (by simp) ?_
                            (case hd => rfl)
                            (case hg => rfl)
                            (case hp => exact Reps.none _ _)
                            (case hr => first | (go_simp; done) | (go_simp; rfl))
                            (case hs => exact Below.size B30.out)
                            intro v30x0 w30x0 c30x0 h30x0 t30x0
                            have HN30x0 := Aside0.mk (show (row 3 (Kd.int .i64)).M w30x0 w.heap.size (fun k => c30x0 k = 6) ([] : List Int) v30x0 from h30x0)
                            have HM30x0 := Aside0.mk (t30x0.keep _ (robin) 0 _ _ (by decide) HM30.out)
                            have HW30x0 := Aside0.mk (t30x0.keep _ (crow .i64) 1 _ _ (by decide) HW30.out)
                            have HX30x0 := Aside0.mk (t30x0.keep _ (blk) 2 _ _ (by decide) HX30.out)
                            have B30x0 := Aside0.mk (t30x0.far B30.out)
                            have hHeld := trivial
                            refine hK.out _ _ hHeld (fun hHeld => ?_)
                            clear hK K
                            refine norm_ (a' := ?_) ?_ ?_
                            rotate_left
                            · show Act.put _ (some 195) _ = _
                              simp only [Act.put, List.setIfInBounds_toArray, List.set_cons_zero, List.set_cons_succ, i64_w, i32_w]
                              rfl
                            clear h30x0 t30x0
                            refine one_ (i := 4) (N := some 199) #[true, true, true, true, true, true, true, true, true, false, false] rfl rfl (by kernel_rfl) (by decide) (fun K hK => ?_)
                            refine app_step (e := 3) (c := c30x0) (w0 := w) (d := Kd.int .i64) (i := 6) (by rfl) (.tmp 195) (.tmp 198) 28 (.int .i64 0) 8 rfl Try.underlying28 info_int rfl (by decide) (by decide) (flat_int _) v30x0 (([] : List Int)) (q.take n2) _ _ _ rfl rfl HN30x0.out (HC4.out _ (crow_C HW30x0.out)) ?hs (by show (0 + n2) * 8 ≤ _; omega) ?_
                            (case hs => exact Below.size B30x0.out)
                            intro v30x0x4 w30x0x4 c30x0x4 h30x0x4 t30x0x4
                            have HN30x0x4 := Aside0.mk (show (row 3 (Kd.int .i64)).M w30x0x4 w.heap.size (fun k => c30x0x4 k = 6) (([] : List Int) ++ (q.take n2)) v30x0x4 from h30x0x4)
                            have HM30x0x4 := Aside0.mk (t30x0x4.keep _ (robin) 0 _ _ (by decide) HM30x0.out)
                            have HW30x0x4 := Aside0.mk (t30x0x4.keep _ (crow .i64) 1 _ _ (by decide) HW30x0.out)
                            have HX30x0x4 := Aside0.mk (t30x0x4.keep _ (blk) 2 _ _ (by decide) HX30x0.out)
                            have B30x0x4 := Aside0.mk (t30x0x4.far B30x0.out)
                            have hHeld := trivial
                            refine hK.out _ _ hHeld (fun hHeld => ?_)
                            clear hK K
                            refine norm_ (a' := ?_) ?_ ?_
                            rotate_left
                            · show Act.put _ (some 199) _ = _
                              simp only [Act.put, List.setIfInBounds_toArray, List.set_cons_zero, List.set_cons_succ, i64_w, i32_w]
                              rfl
                            clear h30x0x4 t30x0x4
                            refine one_ (i := 9) (N := some 204) #[true, true, true, true, true, true, true, true, true, true, false] rfl rfl (by kernel_rfl) (by decide) (fun K hK => ?_)
                            refine app_step (e := 3) (c := c30x0x4) (w0 := w) (d := Kd.int .i64) (i := 6) (by rfl) (.tmp 199) (.tmp 203) 28 (.int .i64 0) 8 rfl Try.underlying28 info_int rfl (by decide) (by decide) (flat_int _) v30x0x4 ((([] : List Int) ++ (q.take n2))) (q.drop (n2 + 1)) _ _ _ rfl rfl HN30x0x4.out (HC5.out _ (crow_le HW30x0x4.out) (crow_C HW30x0x4.out)) ?hs (by rw [List.length_append, List.length_take]; show ((0 + _) + _) * 8 ≤ _; omega) ?_
                            (case hs => exact Below.size B30x0x4.out)
                            intro v30x0x4x9 w30x0x4x9 c30x0x4x9 h30x0x4x9 t30x0x4x9
                            have HN30x0x4x9 := Aside0.mk (show (row 3 (Kd.int .i64)).M w30x0x4x9 w.heap.size (fun k => c30x0x4x9 k = 6) ((([] : List Int) ++ (q.take n2)) ++ (q.drop (n2 + 1))) v30x0x4x9 from h30x0x4x9)
                            have HM30x0x4x9 := Aside0.mk (t30x0x4x9.keep _ (robin) 0 _ _ (by decide) HM30x0x4.out)
                            have HW30x0x4x9 := Aside0.mk (t30x0x4x9.keep _ (crow .i64) 1 _ _ (by decide) HW30x0x4.out)
                            have HX30x0x4x9 := Aside0.mk (t30x0x4x9.keep _ (blk) 2 _ _ (by decide) HX30x0x4.out)
                            have B30x0x4x9 := Aside0.mk (t30x0x4x9.far B30x0x4.out)
                            have hHeld := trivial
                            refine hK.out _ _ hHeld (fun hHeld => ?_)
                            clear hK K
                            refine norm_ (a' := ?_) ?_ ?_
                            rotate_left
                            · show Act.put _ (some 204) _ = _
                              simp only [Act.put, List.setIfInBounds_toArray, List.set_cons_zero, List.set_cons_succ, i64_w, i32_w]
                              rfl
                            clear h30x0x4x9 t30x0x4x9
                            refine pure_ (i := 10) (N := some 7) (v := ?_) (a' := ?_) #[true, true, true, true, true, true, true, true, true, true, true] rfl rfl (by kernel_rfl) (fun _ _ _ h => h) (Or.inl ⟨by rfl, ?_⟩) ?_ ?_
                            rotate_left
                            · intro w'
                              go_simp
                              with_reducible rfl
                            rotate_left
                            · simp only [Act.put, List.setIfInBounds_toArray, List.set_cons_zero, List.set_cons_succ, i64_w, i32_w]
                              rfl
                            exact norm_ (by simp only [putAll, Act.put, List.setIfInBounds_toArray, List.set_cons_zero, List.set_cons_succ]) (hCont (v30x0, v30x0x4, v30x0x4x9) _ ⟨c30x0x4x9, (by have h := HN30x0x4x9.out; rwa [HER.out] at h), HM30x0x4x9.out, B30x0x4x9.out⟩)
                          rintro s_ w21 ⟨c21, hN, hM, hB⟩
                          refine done_ (by kernel_rfl) ?_
                          simp only [putAll, Act.put, List.setIfInBounds_toArray, List.set_cons_zero, List.set_cons_succ]
                          have M21 := Aside0.mk (recol (robin) (c' := (fun k => if c21 k = 6 then 1 else if c21 k = 1 then 9 else c21 k)) hM (fun k hk => by simp only [hk]; rfl))
                          have W21 := Aside0.mk (crow_of_R (show (Kd.int .i64).R 3 _ w.heap.size (fun k => (fun k => if c21 k = 6 then 1 else if c21 k = 1 then 9 else c21 k) k = 1) _ _ from (recol (row 3 (Kd.int .i64)) (c' := (fun k => if c21 k = 6 then 1 else if c21 k = 1 then 9 else c21 k)) hN (fun k hk => by simp only [hk]; rfl))))
                          have B21 := Aside0.mk hB
                          clear hN hM hB
                          go_wp2
                          go_meet
                          exact ⟨_, q2, M21.out, W21.out, by rw [← HQ2.out]; exact HND.out.erase x2, by rw [← HQ2.out]; intro y hy; exact HWF.out y (List.mem_of_mem_erase hy), B21.out⟩
                      have q1 : (x1 == 1) = false := beq_eq_false_iff_ne.mpr o1
                      clear o1
                      by_cases o2 : x1 = 2
                      · have q2' : (x1 == 2) = true := beq_iff_eq.mpr o2
                        clear o2
                        as_aux_lemma =>
                        obtain ⟨A', hrun2, hcr2, hcc2⟩ := crow_from (k := .i64) 28 3 (m := n) Try.underlying28 info_row.choose_spec.1 info_row.choose_spec.2 A1 k1 q hnq
                        obtain ⟨hrun, hcr, hcc⟩ := crow_to (k := .i64) 28 3 Try.underlying28 info_row.choose_spec.1 A1 k1 n q hnq hk1
                        have HC4 := Aside0.mk hcc2
                        have HC5 := Aside0.mk hcc
                        clear hcr hcr2 hcc hcc2
                        obtain ⟨q2, hq2⟩ : ∃ q2, turned_ q n = q2 := ⟨_, rfl⟩
                        have HER := Aside0.mk (show ([] : List Int) ++ q.drop n ++ q.take n = q2 from hq2)
                        have HE2 := Aside0.mk hq2
                        have hlq : q2.length ≤ 256 := by rw [← hq2, turned_len]; exact hq256
                        clear hq2
                        have htl : (q.take n).length = n := by rw [List.length_take]; omega
                        have HTL := Aside0.mk htl
                        have HI := Aside0.mk (show beadlelaw17_ints.f ((q.take n).length + 1) (q.take n) (q.take n) = some true from by have := ints_f (q.take n) (q.take n) (by omega) (by omega); rwa [decide_eq_true rfl] at this)
                        clear htl
                        go_upto_region 69 with (fail)
                        obtain ⟨w18, hw18⟩ : ∃ w18 : World, wc.drew = w18 := ⟨_, rfl⟩
                        have hb18 : Below wc.heap.size wc w18 := by rw [← hw18]; exact below_drew (Below.refl _ _)
                        have HM18 := Aside0.mk (St.below (s := robin) MZ.out hb18)
                        have HW18 := Aside0.mk (St.below (s := crow .i64) WZ.out hb18)
                        have HX18 := Aside0.mk (St.below (s := blk) XZ.out hb18)
                        have B18 := Aside0.mk (Below.trans BW.out (Below.mono hb18 (Below.size BW.out)))
                        clear hb18
                        refine start_ (n := 9) (S := fun w' => w'.cell? ⟨g9, 2, none⟩ = some (.int .i64 x3)) (ds := []) #[false, false, false, false, false, false, false, false, false] (by kernel_rfl) rfl rfl (by rw [hw18]; exact blk_cell (blk_at HX18.out) 2) (fun hHeld => ?_)
                        refine pure_ (i := 0) (N := some 207) (v := ?_) (a' := ?_) #[true, false, false, false, false, false, false, false, false] rfl rfl (by kernel_rfl) (fun _ _ _ h => h) (Or.inl ⟨by rfl, ?_⟩) ?_ ?_
                        rotate_left
                        · intro w'
                          go_simp
                          with_reducible rfl
                        rotate_left
                        · simp only [Act.put, List.setIfInBounds_toArray, List.set_cons_zero, List.set_cons_succ, i64_w, i32_w]
                          rfl
                        refine pure_ (i := 1) (N := some 208) (v := ?_) (a' := ?_) #[true, true, false, false, false, false, false, false, false] rfl rfl (by kernel_rfl) (fun _ _ _ h => h) (Or.inl ⟨by rfl, ?_⟩) ?_ ?_
                        rotate_left
                        · intro w'
                          go_simp
                          with_reducible rfl
                        rotate_left
                        · simp only [Act.put, List.setIfInBounds_toArray, List.set_cons_zero, List.set_cons_succ, i64_w, i32_w]
                          rfl
                        refine take_ (i := 2) (N := some 209) (v := ?_) (a' := ?_) #[true, true, true, false, false, false, false, false, false] rfl rfl (by kernel_rfl) (fun _ _ _ h => h) (Or.inl ⟨by rfl, ?_⟩) hHeld ?_ ?_
                        rotate_left
                        · intro w' hS_
                          obtain s0_ := hS_
                          go_simp
                          with_reducible rfl
                        rotate_left
                        · simp only [Act.put, List.setIfInBounds_toArray, List.set_cons_zero, List.set_cons_succ, i64_w, i32_w]
                          rfl
                        refine pure_ (i := 4) (N := some 211) (v := ?_) (a' := ?_) #[true, true, true, false, true, false, false, false, false] rfl rfl (by kernel_rfl) (fun _ _ _ h => h) (Or.inl ⟨by rfl, ?_⟩) ?_ ?_
                        rotate_left
                        · intro w'
                          go_simp
                          with_reducible rfl
                        rotate_left
                        · simp only [Act.put, List.setIfInBounds_toArray, List.set_cons_zero, List.set_cons_succ, i64_w, i32_w]
                          rfl
                        refine pure_ (i := 5) (N := some 212) (v := ?_) (a' := ?_) #[true, true, true, false, true, true, false, false, false] rfl rfl (by kernel_rfl) (fun _ _ _ h => h) (Or.inl ⟨by rfl, ?_⟩) ?_ ?_
                        rotate_left
                        · intro w'
                          go_simp
                          with_reducible rfl
                        rotate_left
                        · simp only [Act.put, List.setIfInBounds_toArray, List.set_cons_zero, List.set_cons_succ, i64_w, i32_w]
                          rfl
                        refine pure_ (i := 6) (N := some 213) (v := ?_) (a' := ?_) #[true, true, true, false, true, true, true, false, false] rfl rfl (by kernel_rfl) (fun _ _ _ h => h) (Or.inl ⟨by rfl, ?_⟩) ?_ ?_
                        rotate_left
                        · intro w'
                          go_simp
                          with_reducible rfl
                        rotate_left
                        · simp only [Act.put, List.setIfInBounds_toArray, List.set_cons_zero, List.set_cons_succ, i64_w, i32_w]
                          rfl
                        refine one_ (i := 3) (N := some 210) #[true, true, true, true, true, true, true, false, false] rfl rfl (by kernel_rfl) (by decide) (fun K hK => ?_)
                        refine goes_ Try.func14 (by kernel_rfl) rfl #[vr, .int .i64 x3] ?hw rfl rfl ?hx ?_
                        (case hw => rfl)
                        (case hx => (try simp only [List.map_toArray, List.map_cons, List.map_nil]); first | done | rfl)
                        rw [hw18]
                        refine (take_callsC (p := 5) x3 HM18.out B18.out (by decide)).mono ?_
                        rintro e w20 ⟨v20, rfl, c20, hM20, hO20, hT20⟩
                        rw [HH.out] at hM20 hO20
                        rw [show q.drop n ++ q.take n = q2 from HE2.out] at hM20
                        have HM20 := Aside0.mk hM20
                        obtain ⟨A20, k20, rfl, -, -⟩ := crow_reads hO20
                        rw [HTL.out] at hO20
                        rw [HTL.out]
                        have HO20 := Aside0.mk hO20
                        have HW20 := Aside0.mk (hT20.keep _ (crow .i64) 1 _ _ (by decide) HW18.out)
                        have HX20 := Aside0.mk (hT20.keep _ blk 2 _ _ (by decide) HX18.out)
                        have B20 := Aside0.mk (hT20.far B18.out)
                        clear hM20 hO20 hT20
                        refine ⟨_, rfl, ?_⟩
                        have hHeld := (show _ = some (Value.int IntKind.i64 x3) from blk_cell (blk_at HX20.out) 2)
                        refine hK.out _ _ hHeld (fun hHeld => ?_)
                        clear hK K
                        refine norm_ (a' := ?_) ?_ ?_
                        rotate_left
                        · show Act.put _ (some 210) _ = _
                          simp only [Act.put, List.setIfInBounds_toArray, List.set_cons_zero, List.set_cons_succ, i64_w, i32_w]
                          rfl
                        refine one_ (i := 7) (N := some 214) #[true, true, true, true, true, true, true, true, false] rfl rfl (by kernel_rfl) (by decide) (fun K hK => ?_)
                        refine goes_ Try.func11 (by kernel_rfl) rfl #[.slice A20 n k20, .slice A1 n k1] ?hw rfl rfl ?hx ?_
                        (case hw => rfl)
                        (case hx => (try simp only [List.map_toArray, List.map_cons, List.map_nil]); first | done | rfl)
                        have hcall := beadlelaw17_ints.calls ((q.take n).length + 1) A20 k20 (q.take n) A1 k1 (q.take n) true w20 (crow_C HO20.out) (crow_le HO20.out) (by rw [HTL.out]; exact HC5.out _ (crow_C HW20.out)) (by rw [HTL.out]; exact Nat.le_trans hnq hk1) HI.out
                        rw [HTL.out] at hcall
                        refine hcall.mono ?_
                        clear hcall
                        rintro e w22 ⟨rfl, ⟨nd22, hw22⟩⟩
                        have HM22 := Aside0.mk (St.drewN (s := robin) HM20.out nd22)
                        have HW22 := Aside0.mk (St.drewN (s := crow .i64) HW20.out nd22)
                        have HX22 := Aside0.mk (St.drewN (s := blk) HX20.out nd22)
                        have HO22 := Aside0.mk (St.drewN (s := crow .i64) HO20.out nd22)
                        have B22 := Aside0.mk (pw_below_drewN B20.out nd22)
                        rw [← hw22] at HM22 HW22 HX22 HO22 B22
                        clear hw22
                        refine ⟨_, rfl, ?_⟩
                        have hHeld := (show _ = some (Value.int IntKind.i64 x3) from blk_cell (blk_at HX22.out) 2)
                        refine hK.out _ _ hHeld (fun hHeld => ?_)
                        clear hK K
                        refine norm_ (a' := ?_) ?_ ?_
                        rotate_left
                        · show Act.put _ (some 214) _ = _
                          simp only [Act.put, List.setIfInBounds_toArray, List.set_cons_zero, List.set_cons_succ, i64_w, i32_w]
                          rfl
                        refine pure_ (i := 8) (N := some 215) (v := ?_) (a' := ?_) #[true, true, true, true, true, true, true, true, true] rfl rfl (by kernel_rfl) (fun _ _ _ h => h) (Or.inl ⟨by rfl, ?_⟩) ?_ ?_
                        rotate_left
                        · intro w'
                          go_simp
                          with_reducible rfl
                        rotate_left
                        · simp only [Act.put, List.setIfInBounds_toArray, List.set_cons_zero, List.set_cons_succ, i64_w, i32_w]
                          rfl
                        refine done_ (by kernel_rfl) ?_
                        go_upto_region 71 with (fail)
                        refine start_ (n := 10) (S := fun w' => True) (ds := []) #[false, false, false, false, false, false, false, false, false, false] (by kernel_rfl) rfl rfl trivial (fun hHeld => ?_)
                        obtain ⟨w20, hw20⟩ : ∃ w20 : World, w22.drew = w20 := ⟨_, rfl⟩
                        have hb20 : Below w22.heap.size w22 w20 := by rw [← hw20]; exact below_drew (Below.refl _ _)
                        (try rw [hw20] at hHeld)
                        rw [hw20]
                        have HM20 := Aside0.mk (St.below (s := robin) HM22.out hb20)
                        have HW20 := Aside0.mk (St.below (s := crow .i64) HW22.out hb20)
                        have HX20 := Aside0.mk (St.below (s := blk) HX22.out hb20)
                        have B20 := Aside0.mk (Below.trans B22.out (Below.mono hb20 (Below.size B22.out)))
                        clear hw20 hb20
                        refine pure_ (i := 1) (N := some 217) (v := ?_) (a' := ?_) #[false, true, false, false, false, false, false, false, false, false] rfl rfl (by kernel_rfl) (fun _ _ _ h => h) (Or.inl ⟨by rfl, ?_⟩) ?_ ?_
                        rotate_left
                        · intro w'
                          go_simp
                          with_reducible rfl
                        rotate_left
                        · simp only [Act.put, List.setIfInBounds_toArray, List.set_cons_zero, List.set_cons_succ, i64_w, i32_w]
                          rfl
                        refine pure_ (i := 2) (N := some 218) (v := ?_) (a' := ?_) #[false, true, true, false, false, false, false, false, false, false] rfl rfl (by kernel_rfl) (fun _ _ _ h => h) (Or.inl ⟨by rfl, ?_⟩) ?_ ?_
                        rotate_left
                        · intro w'
                          go_simp
                          with_reducible rfl
                        rotate_left
                        · simp only [Act.put, List.setIfInBounds_toArray, List.set_cons_zero, List.set_cons_succ, i64_w, i32_w]
                          rfl
                        refine pure_ (i := 3) (N := some 219) (v := ?_) (a' := ?_) #[false, true, true, true, false, false, false, false, false, false] rfl rfl (by kernel_rfl) (fun _ _ _ h => h) (Or.inl ⟨by rfl, ?_⟩) ?_ ?_
                        rotate_left
                        · intro w'
                          go_simp
                          with_reducible rfl
                        rotate_left
                        · simp only [Act.put, List.setIfInBounds_toArray, List.set_cons_zero, List.set_cons_succ, i64_w, i32_w]
                          rfl
                        refine pure_ (i := 5) (N := some 221) (v := ?_) (a' := ?_) #[false, true, true, true, false, true, false, false, false, false] rfl rfl (by kernel_rfl) (fun _ _ _ h => h) (Or.inl ⟨by rfl, ?_⟩) ?_ ?_
                        rotate_left
                        · intro w'
                          go_simp
                          with_reducible rfl
                        rotate_left
                        · simp only [Act.put, List.setIfInBounds_toArray, List.set_cons_zero, List.set_cons_succ, i64_w, i32_w]
                          rfl
                        refine pure_ (i := 6) (N := some 222) (v := ?_) (a' := ?_) #[false, true, true, true, false, true, true, false, false, false] rfl rfl (by kernel_rfl) (fun _ _ _ h => h) (Or.inl ⟨by rfl, ?_⟩) ?_ ?_
                        rotate_left
                        · intro w'
                          go_simp
                          with_reducible rfl
                        rotate_left
                        · simp only [Act.put, List.setIfInBounds_toArray, List.set_cons_zero, List.set_cons_succ, i64_w, i32_w]
                          rfl
                        refine pure_ (i := 7) (N := some 223) (v := ?_) (a' := ?_) #[false, true, true, true, false, true, true, true, false, false] rfl rfl (by kernel_rfl) (fun _ _ _ h => h) (Or.inl ⟨by rfl, ?_⟩) ?_ ?_
                        rotate_left
                        · intro w'
                          go_simp
                          with_reducible rfl
                        rotate_left
                        · simp only [Act.put, List.setIfInBounds_toArray, List.set_cons_zero, List.set_cons_succ, i64_w, i32_w]
                          rfl
                        refine join_ (σ := Value × Value × Value) 0 #[true, true, true, true, true, true, true, true, true, true] (fun s_ => [(216, s_.1), (220, s_.2.1), (224, s_.2.2), (7, s_.2.2)]) (fun s_ w' => ∃ c' : Nat → Nat, (row 3 (Kd.int .i64)).M w' w.heap.size (fun k => c' k = 6) q2 (s_.2.2 : Value) ∧ (robin).M w' w.heap.size (fun k => c' k = 0) (room, q2) vr ∧ (blk).M w' w.heap.size (fun k => c' k = 2) (.cells #[.int .i64 x1, .int .i64 x2, .int .i64 x3, .int .i64 x4] 37 (0, 0)) (.pointer (some ⟨g9, 0, none⟩)) ∧ Below w.heap.size w w') ?_ ?_
                        rotate_left
                        · intro hCont
                          refine one_ (i := 0) (N := some 216) #[true, true, true, true, false, true, true, true, false, false] rfl rfl (by kernel_rfl) (by decide) (fun K hK => ?_)
                          refine lit_step (e := 3) (c := c20) (w0 := w) (Kd.int .i64) 6 ?hg (N := 216) ?hd ([] : List Int) [] ?hr ?hp ?hs (by simp) ?_
                          (case hd => rfl)
                          (case hg => rfl)
                          (case hp => exact Reps.none _ _)
                          (case hr => first | (go_simp; done) | (go_simp; rfl))
                          (case hs => exact Below.size B20.out)
                          intro v20x0 w20x0 c20x0 h20x0 t20x0
                          have HN20x0 := Aside0.mk (show (row 3 (Kd.int .i64)).M w20x0 w.heap.size (fun k => c20x0 k = 6) ([] : List Int) v20x0 from h20x0)
                          have HM20x0 := Aside0.mk (t20x0.keep _ (robin) 0 _ _ (by decide) HM20.out)
                          have HW20x0 := Aside0.mk (t20x0.keep _ (crow .i64) 1 _ _ (by decide) HW20.out)
                          have HX20x0 := Aside0.mk (t20x0.keep _ (blk) 2 _ _ (by decide) HX20.out)
                          have B20x0 := Aside0.mk (t20x0.far B20.out)
                          have hHeld := trivial
                          refine hK.out _ _ hHeld (fun hHeld => ?_)
                          clear hK K
                          refine norm_ (a' := ?_) ?_ ?_
                          rotate_left
                          · show Act.put _ (some 216) _ = _
                            simp only [Act.put, List.setIfInBounds_toArray, List.set_cons_zero, List.set_cons_succ, i64_w, i32_w]
                            rfl
                          clear h20x0 t20x0
                          refine one_ (i := 4) (N := some 220) #[true, true, true, true, true, true, true, true, false, false] rfl rfl (by kernel_rfl) (by decide) (fun K hK => ?_)
                          refine app_step (e := 3) (c := c20x0) (w0 := w) (d := Kd.int .i64) (i := 6) (by rfl) (.tmp 216) (.tmp 219) 28 (.int .i64 0) 8 rfl Try.underlying28 info_int rfl (by decide) (by decide) (flat_int _) v20x0 (([] : List Int)) (q.drop n) _ _ _ rfl rfl HN20x0.out (HC4.out _ (crow_le HW20x0.out) (crow_C HW20x0.out)) ?hs (by show (0 + _) * 8 ≤ _; omega) ?_
                          (case hs => exact Below.size B20x0.out)
                          intro v20x0x4 w20x0x4 c20x0x4 h20x0x4 t20x0x4
                          have HN20x0x4 := Aside0.mk (show (row 3 (Kd.int .i64)).M w20x0x4 w.heap.size (fun k => c20x0x4 k = 6) (([] : List Int) ++ (q.drop n)) v20x0x4 from h20x0x4)
                          have HM20x0x4 := Aside0.mk (t20x0x4.keep _ (robin) 0 _ _ (by decide) HM20x0.out)
                          have HW20x0x4 := Aside0.mk (t20x0x4.keep _ (crow .i64) 1 _ _ (by decide) HW20x0.out)
                          have HX20x0x4 := Aside0.mk (t20x0x4.keep _ (blk) 2 _ _ (by decide) HX20x0.out)
                          have B20x0x4 := Aside0.mk (t20x0x4.far B20x0.out)
                          have hHeld := trivial
                          refine hK.out _ _ hHeld (fun hHeld => ?_)
                          clear hK K
                          refine norm_ (a' := ?_) ?_ ?_
                          rotate_left
                          · show Act.put _ (some 220) _ = _
                            simp only [Act.put, List.setIfInBounds_toArray, List.set_cons_zero, List.set_cons_succ, i64_w, i32_w]
                            rfl
                          clear h20x0x4 t20x0x4
                          refine one_ (i := 8) (N := some 224) #[true, true, true, true, true, true, true, true, true, false] rfl rfl (by kernel_rfl) (by decide) (fun K hK => ?_)
                          refine app_step (e := 3) (c := c20x0x4) (w0 := w) (d := Kd.int .i64) (i := 6) (by rfl) (.tmp 220) (.tmp 223) 28 (.int .i64 0) 8 rfl Try.underlying28 info_int rfl (by decide) (by decide) (flat_int _) v20x0x4 ((([] : List Int) ++ (q.drop n))) (q.take n) _ _ _ rfl rfl HN20x0x4.out (HC5.out _ (crow_C HW20x0x4.out)) ?hs (by rw [List.length_append, List.length_drop]; show ((0 + _) + _) * 8 ≤ _; omega) ?_
                          (case hs => exact Below.size B20x0x4.out)
                          intro v20x0x4x8 w20x0x4x8 c20x0x4x8 h20x0x4x8 t20x0x4x8
                          have HN20x0x4x8 := Aside0.mk (show (row 3 (Kd.int .i64)).M w20x0x4x8 w.heap.size (fun k => c20x0x4x8 k = 6) ((([] : List Int) ++ (q.drop n)) ++ (q.take n)) v20x0x4x8 from h20x0x4x8)
                          have HM20x0x4x8 := Aside0.mk (t20x0x4x8.keep _ (robin) 0 _ _ (by decide) HM20x0x4.out)
                          have HW20x0x4x8 := Aside0.mk (t20x0x4x8.keep _ (crow .i64) 1 _ _ (by decide) HW20x0x4.out)
                          have HX20x0x4x8 := Aside0.mk (t20x0x4x8.keep _ (blk) 2 _ _ (by decide) HX20x0x4.out)
                          have B20x0x4x8 := Aside0.mk (t20x0x4x8.far B20x0x4.out)
                          have hHeld := trivial
                          refine hK.out _ _ hHeld (fun hHeld => ?_)
                          clear hK K
                          refine norm_ (a' := ?_) ?_ ?_
                          rotate_left
                          · show Act.put _ (some 224) _ = _
                            simp only [Act.put, List.setIfInBounds_toArray, List.set_cons_zero, List.set_cons_succ, i64_w, i32_w]
                            rfl
                          clear h20x0x4x8 t20x0x4x8
                          refine pure_ (i := 9) (N := some 7) (v := ?_) (a' := ?_) #[true, true, true, true, true, true, true, true, true, true] rfl rfl (by kernel_rfl) (fun _ _ _ h => h) (Or.inl ⟨by rfl, ?_⟩) ?_ ?_
                          rotate_left
                          · intro w'
                            go_simp
                            with_reducible rfl
                          rotate_left
                          · simp only [Act.put, List.setIfInBounds_toArray, List.set_cons_zero, List.set_cons_succ, i64_w, i32_w]
                            rfl
                          exact norm_ (by simp only [putAll, Act.put, List.setIfInBounds_toArray, List.set_cons_zero, List.set_cons_succ]) (hCont (v20x0, v20x0x4, v20x0x4x8) _ ⟨c20x0x4x8, (by have h := HN20x0x4x8.out; rwa [HER.out] at h), HM20x0x4x8.out, HX20x0x4x8.out, B20x0x4x8.out⟩)
                        rintro s_ w21 ⟨c21, hN, hM, hX, hB⟩
                        refine done_ (by kernel_rfl) ?_
                        simp only [putAll, Act.put, List.setIfInBounds_toArray, List.set_cons_zero, List.set_cons_succ]
                        have M21 := Aside0.mk (recol (robin) (c' := (fun k => if c21 k = 6 then 1 else if c21 k = 1 then 9 else c21 k)) hM (fun k hk => by simp only [hk]; rfl))
                        have W21 := Aside0.mk (crow_of_R (show (Kd.int .i64).R 3 _ w.heap.size (fun k => (fun k => if c21 k = 6 then 1 else if c21 k = 1 then 9 else c21 k) k = 1) _ _ from (recol (row 3 (Kd.int .i64)) (c' := (fun k => if c21 k = 6 then 1 else if c21 k = 1 then 9 else c21 k)) hN (fun k hk => by simp only [hk]; rfl))))
                        have B21 := Aside0.mk hB
                        clear hN hM hX hB
                        go_wp2
                        go_meet
                        exact ⟨_, q2, M21.out, W21.out, by rw [← HE2.out]; exact turned_nodup HND.out _, by rw [← HE2.out]; intro y hy; exact HWF.out y (turned_mem hy), B21.out⟩
                      have q2' : (x1 == 2) = false := beq_eq_false_iff_ne.mpr o2
                      clear o2
                      by_cases g4 : 300 < x4
                      · as_aux_lemma =>
                        have d4 : decide (300 < x4) = true := decide_eq_true g4
                        have y3 := blk_cell (blk_at XZ.out) 3
                        go_wp2
                        go_ret
                        exact ⟨rfl, BW.out⟩
                      have d4 : decide (300 < x4) = false := decide_eq_false g4
                      have G4 := Aside0.mk g4
                      clear g4
                      as_aux_lemma =>
                      have y3 := blk_cell (blk_at XZ.out) 3
                      go_upto_region 31 with (first | ((with_reducible refine gate_dst (N := 73) rfl ?_); refine lit_list (e := 3) (c := ca) (w0 := w) (Kd.int .i64) 3 rfl (N := 73) rfl ([] : List Int) [] ?hr (Reps.none _ _) ?hs (by simp) ?_; (case hr => first | (go_simp; done) | (go_simp; rfl)); (case hs => exact Below.size BW.out); intro v20 w20 c20 h20 t20; have HN20 := Aside0.mk (show (row 3 (Kd.int .i64)).M w20 w.heap.size (fun k => c20 k = 3) ([] : List Int) v20 from h20); have HM20 := Aside0.mk (t20.keep _ (robin) 0 _ _ (by decide) MZ.out); have HW20 := Aside0.mk (t20.keep _ (crow .i64) 1 _ _ (by decide) WZ.out); have HX20 := Aside0.mk (t20.keep _ (blk) 2 _ _ (by decide) XZ.out); have B20 := Aside0.mk (t20.far BW.out); clear h20 t20) | ((with_reducible refine gate_builtin (b := .append) (xs := #[.tmp 73, .tmp 74]) rfl ?_); refine app_list (e := 3) (c := c20) (w0 := w) (d := Kd.int .i64) (i := 3) rfl (.tmp 73) (.tmp 74) 28 (.int .i64 0) 8 rfl Try.underlying28 info_int rfl (by decide) (by decide) (flat_int _) v20 (([] : List Int)) (q) _ _ _ rfl rfl HN20.out (crow_C HW20.out) ?hs (by show (0 + q.length) * 8 ≤ _; omega) ?_; (case hs => exact Below.size B20.out); intro v22 w22 c22 h22 t22; rw [show ([] ++ q) = q from rfl] at h22; have HN22 := Aside0.mk (show (row 3 (Kd.int .i64)).M w22 w.heap.size (fun k => c22 k = 3) q v22 from h22); have HM22 := Aside0.mk (t22.keep _ (robin) 0 _ _ (by decide) HM20.out); have HW22 := Aside0.mk (t22.keep _ (crow .i64) 1 _ _ (by decide) HW20.out); have HX22 := Aside0.mk (t22.keep _ (blk) 2 _ _ (by decide) HX20.out); have B22 := Aside0.mk (t22.far B20.out); clear h22 t22))
                      clear y3
                      have O22 := Aside0.mk (crow_of_R HN22.out)
                      obtain ⟨Ao, ko, rfl, -, -⟩ := crow_reads O22.out
                      have hu := Try.underlying38
                      have hmm := @run_makeMap Try.prog
                      go_upto_region 32 with (fail)
                      clear hu hmm
                      obtain ⟨c23, h23, t23⟩ := cmap_new (w0 := w) c22 4 (Below.size B22.out)
                      have CS0 := Aside0.mk (show CS w room q vr (.slice Ao q.length ko) g9 w22.heap.size x1 x2 x3 x4 c23 (fun _ => 0) 0 (turned_ q (0 % q.length)) (.slice A1 q.length k1) (w22.alloc (.map #[] 0)) from ⟨t23.keep _ robin 0 _ _ (by decide) HM22.out, by rw [Nat.zero_mod, turned_zero]; exact t23.keep _ (crow .i64) 1 _ _ (by decide) HW22.out, t23.keep _ blk 2 _ _ (by decide) HX22.out, t23.keep _ (crow .i64) 3 _ _ (by decide) O22.out, h23, by rcases Nat.eq_zero_or_pos q.length with h | h; exact (fun k hk => absurd hk (by omega)); exact cnt_zero h, t23.far B22.out⟩)
                      clear h23 t23
                      generalize w22.alloc (.map #[] 0) = w23 at CS0 ⊢
                      obtain ⟨bm, hbm⟩ : ∃ bm : Nat, w22.heap.size = bm := ⟨_, rfl⟩
                      rw [hbm] at CS0 ⊢
                      clear hbm
                      go_upto_block 5 with (fail)
                      refine loop5_piece CS0.out hnq hq256 (by have := G4.out; omega) HND.out HWF.out _ _ ?hk5 ?hq5
                      case hq5 => exact fun _ _ _ _ _ h => h
                      intro a' wd hR_
                      obtain ⟨x7, hR_⟩ := hR_
                      obtain ⟨x17, hR_⟩ := hR_
                      obtain ⟨x18, hR_⟩ := hR_
                      obtain ⟨x77, hR_⟩ := hR_
                      obtain ⟨x78, hR_⟩ := hR_
                      obtain ⟨x79, hR_⟩ := hR_
                      obtain ⟨x80, hR_⟩ := hR_
                      obtain ⟨x81, hR_⟩ := hR_
                      obtain ⟨x82, hR_⟩ := hR_
                      obtain ⟨x83, hR_⟩ := hR_
                      obtain ⟨x84, hR_⟩ := hR_
                      obtain ⟨x85, hR_⟩ := hR_
                      obtain ⟨x86, hR_⟩ := hR_
                      obtain ⟨x87, hR_⟩ := hR_
                      obtain ⟨x88, hR_⟩ := hR_
                      obtain ⟨x89, hR_⟩ := hR_
                      obtain ⟨x90, hR_⟩ := hR_
                      obtain ⟨x91, hR_⟩ := hR_
                      obtain ⟨x92, hR_⟩ := hR_
                      obtain ⟨x93, hR_⟩ := hR_
                      obtain ⟨x94, hR_⟩ := hR_
                      obtain ⟨x95, hR_⟩ := hR_
                      obtain ⟨x96, hR_⟩ := hR_
                      obtain ⟨x97, hR_⟩ := hR_
                      obtain ⟨x98, hR_⟩ := hR_
                      obtain ⟨x99, hR_⟩ := hR_
                      obtain ⟨x100, hR_⟩ := hR_
                      obtain ⟨x101, hR_⟩ := hR_
                      obtain ⟨x102, hR_⟩ := hR_
                      obtain ⟨x103, hR_⟩ := hR_
                      obtain ⟨hcut, ha_⟩ := hR_
                      subst ha_
                      obtain ⟨c24, f24, hS⟩ := hcut
                      have S24 := Aside0.mk hS
                      obtain ⟨qz, hqz⟩ : ∃ qz, turned_ q (x4.toNat * n % q.length) = qz := ⟨_, rfl⟩
                      have hql : qz.length = q.length := by rw [← hqz]; exact turned_len _ _
                      rw [hqz] at hS
                      obtain ⟨A7, k7, rfl, -, -⟩ := crow_reads hS.sw
                      have S24 := Aside0.mk hS
                      have HQZ := Aside0.mk hqz
                      have HQL := Aside0.mk hql
                      have hz256 : qz.length ≤ 256 := by omega
                      clear hS hqz hql CS0
                      have HI := Aside0.mk (show beadlelaw17_ints.f (qz.length + 1) qz qz = some true from by have := ints_f qz qz (by omega) (by omega); rwa [decide_eq_true rfl] at this)
                      have HCT := Aside0.mk (show clampT x4 = (x4.toNat : Int) from by have := G4.out; unfold clampT; split <;> split at * <;> omega)
                      have y2 := blk_cell (blk_at S24.out.sx) 2
                      have y3 := blk_cell (blk_at S24.out.sx) 3
                      have sq : ((q.length : Int) != (q.length : Int)) = false := by simp
                      obtain ⟨D, hown, htell⟩ := cmap_own S24.out.sm
                      have HN := Aside0.mk hown
                      have HTE := Aside0.mk htell
                      clear hown htell
                      rcases Nat.eq_zero_or_pos q.length with h0 | h0
                      · as_aux_lemma =>
                        have hqe : q = [] := List.length_eq_zero_iff.1 h0
                        have hze : qz = [] := List.length_eq_zero_iff.1 (by rw [HQL.out]; exact h0)
                        have HQE := Aside0.mk hqe
                        have HZE := Aside0.mk hze
                        clear hqe hze h0
                        have MS := Aside0.mk (show robin.M wd w.heap.size (fun k => c24 k = 0) (room, []) vr from by have h := S24.out.sr; rwa [HQE.out] at h)
                        have hq0 : (q.length : Int) = 0 := by rw [HQE.out]; rfl
                        have sq0 : ((0 : Int) != (q.length : Int)) = false := by rw [hq0]; rfl
                        clear hq0
                        have HI0 := Aside0.mk (show beadlelaw17_ints.f (qz.length + 1) ([] : List Int) qz = some true from by have h := HI.out; rw [HZE.out] at h ⊢; exact h)
                        go_upto_region 43 with (first | (go_at_call 10; (with_reducible refine (many_none x3 x4 MS.out).mono ?_); rintro e w25 ⟨rfl, hb25⟩; have B25 := Aside0.mk hb25; clear hb25) | (go_at_call 11; have hcall := (beadlelaw17_ints.calls (qz.length + 1) none 0 ([] : List Int) A7 k7 qz true _ (Kd.C_nil _ _) (Nat.le_refl _) (crow_C (St.below (s := crow .i64) S24.out.sw B25.out)) (crow_le (St.below (s := crow .i64) S24.out.sw B25.out)) HI0.out); rw [show (([] : List Int).length) = 0 from rfl] at hcall; (with_reducible refine hcall.mono ?_); clear hcall; rintro e w26 ⟨rfl, ⟨nd26, hw26⟩⟩; have hb26 : Below w25.heap.size w25 w26 := (by rw [hw26]; exact pw_below_drewN (Below.refl _ _) _); have B26 := Aside0.mk hb26; clear hw26 hb26))
                        have M25 := Aside0.mk (St.below (s := robin) MS.out B25.out)
                        have M26 := Aside0.mk (St.below (s := robin) M25.out B26.out)
                        have W25 := Aside0.mk (St.below (s := crow .i64) S24.out.sw B25.out)
                        have W26 := Aside0.mk (St.below (s := crow .i64) W25.out B26.out)
                        have F25 := Aside0.mk (Below.trans S24.out.far (Below.mono B25.out (Below.size S24.out.far)))
                        have F26 := Aside0.mk (Below.trans F25.out (Below.mono B26.out (Below.size F25.out)))
                        go_upto_block 9 with (fail)
                        go_wp2
                        go_loopw [21] (fun i wz => i = .int .i64 0 ∧ wz = w26) (fun _ _ => 0)
                        case atStart => exact ⟨rfl, rfl⟩
                        case round =>
                          obtain ⟨rfl, hwz⟩ := hrel
                          subst hwz
                          have pz : decide ((0 : Int) < (q.length : Int)) = false := decide_eq_false (by rw [HQE.out]; decide)
                          have pzn : decide (0 < q.length) = false := decide_eq_false (by rw [HQE.out]; decide)
                          go_wp2
                          go_meet
                          exact ⟨c24, qz, by rw [HZE.out]; exact M26.out, W26.out, by rw [← HQZ.out]; exact turned_nodup HND.out _, by rw [← HQZ.out]; intro y hy; exact HWF.out y (turned_mem hy), F26.out⟩
                      · as_aux_lemma =>
                        have H0 := Aside0.mk h0
                        clear h0
                        have HMT := Aside0.mk (show q.drop (restOf x3 x4 q) ++ q.take (restOf x3 x4 q) = qz from by rw [(many_turns HCT.out).2, HH.out]; exact HQZ.out)
                        go_upto_region 43 with (first | (go_at_call 10; (with_reducible refine (many_calls (p := 5) (q := 6) (r := 7) x3 x4 S24.out.sr S24.out.far H0.out (by decide) (by decide) (by decide) (by decide) (by decide) (by decide)).mono ?_); rintro e w25 ⟨v1, v2, rfl, c25, xs, hxl, hxc, hM, hO, hR, hT⟩; rw [HMT.out] at hM hR; have HXC := Aside0.mk hxc; have HXL := Aside0.mk hxl; obtain ⟨Ac, kc, rfl, -, -⟩ := row_reads hO; obtain ⟨Ar, kr, rfl, -, -⟩ := row_reads hR; have M25 := Aside0.mk hM; have C25 := Aside0.mk hO; have R25 := Aside0.mk hR; have W25 := Aside0.mk (hT.keep _ (crow .i64) 1 _ _ (by decide) S24.out.sw); have O25 := Aside0.mk (hT.keep _ (crow .i64) 3 _ _ (by decide) S24.out.so); have P25 := Aside0.mk (hT.keep _ cmap 4 _ _ (by decide) S24.out.sm); have F25 := Aside0.mk (hT.far S24.out.far); rw [hxl]; clear hxl hxc hM hO hR hT) | (go_at_call 11; (with_reducible refine (beadlelaw17_ints.calls (qz.length + 1) Ar kr qz A7 k7 qz true _ (row_C R25.out) (row_le R25.out) (crow_C W25.out) (crow_le W25.out) HI.out).mono ?_); rintro e w26 ⟨rfl, ⟨nd26, hw26⟩⟩; have hb26 : Below w25.heap.size w25 w26 := (by rw [hw26]; exact pw_below_drewN (Below.refl _ _) _); have B26 := Aside0.mk hb26; clear hw26 hb26))
                        obtain ⟨D5, hown5, htell5⟩ := cmap_own P25.out
                        have HTE := Aside0.mk htell5
                        have M26 := Aside0.mk (St.below (s := robin) M25.out B26.out)
                        have W26 := Aside0.mk (St.below (s := crow .i64) W25.out B26.out)
                        have O26 := Aside0.mk (St.below (s := crow .i64) O25.out B26.out)
                        have F26 := Aside0.mk (Below.trans F25.out (Below.mono B26.out (Below.size F25.out)))
                        have N26 := Aside0.mk (own_move hown5 (B26.out.block bm (own_lt hown5)))
                        have X26 := Aside0.mk (row_C (St.below (s := row 2 (Kd.int .i64)) C25.out B26.out))
                        clear hown5 htell5
                        go_upto_block 9 with (fail)
                        refine wp_tail ?_
                        refine loop9_piece (xs := xs) (crow_C O26.out) X26.out HXL.out hq256 N26.out HTE.out (counts_eq HCT.out HXC.out (by rw [HH.out]; exact S24.out.cnt)) HWF.out _ _ ?hk9s ?hq9s
                        case hq9s => exact fun _ _ _ _ _ h => h
                        intro a' wd hR_
                        obtain ⟨x4, hR_⟩ := hR_
                        obtain ⟨x21, hR_⟩ := hR_
                        obtain ⟨x124, hR_⟩ := hR_
                        obtain ⟨x125, hR_⟩ := hR_
                        obtain ⟨x126, hR_⟩ := hR_
                        obtain ⟨x127, hR_⟩ := hR_
                        obtain ⟨x128, hR_⟩ := hR_
                        obtain ⟨x129, hR_⟩ := hR_
                        obtain ⟨x130, hR_⟩ := hR_
                        obtain ⟨x131, hR_⟩ := hR_
                        obtain ⟨x132, hR_⟩ := hR_
                        obtain ⟨x133, hR_⟩ := hR_
                        obtain ⟨x134, hR_⟩ := hR_
                        obtain ⟨x135, hR_⟩ := hR_
                        obtain ⟨x136, hR_⟩ := hR_
                        obtain ⟨x137, hR_⟩ := hR_
                        obtain ⟨x138, hR_⟩ := hR_
                        obtain ⟨x139, hR_⟩ := hR_
                        obtain ⟨x140, hR_⟩ := hR_
                        obtain ⟨hcut, ha_⟩ := hR_
                        subst ha_
                        have C9 := Aside0.mk hcut
                        clear hcut
                        go_wp2
                        go_meet
                        exact ⟨c25, qz, St.below (s := robin) M26.out C9.out, St.below (s := crow .i64) W26.out C9.out, by rw [← HQZ.out]; exact turned_nodup HND.out _, by rw [← HQZ.out]; intro y hy; exact HWF.out y (turned_mem hy), Below.trans F26.out (Below.mono C9.out (Below.size F26.out))⟩
                    case rest =>
                      as_aux_lemma =>
                      obtain ⟨c5, q5, hM, hW, hN, hF, hB⟩ := hcut
                      have H5 := Aside0.mk hM
                      have W5 := Aside0.mk hW
                      have N5 := Aside0.mk hN
                      have F5 := Aside0.mk hF
                      have B5 := Aside0.mk hB
                      have hq5 : q5.length ≤ 256 := (robin_len hM).2.1
                      obtain ⟨A5, k5, rfl, -, -⟩ := crow_reads hW
                      have HI := Aside0.mk (show beadlelaw17_ints.f (q5.length + 1) q5 q5 = some true from by have := ints_f q5 q5 (by omega) (by omega); rwa [decide_eq_true rfl] at this)
                      have hne : ((q5.length : Int) != (q5.length : Int)) = false := by simp
                      have HE := Aside0.mk (show q5.take (heldN 1000 q5) = q5 from by rw [held_all hq5, List.take_of_length_le (Nat.le_refl _)])
                      clear hM hW hN hF hB MZ WZ XZ BW HND HWF HLN hnq HH
                      go_wp2_with (first | (go_at_call 15; (with_reducible refine (len_calls H5.out).mono ?_); rintro e wz ⟨rfl, rfl⟩) | (go_at_call 12; (with_reducible refine (see_calls 1000 H5.out).mono ?_); rintro e w6 ⟨v6, rfl, hR6, hb6⟩; rw [HE.out] at hR6; obtain ⟨A6, k6, rfl, -, -⟩ := crow_reads hR6; have HM6 := Aside0.mk (St.below (s := robin) H5.out hb6); have HW6 := Aside0.mk (St.below (s := crow .i64) W5.out hb6); have B6 := Aside0.mk (Below.trans B5.out (Below.mono hb6 (Below.size B5.out))); have HR6 := Aside0.mk hR6; clear hR6 hb6) | (go_at_call 11; (with_reducible refine (beadlelaw17_ints.calls (q5.length + 1) A6 k6 q5 A5 k5 q5 true _ (crow_C HR6.out) (crow_le HR6.out) (crow_C HW6.out) (crow_le HW6.out) HI.out).mono ?_); rintro e w7 ⟨rfl, ⟨nd7, hw7⟩⟩; have HM7 := Aside0.mk (St.drewN (s := robin) HM6.out nd7); have HW7 := Aside0.mk (St.drewN (s := crow .i64) HW6.out nd7); have B7 := Aside0.mk (pw_below_drewN B6.out nd7); rw [← hw7] at HM7 HW7 B7; clear hw7))
                      go_roundw
                      case rel => exact ⟨j + 1, c5, q5, by omega, by go_num, HM7.out, HW7.out, N5.out, F5.out, B7.out⟩
                      case measure => simp [intOf]; omega
          · go_wp2
            go_ret
            exact ⟨rfl, HB.out⟩
  · have d1 : decide (60 < l.length) = true := decide_eq_true (by omega)
    have d1i : decide ((60 : Int) < (l.length : Int)) = true := decide_eq_true (by omega)
    go_enter Try.func6, Try.ntmps6
    go_wp2_with (first | (go_at_call 7; (with_reducible refine (awake_calls _).mono ?_); rintro e w1 ⟨rfl, hb1⟩; have HB1 := Aside0.mk hb1; clear hb1))
    go_ret
    exact ⟨rfl, HB1.out⟩
end Go.Proofs.Ytmjmfkbdnhdafaa.Robin
