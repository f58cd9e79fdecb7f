/- Admit: AdmitFits: all that are counted fit, as long as time goes on (the walk) (no law is stated here; each says its conditions). -/
import Derived.Test.YtmjodeijafoabaaSt
import Derived.Test.YtmjodeijafoabaaReg
import Derived.Test.YtmjodeijafoabaaQt
import Derived.Test.YtmjodeijafoabaaAdJ
import Derived.Test.YtmjodeijafoabaaAdP
namespace Go.Proofs.Ytmjodeijafoabaa.Admit
open Go.RowKit Go.Proofs.YtmjodeijafoabaaW.PrintWords Go.Proofs.YtmjodeijafoabaaW.PrintLast Go.Proofs.YtmjodeijafoabaaW.PrintMore Go.Proofs.Ytmjodeijafoabaa.St Go.Proofs.Ytmjodeijafoabaa.Q Go.Proofs.Ytmjodeijafoabaa.Pure
set_option linter.unusedVariables false
set_option linter.unusedSimpArgs false
attribute [local go_sem] max2_int min2_int max_two min_two max_three min_three max_four min_four

theorem BK.keep0 {w0 W W1 : World} {c c1 : Nat → Nat} {i g : Nat} {m : Int} {l1 l2 : List S37} {js : List Nat} (h : BK w0 W c i m l1 l2 g) (t : TurnedL c c1 js w0 W W1) (h0 : i ∉ js) (h1 : i + 1 ∉ js) (h2 : i + 2 ∉ js) : BK w0 W1 c1 i m l1 l2 g := by
  obtain ⟨A1, k1, A2, k2, b1, b2, b3⟩ := h
  exact ⟨A1, k1, A2, k2, t.keep _ blk _ _ _ h0 b1, t.keep _ (row 37 k37) _ _ _ h1 b2, t.keep _ (row 37 k37) _ _ _ h2 b3⟩
theorem BK.keep1 {w0 W W1 : World} {c c1 : Nat → Nat} {i g j : Nat} {m : Int} {l1 l2 : List S37} (h : BK w0 W c i m l1 l2 g) (t : Turned c c1 j w0 W W1) (h0 : i ≠ j ∧ i + 1 ≠ j ∧ i + 2 ≠ j) : BK w0 W1 c1 i m l1 l2 g :=
  BK.keep0 h ((TurnedL.refl c [j] w0 W).step t (by simp)) (by simpa using h0.1) (by simpa using h0.2.1) (by simpa using h0.2.2)
section
variable {w0 W : World} {c : Nat → Nat} {i g : Nat} {m : Int} {l1 l2 : List S37}
theorem BK.liveC (col : Nat) (h : BK w0 W c i m l1 l2 g) (hB : Below w0.heap.size w0 W) (hl : l1.length ≤ 1000) :
    Calls Try.prog 11 #[.pointer (some ⟨g, 0, none⟩)] W fun e w' => ∃ A k c', e = .returned (.slice A l1.length k) ∧ (row 37 k37).M w' w0.heap.size (fun k => c' k = col) l1 (.slice A l1.length k) ∧ Turned c c' col w0 W w' := by
  obtain ⟨A1, k1, A2, k2, h1, h2, h3⟩ := h
  refine (live_calls (blk_at h1) (row_C h2) (row_le h2) hl).mono ?_
  rintro e w' ⟨v, rfl, hv, hb⟩
  obtain ⟨c', h', t'⟩ := row_new (w0 := w0) c col (Kd.R_lower hv (Below.size hB)) hb (Below.size hB)
  obtain ⟨A, k, rfl, _, _⟩ := row_reads hv
  exact ⟨A, k, c', rfl, h', t'⟩
theorem BK.lingersC (col : Nat) (now : Int) (h : BK w0 W c i m l1 l2 g) (hB : Below w0.heap.size w0 W) (hl : l2.length ≤ 1000) {lo : List S37} (hlo : ling now l2 = lo) :
    Calls Try.prog 13 #[.pointer (some ⟨g, 0, none⟩), .int .i64 now] W fun e w' => ∃ A k c', e = .returned (.slice A lo.length k) ∧ (row 37 k37).M w' w0.heap.size (fun k => c' k = col) lo (.slice A lo.length k) ∧ Turned c c' col w0 W w' := by
  subst hlo
  obtain ⟨A1, k1, A2, k2, h1, h2, h3⟩ := h
  refine (lingers_calls now (blk_at h1) (row_C h3) hl).mono ?_
  rintro e w' ⟨v, rfl, hv, hb⟩
  obtain ⟨c', h', t'⟩ := row_new (w0 := w0) c col (Kd.R_lower hv (Below.size hB)) hb (Below.size hB)
  obtain ⟨A, k, rfl, _, _⟩ := row_reads hv
  exact ⟨A, k, c', rfl, h', t'⟩
end
section
variable {w0 W : World} {c : Nat → Nat} {i g : Nat} {m : Int} {l1 l2 : List S37}
theorem BK.changeI (id q p now : Int) (h : BK w0 W c i m l1 l2 g) (hB : Below w0.heap.size w0 W) {j : Nat} (hi : Inv l1 l2 j) (hj : j ≤ 900) (hm : 1 ≤ m ∧ m ≤ 64) :
    Calls Try.prog 14 #[.pointer (some ⟨g, 0, none⟩), .int .i64 id, .agg #[.int .i64 q, .int .i64 p], .int .i64 now] W fun e w' => e = .returned (.int .i64 (changeV m l1 l2 id q p now)) ∧ ∃ c', BK w0 w' c' i m (changeL m l1 l2 id q p now) l2 g ∧ TurnedL c c' [i, i + 1, i + 2, i + 3, i + 4] w0 W w' :=
  change_calls id q p now h hB ⟨by have := hi.1; omega, by have := hi.2.1; omega⟩ hm hi.2.2.1 hi.2.2.2
end
theorem prs_more {l : List S37} {k : Nat} {pre : List S24} {q p : Int} (hk : k < l.length) (hq : (l.getD k z4).f1.f0 = q) (hp : (l.getD k z4).f1.f1 = p) : (pre ++ prs (l.take k)) ++ [⟨q, p⟩] = pre ++ prs (l.take (k + 1)) := by
  subst hq; subst hp
  rw [take_more z4 hk]
  unfold prs
  rw [List.map_append, List.append_assoc]
  rfl
/-- Between the acts. -/
def RelF (w : World) (n : Nat) (m : Int) (g : Nat) (nv i : Value) (wr : World) : Prop :=
  ∃ (j : Nat) (c : Nat → Nat) (l1 l2 : List S37) (now : Int), j ≤ n ∧ i = .int .i64 (j : Int) ∧ nv = .int .i64 now ∧ 0 ≤ now ∧ now ≤ (j : Int) * 1073741824 ∧ BK w wr c 0 m l1 l2 g ∧ Inv l1 l2 j ∧ AllFit m l1 l2 now ∧ Below w.heap.size w wr
/-- Behind an act. -/
def CutF (w : World) (m : Int) (g : Nat) (now : Int) (j : Nat) (wd : World) : Prop :=
  ∃ (c : Nat → Nat) (l1 l2 : List S37), BK w wd c 0 m l1 l2 g ∧ Inv l1 l2 (j + 1) ∧ AllFit m l1 l2 now ∧ Below w.heap.size w wd
/-- While the pairs are taken. -/
def RelP (w : World) (m : Int) (l1 l2 lo : List S37) (g : Nat) (vl vo : Value) (pre : List S24) (src : List S37) (pv i : Value) (wr : World) : Prop :=
  ∃ (k : Nat) (c : Nat → Nat), k ≤ src.length ∧ i = .int .i64 (k : Int) ∧ BK w wr c 0 m l1 l2 g ∧ (row 37 k37).M wr w.heap.size (fun k => c k = 20) l1 vl ∧ (row 37 k37).M wr w.heap.size (fun k => c k = 21) lo vo ∧ (row 24 k24).M wr w.heap.size (fun k => c k = 22) (pre ++ prs (src.take k)) pv ∧ Below w.heap.size w wr
set_option maxHeartbeats 16000000 in
set_option maxRecDepth 100000 in
theorem fits_walk (m : Int) (_ : (Lit.int .i64 m).wf = true) (A : Option Addr) (cap : Nat) (l : List (Int × Int × (Int × Int) × Int × Int)) {good : Int × Int × (Int × Int) × Int × Int → Prop} {w : World} (hr : (Kd.pair (Kd.int .i64) (Kd.pair (Kd.int .i64) (Kd.pair (Kd.pair (Kd.int .i64) (Kd.int .i64)) (Kd.pair (Kd.int .i64) (Kd.int .i64))))).C w A l.length l) (hc : l.length ≤ cap) (hg : ∀ a ∈ l, good a) (_ : World) :
    Calls Try.prog 6 #[.int .i64 m, .slice A l.length cap] w fun e w' => e = .returned (.bool true) ∧ Below w.heap.size w w' := by
  have HC := Aside0.mk hr
  clear hr hg
  by_cases hm : m < 1 ∨ 64 < m
  · have HM := Aside0.mk hm
    clear hm
    go_enter Try.func6, Try.ntmps6
    go_wp2_with (first | (go_at_call 7; (with_reducible refine (awake_calls _).mono ?_); rintro e w2 ⟨rfl, hb2⟩; have B2 := Aside0.mk hb2; clear hb2) | (go_at_call 8; (with_reducible refine (new_bad m _ HM.out).mono ?_); rintro e w3 ⟨rfl, rfl⟩))
    go_ret
    exact ⟨rfl, B2.out⟩
  have HM := Aside0.mk (show 1 ≤ m ∧ m ≤ 64 from by omega)
  clear hm
  by_cases hl : 60 < l.length
  · have d1 : decide (60 < l.length) = true := decide_eq_true hl
    have d2 : decide ((60 : Int) < (l.length : Int)) = true := decide_eq_true (by omega)
    clear hl
    go_enter Try.func6, Try.ntmps6
    go_wp2_with (first | (go_at_call 7; (with_reducible refine (awake_calls _).mono ?_); rintro e w2 ⟨rfl, hb2⟩; have B2 := Aside0.mk hb2; clear hb2) | (go_at_call 8; (with_reducible refine (new_ok (w0 := w) (fun _ => 99) 0 m HM.out B2.out).mono ?_); rintro e w3 ⟨g, rfl, c3, h3, t3⟩; have H3 := Aside0.mk h3; have B3 := Aside0.mk (t3.far B2.out); clear h3 t3))
    go_ret
    exact ⟨rfl, B3.out⟩
  · have d1 : decide (60 < l.length) = false := decide_eq_false hl
    have d2 : decide ((60 : Int) < (l.length : Int)) = false := decide_eq_false (by omega)
    have HL := Aside0.mk (show l.length ≤ 60 from by omega)
    clear hl
    go_enter Try.func6, Try.ntmps6
    go_wp2_with (first | (go_at_call 7; (with_reducible refine (awake_calls _).mono ?_); rintro e w2 ⟨rfl, hb2⟩; have B2 := Aside0.mk hb2; clear hb2) | (go_at_call 8; (with_reducible refine (new_ok (w0 := w) (fun _ => 99) 0 m HM.out B2.out).mono ?_); rintro e w3 ⟨g, rfl, c3, h3, t3⟩; have H3 := Aside0.mk h3; have B3 := Aside0.mk (t3.far B2.out); clear h3 t3))
    go_loopw [7, 8] (fun nv i wr => RelF w l.length m g nv i wr) (fun _ i _ => l.length - (intOf i).toNat)
    case atStart => exact ⟨0, c3, [], [], 0, Nat.zero_le _, rfl, rfl, Int.le_refl _, by decide, H3.out, inv_new, allfit_new _ _, B3.out⟩
    case round =>
      skip
      obtain ⟨j, c, l1, l2, now, hj, rfl, rfl, hn0, hn1, hH, hI, hF, hB⟩ := hrel
      have KZ := Aside0.mk hH
      have HI := Aside0.mk hI
      have HF0 := Aside0.mk hF
      have BZ := Aside0.mk hB
      have hj60 : j ≤ 60 := by have := HL.out; omega
      have HJ := Aside0.mk (show j ≤ 900 from by omega)
      have HJ6 := Aside0.mk (show j ≤ 60 from by omega)
      have HJL := Aside0.mk (show l1.length ≤ 400 ∧ l2.length ≤ 900 from ⟨by have := hI.1; omega, by have := hI.2.1; omega⟩)
      have HNW := Aside0.mk (show 0 ≤ now ∧ now ≤ 64424509440 from ⟨hn0, by omega⟩)
      have HN1 := Aside0.mk hn1
      clear hH hI hF hB H3 B2 B3 hn0 hn1
      by_cases hlt : j < l.length
      · obtain ⟨ad, hAd⟩ := some_ad6 HC.out hlt
        subst hAd
        obtain ⟨x1, x2, ⟨x3, x4⟩, x5, x6, hx⟩ : ∃ x1 x2 x34 x5 x6, l.getD j (0, 0, (0, 0), 0, 0) = (x1, x2, x34, x5, x6) := ⟨_, _, _, _, _, rfl⟩
        obtain ⟨a0, a1, a2, a3, a4, a5⟩ := read_act6 (Kd.C_below HC.out BZ.out) hlt hx
        clear hx
        have bq : (0 ≤ (j : Int) ∧ (j : Int) < (l.length : Int)) := by omega
        have pj : decide ((j : Int) < (l.length : Int)) = true := decide_eq_true (by omega)
        obtain ⟨nb, hnb⟩ : ∃ nb, (decide (0 < x5) && decide (x5 < 1073741824)) = nb := ⟨_, rfl⟩
        have NB := Aside0.mk hnb
        obtain ⟨now2, hn2⟩ : ∃ now2, later now x5 = now2 := ⟨_, rfl⟩
        have HN3 := Aside0.mk hn2
        have HN2 := Aside0.mk (show 0 ≤ now2 ∧ now2 ≤ ((j : Int) + 1) * 1073741824 from by rw [← hn2]; have := HNW.out; have := HN1.out; unfold later; split <;> omega)
        have HF := Aside0.mk (HF0.out.later HI.out (show now ≤ now2 from by rw [← hn2]; unfold later; split <;> omega))
        clear hnb hn2 HF0
        go_upto_region 11 with (first | ((with_reducible refine gate_dst (N := 9) rfl ?_); refine box_event ?hg (N := 9) ?hd (cs := #[.int .i64 0, .int .i64 0, .int .i64 0, .int .i64 0, .int .i64 0, .int .i64 0]) (t := 31) ?hr ?_; (case hd => rfl); (case hg => rfl); (case hr => first | (go_simp; done) | (go_simp; rfl) | kernel_rfl); intro g9 hg5 w5 hx5 hb5; have HX5 := Aside0.mk hx5; have HB5 := Aside0.mk hb5; have HG5 := Aside0.mk hg5; have s0 := blk_cell hx5 0; have t0 := blk_frozen hx5 0; have s1 := blk_cell hx5 1; have t1 := blk_frozen hx5 1; have s2 := blk_cell hx5 2; have t2 := blk_frozen hx5 2; have s3 := blk_cell hx5 3; have t3 := blk_frozen hx5 3; have s4 := blk_cell hx5 4; have t4 := blk_frozen hx5 4; have s5 := blk_cell hx5 5; have t5 := blk_frozen hx5 5; clear hx5 hb5 hg5))
        have hgx : wr.heap.size ≤ g9 := Nat.le_of_eq HG5.out.symm
        have hb5 : Below wr.heap.size wr ((((((w5.setCell ⟨g9, 0, none⟩ (.int .i64 x1)).setCell ⟨g9, 1, none⟩ (.int .i64 x2)).setCell ⟨g9, 2, none⟩ (.int .i64 x3)).setCell ⟨g9, 3, none⟩ (.int .i64 x4)).setCell ⟨g9, 4, none⟩ (.int .i64 x5)).setCell ⟨g9, 5, none⟩ (.int .i64 x6)) := ((((((HB5.out.setCell hgx _).setCell hgx _).setCell hgx _).setCell hgx _).setCell hgx _).setCell hgx _)
        have hx5 : ((((((w5.setCell ⟨g9, 0, none⟩ (.int .i64 x1)).setCell ⟨g9, 1, none⟩ (.int .i64 x2)).setCell ⟨g9, 2, none⟩ (.int .i64 x3)).setCell ⟨g9, 3, none⟩ (.int .i64 x4)).setCell ⟨g9, 4, none⟩ (.int .i64 x5)).setCell ⟨g9, 5, none⟩ (.int .i64 x6)).heap[g9]? = some (.cells #[.int .i64 x1, .int .i64 x2, .int .i64 x3, .int .i64 x4, .int .i64 x5, .int .i64 x6] 31 (0, 0)) := (blk_put (cs := #[.int .i64 x1, .int .i64 x2, .int .i64 x3, .int .i64 x4, .int .i64 x5, .int .i64 0]) (blk_put (cs := #[.int .i64 x1, .int .i64 x2, .int .i64 x3, .int .i64 x4, .int .i64 0, .int .i64 0]) (blk_put (cs := #[.int .i64 x1, .int .i64 x2, .int .i64 x3, .int .i64 0, .int .i64 0, .int .i64 0]) (blk_put (cs := #[.int .i64 x1, .int .i64 x2, .int .i64 0, .int .i64 0, .int .i64 0, .int .i64 0]) (blk_put (cs := #[.int .i64 x1, .int .i64 0, .int .i64 0, .int .i64 0, .int .i64 0, .int .i64 0]) (blk_put (cs := #[.int .i64 0, .int .i64 0, .int .i64 0, .int .i64 0, .int .i64 0, .int .i64 0]) HX5.out 0 _ rfl) 1 _ rfl) 2 _ rfl) 3 _ rfl) 4 _ rfl) 5 _ rfl)
        clear s0 t0 a0 s1 t1 a1 s2 t2 a2 s3 t3 a3 s4 t4 a4 s5 t5 a5 HX5 HB5 HG5
        generalize ((((((w5.setCell ⟨g9, 0, none⟩ (.int .i64 x1)).setCell ⟨g9, 1, none⟩ (.int .i64 x2)).setCell ⟨g9, 2, none⟩ (.int .i64 x3)).setCell ⟨g9, 3, none⟩ (.int .i64 x4)).setCell ⟨g9, 4, none⟩ (.int .i64 x5)).setCell ⟨g9, 5, none⟩ (.int .i64 x6)) = wa at hb5 hx5 ⊢
        obtain ⟨ca, ha, ta⟩ := blk_new1 (w0 := w) c 9 hgx hx5 hb5 (Below.size BZ.out)
        have KA := Aside0.mk (BK.keep1 KZ.out ta (by decide))
        have XA := Aside0.mk ha
        have BA := Aside0.mk (ta.far BZ.out)
        clear ha ta hb5 hx5 hgx KZ BZ
        have y4 : wa.cell? ⟨g9, 4, none⟩ = some (.int .i64 x5) := blk_cell (blk_at XA.out) 4
        go_cut [48] from 41 to 47 (fun a wd => wd = wa ∧ a = .bool nb)
        case first =>
          by_cases h1 : 0 < x5
          · have d1 : decide (0 < x5) = true := decide_eq_true h1
            by_cases h2 : x5 < 1073741824
            · have d2 : decide (x5 < 1073741824) = true := decide_eq_true h2
              have HE := Aside0.mk (show nb = true from by rw [← NB.out, d1, d2]; rfl)
              clear h1 h2
              go_wp2
              go_meet
              exact ⟨rfl, by rw [HE.out]⟩
            · have d2 : decide (x5 < 1073741824) = false := decide_eq_false h2
              have HE := Aside0.mk (show nb = false from by rw [← NB.out, d1, d2]; rfl)
              clear h1 h2
              go_wp2
              go_meet
              exact ⟨rfl, by rw [HE.out]⟩
          · have d1 : decide (0 < x5) = false := decide_eq_false h1
            have HE := Aside0.mk (show nb = false from by rw [← NB.out, d1]; rfl)
            clear h1
            go_wp2
            go_meet
            exact ⟨rfl, by rw [HE.out]⟩
        case rest =>
          obtain ⟨hwd, rfl⟩ := hcut
          subst hwd
          go_upto_if 48 with (fail)
          go_cut [7] from 49 to 52 (fun a we => we = wc ∧ a = .int .i64 now2)
          case first =>
            cases nb with
            | true =>
              have HT := Aside0.mk (show now2 = now + x5 from by rw [← HN3.out]; unfold later; rw [if_pos (nb_t NB.out)])
              have hw : wrap64 (now + x5) = now + x5 := by have := nb_t NB.out; have := HNW.out; unfold wrap64; omega
              have HWW := Aside0.mk hw
              go_wp2
              go_meet
              exact ⟨rfl, by rw [HWW.out, HT.out]⟩
            | false =>
              have HT := Aside0.mk (show now2 = now from by rw [← HN3.out]; unfold later; rw [if_neg (nb_f NB.out)])
              go_wp2
              go_meet
              exact ⟨rfl, by rw [HT.out]⟩
          case rest =>
            obtain ⟨hwe, rfl⟩ := hcut
            subst hwe
            have y0 : wc.cell? ⟨g9, 0, none⟩ = some (.int .i64 x1) := blk_cell (blk_at XA.out) 0
            have y1 : wc.cell? ⟨g9, 1, none⟩ = some (.int .i64 x2) := blk_cell (blk_at XA.out) 1
            have y2 : wc.cell? ⟨g9, 2, none⟩ = some (.int .i64 x3) := blk_cell (blk_at XA.out) 2
            have y3 : wc.cell? ⟨g9, 3, none⟩ = some (.int .i64 x4) := blk_cell (blk_at XA.out) 3
            have y5 : wc.cell? ⟨g9, 5, none⟩ = some (.int .i64 x6) := blk_cell (blk_at XA.out) 5
            go_upto_block 2 with (fail)
            go_cut [89] from 55 to 88 (fun _ wd => CutF w m g now2 j wd)
            case first =>
              as_aux_lemma =>
              by_cases o0 : x1 = 0
              · have q0 : (x1 == 0) = true := beq_iff_eq.2 o0
                clear o0
                go_wp2_with (first | (go_at_call 9; (with_reducible refine (BK.enter x2 x3 x4 now2 KA.out BA.out HI.out HJ.out HM.out rfl rfl).mono ?_); rintro e w21 ⟨rfl, c21, h21, t21⟩; have K21 := Aside0.mk h21; have B21 := Aside0.mk (t21.far BA.out); clear h21 t21))
                go_meet
                exact ⟨c21, _, _, K21.out, (HI.out.enter x2 x3 x4 now2).more, HF.out.enter x2 x3 x4, B21.out⟩
              have q0 : (x1 == 0) = false := beq_eq_false_iff_ne.2 o0
              clear o0
              by_cases o1 : x1 = 1
              · have q1 : (x1 == 1) = true := beq_iff_eq.2 o1
                clear o1
                by_cases h6 : 0 ≤ x6
                rotate_left
                · have d6 : decide (0 ≤ x6) = false := decide_eq_false h6
                  clear h6
                  go_wp2
                  go_meet
                  exact ⟨ca, l1, l2, KA.out, HI.out.more, HF.out, BA.out⟩
                have d6 : decide (0 ≤ x6) = true := decide_eq_true h6
                by_cases h7 : x6 < 1099511627776
                rotate_left
                · have d7 : decide (x6 < 1099511627776) = false := decide_eq_false h7
                  clear h6 h7
                  go_wp2
                  go_meet
                  exact ⟨ca, l1, l2, KA.out, HI.out.more, HF.out, BA.out⟩
                have d7 : decide (x6 < 1099511627776) = true := decide_eq_true h7
                have hwt : wrap64 (now2 + x6) = now2 + x6 := by have := HN2.out; unfold wrap64; omega
                have HWT := Aside0.mk hwt
                clear h6 h7 hwt
                go_wp2_with (first | (go_at_call 10; rw [HWT.out]; (with_reducible refine (BK.leave x2 (now2 + x6) now2 KA.out BA.out HI.out HJ.out).mono ?_); rintro e w21 ⟨rfl, c21, h21, t21⟩; have K21 := Aside0.mk h21; have B21 := Aside0.mk (t21.far BA.out); clear h21 t21))
                go_meet
                exact ⟨c21, _, _, K21.out, HI.out.leave x2 (now2 + x6) now2, HF.out.leave HI.out x2 (now2 + x6), B21.out⟩
              have q1 : (x1 == 1) = false := beq_eq_false_iff_ne.2 o1
              clear o1
              go_wp2_with (first | (go_at_call 14; (with_reducible refine (BK.changeI x2 x3 x4 now2 KA.out BA.out HI.out HJ.out HM.out).mono ?_); rintro e w21 ⟨rfl, c21, h21, t21⟩; have K21 := Aside0.mk h21; have B21 := Aside0.mk (t21.far BA.out); clear h21 t21))
              go_meet
              exact ⟨c21, _, _, K21.out, (HI.out.change x2 x3 x4 now2).more, HF.out.change x2 x3 x4, B21.out⟩
            case rest =>
              as_aux_lemma =>
              clear KA XA BA HI HF y0 y1 y2 y3 y4 y5
              obtain ⟨cb, l1, l2, hKb, hIb, hFb, hBb⟩ := hcut
              have KB := Aside0.mk hKb
              have BB := Aside0.mk hBb
              have HIB := Aside0.mk hIb
              obtain ⟨lo, hlo⟩ : ∃ lo, ling now2 l2 = lo := ⟨_, rfl⟩
              have HLO := Aside0.mk hlo
              have HLN := Aside0.mk (show l1.length ≤ 32 ∧ lo.length ≤ 900 from ⟨hIb.1, by rw [← hlo]; have h := List.length_filter_le (fun x => decide (now2 < x.f2)) l2; have := hIb.2.1; have := HJ.out; have := HJ6.out; unfold ling; omega⟩)
              have HL1 := Aside0.mk (show l1.length ≤ 1000 from by have := HLN.out; omega)
              have HL2 := Aside0.mk (show l2.length ≤ 1000 from by have := hIb.2.1; have := HJ6.out; omega)
              have HALL := Aside0.mk (show win_All.f 140 m (prs l1 ++ prs lo) = some (true, 0) from by rw [← hlo, allR_f HM.out (okc hIb now2), hFb.tells])
              have d32 : decide ((32 : Int) < (l1.length : Int)) = false := decide_eq_false (by have := HLN.out; omega)
              have d32n : decide (32 < l1.length) = false := decide_eq_false (by have := HLN.out; omega)
              have HFB := Aside0.mk hFb
              clear hKb hIb hFb hBb hlo
              go_upto_region 23 with (first | (go_at_call 11; (with_reducible refine (BK.liveC 20 KB.out BB.out HL1.out).mono ?_); rintro e w6 ⟨A5, k5, c6, rfl, h6, t6⟩; have HL6 := Aside0.mk h6; have K6 := Aside0.mk (BK.keep1 KB.out t6 (by decide)); have B6 := Aside0.mk (t6.far BB.out); clear h6 t6) | (go_at_call 13; (with_reducible refine (BK.lingersC 21 now2 K6.out B6.out HL2.out HLO.out).mono ?_); rintro e w7 ⟨A6, k6, c7, rfl, h7, t7⟩; have HO7 := Aside0.mk h7; have HL7 := Aside0.mk (t7.keep _ (row 37 k37) 20 _ _ (by decide) HL6.out); have K7 := Aside0.mk (BK.keep1 K6.out t7 (by decide)); have B7 := Aside0.mk (t7.far B6.out); clear h7 t7))
              go_loopw [10, 13] (fun pv i wr => RelP w m l1 l2 lo g (.slice A5 l1.length k5) (.slice A6 lo.length k6) ([] : List S24) l1 pv i wr) (fun _ i _ => l1.length - (intOf i).toNat)
              case atStart => exact ⟨0, c7, Nat.zero_le _, rfl, K7.out, HL7.out, HO7.out, Kd.R_nil _ _ _ _ _, B7.out⟩
              case round =>
                as_aux_lemma =>
                obtain ⟨k, c, hk, rfl, hK, hL, hO, hP, hB⟩ := hrel
                obtain ⟨P0, hP0⟩ : ∃ P0, ([] : List S24) ++ prs (l1.take k) = P0 := ⟨_, rfl⟩
                rw [hP0] at hP
                obtain ⟨Ap, kp, rfl, -, -⟩ := row_reads hP
                have HP0 := Aside0.mk hP0
                have hk1000 : k ≤ 1000 := by have := HLN.out; omega
                have KZ := Aside0.mk hK
                have HLZ := Aside0.mk hL
                have HOZ := Aside0.mk hO
                have HPZ := Aside0.mk hP
                have BZ := Aside0.mk hB
                clear hK hL hO hP hB
                have HBN := Aside0.mk (show P0.length ≤ 3000 from by have := HLN.out; rw [← hP0, List.length_append, prs_len, List.length_take]; show 0 + _ ≤ _; omega)
                clear hP0
                by_cases hkl : k < l1.length
                · have pk : decide ((k : Int) < (l1.length : Int)) = true := decide_eq_true (by omega)
                  have pkn : decide (k < l1.length) = true := decide_eq_true hkl
                  have bk : (0 ≤ (k : Int) ∧ (k : Int) < (l1.length : Int)) := by omega
                  obtain ⟨ae, hAe, -, e1, e2, -⟩ := read_e (row_C HLZ.out) hkl
                  subst hAe
                  obtain ⟨q, hq⟩ : ∃ q, (l1.getD k z4).f1.f0 = q := ⟨_, rfl⟩
                  obtain ⟨p, hp⟩ : ∃ p, (l1.getD k z4).f1.f1 = p := ⟨_, rfl⟩
                  rw [hq] at e1
                  rw [hp] at e2
                  have HTK := Aside0.mk (show P0 ++ [⟨q, p⟩] = ([] : List S24) ++ prs (l1.take (k + 1)) from by rw [← HP0.out]; exact prs_more hkl hq hp)
                  clear hq hp
                  go_wp2_with (first | ((with_reducible refine gate_dst (N := 107) rfl ?_); refine lit_list (e := 24) (c := c) (w0 := w) (k24) 23 rfl (N := 107) rfl (([⟨q, p⟩] : List S24)) [.int .i64 q, .int .i64 p] ?hr (reps_one _ _ _ _) ?hs (by simp) ?_; (case hr => first | (go_simp; done) | (go_simp; rfl)); (case hs => exact Below.size BZ.out); intro v20 w20 c20 h20 t20; have HN20 := Aside0.mk (show (row 24 (k24)).M w20 w.heap.size (fun k => c20 k = 23) (([⟨q, p⟩] : List S24)) v20 from h20); have HL20 := Aside0.mk (t20.keep _ (row 37 k37) 20 _ _ (by decide) HLZ.out); have HO20 := Aside0.mk (t20.keep _ (row 37 k37) 21 _ _ (by decide) HOZ.out); have HP20 := Aside0.mk (t20.keep _ (row 24 k24) 22 _ _ (by decide) HPZ.out); have B20 := Aside0.mk (t20.far BZ.out); have K20 := Aside0.mk (BK.keep1 KZ.out t20 (by decide)); clear h20 t20; have HN20' := HN20.out; obtain ⟨A20, k20, rfl, -, -⟩ := row_reads HN20'; clear HN20') | ((with_reducible refine gate_builtin (b := .append) (xs := #[.tmp 101, .tmp 107]) rfl ?_); refine app_list (e := 24) (c := c20) (w0 := w) (d := k24) (i := 22) rfl (.tmp 101) (.tmp 107) 51 (.agg #[.int .i64 0, .int .i64 0]) 16 rfl Try.underlying51 info_pair rfl (by decide) (by decide) (flat24) (.slice Ap P0.length kp) (P0) (([⟨q, p⟩] : List S24)) _ _ _ rfl rfl HP20.out (row_C HN20.out) ?hs (by have := HBN.out; show (_ + 1) * 16 ≤ _; omega) ?_; (case hs => exact Below.size B20.out); intro v21 w21 c21 h21 t21; rw [HTK.out] at h21; have HP21 := Aside0.mk (show (row 24 k24).M w21 w.heap.size (fun k => c21 k = 22) (([] : List S24) ++ prs (l1.take (k + 1))) v21 from h21); have HL21 := Aside0.mk (t21.keep _ (row 37 k37) 20 _ _ (by decide) HL20.out); have HO21 := Aside0.mk (t21.keep _ (row 37 k37) 21 _ _ (by decide) HO20.out); have HN21 := Aside0.mk (t21.keep _ (row 24 (k24)) 23 _ _ (by decide) HN20.out); have B21 := Aside0.mk (t21.far B20.out); have K21 := Aside0.mk (BK.keep1 K20.out t21 (by decide)); clear h21 t21))
                  go_roundw
                  case rel => exact ⟨k + 1, c21, by omega, by go_num, K21.out, HL21.out, HO21.out, HP21.out, B21.out⟩
                  case measure => simp [intOf]; omega
                · have pk : decide ((k : Int) < (l1.length : Int)) = false := decide_eq_false (by omega)
                  have pkn : decide (k < l1.length) = false := decide_eq_false hkl
                  have hPe : P0 = ([] : List S24) ++ prs l1 := by rw [← HP0.out, show k = l1.length by omega, List.take_length]
                  rw [List.nil_append] at hPe
                  subst hPe
                  have HPY := HPZ
                  have KY := KZ
                  have HLY := HLZ
                  have HOY := HOZ
                  have BY := BZ
                  clear KZ HLZ HOZ HPZ BZ HBN HP0 hk hkl hk1000
                  go_wp2
                  clear pk pkn
                  go_loopw [10, 14] (fun pv i wr => RelP w m l1 l2 lo g (.slice A5 l1.length k5) (.slice A6 lo.length k6) (prs l1) lo pv i wr) (fun _ i _ => lo.length - (intOf i).toNat)
                  case atStart => exact ⟨0, c, Nat.zero_le _, rfl, KY.out, HLY.out, HOY.out, (by rw [List.take_zero, show prs ([] : List S37) = [] from rfl, List.append_nil]; exact HPY.out), BY.out⟩
                  case round =>
                    as_aux_lemma =>
                    obtain ⟨k, c, hk, rfl, hK, hL, hO, hP, hB⟩ := hrel
                    obtain ⟨P0, hP0⟩ : ∃ P0, (prs l1) ++ prs (lo.take k) = P0 := ⟨_, rfl⟩
                    rw [hP0] at hP
                    obtain ⟨Ap, kp, rfl, -, -⟩ := row_reads hP
                    have HP0 := Aside0.mk hP0
                    have hk1000 : k ≤ 1000 := by have := HLN.out; omega
                    have KZ := Aside0.mk hK
                    have HLZ := Aside0.mk hL
                    have HOZ := Aside0.mk hO
                    have HPZ := Aside0.mk hP
                    have BZ := Aside0.mk hB
                    clear hK hL hO hP hB
                    have HBN := Aside0.mk (show P0.length ≤ 3000 from by have := HLN.out; rw [← hP0, List.length_append, prs_len, prs_len, List.length_take]; omega)
                    clear hP0
                    by_cases hkl : k < lo.length
                    · have pk : decide ((k : Int) < (lo.length : Int)) = true := decide_eq_true (by omega)
                      have pkn : decide (k < lo.length) = true := decide_eq_true hkl
                      have bk : (0 ≤ (k : Int) ∧ (k : Int) < (lo.length : Int)) := by omega
                      obtain ⟨ae, hAe, -, e1, e2, -⟩ := read_e (row_C HOZ.out) hkl
                      subst hAe
                      obtain ⟨q, hq⟩ : ∃ q, (lo.getD k z4).f1.f0 = q := ⟨_, rfl⟩
                      obtain ⟨p, hp⟩ : ∃ p, (lo.getD k z4).f1.f1 = p := ⟨_, rfl⟩
                      rw [hq] at e1
                      rw [hp] at e2
                      have HTK := Aside0.mk (show P0 ++ [⟨q, p⟩] = (prs l1) ++ prs (lo.take (k + 1)) from by rw [← HP0.out]; exact prs_more hkl hq hp)
                      clear hq hp
                      go_wp2_with (first | ((with_reducible refine gate_dst (N := 121) rfl ?_); refine lit_list (e := 24) (c := c) (w0 := w) (k24) 23 rfl (N := 121) rfl (([⟨q, p⟩] : List S24)) [.int .i64 q, .int .i64 p] ?hr (reps_one _ _ _ _) ?hs (by simp) ?_; (case hr => first | (go_simp; done) | (go_simp; rfl)); (case hs => exact Below.size BZ.out); intro v20 w20 c20 h20 t20; have HN20 := Aside0.mk (show (row 24 (k24)).M w20 w.heap.size (fun k => c20 k = 23) (([⟨q, p⟩] : List S24)) v20 from h20); have HL20 := Aside0.mk (t20.keep _ (row 37 k37) 20 _ _ (by decide) HLZ.out); have HO20 := Aside0.mk (t20.keep _ (row 37 k37) 21 _ _ (by decide) HOZ.out); have HP20 := Aside0.mk (t20.keep _ (row 24 k24) 22 _ _ (by decide) HPZ.out); have B20 := Aside0.mk (t20.far BZ.out); have K20 := Aside0.mk (BK.keep1 KZ.out t20 (by decide)); clear h20 t20; have HN20' := HN20.out; obtain ⟨A20, k20, rfl, -, -⟩ := row_reads HN20'; clear HN20') | ((with_reducible refine gate_builtin (b := .append) (xs := #[.tmp 115, .tmp 121]) rfl ?_); refine app_list (e := 24) (c := c20) (w0 := w) (d := k24) (i := 22) rfl (.tmp 115) (.tmp 121) 51 (.agg #[.int .i64 0, .int .i64 0]) 16 rfl Try.underlying51 info_pair rfl (by decide) (by decide) (flat24) (.slice Ap P0.length kp) (P0) (([⟨q, p⟩] : List S24)) _ _ _ rfl rfl HP20.out (row_C HN20.out) ?hs (by have := HBN.out; show (_ + 1) * 16 ≤ _; omega) ?_; (case hs => exact Below.size B20.out); intro v21 w21 c21 h21 t21; rw [HTK.out] at h21; have HP21 := Aside0.mk (show (row 24 k24).M w21 w.heap.size (fun k => c21 k = 22) ((prs l1) ++ prs (lo.take (k + 1))) v21 from h21); have HL21 := Aside0.mk (t21.keep _ (row 37 k37) 20 _ _ (by decide) HL20.out); have HO21 := Aside0.mk (t21.keep _ (row 37 k37) 21 _ _ (by decide) HO20.out); have HN21 := Aside0.mk (t21.keep _ (row 24 (k24)) 23 _ _ (by decide) HN20.out); have B21 := Aside0.mk (t21.far B20.out); have K21 := Aside0.mk (BK.keep1 K20.out t21 (by decide)); clear h21 t21))
                      go_roundw
                      case rel => exact ⟨k + 1, c21, by omega, by go_num, K21.out, HL21.out, HO21.out, HP21.out, B21.out⟩
                      case measure => simp [intOf]; omega
                    · have pk : decide ((k : Int) < (lo.length : Int)) = false := decide_eq_false (by omega)
                      have pkn : decide (k < lo.length) = false := decide_eq_false hkl
                      have hPe : P0 = (prs l1) ++ prs lo := by rw [← HP0.out, show k = lo.length by omega, List.take_length]
                      have HALP := Aside0.mk (show win_All.f 140 m P0 = some (true, 0) from by rw [hPe]; exact HALL.out)
                      clear hPe
                      have HPY := HPZ
                      go_wp2_with (first | (go_at_call 21; (with_reducible refine (win_All.calls 140 m Ap kp P0 true 0 _ (row_C HPY.out) (row_le HPY.out) HALP.out).mono ?_); rintro e w30 ⟨rfl, hb30⟩; have K30 := Aside0.mk (BK.below KZ.out hb30); have B30 := Aside0.mk (Below.trans BZ.out (Below.mono hb30 (Below.size BZ.out))); clear hb30))
                      go_roundw
                      case rel => exact ⟨j + 1, c, l1, l2, now2, by omega, by go_num, rfl, HN2.out.1, by have := HN2.out.2; omega, K30.out, HIB.out, HFB.out, B30.out⟩
                      case measure => simp [intOf]; omega
      · have pj : decide ((j : Int) < (l.length : Int)) = false := decide_eq_false (by omega)
        have pjn : decide (j < l.length) = false := decide_eq_false hlt
        clear HNW HN1
        go_wp2
        go_ret
        exact ⟨rfl, BZ.out⟩
end Go.Proofs.Ytmjodeijafoabaa.Admit
