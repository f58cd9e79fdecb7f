/- The reference's Wake, told whole (no law is stated here; no condition). -/
import Derived.Test.YtofbjgkoaiiagaaRWakeG
import Derived.Test.YtofbjgkoaiiagaaPureCbsSays
import Derived.Test.YtofbjgkoaiiagaaQx27
namespace Go.Proofs.Ytofbjgkoaiiagaa.CbsS
open Go.RowKit Go.Proofs.YtofbjgkoaiiagaaW.PrintWords Go.Proofs.YtofbjgkoaiiagaaW.PrintLast Go.Proofs.YtofbjgkoaiiagaaW.PrintMore Go.Proofs.Ytofbjgkoaiiagaa.Q
open Go.Proofs.Ytofbjgkoaiiagaa.Pure (goodv goods_t goods_n wake_both)
set_option linter.unusedVariables false
set_option linter.unusedSimpArgs false
attribute [local go_sem] max2_int min2_int max_two min_two max_three min_three max_four min_four

set_option maxHeartbeats 2000000 in
set_option maxRecDepth 100000 in
theorem rwake_bad (q p b d m t : Int) (w : World) (h : beadleref10_GoodServer.f q p b d m = some false) :
    Calls Try.prog 19 #[.agg #[.int .i64 q, .int .i64 p, .int .i64 b, .int .i64 d, .int .i64 m], .int .i64 t] w fun e w' => e = .returned (.tuple #[.agg #[.int .i64 q, .int .i64 p, .int .i64 b, .int .i64 d, .int .i64 m], .int .i64 1]) ∧ Below w.heap.size w w' := by
  have HG := Aside0.mk h
  clear h
  go_enter Try.func19, Try.ntmps19
  go_upto_region 2 with (first | ((with_reducible refine gate_dst (N := 2) rfl ?_); refine box_event ?hg (N := 2) ?hd (cs := #[.int .i64 q, .int .i64 p, .int .i64 b, .int .i64 d, .int .i64 m]) (t := 40) ?hr ?_; (case hd => rfl); (case hg => rfl); (case hr => first | (go_simp; done) | (go_simp; rfl)); intro g2 hg2 w2 hx2 hb2; have X2 := Aside0.mk hx2; have D2 := Aside0.mk hb2; clear hx2 hb2 hg2; have c0 := blk_cell X2.out 0; have c1 := blk_cell X2.out 1; have c2 := blk_cell X2.out 2; have c3 := blk_cell X2.out 3; have c4 := blk_cell X2.out 4) | ((with_reducible refine gate_dst (N := 4) rfl ?_); refine box_event ?hg (N := 4) ?hd (cs := #[.int .i64 0, .int .i64 0, .int .i64 0, .int .i64 0, .int .i64 0]) (t := 40) ?hr ?_; (case hd => rfl); (case hg => rfl); (case hr => first | (go_simp; done) | (go_simp; rfl)); intro g4 hg4 w4 hx4 hb4; have G4 := Aside0.mk hg4; have X4 := Aside0.mk hx4; have D4 := Aside0.mk hb4; clear hx4 hb4 hg4 c0 c1 c2 c3 c4; replace X2 := Aside0.mk ((D4.out.block _ (blk_lt X2.out)).trans X2.out); have c0 := blk_cell X2.out 0; have c1 := blk_cell X2.out 1; have c2 := blk_cell X2.out 2; have c3 := blk_cell X2.out 3; have c4 := blk_cell X2.out 4) | (go_at_call 25; (with_reducible refine (beadleref10_GoodServer.calls q p b d m false _ HG.out).mono ?_); rintro e w5 ⟨rfl, hb5⟩; have D5 := Aside0.mk hb5; clear hb5 c0 c1 c2 c3 c4))
  have hlt : w.heap.size ≤ g4 := by have := G4.out; have := D2.out.size; omega
  have Y2 := Aside0.mk ((D5.out.block _ (blk_lt X2.out)).trans X2.out)
  have Y4 := Aside0.mk ((D5.out.block _ (blk_lt X4.out)).trans X4.out)
  have FAR := Aside0.mk (show Below w.heap.size w w5 from (D2.out.trans (D4.out.mono D2.out.size)).trans (D5.out.mono (D2.out.trans (D4.out.mono D2.out.size)).size))
  have c0 := blk_cell Y2.out 0
  have c1 := blk_cell Y2.out 1
  have c2 := blk_cell Y2.out 2
  have c3 := blk_cell Y2.out 3
  have c4 := blk_cell Y2.out 4
  have s0 := blk_cell Y4.out 0
  have s1 := blk_cell Y4.out 1
  have s2 := blk_cell Y4.out 2
  have s3 := blk_cell Y4.out 3
  have s4 := blk_cell Y4.out 4
  have t0 := blk_frozen Y4.out 0
  have t1 := blk_frozen Y4.out 1
  have t2 := blk_frozen Y4.out 2
  have t3 := blk_frozen Y4.out 3
  have t4 := blk_frozen Y4.out 4
  go_wp2
  refine bodyPost_ret (results_ct rfl _ _ g4 40 #[.int .i64 q, .int .i64 p, .int .i64 b, .int .i64 d, .int .i64 m] (0, 0) _ rfl (blk_put (cs := #[.int .i64 q, .int .i64 p, .int .i64 b, .int .i64 d, .int .i64 0]) (blk_put (cs := #[.int .i64 q, .int .i64 p, .int .i64 b, .int .i64 0, .int .i64 0]) (blk_put (cs := #[.int .i64 q, .int .i64 p, .int .i64 0, .int .i64 0, .int .i64 0]) (blk_put (cs := #[.int .i64 q, .int .i64 0, .int .i64 0, .int .i64 0, .int .i64 0]) (blk_put (cs := #[.int .i64 0, .int .i64 0, .int .i64 0, .int .i64 0, .int .i64 0]) Y4.out 0 _ rfl) 1 _ rfl) 2 _ rfl) 3 _ rfl) 4 _ rfl) Try.underlying40 rfl (by kernel_rfl)) rfl ?_
  exact ⟨rfl, ((((FAR.out.setCell hlt _).setCell hlt _).setCell hlt _).setCell hlt _).setCell hlt _⟩
theorem rwake (q p b d m t : Int) (r1 r2 r3 r4 r5 e : Int) (w : World) (h : beadleref10_Wake.f 5 q p b d m t = some (r1, r2, r3, r4, r5, e)) :
    Calls Try.prog 19 #[.agg #[.int .i64 q, .int .i64 p, .int .i64 b, .int .i64 d, .int .i64 m], .int .i64 t] w fun e' w' => e' = .returned (.tuple #[.agg #[.int .i64 r1, .int .i64 r2, .int .i64 r3, .int .i64 r4, .int .i64 r5], .int .i64 e]) ∧ Below w.heap.size w w' := by
  by_cases hg : goodv q p b d m
  · have hG : beadleref10_GoodServer.f q p b d m = some true := goods_t hg
    have hq0 : ¬ q = 0 := by obtain ⟨⟨_, h2⟩, _⟩ := hg; omega
    have hp0 : ¬ p = 0 := by obtain ⟨⟨h1, h2⟩, _⟩ := hg; omega
    obtain ⟨gt, hT⟩ : ∃ gt, beadleref1_Good.f t = some gt := by
      unfold beadleref1_Good.f
      split
      · exact ⟨_, rfl⟩
      · exact ⟨_, rfl⟩
    unfold beadleref10_Wake.f at h
    rw [hG, Option.bind_some, if_pos rfl, hT, Option.bind_some] at h
    cases gt with
    | false =>
      rw [beadleref10_Wake.j0.eq_2, if_pos (by rfl)] at h
      injection h with h; simp only [Prod.mk.injEq] at h; obtain ⟨rfl, rfl, rfl, rfl, rfl, rfl⟩ := h
      exact rw_t _ _ _ _ _ t w hG hT
    | true =>
      rw [beadleref10_Wake.j0.eq_2, if_neg (by decide)] at h
      by_cases hm : m = 0
      · rw [if_pos hm] at h
        by_cases hd : d ≤ t
        · rw [if_pos hd] at h
          replace h := Option.bind_eq_some_iff.mp h
          obtain ⟨⟨x, ok⟩, hA, h⟩ := h
          cases ok with
          | true =>
            rw [if_pos (by rfl), if_neg hq0] at h
            injection h with h; simp only [Prod.mk.injEq] at h; obtain ⟨rfl, rfl, rfl, rfl, rfl, rfl⟩ := h
            exact rw_a _ _ _ _ _ t _ w hG hT (by simp [hm]) (decide_eq_true hd) hA (beq_eq_false_iff_ne.mpr hq0)
          | false =>
            rw [if_neg (show ¬ ((x, false).2 = true) by simp)] at h
            injection h with h; simp only [Prod.mk.injEq] at h; obtain ⟨rfl, rfl, rfl, rfl, rfl, rfl⟩ := h
            exact rw_o _ _ _ _ _ t _ w hG hT (by simp [hm]) (decide_eq_true hd) hA
        · rw [if_neg hd] at h
          by_cases e1 : (wrap64 (d - t)) > p
          · rw [if_pos e1] at h
            rw [beadleref10_Wake.j1.eq_2] at h
            by_cases e2 : (wrap64 (b * p)) > (wrap64 (p * q))
            · rw [if_pos e2, if_neg hp0] at h
              by_cases e3 : (wrap64 (Int.tdiv (wrap64 (p * q)) p)) = 0
              · rw [if_pos e3] at h
                injection h with h; simp only [Prod.mk.injEq] at h; obtain ⟨rfl, rfl, rfl, rfl, rfl, rfl⟩ := h
                exact rw_ttt _ _ _ _ _ t _ _ w hG hT (by simp [hm]) (decide_eq_false hd) rfl (decide_eq_true e1) (decide_eq_true e2) (beq_eq_false_iff_ne.mpr hp0) hp0 rfl (beq_iff_eq.mpr e3)
              · rw [if_neg e3] at h
                injection h with h; simp only [Prod.mk.injEq] at h; obtain ⟨rfl, rfl, rfl, rfl, rfl, rfl⟩ := h
                exact rw_ttf _ _ _ _ _ t _ _ w hG hT (by simp [hm]) (decide_eq_false hd) rfl (decide_eq_true e1) (decide_eq_true e2) (beq_eq_false_iff_ne.mpr hp0) hp0 rfl (beq_eq_false_iff_ne.mpr e3)
            · rw [if_neg e2] at h
              by_cases e3 : b = 0
              · rw [if_pos e3] at h
                injection h with h; simp only [Prod.mk.injEq] at h; obtain ⟨rfl, rfl, rfl, rfl, rfl, rfl⟩ := h
                exact rw_tft _ _ _ _ _ t _ w hG hT (by simp [hm]) (decide_eq_false hd) rfl (decide_eq_true e1) (decide_eq_false e2) (beq_iff_eq.mpr e3)
              · rw [if_neg e3] at h
                injection h with h; simp only [Prod.mk.injEq] at h; obtain ⟨rfl, rfl, rfl, rfl, rfl, rfl⟩ := h
                exact rw_tff _ _ _ _ _ t _ w hG hT (by simp [hm]) (decide_eq_false hd) rfl (decide_eq_true e1) (decide_eq_false e2) (beq_eq_false_iff_ne.mpr e3)
          · rw [if_neg e1] at h
            rw [beadleref10_Wake.j1.eq_2] at h
            by_cases e2 : (wrap64 (b * p)) > (wrap64 ((wrap64 (d - t)) * q))
            · rw [if_pos e2, if_neg hp0] at h
              by_cases e3 : (wrap64 (Int.tdiv (wrap64 ((wrap64 (d - t)) * q)) p)) = 0
              · rw [if_pos e3] at h
                injection h with h; simp only [Prod.mk.injEq] at h; obtain ⟨rfl, rfl, rfl, rfl, rfl, rfl⟩ := h
                exact rw_ftt _ _ _ _ _ t _ _ w hG hT (by simp [hm]) (decide_eq_false hd) rfl (decide_eq_false e1) (decide_eq_true e2) (beq_eq_false_iff_ne.mpr hp0) hp0 rfl (beq_iff_eq.mpr e3)
              · rw [if_neg e3] at h
                injection h with h; simp only [Prod.mk.injEq] at h; obtain ⟨rfl, rfl, rfl, rfl, rfl, rfl⟩ := h
                exact rw_ftf _ _ _ _ _ t _ _ w hG hT (by simp [hm]) (decide_eq_false hd) rfl (decide_eq_false e1) (decide_eq_true e2) (beq_eq_false_iff_ne.mpr hp0) hp0 rfl (beq_eq_false_iff_ne.mpr e3)
            · rw [if_neg e2] at h
              by_cases e3 : b = 0
              · rw [if_pos e3] at h
                injection h with h; simp only [Prod.mk.injEq] at h; obtain ⟨rfl, rfl, rfl, rfl, rfl, rfl⟩ := h
                exact rw_fft _ _ _ _ _ t _ w hG hT (by simp [hm]) (decide_eq_false hd) rfl (decide_eq_false e1) (decide_eq_false e2) (beq_iff_eq.mpr e3)
              · rw [if_neg e3] at h
                injection h with h; simp only [Prod.mk.injEq] at h; obtain ⟨rfl, rfl, rfl, rfl, rfl, rfl⟩ := h
                exact rw_fff _ _ _ _ _ t _ w hG hT (by simp [hm]) (decide_eq_false hd) rfl (decide_eq_false e1) (decide_eq_false e2) (beq_eq_false_iff_ne.mpr e3)
      · rw [if_neg hm] at h
        injection h with h; simp only [Prod.mk.injEq] at h; obtain ⟨rfl, rfl, rfl, rfl, rfl, rfl⟩ := h
        exact rw_m _ _ _ _ _ t w hG hT (by simp [hm])
  · have hb : beadleref10_GoodServer.f q p b d m = some false := goods_n hg
    have h2 : beadleref10_Wake.f 5 q p b d m t = some (q, p, b, d, m, 1) := by
      unfold beadleref10_Wake.f
      rw [hb, Option.bind_some, if_neg (by decide), beadleref10_Wake.j0.eq_2, if_pos rfl]
    rw [h2] at h
    injection h with h
    simp only [Prod.mk.injEq] at h
    obtain ⟨rfl, rfl, rfl, rfl, rfl, rfl⟩ := h
    exact rwake_bad q p b d m t w hb
end Go.Proofs.Ytofbjgkoaiiagaa.CbsS
