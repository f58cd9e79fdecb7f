/- Admit: a book by colours: New, Enter (no law is stated here; each says its conditions). -/
import Derived.Test.YtmjodeijafoabaaSt
import Derived.Test.YtmjodeijafoabaaReg
import Derived.Test.YtmjodeijafoabaaQt
import Derived.Test.YtmjodeijafoabaaAdD
import Derived.StillTailTactics
namespace Go.Proofs.Ytmjodeijafoabaa.Admit
open Go.RowKit Go.Proofs.YtmjodeijafoabaaW.PrintWords Go.Proofs.YtmjodeijafoabaaW.PrintLast Go.Proofs.YtmjodeijafoabaaW.PrintMore Go.Proofs.Ytmjodeijafoabaa.St Go.Proofs.Ytmjodeijafoabaa.Q Go.Proofs.Ytmjodeijafoabaa.Pure
set_option linter.unusedVariables false
set_option linter.unusedSimpArgs false
attribute [local go_sem] max2_int min2_int max_two min_two max_three min_three max_four min_four

/-- A book: its block, its two rows, by colours. -/
def BK (w0 W : World) (c : Nat → Nat) (i : Nat) (m : Int) (l1 l2 : List S37) (g : Nat) : Prop :=
  ∃ A1 k1 A2 k2, blk.M W w0.heap.size (fun k => c k = i) (.cells #[.int .i64 m, .slice A1 l1.length k1, .slice A2 l2.length k2] 55 (0, 0)) (.pointer (some ⟨g, 0, none⟩)) ∧ (row 37 k37).M W w0.heap.size (fun k => c k = (i + 1)) l1 (.slice A1 l1.length k1) ∧ (row 37 k37).M W w0.heap.size (fun k => c k = (i + 2)) l2 (.slice A2 l2.length k2)
theorem BK.below {w0 W W1 : World} {c : Nat → Nat} {i : Nat} {m : Int} {l1 l2 : List S37} {g : Nat} (h : BK w0 W c i m l1 l2 g) (hb : Below W.heap.size W W1) : BK w0 W1 c i m l1 l2 g := by
  obtain ⟨A1, k1, A2, k2, h1, h2, h3⟩ := h
  exact ⟨A1, k1, A2, k2, St.below (s := blk) h1 hb, St.below (s := row 37 k37) h2 hb, St.below (s := row 37 k37) h3 hb⟩
theorem blk_put1 {w0 W : World} {c : Nat → Nat} {i : Nat} {cs : Array Value} {t : TypeId} {g : Nat} (h : blk.M W w0.heap.size (fun k => c k = i) (.cells cs t (0, 0)) (.pointer (some ⟨g, 0, none⟩))) (j : Nat) (u : Value) (hs : w0.heap.size ≤ W.heap.size) :
    ∃ c', blk.M (W.setCell ⟨g, j, none⟩ u) w0.heap.size (fun k => c' k = i) (.cells (cs.setIfInBounds j u) t (0, 0)) (.pointer (some ⟨g, 0, none⟩)) ∧ Turned c c' i w0 W (W.setCell ⟨g, j, none⟩ u) := by
  obtain ⟨g2, e1, ⟨e2, e2b⟩, e3, e4, e5⟩ := St.mine (s := blk) h
  injection e1 with e1
  injection e1 with e1
  injection e1 with e1
  subst e1
  have h2 := blk_set e5 j u
  exact turned (s := blk) ⟨g, rfl, Or.inl ⟨e2, e2b⟩, e3, blk_lt h2, h2⟩ ((Wrote.refl W _).setCell (Or.inl ⟨e2, e2b⟩) u) hs
theorem row1 (w : World) (b : Nat) (x : S37) : Reps (k37.M w b (fun _ => False)) k37.sz [x] [.int .i64 x.f0, .int .i64 x.f1.f0, .int .i64 x.f1.f1, .int .i64 x.f2] := by
  refine ⟨rfl, fun i y hy => ?_⟩
  cases i with
  | zero =>
    cases hy
    exact k37_mkM w b _ x
  | succ i => simp at hy
section
variable {P : Program} {ops : Array Oper} {o : Oper} {a : Act} {Q : Exit → Act → World → Prop} {Kc : Act → World → Prop}
theorem store_step {W w1 : World} (hw : Region.wanted o (yielded ops a.tmps) = true) (hN : o.dst = none) (hrun : (execOp a.eval o).run P W = .ok .skip w1) (h : Kc (a.put none undef) w1) : if Region.wanted o (yielded ops a.tmps) = true then Oper.wp P o a W Kc Q else Kc (a.put none undef) W := by
  rw [if_pos hw]
  unfold Oper.wp
  rw [hrun]
  show Kc (a.put o.dst undef) w1
  rw [hN]
  exact h
end
/-- What Enter answers. -/
def enterV (m : Int) (l1 l2 : List S37) (id q p now : Int) : Int :=
  if goodP q p = false ∨ now < 0 then 1 else if 0 ≤ findE id l1 0 then 5 else askV m l1 l2 q p now
def enterL (m : Int) (l1 l2 : List S37) (id q p now : Int) : List S37 := if enterV m l1 l2 id q p now = 0 then l1 ++ [⟨id, ⟨q, p⟩, -1⟩] else l1
set_option maxHeartbeats 1000000 in
set_option maxRecDepth 100000 in
theorem new_bad (m : Int) (W : World) (hm : m < 1 ∨ 64 < m) : Calls Try.prog 8 #[.int .i64 m] W fun e w' => e = .returned (.tuple #[.pointer none, .int .i64 1]) ∧ w' = W := by
  by_cases h1 : m < 1
  · have d1 : decide (m < 1) = true := decide_eq_true h1
    clear h1 hm
    go_enter Try.func8, Try.ntmps8
    go_wp2
    go_ret2
    exact ⟨rfl, rfl⟩
  · have d1 : decide (m < 1) = false := decide_eq_false h1
    have d2 : decide (64 < m) = true := decide_eq_true (by omega)
    clear h1 hm
    go_enter Try.func8, Try.ntmps8
    go_wp2
    go_ret2
    exact ⟨rfl, rfl⟩
set_option maxHeartbeats 1000000 in
set_option maxRecDepth 100000 in
theorem new_ok {w0 W : World} (c : Nat → Nat) (i : Nat) (m : Int) (hm : 1 ≤ m ∧ m ≤ 64) (hB : Below w0.heap.size w0 W) :
    Calls Try.prog 8 #[.int .i64 m] W fun e w' => ∃ g : Nat, e = .returned (.tuple #[.pointer (some ⟨g, 0, none⟩), .int .i64 0]) ∧ ∃ c', BK w0 w' c' i m [] [] g ∧ TurnedL c c' [i, (i + 1), (i + 2), (i + 3), (i + 4)] w0 W w' := by
  have HB := Aside0.mk hB
  have d1 : decide (m < 1) = false := decide_eq_false (by omega)
  have d2 : decide (64 < m) = false := decide_eq_false (by omega)
  clear hm hB
  go_enter Try.func8, Try.ntmps8
  go_wp2
  go_ret2
  have hb : Below W.heap.size W (W.alloc (.cells #[.int .i64 m, .slice none 0 0, .slice none 0 0] 55)) := below_alloc (Below.refl _ _) _
  have hX : (W.alloc (.cells #[.int .i64 m, .slice none 0 0, .slice none 0 0] 55)).heap[W.heap.size]? = some (.cells #[.int .i64 m, .slice none 0 0, .slice none 0 0] 55 (0, 0)) := by simpa using heap_alloc_new W _
  obtain ⟨c1, h1, t1⟩ := blk_new1 (w0 := w0) c i (Nat.le_refl _) hX hb HB.out.size
  exact ⟨W.heap.size, rfl, c1, ⟨none, 0, none, 0, h1, Kd.R_nil _ _ _ _ _, Kd.R_nil _ _ _ _ _⟩, (TurnedL.refl c _ w0 W).step t1 (by simp)⟩
set_option maxHeartbeats 8000000 in
set_option maxRecDepth 100000 in
theorem enter_calls {w0 W : World} {c : Nat → Nat} {i g : Nat} {m : Int} {l1 l2 : List S37} (id q p now : Int) (h : BK w0 W c i m l1 l2 g) (hB : Below w0.heap.size w0 W) (hl : l1.length ≤ 400 ∧ l2.length ≤ 900) (hm : 1 ≤ m ∧ m ≤ 64) (hok1 : Okl (prs l1)) (hok2 : Okl (prs l2)) :
    Calls Try.prog 9 #[.pointer (some ⟨g, 0, none⟩), .int .i64 id, .agg #[.int .i64 q, .int .i64 p], .int .i64 now] W fun e w' => e = .returned (.int .i64 (enterV m l1 l2 id q p now)) ∧ ∃ c', BK w0 w' c' i m (enterL m l1 l2 id q p now) l2 g ∧ TurnedL c c' [i, (i + 1), (i + 2), (i + 3), (i + 4)] w0 W w' := by
  obtain ⟨A1, k1, A2, k2, hb1, hb2, hb3⟩ := h
  have HLN := Aside0.mk hl
  have HM := Aside0.mk hm
  have HK1 := Aside0.mk hok1
  have HK2 := Aside0.mk hok2
  obtain ⟨gb, hgb⟩ : ∃ gb, goodP q p = gb := ⟨_, rfl⟩
  have GB := Aside0.mk hgb
  obtain ⟨fv, hfv⟩ : ∃ fv, findE id l1 0 = fv := ⟨_, rfl⟩
  have FV := Aside0.mk hfv
  obtain ⟨av, hav⟩ : ∃ av, askV m l1 l2 q p now = av := ⟨_, rfl⟩
  have AV := Aside0.mk hav
  have HEV := Aside0.mk (show enterV m l1 l2 id q p now = if gb = false ∨ now < 0 then 1 else if 0 ≤ fv then 5 else av from by unfold enterV; rw [hgb, hfv, hav])
  obtain ⟨ev, hev⟩ : ∃ ev, enterV m l1 l2 id q p now = ev := ⟨_, rfl⟩
  obtain ⟨el, hel⟩ : ∃ el, enterL m l1 l2 id q p now = el := ⟨_, rfl⟩
  have HEL := Aside0.mk (show el = if ev = 0 then l1 ++ [⟨id, ⟨q, p⟩, -1⟩] else l1 from by rw [← hel, ← hev]; rfl)
  rw [hev] at HEV
  rw [hev, hel]
  have M1 := Aside0.mk hb1
  have M2 := Aside0.mk hb2
  have M3 := Aside0.mk hb3
  have HB := Aside0.mk hB
  clear hgb hfv hav hev hel hb1 hb2 hb3 hB hl hm hok1 hok2
  go_enter Try.func9, Try.ntmps9
  go_upto_region 1 with (fail)
  have hbx : Below W.heap.size W (W.alloc (.cells #[.int .i64 q, .int .i64 p] 24)) := below_alloc (Below.refl _ _) _
  have hX : (W.alloc (.cells #[.int .i64 q, .int .i64 p] 24)).heap[W.heap.size]? = some (.cells #[.int .i64 q, .int .i64 p] 24 (0, 0)) := by simpa using heap_alloc_new W _
  obtain ⟨c1, h1, t1⟩ := blk_new1 (w0 := w0) c (i + 3) (Nat.le_refl _) hX hbx HB.out.size
  have HX1 := Aside0.mk h1
  have HB1 := Aside0.mk (t1.keep _ blk i _ _ (by omega) M1.out)
  have HL1 := Aside0.mk (t1.keep _ (row 37 k37) (i + 1) _ _ (by omega) M2.out)
  have HO1 := Aside0.mk (t1.keep _ (row 37 k37) (i + 2) _ _ (by omega) M3.out)
  have B1 := Aside0.mk (t1.far HB.out)
  have T1 := Aside0.mk ((TurnedL.refl c [i, (i + 1), (i + 2), (i + 3), (i + 4)] w0 W).step t1 (by simp))
  clear h1 t1 hX hbx M1 M2 M3
  generalize W.alloc (.cells #[.int .i64 q, .int .i64 p] 24) = w1 at HX1 HB1 HL1 HO1 B1 T1 ⊢
  cases gb with
  | false =>
    have HV := Aside0.mk (show ev = 1 from by rw [HEV.out, if_pos (Or.inl rfl)])
    have HVL := Aside0.mk (show el = l1 from by rw [HEL.out, HV.out, if_neg (by decide)])
    have y0 := blk_cell (blk_at HX1.out) 0
    have y1 := blk_cell (blk_at HX1.out) 1
    go_wp2_with (first | (go_at_call 22; (with_reducible refine (win_Good.calls q p _ _ (good_f q p)).mono ?_); rintro e w2 ⟨rfl, hb2⟩; rw [GB.out]; have HB2 := Aside0.mk (St.below (s := blk) HB1.out hb2); have HL2 := Aside0.mk (St.below (s := row 37 k37) HL1.out hb2); have HO2 := Aside0.mk (St.below (s := row 37 k37) HO1.out hb2); have HX2 := Aside0.mk (St.below (s := blk) HX1.out hb2); have B2 := Aside0.mk (Below.trans B1.out (Below.mono hb2 (Below.size B1.out))); have T2 := Aside0.mk (T1.out.below hb2); clear hb2; clear y0 y1))
    go_ret
    exact ⟨by rw [HV.out]; rfl, c1, by rw [HVL.out]; exact ⟨_, _, _, _, HB2.out, HL2.out, HO2.out⟩, T2.out⟩
  | true =>
    by_cases hn : now < 0
    · have pn : decide (now < 0) = true := decide_eq_true hn
      have HV := Aside0.mk (show ev = 1 from by rw [HEV.out, if_pos (Or.inr hn)])
      have HVL := Aside0.mk (show el = l1 from by rw [HEL.out, HV.out, if_neg (by decide)])
      clear hn
      have y0 := blk_cell (blk_at HX1.out) 0
      have y1 := blk_cell (blk_at HX1.out) 1
      go_wp2_with (first | (go_at_call 22; (with_reducible refine (win_Good.calls q p _ _ (good_f q p)).mono ?_); rintro e w2 ⟨rfl, hb2⟩; rw [GB.out]; have HB2 := Aside0.mk (St.below (s := blk) HB1.out hb2); have HL2 := Aside0.mk (St.below (s := row 37 k37) HL1.out hb2); have HO2 := Aside0.mk (St.below (s := row 37 k37) HO1.out hb2); have HX2 := Aside0.mk (St.below (s := blk) HX1.out hb2); have B2 := Aside0.mk (Below.trans B1.out (Below.mono hb2 (Below.size B1.out))); have T2 := Aside0.mk (T1.out.below hb2); clear hb2; clear y0 y1))
      go_ret
      exact ⟨by rw [HV.out]; rfl, c1, by rw [HVL.out]; exact ⟨_, _, _, _, HB2.out, HL2.out, HO2.out⟩, T2.out⟩
    have pn : decide (now < 0) = false := decide_eq_false hn
    have HE2 := Aside0.mk (show ev = if 0 ≤ fv then 5 else av from by rw [HEV.out, if_neg (by rintro (h | h); cases h; exact hn h)])
    clear hn
    by_cases hf : 0 ≤ fv
    · have pf : decide (0 ≤ fv) = true := decide_eq_true hf
      have HV := Aside0.mk (show ev = 5 from by rw [HE2.out, if_pos hf])
      have HVL := Aside0.mk (show el = l1 from by rw [HEL.out, HV.out, if_neg (by decide)])
      clear hf
      have y0 := blk_cell (blk_at HX1.out) 0
      have y1 := blk_cell (blk_at HX1.out) 1
      go_wp2_with (first | (go_at_call 22; (with_reducible refine (win_Good.calls q p _ _ (good_f q p)).mono ?_); rintro e w2 ⟨rfl, hb2⟩; rw [GB.out]; have HB2 := Aside0.mk (St.below (s := blk) HB1.out hb2); have HL2 := Aside0.mk (St.below (s := row 37 k37) HL1.out hb2); have HO2 := Aside0.mk (St.below (s := row 37 k37) HO1.out hb2); have HX2 := Aside0.mk (St.below (s := blk) HX1.out hb2); have B2 := Aside0.mk (Below.trans B1.out (Below.mono hb2 (Below.size B1.out))); have T2 := Aside0.mk (T1.out.below hb2); clear hb2; clear y0 y1) | (go_at_call 23; (with_reducible refine (find_calls id (blk_at HB2.out) (row_C HL2.out) (by have := HLN.out; omega)).mono ?_); rintro e w3 ⟨rfl, hb3⟩; rw [FV.out]; have HB3 := Aside0.mk (St.below (s := blk) HB2.out hb3); have HL3 := Aside0.mk (St.below (s := row 37 k37) HL2.out hb3); have HO3 := Aside0.mk (St.below (s := row 37 k37) HO2.out hb3); have HX3 := Aside0.mk (St.below (s := blk) HX2.out hb3); have B3 := Aside0.mk (Below.trans B2.out (Below.mono hb3 (Below.size B2.out))); have T3 := Aside0.mk (T2.out.below hb3); clear hb3))
      go_ret
      exact ⟨by rw [HV.out]; rfl, c1, by rw [HVL.out]; exact ⟨_, _, _, _, HB3.out, HL3.out, HO3.out⟩, T3.out⟩
    have pf : decide (0 ≤ fv) = false := decide_eq_false hf
    have HE3 := Aside0.mk (show ev = av from by rw [HE2.out, if_neg hf])
    clear hf
    by_cases ha : av = 0
    · have pa : (av != 0) = false := bne_eq_false_iff_eq.2 ha
      have HV := Aside0.mk (show ev = 0 from HE3.out.trans ha)
      obtain ⟨ls, hls⟩ : ∃ ls, l1 ++ [⟨id, ⟨q, p⟩, -1⟩] = ls := ⟨_, rfl⟩
      have HLS := Aside0.mk hls
      have HVL := Aside0.mk (show el = ls from by rw [HEL.out, HV.out, if_pos rfl, hls])
      clear ha hls
      have y0 := blk_cell (blk_at HX1.out) 0
      have y1 := blk_cell (blk_at HX1.out) 1
      go_upto_region 8 with (first | (go_at_call 22; (with_reducible refine (win_Good.calls q p _ _ (good_f q p)).mono ?_); rintro e w2 ⟨rfl, hb2⟩; rw [GB.out]; have HB2 := Aside0.mk (St.below (s := blk) HB1.out hb2); have HL2 := Aside0.mk (St.below (s := row 37 k37) HL1.out hb2); have HO2 := Aside0.mk (St.below (s := row 37 k37) HO1.out hb2); have HX2 := Aside0.mk (St.below (s := blk) HX1.out hb2); have B2 := Aside0.mk (Below.trans B1.out (Below.mono hb2 (Below.size B1.out))); have T2 := Aside0.mk (T1.out.below hb2); clear hb2; clear y0 y1) | (go_at_call 23; (with_reducible refine (find_calls id (blk_at HB2.out) (row_C HL2.out) (by have := HLN.out; omega)).mono ?_); rintro e w3 ⟨rfl, hb3⟩; rw [FV.out]; have HB3 := Aside0.mk (St.below (s := blk) HB2.out hb3); have HL3 := Aside0.mk (St.below (s := row 37 k37) HL2.out hb3); have HO3 := Aside0.mk (St.below (s := row 37 k37) HO2.out hb3); have HX3 := Aside0.mk (St.below (s := blk) HX2.out hb3); have B3 := Aside0.mk (Below.trans B2.out (Below.mono hb3 (Below.size B2.out))); have T3 := Aside0.mk (T2.out.below hb3); clear hb3; have y0 := blk_cell (blk_at HX3.out) 0; have y1 := blk_cell (blk_at HX3.out) 1) | (go_at_call 12; (with_reducible refine (ask_calls q p now (blk_at HB3.out) (row_C HL3.out) (row_le HL3.out) (row_C HO3.out) (by have := HLN.out; omega) (by have := HLN.out; omega) HM.out HK1.out HK2.out).mono ?_); rintro e w4 ⟨rfl, hb4⟩; rw [AV.out]; have HB4 := Aside0.mk (St.below (s := blk) HB3.out hb4); have HL4 := Aside0.mk (St.below (s := row 37 k37) HL3.out hb4); have HO4 := Aside0.mk (St.below (s := row 37 k37) HO3.out hb4); have HX4 := Aside0.mk (St.below (s := blk) HX3.out hb4); have B4 := Aside0.mk (Below.trans B3.out (Below.mono hb4 (Below.size B3.out))); have T4 := Aside0.mk (T3.out.below hb4); clear hb4; clear y0 y1))
      have y0 := blk_cell (blk_at HX4.out) 0
      have y1 := blk_cell (blk_at HX4.out) 1
      obtain ⟨w5, hw5⟩ : ∃ w5 : World, w4.drew = w5 := ⟨_, rfl⟩
      have hb5 : Below w4.heap.size w4 w5 := by rw [← hw5]; exact below_drew (Below.refl _ _)
      have HB5 := Aside0.mk (St.below (s := blk) HB4.out hb5)
      have HL5 := Aside0.mk (St.below (s := row 37 k37) HL4.out hb5)
      have HO5 := Aside0.mk (St.below (s := row 37 k37) HO4.out hb5)
      have HX5 := Aside0.mk (St.below (s := blk) HX4.out hb5)
      have B5 := Aside0.mk (Below.trans B4.out (Below.mono hb5 (Below.size B4.out)))
      have T5 := Aside0.mk (T4.out.below hb5)
      clear hb5 y0 y1
      refine start_ (n := 13) (S := fun w' => w'.cell? ⟨g, 1, none⟩ = some (.slice A1 l1.length k1) ∧ w'.cell? ⟨W.heap.size, 0, none⟩ = some (.int .i64 q) ∧ w'.cell? ⟨W.heap.size, 1, none⟩ = some (.int .i64 p)) (ds := [12]) #[false, false, false, false, false, false, false, false, false, false, false, false, false] (by kernel_rfl) rfl rfl (by rw [hw5]; exact ⟨blk_cell (blk_at HB5.out) 1, blk_cell (blk_at HX5.out) 0, blk_cell (blk_at HX5.out) 1⟩) (fun hHeld => ?_)
      refine pure_ (i := 0) (N := some 30) (v := ?_) (a' := ?_) #[true, false, false, false, false, false, false, false, false, false, false, false, false] rfl rfl (by kernel_rfl) (fun _ _ _ h => h) (Or.inl ⟨by rfl, ?_⟩) ?_ ?_
      rotate_left
      · intro w'
        go_simp
        with_reducible rfl
      rotate_left
      · simp only [Act.put, List.setIfInBounds_toArray, List.set_cons_zero, List.set_cons_succ, i64_w, i32_w]
        rfl
      refine pure_ (i := 1) (N := some 31) (v := ?_) (a' := ?_) #[true, true, false, false, false, false, false, false, false, false, false, false, false] rfl rfl (by kernel_rfl) (fun _ _ _ h => h) (Or.inl ⟨by rfl, ?_⟩) ?_ ?_
      rotate_left
      · intro w'
        go_simp
        with_reducible rfl
      rotate_left
      · simp only [Act.put, List.setIfInBounds_toArray, List.set_cons_zero, List.set_cons_succ, i64_w, i32_w]
        rfl
      refine pure_ (i := 2) (N := some 32) (v := ?_) (a' := ?_) #[true, true, true, false, false, false, false, false, false, false, false, false, false] rfl rfl (by kernel_rfl) (fun _ _ _ h => h) (Or.inl ⟨by rfl, ?_⟩) ?_ ?_
      rotate_left
      · intro w'
        go_simp
        with_reducible rfl
      rotate_left
      · simp only [Act.put, List.setIfInBounds_toArray, List.set_cons_zero, List.set_cons_succ, i64_w, i32_w]
        rfl
      refine pure_ (i := 3) (N := some 33) (v := ?_) (a' := ?_) #[true, true, true, true, false, false, false, false, false, false, false, false, false] rfl rfl (by kernel_rfl) (fun _ _ _ h => h) (Or.inl ⟨by rfl, ?_⟩) ?_ ?_
      rotate_left
      · intro w'
        go_simp
        with_reducible rfl
      rotate_left
      · simp only [Act.put, List.setIfInBounds_toArray, List.set_cons_zero, List.set_cons_succ, i64_w, i32_w]
        rfl
      refine take_ (i := 4) (N := some 34) (v := ?_) (a' := ?_) #[true, true, true, true, true, false, false, false, false, false, false, false, false] rfl rfl (by kernel_rfl) (fun _ _ _ h => h) (Or.inl ⟨by rfl, ?_⟩) hHeld ?_ ?_
      rotate_left
      · intro w' hS_
        obtain ⟨s0_, s1_, s2_⟩ := hS_
        go_simp
        with_reducible rfl
      rotate_left
      · simp only [Act.put, List.setIfInBounds_toArray, List.set_cons_zero, List.set_cons_succ, i64_w, i32_w]
        rfl
      refine pure_ (i := 5) (N := some 35) (v := ?_) (a' := ?_) #[true, true, true, true, true, true, false, false, false, false, false, false, false] rfl rfl (by kernel_rfl) (fun _ _ _ h => h) (Or.inl ⟨by rfl, ?_⟩) ?_ ?_
      rotate_left
      · intro w'
        go_simp
        with_reducible rfl
      rotate_left
      · simp only [Act.put, List.setIfInBounds_toArray, List.set_cons_zero, List.set_cons_succ, i64_w, i32_w]
        rfl
      refine take_ (i := 6) (N := some 36) (v := ?_) (a' := ?_) #[true, true, true, true, true, true, true, false, false, false, false, false, false] rfl rfl (by kernel_rfl) (fun _ _ _ h => h) (Or.inl ⟨by rfl, ?_⟩) hHeld ?_ ?_
      rotate_left
      · intro w' hS_
        obtain ⟨s0_, s1_, s2_⟩ := hS_
        go_simp
        with_reducible rfl
      rotate_left
      · simp only [Act.put, List.setIfInBounds_toArray, List.set_cons_zero, List.set_cons_succ, i64_w, i32_w]
        rfl
      refine pure_ (i := 7) (N := some 37) (v := ?_) (a' := ?_) #[true, true, true, true, true, true, true, true, false, false, false, false, false] rfl rfl (by kernel_rfl) (fun _ _ _ h => h) (Or.inl ⟨by rfl, ?_⟩) ?_ ?_
      rotate_left
      · intro w'
        go_simp
        with_reducible rfl
      rotate_left
      · simp only [Act.put, List.setIfInBounds_toArray, List.set_cons_zero, List.set_cons_succ, i64_w, i32_w]
        rfl
      refine one_ (i := 8) (N := some 38) #[true, true, true, true, true, true, true, true, true, false, false, false, false] rfl rfl (by kernel_rfl) (by decide) (fun K hK => ?_)
      rw [hw5]
      refine lit_step (e := 37) (c := c1) (w0 := w0) k37 (i + 4) ?hg (N := 38) ?hd ([⟨id, ⟨q, p⟩, -1⟩] : List S37) [.int .i64 id, .int .i64 q, .int .i64 p, .int .i64 (-1)] ?hr ?hp ?hs (by simp) ?_
      (case hd => rfl)
      (case hg => rfl)
      (case hp => exact row1 _ _ ⟨id, ⟨q, p⟩, -1⟩)
      (case hr => first | (go_simp; done) | (go_simp; rfl))
      (case hs => exact Below.size B5.out)
      intro v6 w6 c6 h6 t6
      obtain ⟨A6, k6, rfl, -, -⟩ := row_reads h6
      have HE6 := Aside0.mk (show (row 37 k37).M w6 w0.heap.size (fun k => c6 k = (i + 4)) ([⟨id, ⟨q, p⟩, -1⟩] : List S37) (.slice A6 ([⟨id, ⟨q, p⟩, -1⟩] : List S37).length k6) from h6)
      have HB6 := Aside0.mk (t6.keep _ (blk) i _ _ (by omega) HB5.out)
      have HL6 := Aside0.mk (t6.keep _ (row 37 k37) (i + 1) _ _ (by omega) HL5.out)
      have HO6 := Aside0.mk (t6.keep _ (row 37 k37) (i + 2) _ _ (by omega) HO5.out)
      have HX6 := Aside0.mk (t6.keep _ (blk) (i + 3) _ _ (by omega) HX5.out)
      have B6 := Aside0.mk (t6.far B5.out)
      have T6 := Aside0.mk (T5.out.step t6 (by simp))
      clear h6 t6
      have hHeld := (show _ = some (Value.slice A1 l1.length k1) ∧ _ = some (Value.int IntKind.i64 q) ∧ _ = some (Value.int IntKind.i64 p) from ⟨blk_cell (blk_at HB6.out) 1, blk_cell (blk_at HX6.out) 0, blk_cell (blk_at HX6.out) 1⟩)
      refine hK.out _ _ hHeld (fun hHeld => ?_)
      clear hK K
      refine norm_ (a' := ?_) ?_ ?_
      rotate_left
      · show Act.put _ (some 38) _ = _
        simp only [Act.put, List.setIfInBounds_toArray, List.set_cons_zero, List.set_cons_succ, i64_w, i32_w]
        rfl
      refine one_ (i := 9) (N := some 39) #[true, true, true, true, true, true, true, true, true, true, false, false, false] rfl rfl (by kernel_rfl) (by decide) (fun K hK => ?_)
      refine app_step (e := 37) (c := c6) (w0 := w0) (d := k37) (i := (i + 1)) (by rfl) (.tmp 34) (.tmp 38) 34 (.agg #[.int .i64 0, .int .i64 0, .int .i64 0, .int .i64 0]) 32 rfl Try.underlying34 info_entry rfl (by decide) (by decide) flat37 (.slice A1 l1.length k1) l1 ([⟨id, ⟨q, p⟩, -1⟩] : List S37) _ _ _ rfl rfl HL6.out (row_C HE6.out) ?hs (by have := HLN.out; show (_ + 1) * 32 ≤ _; omega) ?_
      (case hs => exact Below.size B6.out)
      intro v7 w7 c7 h7 t7
      rw [HLS.out] at h7
      obtain ⟨A7, k7, rfl, -, -⟩ := row_reads h7
      have HL7 := Aside0.mk (show (row 37 k37).M w7 w0.heap.size (fun k => c7 k = (i + 1)) ls (.slice A7 ls.length k7) from h7)
      have HB7 := Aside0.mk (t7.keep _ (blk) i _ _ (by omega) HB6.out)
      have HO7 := Aside0.mk (t7.keep _ (row 37 k37) (i + 2) _ _ (by omega) HO6.out)
      have HX7 := Aside0.mk (t7.keep _ (blk) (i + 3) _ _ (by omega) HX6.out)
      have HE7 := Aside0.mk (t7.keep _ (row 37 k37) (i + 4) _ _ (by omega) HE6.out)
      have B7 := Aside0.mk (t7.far B6.out)
      have T7 := Aside0.mk (T6.out.step t7 (by simp))
      clear h7 t7
      have hHeld := (show _ = some (Value.slice A1 l1.length k1) ∧ _ = some (Value.int IntKind.i64 q) ∧ _ = some (Value.int IntKind.i64 p) from ⟨blk_cell (blk_at HB7.out) 1, blk_cell (blk_at HX7.out) 0, blk_cell (blk_at HX7.out) 1⟩)
      refine hK.out _ _ hHeld (fun hHeld => ?_)
      clear hK K
      refine norm_ (a' := ?_) ?_ ?_
      rotate_left
      · show Act.put _ (some 39) _ = _
        simp only [Act.put, List.setIfInBounds_toArray, List.set_cons_zero, List.set_cons_succ, i64_w, i32_w]
        rfl
      refine pure_ (i := 10) (N := some 40) (v := ?_) (a' := ?_) #[true, true, true, true, true, true, true, true, true, true, true, false, false] rfl rfl (by kernel_rfl) (fun _ _ _ h => h) (Or.inl ⟨by rfl, ?_⟩) ?_ ?_
      rotate_left
      · intro w'
        go_simp
        with_reducible rfl
      rotate_left
      · simp only [Act.put, List.setIfInBounds_toArray, List.set_cons_zero, List.set_cons_succ, i64_w, i32_w]
        rfl
      refine pure_ (i := 11) (N := some 41) (v := ?_) (a' := ?_) #[true, true, true, true, true, true, true, true, true, true, true, true, false] rfl rfl (by kernel_rfl) (fun _ _ _ h => h) (Or.inl ⟨by rfl, ?_⟩) ?_ ?_
      rotate_left
      · intro w'
        go_simp
        with_reducible rfl
      rotate_left
      · simp only [Act.put, List.setIfInBounds_toArray, List.set_cons_zero, List.set_cons_succ, i64_w, i32_w]
        rfl
      refine last_ (i := 12) (N := none) #[true, true, true, true, true, true, true, true, true, true, true, true, true] rfl rfl (by kernel_rfl) (by decide) (fun K hK => ?_)
      have z1 := blk_cell (blk_at HB7.out) 1
      have f1 := blk_frozen (blk_at HB7.out) 1
      refine store_step (w1 := w7.setCell ⟨g, 1, none⟩ (.slice A7 ls.length k7)) ?hw rfl ?hr ?_
      (case hw => rfl)
      (case hr => go_simp)
      obtain ⟨c8, h8, t8⟩ := blk_put1 HB7.out 1 (.slice A7 ls.length k7) (Below.size B7.out)
      clear z1 f1
      generalize w7.setCell ⟨g, 1, none⟩ (.slice A7 ls.length k7) = w8 at h8 t8 ⊢
      have HB8 := Aside0.mk (show (blk).M w8 w0.heap.size (fun k => c8 k = i) (.cells #[.int .i64 m, .slice A7 ls.length k7, .slice A2 l2.length k2] 55 (0, 0)) (.pointer (some ⟨g, 0, none⟩)) from h8)
      have HL8 := Aside0.mk (t8.keep _ (row 37 k37) (i + 1) _ _ (by omega) HL7.out)
      have HO8 := Aside0.mk (t8.keep _ (row 37 k37) (i + 2) _ _ (by omega) HO7.out)
      have HX8 := Aside0.mk (t8.keep _ (blk) (i + 3) _ _ (by omega) HX7.out)
      have HE8 := Aside0.mk (t8.keep _ (row 37 k37) (i + 4) _ _ (by omega) HE7.out)
      have B8 := Aside0.mk (t8.far B7.out)
      have T8 := Aside0.mk (T7.out.step t8 (by simp))
      clear h8 t8
      refine hK.out _ _ ?_
      clear hK K hHeld
      refine norm_ (a' := ?_) ?_ ?_
      rotate_left
      · show Act.put _ (none) _ = _
        simp only [Act.put, List.setIfInBounds_toArray, List.set_cons_zero, List.set_cons_succ, i64_w, i32_w]
        rfl
      refine done_ (by kernel_rfl) ?_
      go_wp2
      go_ret
      exact ⟨by rw [HV.out]; rfl, c8, by rw [HVL.out]; exact ⟨_, _, _, _, HB8.out, HL8.out, HO8.out⟩, T8.out⟩
    · have pa : (av != 0) = true := bne_iff_ne.2 ha
      have HV := Aside0.mk (show ev = av from HE3.out)
      have HVL := Aside0.mk (show el = l1 from by rw [HEL.out, HE3.out, if_neg ha])
      clear ha
      have y0 := blk_cell (blk_at HX1.out) 0
      have y1 := blk_cell (blk_at HX1.out) 1
      go_wp2_with (first | (go_at_call 22; (with_reducible refine (win_Good.calls q p _ _ (good_f q p)).mono ?_); rintro e w2 ⟨rfl, hb2⟩; rw [GB.out]; have HB2 := Aside0.mk (St.below (s := blk) HB1.out hb2); have HL2 := Aside0.mk (St.below (s := row 37 k37) HL1.out hb2); have HO2 := Aside0.mk (St.below (s := row 37 k37) HO1.out hb2); have HX2 := Aside0.mk (St.below (s := blk) HX1.out hb2); have B2 := Aside0.mk (Below.trans B1.out (Below.mono hb2 (Below.size B1.out))); have T2 := Aside0.mk (T1.out.below hb2); clear hb2; clear y0 y1) | (go_at_call 23; (with_reducible refine (find_calls id (blk_at HB2.out) (row_C HL2.out) (by have := HLN.out; omega)).mono ?_); rintro e w3 ⟨rfl, hb3⟩; rw [FV.out]; have HB3 := Aside0.mk (St.below (s := blk) HB2.out hb3); have HL3 := Aside0.mk (St.below (s := row 37 k37) HL2.out hb3); have HO3 := Aside0.mk (St.below (s := row 37 k37) HO2.out hb3); have HX3 := Aside0.mk (St.below (s := blk) HX2.out hb3); have B3 := Aside0.mk (Below.trans B2.out (Below.mono hb3 (Below.size B2.out))); have T3 := Aside0.mk (T2.out.below hb3); clear hb3; have y0 := blk_cell (blk_at HX3.out) 0; have y1 := blk_cell (blk_at HX3.out) 1) | (go_at_call 12; (with_reducible refine (ask_calls q p now (blk_at HB3.out) (row_C HL3.out) (row_le HL3.out) (row_C HO3.out) (by have := HLN.out; omega) (by have := HLN.out; omega) HM.out HK1.out HK2.out).mono ?_); rintro e w4 ⟨rfl, hb4⟩; rw [AV.out]; have HB4 := Aside0.mk (St.below (s := blk) HB3.out hb4); have HL4 := Aside0.mk (St.below (s := row 37 k37) HL3.out hb4); have HO4 := Aside0.mk (St.below (s := row 37 k37) HO3.out hb4); have HX4 := Aside0.mk (St.below (s := blk) HX3.out hb4); have B4 := Aside0.mk (Below.trans B3.out (Below.mono hb4 (Below.size B3.out))); have T4 := Aside0.mk (T3.out.below hb4); clear hb4))
      go_ret
      exact ⟨by rw [HV.out]; rfl, c1, by rw [HVL.out]; exact ⟨_, _, _, _, HB4.out, HL4.out, HO4.out⟩, T4.out⟩
end Go.Proofs.Ytmjodeijafoabaa.Admit
