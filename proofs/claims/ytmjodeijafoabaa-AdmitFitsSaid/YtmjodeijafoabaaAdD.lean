/- Admit: whether pairs fit, who may come in (no law is stated here; each says its conditions). -/
import Derived.Test.YtmjodeijafoabaaSt
import Derived.Test.YtmjodeijafoabaaReg
import Derived.Test.YtmjodeijafoabaaQt
import Derived.Test.YtmjodeijafoabaaAdC
namespace Go.Proofs.Ytmjodeijafoabaa.Admit
open Go.RowKit Go.Proofs.YtmjodeijafoabaaW.PrintWords Go.Proofs.YtmjodeijafoabaaW.PrintLast Go.Proofs.YtmjodeijafoabaaW.PrintMore Go.Proofs.Ytmjodeijafoabaa.St Go.Proofs.Ytmjodeijafoabaa.Q Go.Proofs.Ytmjodeijafoabaa.Pure
set_option linter.unusedVariables false
set_option linter.unusedSimpArgs false
attribute [local go_sem] max2_int min2_int max_two min_two max_three min_three max_four min_four

/-- A block that holds something. -/
def blk : St Obj where
  M := fun w b ok o v => ∃ g : Nat, v = .pointer (some ⟨g, 0, none⟩) ∧ ok g ∧ b ≤ g ∧ g < w.heap.size ∧ w.heap[g]? = some o
  mono := fun h ⟨g, e1, e2, e3, e4, e5⟩ => ⟨g, e1, h g e2, e3, e4, e5⟩
  move := fun h ⟨g, e1, e2, e3, e4, e5⟩ => ⟨g, e1, e2, e3, size_same (h g e2) e4, (h g e2).trans e5⟩
  bound := fun ⟨g, e1, e2, e3, e4, e5⟩ => ⟨g, e1, ⟨e2, e3, e4⟩, e3, e4, e5⟩
theorem blk_new1 {w0 W W1 : World} (c : Nat → Nat) (i : Nat) {o : Obj} {g : Nat} (hg : W.heap.size ≤ g) (hX : W1.heap[g]? = some o) (hb : Below W.heap.size W W1) (hs : w0.heap.size ≤ W.heap.size) : ∃ c', blk.M W1 w0.heap.size (fun k => c' k = i) o (.pointer (some ⟨g, 0, none⟩)) ∧ Turned c c' i w0 W W1 :=
  turned_new (s := blk) ⟨g, rfl, hg, hg, (Array.getElem?_eq_some_iff.1 hX).1, hX⟩ hb hs (fun ⟨g2, e1, e2, e3, e4, e5⟩ => ⟨g2, e1, e2, Nat.le_trans hs e3, e4, e5⟩)
theorem blk_at {w0 W : World} {c : Nat → Nat} {i : Nat} {o : Obj} {g : Nat} (h : blk.M W w0.heap.size (fun k => c k = i) o (.pointer (some ⟨g, 0, none⟩))) : W.heap[g]? = some o := by
  obtain ⟨g2, e1, _, _, _, e5⟩ := h
  injection e1 with e1
  injection e1 with e1
  injection e1 with e1
  subst e1
  exact e5
/-- A row that a printed contract hands back takes a colour. -/
theorem row_got {w0 W W1 : World} {α : Type} {d : Kd α} {e : Nat} (c : Nat → Nat) (i : Nat) {xs : List α} {v : Value} (h : d.R e W1 W.heap.size (fun _ => True) v xs) (hb : Below W.heap.size W W1) (hs : w0.heap.size ≤ W.heap.size) : ∃ c', (row e d).M W1 w0.heap.size (fun k => c' k = i) xs v ∧ Turned c c' i w0 W W1 :=
  row_new c i (Kd.R_lower (Kd.R_mono (Kd.R_bound h) (fun k hk => hk.2.1)) hs) hb hs
/-- What Ask answers. -/
def askV (m : Int) (live out : List S37) (q p now : Int) : Int :=
  if goodP q p = false ∨ now < 0 then 1 else if 32 ≤ live.length ∨ 63 ≤ live.length + (ling now out).length then 3 else if fitB m (prs live ++ [⟨q, p⟩] ++ prs (ling now out)) = true then 0 else 7
theorem okl_all {l1 l2 : List S37} {q p now : Int} (h1 : Okl (prs l1)) (h : okv q p) (h2 : Okl (prs l2)) : Okl (prs l1 ++ [⟨q, p⟩] ++ prs (ling now l2)) := by
  intro x hx
  rcases List.mem_append.1 hx with hx | hx
  · rcases List.mem_append.1 hx with hx | hx
    · exact h1 x hx
    · rw [List.mem_singleton.1 hx]; exact h
  · obtain ⟨y, hy, rfl⟩ := List.mem_map.1 hx
    exact h2 _ (List.mem_map.2 ⟨y, (List.mem_filter.1 hy).1, rfl⟩)
theorem reps_one (w : World) (b : Nat) (q p : Int) : Reps (k24.M w b (fun _ => False)) k24.sz [⟨q, p⟩] [.int .i64 q, .int .i64 p] := by
  refine ⟨rfl, fun i x hx => ?_⟩
  cases i with
  | zero =>
    cases hx
    exact k24_mkM w b _ ⟨q, p⟩
  | succ i => simp at hx
set_option maxHeartbeats 8000000 in
set_option maxRecDepth 100000 in
theorem ask_calls {W : World} {g : Nat} {m : Int} {A1 A2 : Option Addr} {k1 k2 : Nat} {l1 l2 : List S37} (q p now : Int) (hb : W.heap[g]? = some (.cells #[.int .i64 m, .slice A1 l1.length k1, .slice A2 l2.length k2] 55 (0, 0))) (hr1 : k37.C W A1 l1.length l1) (hk1 : l1.length ≤ k1) (hr2 : k37.C W A2 l2.length l2)
    (hl1 : l1.length ≤ 500) (hl2 : l2.length ≤ 1000) (hm : 1 ≤ m ∧ m ≤ 64) (hok1 : Okl (prs l1)) (hok2 : Okl (prs l2)) :
    Calls Try.prog 12 #[.pointer (some ⟨g, 0, none⟩), .agg #[.int .i64 q, .int .i64 p], .int .i64 now] W fun e w' => e = .returned (.int .i64 (askV m l1 l2 q p now)) ∧ Below W.heap.size W w' := by
  have HBK := Aside0.mk hb
  have HG := Aside0.mk (blk_lt hb)
  have HR1 := Aside0.mk hr1
  have HK1 := Aside0.mk hk1
  have HR2 := Aside0.mk hr2
  have HL := Aside0.mk (show l1.length ≤ 500 ∧ l2.length ≤ 1000 from ⟨hl1, hl2⟩)
  have HM := Aside0.mk hm
  have HPF := Aside0.mk (pairs_f l1 (by omega))
  obtain ⟨ln, hln⟩ : ∃ ln, ling now l2 = ln := ⟨_, rfl⟩
  have HLN := Aside0.mk hln
  have hll : ln.length ≤ 1000 := by rw [← hln]; have := ling_le now l2; omega
  obtain ⟨gb, hgb⟩ : ∃ gb, goodP q p = gb := ⟨_, rfl⟩
  have GB := Aside0.mk hgb
  have HKO := Aside0.mk (show gb = true → Okl (prs l1 ++ [⟨q, p⟩] ++ prs (ling now l2)) from fun h => okl_all hok1 (good_ok (hgb.trans h)) hok2)
  obtain ⟨av, hav⟩ : ∃ av, askV m l1 l2 q p now = av := ⟨_, rfl⟩
  have HAV := Aside0.mk hav
  rw [hav]
  clear hb hr1 hk1 hr2 hm hok1 hok2 hln hgb hav
  have hl1' : l1.length ≤ 500 := hl1
  clear hl1 hl2
  go_enter Try.func12, Try.ntmps12
  go_upto_region 1 with (fail)
  have hbx : Below W.heap.size W (W.alloc (.cells #[.int .i64 q, .int .i64 p] 24)) := below_alloc (Below.refl _ _) _
  have hX : (W.alloc (.cells #[.int .i64 q, .int .i64 p] 24)).heap[W.heap.size]? = some (.cells #[.int .i64 q, .int .i64 p] 24 (0, 0)) := by simpa using heap_alloc_new W _
  obtain ⟨c1, h1, t1⟩ := blk_new1 (w0 := W) (fun _ => 9) 3 (Nat.le_refl _) hX hbx (Nat.le_refl _)
  have HX1 := Aside0.mk h1
  have B1 := Aside0.mk hbx
  clear h1 t1 hX hbx
  generalize W.alloc (.cells #[.int .i64 q, .int .i64 p] 24) = w1 at HX1 B1 ⊢
  cases gb with
  | false =>
    have HV := Aside0.mk (show av = 1 from by rw [← HAV.out]; unfold askV; rw [if_pos (Or.inl GB.out)])
    have y0 := blk_cell (blk_at HX1.out) 0
    have y1 := blk_cell (blk_at HX1.out) 1
    go_wp2_with (first | (go_at_call 22; (with_reducible refine (win_Good.calls q p _ _ (good_f q p)).mono ?_); rintro e w2 ⟨rfl, hb2⟩; rw [GB.out]; have HX2 := Aside0.mk (St.below (s := blk) HX1.out hb2); have B2 := Aside0.mk (Below.trans B1.out (Below.mono hb2 (Below.size B1.out))); clear hb2 y0 y1))
    go_ret
    exact ⟨by rw [HV.out]; rfl, B2.out⟩
  | true =>
    by_cases hn : now < 0
    · have pn : decide (now < 0) = true := decide_eq_true hn
      have HV := Aside0.mk (show av = 1 from by rw [← HAV.out]; unfold askV; rw [if_pos (Or.inr hn)])
      clear hn
      have y0 := blk_cell (blk_at HX1.out) 0
      have y1 := blk_cell (blk_at HX1.out) 1
      go_wp2_with (first | (go_at_call 22; (with_reducible refine (win_Good.calls q p _ _ (good_f q p)).mono ?_); rintro e w2 ⟨rfl, hb2⟩; rw [GB.out]; have HX2 := Aside0.mk (St.below (s := blk) HX1.out hb2); have B2 := Aside0.mk (Below.trans B1.out (Below.mono hb2 (Below.size B1.out))); clear hb2 y0 y1))
      go_ret
      exact ⟨by rw [HV.out]; rfl, B2.out⟩
    have pn : decide (now < 0) = false := decide_eq_false hn
    have HA2 := Aside0.mk (show av = if 32 ≤ l1.length ∨ 63 ≤ l1.length + ln.length then 3 else if fitB m (prs l1 ++ [⟨q, p⟩] ++ prs ln) = true then 0 else 7 from by
      rw [← HAV.out]; unfold askV; rw [if_neg (by rintro (h | h); rw [GB.out] at h; cases h; exact hn h), HLN.out])
    have HOK := Aside0.mk (HKO.out rfl)
    clear hn HKO
    by_cases h32 : 32 ≤ l1.length
    · have d32 : decide ((32 : Int) ≤ (l1.length : Int)) = true := decide_eq_true (by omega)
      have d32n : decide (32 ≤ l1.length) = true := decide_eq_true h32
      have HV := Aside0.mk (show av = 3 from by rw [HA2.out, if_pos (Or.inl h32)])
      clear h32
      have y0 := blk_cell (blk_at HX1.out) 0
      have y1 := blk_cell (blk_at HX1.out) 1
      go_upto_region 3 with (first | (go_at_call 22; (with_reducible refine (win_Good.calls q p _ _ (good_f q p)).mono ?_); rintro e w2 ⟨rfl, hb2⟩; rw [GB.out]; have HX2 := Aside0.mk (St.below (s := blk) HX1.out hb2); have B2 := Aside0.mk (Below.trans B1.out (Below.mono hb2 (Below.size B1.out))); clear hb2 y0 y1))
      refine q_start (by kernel_rfl) (by kernel_rfl) (fun w' => Below w2.heap.size w2 w') (below_drew (Below.refl _ _)) ?_
      refine q_op (v := ?_) (a' := ?_) ?hw1 ?_ ?_ ?_
      case hw1 => rfl
      rotate_left
      rotate_left
      · intro w' hC_
        go_simp
        with_reducible rfl
      · show Act.put _ (some 16) _ = _
        simp only [Act.put, List.setIfInBounds_toArray, List.set_cons_zero, List.set_cons_succ, i64_w, i32_w]
        rfl
      refine q_op (v := ?_) (a' := ?_) ?hw1 ?_ ?_ ?_
      case hw1 => rfl
      rotate_left
      rotate_left
      · intro w' hC_
        go_simp
        with_reducible rfl
      · show Act.put _ (some 17) _ = _
        simp only [Act.put, List.setIfInBounds_toArray, List.set_cons_zero, List.set_cons_succ, i64_w, i32_w]
        rfl
      refine q_op (v := ?_) (a' := ?_) ?hw1 ?_ ?_ ?_
      case hw1 => rfl
      rotate_left
      rotate_left
      · intro w' hC_
        go_simp
        with_reducible rfl
      · show Act.put _ (some 18) _ = _
        simp only [Act.put, List.setIfInBounds_toArray, List.set_cons_zero, List.set_cons_succ, i64_w, i32_w]
        rfl
      refine q_op (v := ?_) (a' := ?_) ?hw1 ?_ ?_ ?_
      case hw1 => rfl
      rotate_left
      rotate_left
      · intro w' hC_
        have z1 := blk_cell (((B2.out.trans (hC_.mono B2.out.size)).block g HG.out).trans HBK.out) 1
        go_simp
        with_reducible rfl
      · show Act.put _ (some 19) _ = _
        simp only [Act.put, List.setIfInBounds_toArray, List.set_cons_zero, List.set_cons_succ, i64_w, i32_w]
        rfl
      refine q_op (v := ?_) (a' := ?_) ?hw1 ?_ ?_ ?_
      case hw1 => rfl
      rotate_left
      rotate_left
      · intro w' hC_
        go_simp
        with_reducible rfl
      · show Act.put _ (some 20) _ = _
        simp only [Act.put, List.setIfInBounds_toArray, List.set_cons_zero, List.set_cons_succ, i64_w, i32_w]
        rfl
      refine q_op (v := .bool true) (a' := ?_) ?hw1 ?_ ?_ ?_
      case hw1 => rfl
      rotate_left
      · intro w' hC_
        obtain _ := hC_
        go_simp
      · show Act.put _ (some 21) _ = _
        simp only [Act.put, List.setIfInBounds_toArray, List.set_cons_zero, List.set_cons_succ, i64_w, i32_w]
        rfl
      refine q_op (v := ?_) (a' := ?_) ?hw1 ?_ ?_ ?_
      case hw1 => rfl
      rotate_left
      rotate_left
      · intro w' hC_
        go_simp
        with_reducible rfl
      · show Act.put _ (some 22) _ = _
        simp only [Act.put, List.setIfInBounds_toArray, List.set_cons_zero, List.set_cons_succ, i64_w, i32_w]
        rfl
      refine q_off (a' := ?_) ?hw1 ?_ ?_
      case hw1 => exact wanted_off rfl rfl rfl rfl
      rotate_left
      · show Act.put _ (some 23) _ = _
        simp only [Act.put, List.setIfInBounds_toArray, List.set_cons_zero, List.set_cons_succ, i64_w, i32_w]
        rfl
      refine q_off (a' := ?_) ?hw1 ?_ ?_
      case hw1 => exact wanted_off rfl rfl rfl rfl
      rotate_left
      · show Act.put _ (some 24) _ = _
        simp only [Act.put, List.setIfInBounds_toArray, List.set_cons_zero, List.set_cons_succ, i64_w, i32_w]
        rfl
      refine q_off (a' := ?_) ?hw1 ?_ ?_
      case hw1 => exact wanted_off rfl rfl rfl rfl
      rotate_left
      · show Act.put _ (some 25) _ = _
        simp only [Act.put, List.setIfInBounds_toArray, List.set_cons_zero, List.set_cons_succ, i64_w, i32_w]
        rfl
      refine q_off (a' := ?_) ?hw1 ?_ ?_
      case hw1 => exact wanted_off rfl rfl rfl rfl
      rotate_left
      · show Act.put _ (some 26) _ = _
        simp only [Act.put, List.setIfInBounds_toArray, List.set_cons_zero, List.set_cons_succ, i64_w, i32_w]
        rfl
      refine q_off (a' := ?_) ?hw1 ?_ ?_
      case hw1 => exact wanted_off rfl rfl rfl rfl
      rotate_left
      · show Act.put _ (some 27) _ = _
        simp only [Act.put, List.setIfInBounds_toArray, List.set_cons_zero, List.set_cons_succ, i64_w, i32_w]
        rfl
      refine q_off (a' := ?_) ?hw1 ?_ ?_
      case hw1 => exact wanted_off rfl rfl rfl rfl
      rotate_left
      · show Act.put _ (some 28) _ = _
        simp only [Act.put, List.setIfInBounds_toArray, List.set_cons_zero, List.set_cons_succ, i64_w, i32_w]
        rfl
      refine q_off (a' := ?_) ?hw1 ?_ ?_
      case hw1 => exact wanted_off rfl rfl rfl rfl
      rotate_left
      · show Act.put _ (some 29) _ = _
        simp only [Act.put, List.setIfInBounds_toArray, List.set_cons_zero, List.set_cons_succ, i64_w, i32_w]
        rfl
      refine q_off (a' := ?_) ?hw1 ?_ ?_
      case hw1 => exact wanted_off rfl rfl rfl rfl
      rotate_left
      · show Act.put _ (some 30) _ = _
        simp only [Act.put, List.setIfInBounds_toArray, List.set_cons_zero, List.set_cons_succ, i64_w, i32_w]
        rfl
      refine q_off (a' := ?_) ?hw1 ?_ ?_
      case hw1 => exact wanted_off rfl rfl rfl rfl
      rotate_left
      · show Act.put _ (some 31) _ = _
        simp only [Act.put, List.setIfInBounds_toArray, List.set_cons_zero, List.set_cons_succ, i64_w, i32_w]
        rfl
      refine q_off (a' := ?_) ?hw1 ?_ ?_
      case hw1 => exact wanted_off rfl rfl rfl rfl
      rotate_left
      · show Act.put _ (some 32) _ = _
        simp only [Act.put, List.setIfInBounds_toArray, List.set_cons_zero, List.set_cons_succ, i64_w, i32_w]
        rfl
      refine q_off (a' := ?_) ?hw1 ?_ ?_
      case hw1 => exact wanted_off rfl rfl rfl rfl
      rotate_left
      · show Act.put _ (some 33) _ = _
        simp only [Act.put, List.setIfInBounds_toArray, List.set_cons_zero, List.set_cons_succ, i64_w, i32_w]
        rfl
      refine q_op (v := ?_) (a' := ?_) ?hw1 ?_ ?_ ?_
      case hw1 => rfl
      rotate_left
      rotate_left
      · intro w' hC_
        go_simp
        with_reducible rfl
      · show Act.put _ (some 34) _ = _
        simp only [Act.put, List.setIfInBounds_toArray, List.set_cons_zero, List.set_cons_succ, i64_w, i32_w]
        rfl
      refine q_op (v := ?_) (a' := ?_) ?hw1 ?_ ?_ ?_
      case hw1 => rfl
      rotate_left
      rotate_left
      · intro w' hC_
        go_simp
        with_reducible rfl
      · show Act.put _ (some 15) _ = _
        simp only [Act.put, List.setIfInBounds_toArray, List.set_cons_zero, List.set_cons_succ, i64_w, i32_w]
        rfl
      refine q_nil ?_
      intro w3 hC_
      have HX3 := Aside0.mk (St.below (s := blk) HX2.out hC_)
      have B3 := Aside0.mk (Below.trans B2.out (Below.mono hC_ (Below.size B2.out)))
      clear hC_
      go_wp2
      go_ret
      exact ⟨by rw [HV.out]; rfl, B3.out⟩
    have d32 : decide ((32 : Int) ≤ (l1.length : Int)) = false := decide_eq_false (by omega)
    have d32n : decide (32 ≤ l1.length) = false := decide_eq_false h32
    have hsum : wrap64 ((l1.length : Int) + (ln.length : Int)) = (l1.length : Int) + (ln.length : Int) := by unfold wrap64; omega
    by_cases h63 : 63 ≤ l1.length + ln.length
    · have d63 : decide ((63 : Int) ≤ (l1.length : Int) + (ln.length : Int)) = true := decide_eq_true (by omega)
      have HV := Aside0.mk (show av = 3 from by rw [HA2.out, if_pos (Or.inr h63)])
      clear h63 h32
      have y0 := blk_cell (blk_at HX1.out) 0
      have y1 := blk_cell (blk_at HX1.out) 1
      go_upto_region 3 with (first | (go_at_call 22; (with_reducible refine (win_Good.calls q p _ _ (good_f q p)).mono ?_); rintro e w2 ⟨rfl, hb2⟩; rw [GB.out]; have HX2 := Aside0.mk (St.below (s := blk) HX1.out hb2); have B2 := Aside0.mk (Below.trans B1.out (Below.mono hb2 (Below.size B1.out))); clear hb2 y0 y1))
      obtain ⟨w10, hw10⟩ : ∃ w10 : World, w2.drew = w10 := ⟨_, rfl⟩
      have hb10 : Below w2.heap.size w2 w10 := by rw [← hw10]; exact below_drew (Below.refl _ _)
      have HX10 := Aside0.mk (St.below (s := blk) HX2.out hb10)
      have B10 := Aside0.mk (Below.trans B2.out (Below.mono hb10 (Below.size B2.out)))
      clear hb10
      refine start_ (n := 20) (S := fun w' => w'.cell? ⟨g, 1, none⟩ = some (.slice A1 l1.length k1)) (ds := []) #[false, false, false, false, false, false, false, false, false, false, false, false, false, false, false, false, false, false, false, false] (by kernel_rfl) rfl rfl (by rw [hw10]; exact blk_cell ((B10.out.block g HG.out).trans HBK.out) 1) (fun hHeld => ?_)
      refine pure_ (i := 0) (N := some 16) (v := ?_) (a' := ?_) #[true, false, false, false, false, false, false, false, false, false, false, false, false, false, false, false, false, false, false, false] rfl rfl (by kernel_rfl) (fun _ _ _ h => h) (Or.inl ⟨by rfl, ?_⟩) ?_ ?_
      rotate_left
      · intro w'
        go_simp
        with_reducible rfl
      rotate_left
      · simp only [Act.put, List.setIfInBounds_toArray, List.set_cons_zero, List.set_cons_succ, i64_w, i32_w]
        rfl
      refine pure_ (i := 1) (N := some 17) (v := ?_) (a' := ?_) #[true, true, false, false, false, false, false, false, false, false, false, false, false, false, false, false, false, false, false, false] rfl rfl (by kernel_rfl) (fun _ _ _ h => h) (Or.inl ⟨by rfl, ?_⟩) ?_ ?_
      rotate_left
      · intro w'
        go_simp
        with_reducible rfl
      rotate_left
      · simp only [Act.put, List.setIfInBounds_toArray, List.set_cons_zero, List.set_cons_succ, i64_w, i32_w]
        rfl
      refine pure_ (i := 2) (N := some 18) (v := ?_) (a' := ?_) #[true, true, true, false, false, false, false, false, false, false, false, false, false, false, false, false, false, false, false, false] rfl rfl (by kernel_rfl) (fun _ _ _ h => h) (Or.inl ⟨by rfl, ?_⟩) ?_ ?_
      rotate_left
      · intro w'
        go_simp
        with_reducible rfl
      rotate_left
      · simp only [Act.put, List.setIfInBounds_toArray, List.set_cons_zero, List.set_cons_succ, i64_w, i32_w]
        rfl
      refine take_ (i := 3) (N := some 19) (v := ?_) (a' := ?_) #[true, true, true, true, false, false, false, false, false, false, false, false, false, false, false, false, false, false, false, false] rfl rfl (by kernel_rfl) (fun _ _ _ h => h) (Or.inl ⟨by rfl, ?_⟩) hHeld ?_ ?_
      rotate_left
      · intro w' hS_
        obtain s0_ := hS_
        go_simp
        with_reducible rfl
      rotate_left
      · simp only [Act.put, List.setIfInBounds_toArray, List.set_cons_zero, List.set_cons_succ, i64_w, i32_w]
        rfl
      refine pure_ (i := 4) (N := some 20) (v := ?_) (a' := ?_) #[true, true, true, true, true, false, false, false, false, false, false, false, false, false, false, false, false, false, false, false] rfl rfl (by kernel_rfl) (fun _ _ _ h => h) (Or.inl ⟨by rfl, ?_⟩) ?_ ?_
      rotate_left
      · intro w'
        go_simp
        with_reducible rfl
      rotate_left
      · simp only [Act.put, List.setIfInBounds_toArray, List.set_cons_zero, List.set_cons_succ, i64_w, i32_w]
        rfl
      refine pure_ (i := 5) (N := some 21) (v := ?_) (a' := ?_) #[true, true, true, true, true, true, false, false, false, false, false, false, false, false, false, false, false, false, false, false] rfl rfl (by kernel_rfl) (fun _ _ _ h => h) (Or.inl ⟨by rfl, ?_⟩) ?_ ?_
      rotate_left
      · intro w'
        go_simp
        with_reducible rfl
      rotate_left
      · simp only [Act.put, List.setIfInBounds_toArray, List.set_cons_zero, List.set_cons_succ, i64_w, i32_w]
        rfl
      refine pure_ (i := 6) (N := some 22) (v := ?_) (a' := ?_) #[true, true, true, true, true, true, true, false, false, false, false, false, false, false, false, false, false, false, false, false] rfl rfl (by kernel_rfl) (fun _ _ _ h => h) (Or.inl ⟨by rfl, ?_⟩) ?_ ?_
      rotate_left
      · intro w'
        go_simp
        with_reducible rfl
      rotate_left
      · simp only [Act.put, List.setIfInBounds_toArray, List.set_cons_zero, List.set_cons_succ, i64_w, i32_w]
        rfl
      refine pure_ (i := 7) (N := some 23) (v := ?_) (a' := ?_) #[true, true, true, true, true, true, true, true, false, false, false, false, false, false, false, false, false, false, false, false] rfl rfl (by kernel_rfl) (fun _ _ _ h => h) (Or.inl ⟨wanted_on rfl rfl rfl rfl, ?_⟩) ?_ ?_
      rotate_left
      · intro w'
        go_simp
        with_reducible rfl
      rotate_left
      · simp only [Act.put, List.setIfInBounds_toArray, List.set_cons_zero, List.set_cons_succ, i64_w, i32_w]
        rfl
      refine pure_ (i := 8) (N := some 24) (v := ?_) (a' := ?_) #[true, true, true, true, true, true, true, true, true, false, false, false, false, false, false, false, false, false, false, false] rfl rfl (by kernel_rfl) (fun _ _ _ h => h) (Or.inl ⟨wanted_on rfl rfl rfl rfl, ?_⟩) ?_ ?_
      rotate_left
      · intro w'
        go_simp
        with_reducible rfl
      rotate_left
      · simp only [Act.put, List.setIfInBounds_toArray, List.set_cons_zero, List.set_cons_succ, i64_w, i32_w]
        rfl
      refine pure_ (i := 9) (N := some 25) (v := ?_) (a' := ?_) #[true, true, true, true, true, true, true, true, true, true, false, false, false, false, false, false, false, false, false, false] rfl rfl (by kernel_rfl) (fun _ _ _ h => h) (Or.inl ⟨wanted_on rfl rfl rfl rfl, ?_⟩) ?_ ?_
      rotate_left
      · intro w'
        go_simp
        with_reducible rfl
      rotate_left
      · simp only [Act.put, List.setIfInBounds_toArray, List.set_cons_zero, List.set_cons_succ, i64_w, i32_w]
        rfl
      refine take_ (i := 10) (N := some 26) (v := ?_) (a' := ?_) #[true, true, true, true, true, true, true, true, true, true, true, false, false, false, false, false, false, false, false, false] rfl rfl (by kernel_rfl) (fun _ _ _ h => h) (Or.inl ⟨wanted_on rfl rfl rfl rfl, ?_⟩) hHeld ?_ ?_
      rotate_left
      · intro w' hS_
        obtain s0_ := hS_
        go_simp
        with_reducible rfl
      rotate_left
      · simp only [Act.put, List.setIfInBounds_toArray, List.set_cons_zero, List.set_cons_succ, i64_w, i32_w]
        rfl
      refine pure_ (i := 11) (N := some 27) (v := ?_) (a' := ?_) #[true, true, true, true, true, true, true, true, true, true, true, true, false, false, false, false, false, false, false, false] rfl rfl (by kernel_rfl) (fun _ _ _ h => h) (Or.inl ⟨wanted_on rfl rfl rfl rfl, ?_⟩) ?_ ?_
      rotate_left
      · intro w'
        go_simp
        with_reducible rfl
      rotate_left
      · simp only [Act.put, List.setIfInBounds_toArray, List.set_cons_zero, List.set_cons_succ, i64_w, i32_w]
        rfl
      refine pure_ (i := 12) (N := some 28) (v := ?_) (a' := ?_) #[true, true, true, true, true, true, true, true, true, true, true, true, true, false, false, false, false, false, false, false] rfl rfl (by kernel_rfl) (fun _ _ _ h => h) (Or.inl ⟨wanted_on rfl rfl rfl rfl, ?_⟩) ?_ ?_
      rotate_left
      · intro w'
        go_simp
        with_reducible rfl
      rotate_left
      · simp only [Act.put, List.setIfInBounds_toArray, List.set_cons_zero, List.set_cons_succ, i64_w, i32_w]
        rfl
      refine pure_ (i := 13) (N := some 29) (v := ?_) (a' := ?_) #[true, true, true, true, true, true, true, true, true, true, true, true, true, true, false, false, false, false, false, false] rfl rfl (by kernel_rfl) (fun _ _ _ h => h) (Or.inl ⟨wanted_on rfl rfl rfl rfl, ?_⟩) ?_ ?_
      rotate_left
      · intro w'
        go_simp
        with_reducible rfl
      rotate_left
      · simp only [Act.put, List.setIfInBounds_toArray, List.set_cons_zero, List.set_cons_succ, i64_w, i32_w]
        rfl
      refine one_ (i := 14) (N := some 30) #[true, true, true, true, true, true, true, true, true, true, true, true, true, true, true, false, false, false, false, false] rfl rfl (by kernel_rfl) (by decide) (fun K hK => ?_)
      refine goes_ Try.func13 (by kernel_rfl) rfl #[.pointer (some ⟨g, 0, none⟩), .int .i64 now] ?hw rfl rfl ?hx ?_
      (case hw => exact wanted_on rfl rfl rfl rfl)
      (case hx => (try simp only [List.map_toArray, List.map_cons, List.map_nil]); first | done | rfl)
      rw [hw10]
      refine (lingers_calls (g := g) (c0 := .int .i64 m) (c1 := .slice A1 l1.length k1) (A2 := A2) (k2 := k2) (l := l2) now ((B10.out.block g HG.out).trans HBK.out) (Kd.C_below HR2.out B10.out) HL.out.2).mono ?_
      rintro e w11 ⟨v11, rfl, h11, b11⟩
      obtain ⟨A11, k11, rfl, -, -⟩ := row_reads h11
      rw [HLN.out]
      have HX11 := Aside0.mk (St.below (s := blk) HX10.out b11)
      have B11 := Aside0.mk (Below.trans B10.out (Below.mono b11 (Below.size B10.out)))
      clear h11 b11
      refine ⟨_, rfl, ?_⟩
      have hHeld := (show _ = some (Value.slice A1 l1.length k1) from blk_cell ((B11.out.block g HG.out).trans HBK.out) 1)
      refine hK.out _ _ hHeld (fun hHeld => ?_)
      clear hK K
      refine norm_ (a' := ?_) ?_ ?_
      rotate_left
      · show Act.put _ (some 30) _ = _
        simp only [Act.put, List.setIfInBounds_toArray, List.set_cons_zero, List.set_cons_succ, i64_w, i32_w]
        rfl
      refine pure_ (i := 15) (N := some 31) (v := ?_) (a' := ?_) #[true, true, true, true, true, true, true, true, true, true, true, true, true, true, true, true, false, false, false, false] rfl rfl (by kernel_rfl) (fun _ _ _ h => h) (Or.inl ⟨wanted_on rfl rfl rfl rfl, ?_⟩) ?_ ?_
      rotate_left
      · intro w'
        go_simp
        with_reducible rfl
      rotate_left
      · simp only [Act.put, List.setIfInBounds_toArray, List.set_cons_zero, List.set_cons_succ, i64_w, i32_w]
        rfl
      refine pure_ (i := 16) (N := some 32) (v := ?_) (a' := ?_) #[true, true, true, true, true, true, true, true, true, true, true, true, true, true, true, true, true, false, false, false] rfl rfl (by kernel_rfl) (fun _ _ _ h => h) (Or.inl ⟨wanted_on rfl rfl rfl rfl, ?_⟩) ?_ ?_
      rotate_left
      · intro w'
        go_simp
        with_reducible rfl
      rotate_left
      · simp only [Act.put, List.setIfInBounds_toArray, List.set_cons_zero, List.set_cons_succ, i64_w, i32_w]
        rfl
      refine pure_ (i := 17) (N := some 33) (v := ?_) (a' := ?_) #[true, true, true, true, true, true, true, true, true, true, true, true, true, true, true, true, true, true, false, false] rfl rfl (by kernel_rfl) (fun _ _ _ h => h) (Or.inl ⟨wanted_on rfl rfl rfl rfl, ?_⟩) ?_ ?_
      rotate_left
      · intro w'
        go_simp
        with_reducible rfl
      rotate_left
      · simp only [Act.put, List.setIfInBounds_toArray, List.set_cons_zero, List.set_cons_succ, i64_w, i32_w]
        rfl
      refine pure_ (i := 18) (N := some 34) (v := ?_) (a' := ?_) #[true, true, true, true, true, true, true, true, true, true, true, true, true, true, true, true, true, true, true, false] rfl rfl (by kernel_rfl) (fun _ _ _ h => h) (Or.inl ⟨by rfl, ?_⟩) ?_ ?_
      rotate_left
      · intro w'
        go_simp
        with_reducible rfl
      rotate_left
      · simp only [Act.put, List.setIfInBounds_toArray, List.set_cons_zero, List.set_cons_succ, i64_w, i32_w]
        rfl
      refine pure_ (i := 19) (N := some 15) (v := ?_) (a' := ?_) #[true, true, true, true, true, true, true, true, true, true, true, true, true, true, true, true, true, true, true, true] rfl rfl (by kernel_rfl) (fun _ _ _ h => h) (Or.inl ⟨by rfl, ?_⟩) ?_ ?_
      rotate_left
      · intro w'
        go_simp
        with_reducible rfl
      rotate_left
      · simp only [Act.put, List.setIfInBounds_toArray, List.set_cons_zero, List.set_cons_succ, i64_w, i32_w]
        rfl
      refine done_ (by kernel_rfl) ?_
      go_wp2
      go_ret
      exact ⟨by rw [HV.out]; rfl, B11.out⟩
    have d63 : decide ((63 : Int) ≤ (l1.length : Int) + (ln.length : Int)) = false := decide_eq_false (by omega)
    have HA3 := Aside0.mk (show av = if fitB m (prs l1 ++ [⟨q, p⟩] ++ prs ln) = true then 0 else 7 from by rw [HA2.out, if_neg (by omega)])
    clear h63 h32
    obtain ⟨fb, hfb⟩ : ∃ fb, fitB m (prs l1 ++ [⟨q, p⟩] ++ prs (ling now l2)) = fb := ⟨_, rfl⟩
    have HFB := Aside0.mk hfb
    have HF2 := Aside0.mk (show fitB m (prs l1 ++ [⟨q, p⟩] ++ prs ln) = fb from by rw [← HLN.out]; exact hfb)
    clear hfb
    cases fb with
    | false =>
      have HV := Aside0.mk (show av = 7 from by rw [HA3.out, HF2.out, if_neg Bool.false_ne_true])
      have y0 := blk_cell (blk_at HX1.out) 0
      have y1 := blk_cell (blk_at HX1.out) 1
      go_upto_region 3 with (first | (go_at_call 22; (with_reducible refine (win_Good.calls q p _ _ (good_f q p)).mono ?_); rintro e w2 ⟨rfl, hb2⟩; rw [GB.out]; have HX2 := Aside0.mk (St.below (s := blk) HX1.out hb2); have B2 := Aside0.mk (Below.trans B1.out (Below.mono hb2 (Below.size B1.out))); clear hb2 y0 y1))
      obtain ⟨w10, hw10⟩ : ∃ w10 : World, w2.drew = w10 := ⟨_, rfl⟩
      have hb10 : Below w2.heap.size w2 w10 := by rw [← hw10]; exact below_drew (Below.refl _ _)
      have HX10 := Aside0.mk (St.below (s := blk) HX2.out hb10)
      have B10 := Aside0.mk (Below.trans B2.out (Below.mono hb10 (Below.size B2.out)))
      clear hb10
      refine start_ (n := 20) (S := fun w' => w'.cell? ⟨g, 1, none⟩ = some (.slice A1 l1.length k1)) (ds := []) #[false, false, false, false, false, false, false, false, false, false, false, false, false, false, false, false, false, false, false, false] (by kernel_rfl) rfl rfl (by rw [hw10]; exact blk_cell ((B10.out.block g HG.out).trans HBK.out) 1) (fun hHeld => ?_)
      refine pure_ (i := 0) (N := some 16) (v := ?_) (a' := ?_) #[true, false, false, false, false, false, false, false, false, false, false, false, false, false, false, false, false, false, false, false] rfl rfl (by kernel_rfl) (fun _ _ _ h => h) (Or.inl ⟨by rfl, ?_⟩) ?_ ?_
      rotate_left
      · intro w'
        go_simp
        with_reducible rfl
      rotate_left
      · simp only [Act.put, List.setIfInBounds_toArray, List.set_cons_zero, List.set_cons_succ, i64_w, i32_w]
        rfl
      refine pure_ (i := 1) (N := some 17) (v := ?_) (a' := ?_) #[true, true, false, false, false, false, false, false, false, false, false, false, false, false, false, false, false, false, false, false] rfl rfl (by kernel_rfl) (fun _ _ _ h => h) (Or.inl ⟨by rfl, ?_⟩) ?_ ?_
      rotate_left
      · intro w'
        go_simp
        with_reducible rfl
      rotate_left
      · simp only [Act.put, List.setIfInBounds_toArray, List.set_cons_zero, List.set_cons_succ, i64_w, i32_w]
        rfl
      refine pure_ (i := 2) (N := some 18) (v := ?_) (a' := ?_) #[true, true, true, false, false, false, false, false, false, false, false, false, false, false, false, false, false, false, false, false] rfl rfl (by kernel_rfl) (fun _ _ _ h => h) (Or.inl ⟨by rfl, ?_⟩) ?_ ?_
      rotate_left
      · intro w'
        go_simp
        with_reducible rfl
      rotate_left
      · simp only [Act.put, List.setIfInBounds_toArray, List.set_cons_zero, List.set_cons_succ, i64_w, i32_w]
        rfl
      refine take_ (i := 3) (N := some 19) (v := ?_) (a' := ?_) #[true, true, true, true, false, false, false, false, false, false, false, false, false, false, false, false, false, false, false, false] rfl rfl (by kernel_rfl) (fun _ _ _ h => h) (Or.inl ⟨by rfl, ?_⟩) hHeld ?_ ?_
      rotate_left
      · intro w' hS_
        obtain s0_ := hS_
        go_simp
        with_reducible rfl
      rotate_left
      · simp only [Act.put, List.setIfInBounds_toArray, List.set_cons_zero, List.set_cons_succ, i64_w, i32_w]
        rfl
      refine pure_ (i := 4) (N := some 20) (v := ?_) (a' := ?_) #[true, true, true, true, true, false, false, false, false, false, false, false, false, false, false, false, false, false, false, false] rfl rfl (by kernel_rfl) (fun _ _ _ h => h) (Or.inl ⟨by rfl, ?_⟩) ?_ ?_
      rotate_left
      · intro w'
        go_simp
        with_reducible rfl
      rotate_left
      · simp only [Act.put, List.setIfInBounds_toArray, List.set_cons_zero, List.set_cons_succ, i64_w, i32_w]
        rfl
      refine pure_ (i := 5) (N := some 21) (v := ?_) (a' := ?_) #[true, true, true, true, true, true, false, false, false, false, false, false, false, false, false, false, false, false, false, false] rfl rfl (by kernel_rfl) (fun _ _ _ h => h) (Or.inl ⟨by rfl, ?_⟩) ?_ ?_
      rotate_left
      · intro w'
        go_simp
        with_reducible rfl
      rotate_left
      · simp only [Act.put, List.setIfInBounds_toArray, List.set_cons_zero, List.set_cons_succ, i64_w, i32_w]
        rfl
      refine pure_ (i := 6) (N := some 22) (v := ?_) (a' := ?_) #[true, true, true, true, true, true, true, false, false, false, false, false, false, false, false, false, false, false, false, false] rfl rfl (by kernel_rfl) (fun _ _ _ h => h) (Or.inl ⟨by rfl, ?_⟩) ?_ ?_
      rotate_left
      · intro w'
        go_simp
        with_reducible rfl
      rotate_left
      · simp only [Act.put, List.setIfInBounds_toArray, List.set_cons_zero, List.set_cons_succ, i64_w, i32_w]
        rfl
      refine pure_ (i := 7) (N := some 23) (v := ?_) (a' := ?_) #[true, true, true, true, true, true, true, true, false, false, false, false, false, false, false, false, false, false, false, false] rfl rfl (by kernel_rfl) (fun _ _ _ h => h) (Or.inl ⟨wanted_on rfl rfl rfl rfl, ?_⟩) ?_ ?_
      rotate_left
      · intro w'
        go_simp
        with_reducible rfl
      rotate_left
      · simp only [Act.put, List.setIfInBounds_toArray, List.set_cons_zero, List.set_cons_succ, i64_w, i32_w]
        rfl
      refine pure_ (i := 8) (N := some 24) (v := ?_) (a' := ?_) #[true, true, true, true, true, true, true, true, true, false, false, false, false, false, false, false, false, false, false, false] rfl rfl (by kernel_rfl) (fun _ _ _ h => h) (Or.inl ⟨wanted_on rfl rfl rfl rfl, ?_⟩) ?_ ?_
      rotate_left
      · intro w'
        go_simp
        with_reducible rfl
      rotate_left
      · simp only [Act.put, List.setIfInBounds_toArray, List.set_cons_zero, List.set_cons_succ, i64_w, i32_w]
        rfl
      refine pure_ (i := 9) (N := some 25) (v := ?_) (a' := ?_) #[true, true, true, true, true, true, true, true, true, true, false, false, false, false, false, false, false, false, false, false] rfl rfl (by kernel_rfl) (fun _ _ _ h => h) (Or.inl ⟨wanted_on rfl rfl rfl rfl, ?_⟩) ?_ ?_
      rotate_left
      · intro w'
        go_simp
        with_reducible rfl
      rotate_left
      · simp only [Act.put, List.setIfInBounds_toArray, List.set_cons_zero, List.set_cons_succ, i64_w, i32_w]
        rfl
      refine take_ (i := 10) (N := some 26) (v := ?_) (a' := ?_) #[true, true, true, true, true, true, true, true, true, true, true, false, false, false, false, false, false, false, false, false] rfl rfl (by kernel_rfl) (fun _ _ _ h => h) (Or.inl ⟨wanted_on rfl rfl rfl rfl, ?_⟩) hHeld ?_ ?_
      rotate_left
      · intro w' hS_
        obtain s0_ := hS_
        go_simp
        with_reducible rfl
      rotate_left
      · simp only [Act.put, List.setIfInBounds_toArray, List.set_cons_zero, List.set_cons_succ, i64_w, i32_w]
        rfl
      refine pure_ (i := 11) (N := some 27) (v := ?_) (a' := ?_) #[true, true, true, true, true, true, true, true, true, true, true, true, false, false, false, false, false, false, false, false] rfl rfl (by kernel_rfl) (fun _ _ _ h => h) (Or.inl ⟨wanted_on rfl rfl rfl rfl, ?_⟩) ?_ ?_
      rotate_left
      · intro w'
        go_simp
        with_reducible rfl
      rotate_left
      · simp only [Act.put, List.setIfInBounds_toArray, List.set_cons_zero, List.set_cons_succ, i64_w, i32_w]
        rfl
      refine pure_ (i := 12) (N := some 28) (v := ?_) (a' := ?_) #[true, true, true, true, true, true, true, true, true, true, true, true, true, false, false, false, false, false, false, false] rfl rfl (by kernel_rfl) (fun _ _ _ h => h) (Or.inl ⟨wanted_on rfl rfl rfl rfl, ?_⟩) ?_ ?_
      rotate_left
      · intro w'
        go_simp
        with_reducible rfl
      rotate_left
      · simp only [Act.put, List.setIfInBounds_toArray, List.set_cons_zero, List.set_cons_succ, i64_w, i32_w]
        rfl
      refine pure_ (i := 13) (N := some 29) (v := ?_) (a' := ?_) #[true, true, true, true, true, true, true, true, true, true, true, true, true, true, false, false, false, false, false, false] rfl rfl (by kernel_rfl) (fun _ _ _ h => h) (Or.inl ⟨wanted_on rfl rfl rfl rfl, ?_⟩) ?_ ?_
      rotate_left
      · intro w'
        go_simp
        with_reducible rfl
      rotate_left
      · simp only [Act.put, List.setIfInBounds_toArray, List.set_cons_zero, List.set_cons_succ, i64_w, i32_w]
        rfl
      refine one_ (i := 14) (N := some 30) #[true, true, true, true, true, true, true, true, true, true, true, true, true, true, true, false, false, false, false, false] rfl rfl (by kernel_rfl) (by decide) (fun K hK => ?_)
      refine goes_ Try.func13 (by kernel_rfl) rfl #[.pointer (some ⟨g, 0, none⟩), .int .i64 now] ?hw rfl rfl ?hx ?_
      (case hw => exact wanted_on rfl rfl rfl rfl)
      (case hx => (try simp only [List.map_toArray, List.map_cons, List.map_nil]); first | done | rfl)
      rw [hw10]
      refine (lingers_calls (g := g) (c0 := .int .i64 m) (c1 := .slice A1 l1.length k1) (A2 := A2) (k2 := k2) (l := l2) now ((B10.out.block g HG.out).trans HBK.out) (Kd.C_below HR2.out B10.out) HL.out.2).mono ?_
      rintro e w11 ⟨v11, rfl, h11, b11⟩
      obtain ⟨A11, k11, rfl, -, -⟩ := row_reads h11
      rw [HLN.out]
      have HX11 := Aside0.mk (St.below (s := blk) HX10.out b11)
      have B11 := Aside0.mk (Below.trans B10.out (Below.mono b11 (Below.size B10.out)))
      clear h11 b11
      refine ⟨_, rfl, ?_⟩
      have hHeld := (show _ = some (Value.slice A1 l1.length k1) from blk_cell ((B11.out.block g HG.out).trans HBK.out) 1)
      refine hK.out _ _ hHeld (fun hHeld => ?_)
      clear hK K
      refine norm_ (a' := ?_) ?_ ?_
      rotate_left
      · show Act.put _ (some 30) _ = _
        simp only [Act.put, List.setIfInBounds_toArray, List.set_cons_zero, List.set_cons_succ, i64_w, i32_w]
        rfl
      refine pure_ (i := 15) (N := some 31) (v := ?_) (a' := ?_) #[true, true, true, true, true, true, true, true, true, true, true, true, true, true, true, true, false, false, false, false] rfl rfl (by kernel_rfl) (fun _ _ _ h => h) (Or.inl ⟨wanted_on rfl rfl rfl rfl, ?_⟩) ?_ ?_
      rotate_left
      · intro w'
        go_simp
        with_reducible rfl
      rotate_left
      · simp only [Act.put, List.setIfInBounds_toArray, List.set_cons_zero, List.set_cons_succ, i64_w, i32_w]
        rfl
      refine pure_ (i := 16) (N := some 32) (v := ?_) (a' := ?_) #[true, true, true, true, true, true, true, true, true, true, true, true, true, true, true, true, true, false, false, false] rfl rfl (by kernel_rfl) (fun _ _ _ h => h) (Or.inl ⟨wanted_on rfl rfl rfl rfl, ?_⟩) ?_ ?_
      rotate_left
      · intro w'
        go_simp
        with_reducible rfl
      rotate_left
      · simp only [Act.put, List.setIfInBounds_toArray, List.set_cons_zero, List.set_cons_succ, i64_w, i32_w]
        rfl
      refine pure_ (i := 17) (N := some 33) (v := ?_) (a' := ?_) #[true, true, true, true, true, true, true, true, true, true, true, true, true, true, true, true, true, true, false, false] rfl rfl (by kernel_rfl) (fun _ _ _ h => h) (Or.inl ⟨wanted_on rfl rfl rfl rfl, ?_⟩) ?_ ?_
      rotate_left
      · intro w'
        go_simp
        with_reducible rfl
      rotate_left
      · simp only [Act.put, List.setIfInBounds_toArray, List.set_cons_zero, List.set_cons_succ, i64_w, i32_w]
        rfl
      refine pure_ (i := 18) (N := some 34) (v := ?_) (a' := ?_) #[true, true, true, true, true, true, true, true, true, true, true, true, true, true, true, true, true, true, true, false] rfl rfl (by kernel_rfl) (fun _ _ _ h => h) (Or.inl ⟨by rfl, ?_⟩) ?_ ?_
      rotate_left
      · intro w'
        go_simp
        with_reducible rfl
      rotate_left
      · simp only [Act.put, List.setIfInBounds_toArray, List.set_cons_zero, List.set_cons_succ, i64_w, i32_w]
        rfl
      refine pure_ (i := 19) (N := some 15) (v := ?_) (a' := ?_) #[true, true, true, true, true, true, true, true, true, true, true, true, true, true, true, true, true, true, true, true] rfl rfl (by kernel_rfl) (fun _ _ _ h => h) (Or.inl ⟨by rfl, ?_⟩) ?_ ?_
      rotate_left
      · intro w'
        go_simp
        with_reducible rfl
      rotate_left
      · simp only [Act.put, List.setIfInBounds_toArray, List.set_cons_zero, List.set_cons_succ, i64_w, i32_w]
        rfl
      refine done_ (by kernel_rfl) ?_
      go_upto_region 5 with (fail)
      obtain ⟨w20, hw20⟩ : ∃ w20 : World, w11.drew = w20 := ⟨_, rfl⟩
      have hb20 : Below w11.heap.size w11 w20 := by rw [← hw20]; exact below_drew (Below.refl _ _)
      have HX20 := Aside0.mk (St.below (s := blk) HX11.out hb20)
      have B20 := Aside0.mk (Below.trans B11.out (Below.mono hb20 (Below.size B11.out)))
      clear hb20
      refine start_ (n := 13) (S := fun w' => w'.cell? ⟨g, 1, none⟩ = some (.slice A1 l1.length k1) ∧ w'.cell? ⟨W.heap.size, 0, none⟩ = some (.int .i64 q) ∧ w'.cell? ⟨W.heap.size, 1, none⟩ = some (.int .i64 p)) (ds := []) #[false, false, false, false, false, false, false, false, false, false, false, false, false] (by kernel_rfl) rfl rfl (by rw [hw20]; exact ⟨blk_cell ((B20.out.block g HG.out).trans HBK.out) 1, blk_cell (blk_at HX20.out) 0, blk_cell (blk_at HX20.out) 1⟩) (fun hHeld => ?_)
      rw [hw20] at hHeld ⊢
      refine pure_ (i := 0) (N := some 36) (v := ?_) (a' := ?_) #[true, false, false, false, false, false, false, false, false, false, false, false, false] rfl rfl (by kernel_rfl) (fun _ _ _ h => h) (Or.inl ⟨by rfl, ?_⟩) ?_ ?_
      rotate_left
      · intro w'
        go_simp
        with_reducible rfl
      rotate_left
      · simp only [Act.put, List.setIfInBounds_toArray, List.set_cons_zero, List.set_cons_succ, i64_w, i32_w]
        rfl
      refine pure_ (i := 1) (N := some 37) (v := ?_) (a' := ?_) #[true, true, false, false, false, false, false, false, false, false, false, false, false] rfl rfl (by kernel_rfl) (fun _ _ _ h => h) (Or.inl ⟨by rfl, ?_⟩) ?_ ?_
      rotate_left
      · intro w'
        go_simp
        with_reducible rfl
      rotate_left
      · simp only [Act.put, List.setIfInBounds_toArray, List.set_cons_zero, List.set_cons_succ, i64_w, i32_w]
        rfl
      refine pure_ (i := 2) (N := some 38) (v := ?_) (a' := ?_) #[true, true, true, false, false, false, false, false, false, false, false, false, false] rfl rfl (by kernel_rfl) (fun _ _ _ h => h) (Or.inl ⟨by rfl, ?_⟩) ?_ ?_
      rotate_left
      · intro w'
        go_simp
        with_reducible rfl
      rotate_left
      · simp only [Act.put, List.setIfInBounds_toArray, List.set_cons_zero, List.set_cons_succ, i64_w, i32_w]
        rfl
      refine pure_ (i := 3) (N := some 39) (v := ?_) (a' := ?_) #[true, true, true, true, false, false, false, false, false, false, false, false, false] rfl rfl (by kernel_rfl) (fun _ _ _ h => h) (Or.inl ⟨by rfl, ?_⟩) ?_ ?_
      rotate_left
      · intro w'
        go_simp
        with_reducible rfl
      rotate_left
      · simp only [Act.put, List.setIfInBounds_toArray, List.set_cons_zero, List.set_cons_succ, i64_w, i32_w]
        rfl
      refine take_ (i := 4) (N := some 40) (v := ?_) (a' := ?_) #[true, true, true, true, true, false, false, false, false, false, false, false, false] rfl rfl (by kernel_rfl) (fun _ _ _ h => h) (Or.inl ⟨by rfl, ?_⟩) hHeld ?_ ?_
      rotate_left
      · intro w' hS_
        obtain ⟨s0_, s1_, s2_⟩ := hS_
        go_simp
        with_reducible rfl
      rotate_left
      · simp only [Act.put, List.setIfInBounds_toArray, List.set_cons_zero, List.set_cons_succ, i64_w, i32_w]
        rfl
      refine take_ (i := 6) (N := some 42) (v := ?_) (a' := ?_) #[true, true, true, true, true, false, true, false, false, false, false, false, false] rfl rfl (by kernel_rfl) (fun _ _ _ h => h) (Or.inl ⟨by rfl, ?_⟩) hHeld ?_ ?_
      rotate_left
      · intro w' hS_
        obtain ⟨s0_, s1_, s2_⟩ := hS_
        go_simp
        with_reducible rfl
      rotate_left
      · simp only [Act.put, List.setIfInBounds_toArray, List.set_cons_zero, List.set_cons_succ, i64_w, i32_w]
        rfl
      refine pure_ (i := 9) (N := some 45) (v := ?_) (a' := ?_) #[true, true, true, true, true, false, true, false, false, true, false, false, false] rfl rfl (by kernel_rfl) (fun _ _ _ h => h) (Or.inl ⟨by rfl, ?_⟩) ?_ ?_
      rotate_left
      · intro w'
        go_simp
        with_reducible rfl
      rotate_left
      · simp only [Act.put, List.setIfInBounds_toArray, List.set_cons_zero, List.set_cons_succ, i64_w, i32_w]
        rfl
      refine two_ (i := 5) (j := 7) (Ni := some 41) (Nj := some 43) #[true, true, true, true, true, true, true, false, false, true, false, false, false] #[true, true, true, true, true, false, true, true, false, true, false, false, false] rfl rfl rfl rfl (by kernel_rfl) (by decide) (by decide) (fun K hK => ?_) (fun K hK => ?_)
      · skip
        refine goes_ Try.func27 (by kernel_rfl) rfl #[.slice A1 l1.length k1] ?hw rfl rfl ?hx ?_
        (case hw => rfl)
        (case hx => (try simp only [List.map_toArray, List.map_cons, List.map_nil]); first | done | rfl)
        refine (admit_pairs.calls (l1.length + 1) A1 k1 l1 (prs l1) _ (Kd.C_below HR1.out B20.out) HK1.out HPF.out).mono ?_
        rintro e wqx5 ⟨vqx5, rfl, rqx5, bqx5⟩
        obtain ⟨cqx5, hqx5, tqx5⟩ := row_got (w0 := W) c1 1 rqx5 bqx5 (Below.size B20.out)
        obtain ⟨Aqx5, kqx5, rfl⟩ := Kd.R_slice rqx5
        have HPqx5 := Aside0.mk (show (row 24 k24).M wqx5 W.heap.size (fun k => cqx5 k = 1) (prs l1) (.slice Aqx5 (prs l1).length kqx5) from hqx5)
        have HXqx5 := Aside0.mk (tqx5.keep _ (blk) 3 _ _ (by decide) HX20.out)
        have Bqx5 := Aside0.mk (tqx5.far B20.out)
        clear rqx5 bqx5 hqx5 tqx5
        refine ⟨_, rfl, ?_⟩
        have hHeld := (show _ = some (Value.slice A1 l1.length k1) ∧ _ = some (Value.int IntKind.i64 q) ∧ _ = some (Value.int IntKind.i64 p) from ⟨blk_cell ((Bqx5.out.block g HG.out).trans HBK.out) 1, blk_cell (blk_at HXqx5.out) 0, blk_cell (blk_at HXqx5.out) 1⟩)
        refine hK.out _ _ hHeld (fun hHeld => ?_)
        clear hK K
        refine norm_ (a' := ?_) ?_ ?_
        rotate_left
        · show Act.put _ (some 41) _ = _
          simp only [Act.put, List.setIfInBounds_toArray, List.set_cons_zero, List.set_cons_succ, i64_w, i32_w]
          rfl
        refine one_ (i := 7) (N := some 43) #[true, true, true, true, true, true, true, true, false, true, false, false, false] rfl rfl (by kernel_rfl) (by decide) (fun K hK => ?_)
        refine lit_step (e := 24) (c := cqx5) (w0 := W) k24 2 ?hg (N := 43) ?hd ([⟨q, p⟩] : List S24) [.int .i64 q, .int .i64 p] ?hr ?hp ?hs (by simp) ?_
        (case hd => rfl)
        (case hg => rfl)
        (case hp => exact reps_one _ _ _ _)
        (case hr => first | (go_simp; done) | (go_simp; rfl))
        (case hs => exact Below.size Bqx5.out)
        intro vqx5x7 wqx5x7 cqx5x7 hqx5x7 tqx5x7
        obtain ⟨Aqx5x7, kqx5x7, rfl, -, -⟩ := row_reads hqx5x7
        have HQqx5x7 := Aside0.mk (show (row 24 k24).M wqx5x7 W.heap.size (fun k => cqx5x7 k = 2) ([⟨q, p⟩] : List S24) (.slice Aqx5x7 ([⟨q, p⟩] : List S24).length kqx5x7) from hqx5x7)
        have HXqx5x7 := Aside0.mk (tqx5x7.keep _ (blk) 3 _ _ (by decide) HXqx5.out)
        have HPqx5x7 := Aside0.mk (tqx5x7.keep _ (row 24 k24) 1 _ _ (by decide) HPqx5.out)
        have Bqx5x7 := Aside0.mk (tqx5x7.far Bqx5.out)
        clear hqx5x7 tqx5x7
        have hHeld := (show _ = some (Value.slice A1 l1.length k1) ∧ _ = some (Value.int IntKind.i64 q) ∧ _ = some (Value.int IntKind.i64 p) from ⟨blk_cell ((Bqx5x7.out.block g HG.out).trans HBK.out) 1, blk_cell (blk_at HXqx5x7.out) 0, blk_cell (blk_at HXqx5x7.out) 1⟩)
        refine hK.out _ _ hHeld (fun hHeld => ?_)
        clear hK K
        refine norm_ (a' := ?_) ?_ ?_
        rotate_left
        · show Act.put _ (some 43) _ = _
          simp only [Act.put, List.setIfInBounds_toArray, List.set_cons_zero, List.set_cons_succ, i64_w, i32_w]
          rfl
        refine one_ (i := 8) (N := some 44) #[true, true, true, true, true, true, true, true, true, true, false, false, false] rfl rfl (by kernel_rfl) (by decide) (fun K hK => ?_)
        refine app_step (e := 24) (c := cqx5x7) (w0 := W) (d := k24) (i := 1) (by rfl) (.tmp 41) (.tmp 43) 51 (.agg #[.int .i64 0, .int .i64 0]) 16 rfl Try.underlying51 info_pair rfl (by decide) (by decide) flat24 (.slice Aqx5 (prs l1).length kqx5) (prs l1) ([⟨q, p⟩] : List S24) _ _ _ rfl rfl HPqx5x7.out (row_C HQqx5x7.out) ?hs (by have := HL.out; rw [prs_len]; show (_ + 1) * 16 ≤ _; omega) ?_
        (case hs => exact Below.size Bqx5x7.out)
        intro vqx5x7x8 wqx5x7x8 cqx5x7x8 hqx5x7x8 tqx5x7x8
        obtain ⟨Aqx5x7x8, kqx5x7x8, rfl, -, -⟩ := row_reads hqx5x7x8
        have HPqx5x7x8 := Aside0.mk (show (row 24 k24).M wqx5x7x8 W.heap.size (fun k => cqx5x7x8 k = 1) (prs l1 ++ ([⟨q, p⟩] : List S24)) (.slice Aqx5x7x8 (prs l1 ++ ([⟨q, p⟩] : List S24)).length kqx5x7x8) from hqx5x7x8)
        have HXqx5x7x8 := Aside0.mk (tqx5x7x8.keep _ (blk) 3 _ _ (by decide) HXqx5x7.out)
        have HQqx5x7x8 := Aside0.mk (tqx5x7x8.keep _ (row 24 k24) 2 _ _ (by decide) HQqx5x7.out)
        have Bqx5x7x8 := Aside0.mk (tqx5x7x8.far Bqx5x7.out)
        clear hqx5x7x8 tqx5x7x8
        have hHeld := (show _ = some (Value.slice A1 l1.length k1) ∧ _ = some (Value.int IntKind.i64 q) ∧ _ = some (Value.int IntKind.i64 p) from ⟨blk_cell ((Bqx5x7x8.out.block g HG.out).trans HBK.out) 1, blk_cell (blk_at HXqx5x7x8.out) 0, blk_cell (blk_at HXqx5x7x8.out) 1⟩)
        refine hK.out _ _ hHeld (fun hHeld => ?_)
        clear hK K
        refine norm_ (a' := ?_) ?_ ?_
        rotate_left
        · show Act.put _ (some 44) _ = _
          simp only [Act.put, List.setIfInBounds_toArray, List.set_cons_zero, List.set_cons_succ, i64_w, i32_w]
          rfl
        refine one_ (i := 10) (N := some 46) #[true, true, true, true, true, true, true, true, true, true, true, false, false] rfl rfl (by kernel_rfl) (by decide) (fun K hK => ?_)
        refine goes_ Try.func26 (by kernel_rfl) rfl #[.pointer (some ⟨g, 0, none⟩), .slice Aqx5x7x8 (prs l1 ++ ([⟨q, p⟩] : List S24)).length kqx5x7x8, .int .i64 now] ?hw rfl rfl ?hx ?_
        (case hw => rfl)
        (case hx => (try simp only [List.map_toArray, List.map_cons, List.map_nil]); first | done | rfl)
        refine (fits_calls (w0 := W) (c := cqx5x7x8) (j := 1) (m := m) (sv1 := .slice A1 l1.length k1) (A2 := A2) (k2 := k2) (l2 := l2) (ps := prs l1 ++ ([⟨q, p⟩] : List S24)) now HBK.out HR2.out HL.out.2 Bqx5x7x8.out HPqx5x7x8.out (by have := HL.out; rw [List.length_append, prs_len]; show _ + 1 ≤ _; omega) HM.out HOK.out).mono ?_
        rintro e wqx5x7x8x10 ⟨rfl, cqx5x7x8x10, tqx5x7x8x10⟩
        rw [HFB.out]
        have HXqx5x7x8x10 := Aside0.mk (tqx5x7x8x10.keep _ blk 3 _ _ (by decide) HXqx5x7x8.out)
        have Bqx5x7x8x10 := Aside0.mk (tqx5x7x8x10.far Bqx5x7x8.out)
        clear tqx5x7x8x10
        refine ⟨_, rfl, ?_⟩
        have hHeld := (show _ = some (Value.slice A1 l1.length k1) ∧ _ = some (Value.int IntKind.i64 q) ∧ _ = some (Value.int IntKind.i64 p) from ⟨blk_cell ((Bqx5x7x8x10.out.block g HG.out).trans HBK.out) 1, blk_cell (blk_at HXqx5x7x8x10.out) 0, blk_cell (blk_at HXqx5x7x8x10.out) 1⟩)
        refine hK.out _ _ hHeld (fun hHeld => ?_)
        clear hK K
        refine norm_ (a' := ?_) ?_ ?_
        rotate_left
        · show Act.put _ (some 46) _ = _
          simp only [Act.put, List.setIfInBounds_toArray, List.set_cons_zero, List.set_cons_succ, i64_w, i32_w]
          rfl
        refine pure_ (i := 11) (N := some 47) (v := ?_) (a' := ?_) #[true, true, true, true, true, true, true, true, true, true, true, true, false] rfl rfl (by kernel_rfl) (fun _ _ _ h => h) (Or.inl ⟨by rfl, ?_⟩) ?_ ?_
        rotate_left
        · intro w'
          go_simp
          with_reducible rfl
        rotate_left
        · simp only [Act.put, List.setIfInBounds_toArray, List.set_cons_zero, List.set_cons_succ, i64_w, i32_w]
          rfl
        refine pure_ (i := 12) (N := some 35) (v := ?_) (a' := ?_) #[true, true, true, true, true, true, true, true, true, true, true, true, true] rfl rfl (by kernel_rfl) (fun _ _ _ h => h) (Or.inl ⟨by rfl, ?_⟩) ?_ ?_
        rotate_left
        · intro w'
          go_simp
          with_reducible rfl
        rotate_left
        · simp only [Act.put, List.setIfInBounds_toArray, List.set_cons_zero, List.set_cons_succ, i64_w, i32_w]
          rfl
        refine done_ (by kernel_rfl) ?_
        go_wp2
        go_ret
        exact ⟨by rw [HV.out]; rfl, Bqx5x7x8x10.out⟩
      · skip
        refine lit_step (e := 24) (c := c1) (w0 := W) k24 2 ?hg (N := 43) ?hd ([⟨q, p⟩] : List S24) [.int .i64 q, .int .i64 p] ?hr ?hp ?hs (by simp) ?_
        (case hd => rfl)
        (case hg => rfl)
        (case hp => exact reps_one _ _ _ _)
        (case hr => first | (go_simp; done) | (go_simp; rfl))
        (case hs => exact Below.size B20.out)
        intro vqx7 wqx7 cqx7 hqx7 tqx7
        obtain ⟨Aqx7, kqx7, rfl, -, -⟩ := row_reads hqx7
        have HQqx7 := Aside0.mk (show (row 24 k24).M wqx7 W.heap.size (fun k => cqx7 k = 2) ([⟨q, p⟩] : List S24) (.slice Aqx7 ([⟨q, p⟩] : List S24).length kqx7) from hqx7)
        have HXqx7 := Aside0.mk (tqx7.keep _ (blk) 3 _ _ (by decide) HX20.out)
        have Bqx7 := Aside0.mk (tqx7.far B20.out)
        clear hqx7 tqx7
        have hHeld := (show _ = some (Value.slice A1 l1.length k1) ∧ _ = some (Value.int IntKind.i64 q) ∧ _ = some (Value.int IntKind.i64 p) from ⟨blk_cell ((Bqx7.out.block g HG.out).trans HBK.out) 1, blk_cell (blk_at HXqx7.out) 0, blk_cell (blk_at HXqx7.out) 1⟩)
        refine hK.out _ _ hHeld (fun hHeld => ?_)
        clear hK K
        refine norm_ (a' := ?_) ?_ ?_
        rotate_left
        · show Act.put _ (some 43) _ = _
          simp only [Act.put, List.setIfInBounds_toArray, List.set_cons_zero, List.set_cons_succ, i64_w, i32_w]
          rfl
        refine one_ (i := 5) (N := some 41) #[true, true, true, true, true, true, true, true, false, true, false, false, false] rfl rfl (by kernel_rfl) (by decide) (fun K hK => ?_)
        refine goes_ Try.func27 (by kernel_rfl) rfl #[.slice A1 l1.length k1] ?hw rfl rfl ?hx ?_
        (case hw => rfl)
        (case hx => (try simp only [List.map_toArray, List.map_cons, List.map_nil]); first | done | rfl)
        refine (admit_pairs.calls (l1.length + 1) A1 k1 l1 (prs l1) _ (Kd.C_below HR1.out Bqx7.out) HK1.out HPF.out).mono ?_
        rintro e wqx7x5 ⟨vqx7x5, rfl, rqx7x5, bqx7x5⟩
        obtain ⟨cqx7x5, hqx7x5, tqx7x5⟩ := row_got (w0 := W) cqx7 1 rqx7x5 bqx7x5 (Below.size Bqx7.out)
        obtain ⟨Aqx7x5, kqx7x5, rfl⟩ := Kd.R_slice rqx7x5
        have HPqx7x5 := Aside0.mk (show (row 24 k24).M wqx7x5 W.heap.size (fun k => cqx7x5 k = 1) (prs l1) (.slice Aqx7x5 (prs l1).length kqx7x5) from hqx7x5)
        have HXqx7x5 := Aside0.mk (tqx7x5.keep _ (blk) 3 _ _ (by decide) HXqx7.out)
        have HQqx7x5 := Aside0.mk (tqx7x5.keep _ (row 24 k24) 2 _ _ (by decide) HQqx7.out)
        have Bqx7x5 := Aside0.mk (tqx7x5.far Bqx7.out)
        clear rqx7x5 bqx7x5 hqx7x5 tqx7x5
        refine ⟨_, rfl, ?_⟩
        have hHeld := (show _ = some (Value.slice A1 l1.length k1) ∧ _ = some (Value.int IntKind.i64 q) ∧ _ = some (Value.int IntKind.i64 p) from ⟨blk_cell ((Bqx7x5.out.block g HG.out).trans HBK.out) 1, blk_cell (blk_at HXqx7x5.out) 0, blk_cell (blk_at HXqx7x5.out) 1⟩)
        refine hK.out _ _ hHeld (fun hHeld => ?_)
        clear hK K
        refine norm_ (a' := ?_) ?_ ?_
        rotate_left
        · show Act.put _ (some 41) _ = _
          simp only [Act.put, List.setIfInBounds_toArray, List.set_cons_zero, List.set_cons_succ, i64_w, i32_w]
          rfl
        refine one_ (i := 8) (N := some 44) #[true, true, true, true, true, true, true, true, true, true, false, false, false] rfl rfl (by kernel_rfl) (by decide) (fun K hK => ?_)
        refine app_step (e := 24) (c := cqx7x5) (w0 := W) (d := k24) (i := 1) (by rfl) (.tmp 41) (.tmp 43) 51 (.agg #[.int .i64 0, .int .i64 0]) 16 rfl Try.underlying51 info_pair rfl (by decide) (by decide) flat24 (.slice Aqx7x5 (prs l1).length kqx7x5) (prs l1) ([⟨q, p⟩] : List S24) _ _ _ rfl rfl HPqx7x5.out (row_C HQqx7x5.out) ?hs (by have := HL.out; rw [prs_len]; show (_ + 1) * 16 ≤ _; omega) ?_
        (case hs => exact Below.size Bqx7x5.out)
        intro vqx7x5x8 wqx7x5x8 cqx7x5x8 hqx7x5x8 tqx7x5x8
        obtain ⟨Aqx7x5x8, kqx7x5x8, rfl, -, -⟩ := row_reads hqx7x5x8
        have HPqx7x5x8 := Aside0.mk (show (row 24 k24).M wqx7x5x8 W.heap.size (fun k => cqx7x5x8 k = 1) (prs l1 ++ ([⟨q, p⟩] : List S24)) (.slice Aqx7x5x8 (prs l1 ++ ([⟨q, p⟩] : List S24)).length kqx7x5x8) from hqx7x5x8)
        have HXqx7x5x8 := Aside0.mk (tqx7x5x8.keep _ (blk) 3 _ _ (by decide) HXqx7x5.out)
        have HQqx7x5x8 := Aside0.mk (tqx7x5x8.keep _ (row 24 k24) 2 _ _ (by decide) HQqx7x5.out)
        have Bqx7x5x8 := Aside0.mk (tqx7x5x8.far Bqx7x5.out)
        clear hqx7x5x8 tqx7x5x8
        have hHeld := (show _ = some (Value.slice A1 l1.length k1) ∧ _ = some (Value.int IntKind.i64 q) ∧ _ = some (Value.int IntKind.i64 p) from ⟨blk_cell ((Bqx7x5x8.out.block g HG.out).trans HBK.out) 1, blk_cell (blk_at HXqx7x5x8.out) 0, blk_cell (blk_at HXqx7x5x8.out) 1⟩)
        refine hK.out _ _ hHeld (fun hHeld => ?_)
        clear hK K
        refine norm_ (a' := ?_) ?_ ?_
        rotate_left
        · show Act.put _ (some 44) _ = _
          simp only [Act.put, List.setIfInBounds_toArray, List.set_cons_zero, List.set_cons_succ, i64_w, i32_w]
          rfl
        refine one_ (i := 10) (N := some 46) #[true, true, true, true, true, true, true, true, true, true, true, false, false] rfl rfl (by kernel_rfl) (by decide) (fun K hK => ?_)
        refine goes_ Try.func26 (by kernel_rfl) rfl #[.pointer (some ⟨g, 0, none⟩), .slice Aqx7x5x8 (prs l1 ++ ([⟨q, p⟩] : List S24)).length kqx7x5x8, .int .i64 now] ?hw rfl rfl ?hx ?_
        (case hw => rfl)
        (case hx => (try simp only [List.map_toArray, List.map_cons, List.map_nil]); first | done | rfl)
        refine (fits_calls (w0 := W) (c := cqx7x5x8) (j := 1) (m := m) (sv1 := .slice A1 l1.length k1) (A2 := A2) (k2 := k2) (l2 := l2) (ps := prs l1 ++ ([⟨q, p⟩] : List S24)) now HBK.out HR2.out HL.out.2 Bqx7x5x8.out HPqx7x5x8.out (by have := HL.out; rw [List.length_append, prs_len]; show _ + 1 ≤ _; omega) HM.out HOK.out).mono ?_
        rintro e wqx7x5x8x10 ⟨rfl, cqx7x5x8x10, tqx7x5x8x10⟩
        rw [HFB.out]
        have HXqx7x5x8x10 := Aside0.mk (tqx7x5x8x10.keep _ blk 3 _ _ (by decide) HXqx7x5x8.out)
        have Bqx7x5x8x10 := Aside0.mk (tqx7x5x8x10.far Bqx7x5x8.out)
        clear tqx7x5x8x10
        refine ⟨_, rfl, ?_⟩
        have hHeld := (show _ = some (Value.slice A1 l1.length k1) ∧ _ = some (Value.int IntKind.i64 q) ∧ _ = some (Value.int IntKind.i64 p) from ⟨blk_cell ((Bqx7x5x8x10.out.block g HG.out).trans HBK.out) 1, blk_cell (blk_at HXqx7x5x8x10.out) 0, blk_cell (blk_at HXqx7x5x8x10.out) 1⟩)
        refine hK.out _ _ hHeld (fun hHeld => ?_)
        clear hK K
        refine norm_ (a' := ?_) ?_ ?_
        rotate_left
        · show Act.put _ (some 46) _ = _
          simp only [Act.put, List.setIfInBounds_toArray, List.set_cons_zero, List.set_cons_succ, i64_w, i32_w]
          rfl
        refine pure_ (i := 11) (N := some 47) (v := ?_) (a' := ?_) #[true, true, true, true, true, true, true, true, true, true, true, true, false] rfl rfl (by kernel_rfl) (fun _ _ _ h => h) (Or.inl ⟨by rfl, ?_⟩) ?_ ?_
        rotate_left
        · intro w'
          go_simp
          with_reducible rfl
        rotate_left
        · simp only [Act.put, List.setIfInBounds_toArray, List.set_cons_zero, List.set_cons_succ, i64_w, i32_w]
          rfl
        refine pure_ (i := 12) (N := some 35) (v := ?_) (a' := ?_) #[true, true, true, true, true, true, true, true, true, true, true, true, true] rfl rfl (by kernel_rfl) (fun _ _ _ h => h) (Or.inl ⟨by rfl, ?_⟩) ?_ ?_
        rotate_left
        · intro w'
          go_simp
          with_reducible rfl
        rotate_left
        · simp only [Act.put, List.setIfInBounds_toArray, List.set_cons_zero, List.set_cons_succ, i64_w, i32_w]
          rfl
        refine done_ (by kernel_rfl) ?_
        go_wp2
        go_ret
        exact ⟨by rw [HV.out]; rfl, Bqx7x5x8x10.out⟩
    | true =>
      have HV := Aside0.mk (show av = 0 from by rw [HA3.out, HF2.out, if_pos rfl])
      have y0 := blk_cell (blk_at HX1.out) 0
      have y1 := blk_cell (blk_at HX1.out) 1
      go_upto_region 3 with (first | (go_at_call 22; (with_reducible refine (win_Good.calls q p _ _ (good_f q p)).mono ?_); rintro e w2 ⟨rfl, hb2⟩; rw [GB.out]; have HX2 := Aside0.mk (St.below (s := blk) HX1.out hb2); have B2 := Aside0.mk (Below.trans B1.out (Below.mono hb2 (Below.size B1.out))); clear hb2 y0 y1))
      obtain ⟨w10, hw10⟩ : ∃ w10 : World, w2.drew = w10 := ⟨_, rfl⟩
      have hb10 : Below w2.heap.size w2 w10 := by rw [← hw10]; exact below_drew (Below.refl _ _)
      have HX10 := Aside0.mk (St.below (s := blk) HX2.out hb10)
      have B10 := Aside0.mk (Below.trans B2.out (Below.mono hb10 (Below.size B2.out)))
      clear hb10
      refine start_ (n := 20) (S := fun w' => w'.cell? ⟨g, 1, none⟩ = some (.slice A1 l1.length k1)) (ds := []) #[false, false, false, false, false, false, false, false, false, false, false, false, false, false, false, false, false, false, false, false] (by kernel_rfl) rfl rfl (by rw [hw10]; exact blk_cell ((B10.out.block g HG.out).trans HBK.out) 1) (fun hHeld => ?_)
      refine pure_ (i := 0) (N := some 16) (v := ?_) (a' := ?_) #[true, false, false, false, false, false, false, false, false, false, false, false, false, false, false, false, false, false, false, false] rfl rfl (by kernel_rfl) (fun _ _ _ h => h) (Or.inl ⟨by rfl, ?_⟩) ?_ ?_
      rotate_left
      · intro w'
        go_simp
        with_reducible rfl
      rotate_left
      · simp only [Act.put, List.setIfInBounds_toArray, List.set_cons_zero, List.set_cons_succ, i64_w, i32_w]
        rfl
      refine pure_ (i := 1) (N := some 17) (v := ?_) (a' := ?_) #[true, true, false, false, false, false, false, false, false, false, false, false, false, false, false, false, false, false, false, false] rfl rfl (by kernel_rfl) (fun _ _ _ h => h) (Or.inl ⟨by rfl, ?_⟩) ?_ ?_
      rotate_left
      · intro w'
        go_simp
        with_reducible rfl
      rotate_left
      · simp only [Act.put, List.setIfInBounds_toArray, List.set_cons_zero, List.set_cons_succ, i64_w, i32_w]
        rfl
      refine pure_ (i := 2) (N := some 18) (v := ?_) (a' := ?_) #[true, true, true, false, false, false, false, false, false, false, false, false, false, false, false, false, false, false, false, false] rfl rfl (by kernel_rfl) (fun _ _ _ h => h) (Or.inl ⟨by rfl, ?_⟩) ?_ ?_
      rotate_left
      · intro w'
        go_simp
        with_reducible rfl
      rotate_left
      · simp only [Act.put, List.setIfInBounds_toArray, List.set_cons_zero, List.set_cons_succ, i64_w, i32_w]
        rfl
      refine take_ (i := 3) (N := some 19) (v := ?_) (a' := ?_) #[true, true, true, true, false, false, false, false, false, false, false, false, false, false, false, false, false, false, false, false] rfl rfl (by kernel_rfl) (fun _ _ _ h => h) (Or.inl ⟨by rfl, ?_⟩) hHeld ?_ ?_
      rotate_left
      · intro w' hS_
        obtain s0_ := hS_
        go_simp
        with_reducible rfl
      rotate_left
      · simp only [Act.put, List.setIfInBounds_toArray, List.set_cons_zero, List.set_cons_succ, i64_w, i32_w]
        rfl
      refine pure_ (i := 4) (N := some 20) (v := ?_) (a' := ?_) #[true, true, true, true, true, false, false, false, false, false, false, false, false, false, false, false, false, false, false, false] rfl rfl (by kernel_rfl) (fun _ _ _ h => h) (Or.inl ⟨by rfl, ?_⟩) ?_ ?_
      rotate_left
      · intro w'
        go_simp
        with_reducible rfl
      rotate_left
      · simp only [Act.put, List.setIfInBounds_toArray, List.set_cons_zero, List.set_cons_succ, i64_w, i32_w]
        rfl
      refine pure_ (i := 5) (N := some 21) (v := ?_) (a' := ?_) #[true, true, true, true, true, true, false, false, false, false, false, false, false, false, false, false, false, false, false, false] rfl rfl (by kernel_rfl) (fun _ _ _ h => h) (Or.inl ⟨by rfl, ?_⟩) ?_ ?_
      rotate_left
      · intro w'
        go_simp
        with_reducible rfl
      rotate_left
      · simp only [Act.put, List.setIfInBounds_toArray, List.set_cons_zero, List.set_cons_succ, i64_w, i32_w]
        rfl
      refine pure_ (i := 6) (N := some 22) (v := ?_) (a' := ?_) #[true, true, true, true, true, true, true, false, false, false, false, false, false, false, false, false, false, false, false, false] rfl rfl (by kernel_rfl) (fun _ _ _ h => h) (Or.inl ⟨by rfl, ?_⟩) ?_ ?_
      rotate_left
      · intro w'
        go_simp
        with_reducible rfl
      rotate_left
      · simp only [Act.put, List.setIfInBounds_toArray, List.set_cons_zero, List.set_cons_succ, i64_w, i32_w]
        rfl
      refine pure_ (i := 7) (N := some 23) (v := ?_) (a' := ?_) #[true, true, true, true, true, true, true, true, false, false, false, false, false, false, false, false, false, false, false, false] rfl rfl (by kernel_rfl) (fun _ _ _ h => h) (Or.inl ⟨wanted_on rfl rfl rfl rfl, ?_⟩) ?_ ?_
      rotate_left
      · intro w'
        go_simp
        with_reducible rfl
      rotate_left
      · simp only [Act.put, List.setIfInBounds_toArray, List.set_cons_zero, List.set_cons_succ, i64_w, i32_w]
        rfl
      refine pure_ (i := 8) (N := some 24) (v := ?_) (a' := ?_) #[true, true, true, true, true, true, true, true, true, false, false, false, false, false, false, false, false, false, false, false] rfl rfl (by kernel_rfl) (fun _ _ _ h => h) (Or.inl ⟨wanted_on rfl rfl rfl rfl, ?_⟩) ?_ ?_
      rotate_left
      · intro w'
        go_simp
        with_reducible rfl
      rotate_left
      · simp only [Act.put, List.setIfInBounds_toArray, List.set_cons_zero, List.set_cons_succ, i64_w, i32_w]
        rfl
      refine pure_ (i := 9) (N := some 25) (v := ?_) (a' := ?_) #[true, true, true, true, true, true, true, true, true, true, false, false, false, false, false, false, false, false, false, false] rfl rfl (by kernel_rfl) (fun _ _ _ h => h) (Or.inl ⟨wanted_on rfl rfl rfl rfl, ?_⟩) ?_ ?_
      rotate_left
      · intro w'
        go_simp
        with_reducible rfl
      rotate_left
      · simp only [Act.put, List.setIfInBounds_toArray, List.set_cons_zero, List.set_cons_succ, i64_w, i32_w]
        rfl
      refine take_ (i := 10) (N := some 26) (v := ?_) (a' := ?_) #[true, true, true, true, true, true, true, true, true, true, true, false, false, false, false, false, false, false, false, false] rfl rfl (by kernel_rfl) (fun _ _ _ h => h) (Or.inl ⟨wanted_on rfl rfl rfl rfl, ?_⟩) hHeld ?_ ?_
      rotate_left
      · intro w' hS_
        obtain s0_ := hS_
        go_simp
        with_reducible rfl
      rotate_left
      · simp only [Act.put, List.setIfInBounds_toArray, List.set_cons_zero, List.set_cons_succ, i64_w, i32_w]
        rfl
      refine pure_ (i := 11) (N := some 27) (v := ?_) (a' := ?_) #[true, true, true, true, true, true, true, true, true, true, true, true, false, false, false, false, false, false, false, false] rfl rfl (by kernel_rfl) (fun _ _ _ h => h) (Or.inl ⟨wanted_on rfl rfl rfl rfl, ?_⟩) ?_ ?_
      rotate_left
      · intro w'
        go_simp
        with_reducible rfl
      rotate_left
      · simp only [Act.put, List.setIfInBounds_toArray, List.set_cons_zero, List.set_cons_succ, i64_w, i32_w]
        rfl
      refine pure_ (i := 12) (N := some 28) (v := ?_) (a' := ?_) #[true, true, true, true, true, true, true, true, true, true, true, true, true, false, false, false, false, false, false, false] rfl rfl (by kernel_rfl) (fun _ _ _ h => h) (Or.inl ⟨wanted_on rfl rfl rfl rfl, ?_⟩) ?_ ?_
      rotate_left
      · intro w'
        go_simp
        with_reducible rfl
      rotate_left
      · simp only [Act.put, List.setIfInBounds_toArray, List.set_cons_zero, List.set_cons_succ, i64_w, i32_w]
        rfl
      refine pure_ (i := 13) (N := some 29) (v := ?_) (a' := ?_) #[true, true, true, true, true, true, true, true, true, true, true, true, true, true, false, false, false, false, false, false] rfl rfl (by kernel_rfl) (fun _ _ _ h => h) (Or.inl ⟨wanted_on rfl rfl rfl rfl, ?_⟩) ?_ ?_
      rotate_left
      · intro w'
        go_simp
        with_reducible rfl
      rotate_left
      · simp only [Act.put, List.setIfInBounds_toArray, List.set_cons_zero, List.set_cons_succ, i64_w, i32_w]
        rfl
      refine one_ (i := 14) (N := some 30) #[true, true, true, true, true, true, true, true, true, true, true, true, true, true, true, false, false, false, false, false] rfl rfl (by kernel_rfl) (by decide) (fun K hK => ?_)
      refine goes_ Try.func13 (by kernel_rfl) rfl #[.pointer (some ⟨g, 0, none⟩), .int .i64 now] ?hw rfl rfl ?hx ?_
      (case hw => exact wanted_on rfl rfl rfl rfl)
      (case hx => (try simp only [List.map_toArray, List.map_cons, List.map_nil]); first | done | rfl)
      rw [hw10]
      refine (lingers_calls (g := g) (c0 := .int .i64 m) (c1 := .slice A1 l1.length k1) (A2 := A2) (k2 := k2) (l := l2) now ((B10.out.block g HG.out).trans HBK.out) (Kd.C_below HR2.out B10.out) HL.out.2).mono ?_
      rintro e w11 ⟨v11, rfl, h11, b11⟩
      obtain ⟨A11, k11, rfl, -, -⟩ := row_reads h11
      rw [HLN.out]
      have HX11 := Aside0.mk (St.below (s := blk) HX10.out b11)
      have B11 := Aside0.mk (Below.trans B10.out (Below.mono b11 (Below.size B10.out)))
      clear h11 b11
      refine ⟨_, rfl, ?_⟩
      have hHeld := (show _ = some (Value.slice A1 l1.length k1) from blk_cell ((B11.out.block g HG.out).trans HBK.out) 1)
      refine hK.out _ _ hHeld (fun hHeld => ?_)
      clear hK K
      refine norm_ (a' := ?_) ?_ ?_
      rotate_left
      · show Act.put _ (some 30) _ = _
        simp only [Act.put, List.setIfInBounds_toArray, List.set_cons_zero, List.set_cons_succ, i64_w, i32_w]
        rfl
      refine pure_ (i := 15) (N := some 31) (v := ?_) (a' := ?_) #[true, true, true, true, true, true, true, true, true, true, true, true, true, true, true, true, false, false, false, false] rfl rfl (by kernel_rfl) (fun _ _ _ h => h) (Or.inl ⟨wanted_on rfl rfl rfl rfl, ?_⟩) ?_ ?_
      rotate_left
      · intro w'
        go_simp
        with_reducible rfl
      rotate_left
      · simp only [Act.put, List.setIfInBounds_toArray, List.set_cons_zero, List.set_cons_succ, i64_w, i32_w]
        rfl
      refine pure_ (i := 16) (N := some 32) (v := ?_) (a' := ?_) #[true, true, true, true, true, true, true, true, true, true, true, true, true, true, true, true, true, false, false, false] rfl rfl (by kernel_rfl) (fun _ _ _ h => h) (Or.inl ⟨wanted_on rfl rfl rfl rfl, ?_⟩) ?_ ?_
      rotate_left
      · intro w'
        go_simp
        with_reducible rfl
      rotate_left
      · simp only [Act.put, List.setIfInBounds_toArray, List.set_cons_zero, List.set_cons_succ, i64_w, i32_w]
        rfl
      refine pure_ (i := 17) (N := some 33) (v := ?_) (a' := ?_) #[true, true, true, true, true, true, true, true, true, true, true, true, true, true, true, true, true, true, false, false] rfl rfl (by kernel_rfl) (fun _ _ _ h => h) (Or.inl ⟨wanted_on rfl rfl rfl rfl, ?_⟩) ?_ ?_
      rotate_left
      · intro w'
        go_simp
        with_reducible rfl
      rotate_left
      · simp only [Act.put, List.setIfInBounds_toArray, List.set_cons_zero, List.set_cons_succ, i64_w, i32_w]
        rfl
      refine pure_ (i := 18) (N := some 34) (v := ?_) (a' := ?_) #[true, true, true, true, true, true, true, true, true, true, true, true, true, true, true, true, true, true, true, false] rfl rfl (by kernel_rfl) (fun _ _ _ h => h) (Or.inl ⟨by rfl, ?_⟩) ?_ ?_
      rotate_left
      · intro w'
        go_simp
        with_reducible rfl
      rotate_left
      · simp only [Act.put, List.setIfInBounds_toArray, List.set_cons_zero, List.set_cons_succ, i64_w, i32_w]
        rfl
      refine pure_ (i := 19) (N := some 15) (v := ?_) (a' := ?_) #[true, true, true, true, true, true, true, true, true, true, true, true, true, true, true, true, true, true, true, true] rfl rfl (by kernel_rfl) (fun _ _ _ h => h) (Or.inl ⟨by rfl, ?_⟩) ?_ ?_
      rotate_left
      · intro w'
        go_simp
        with_reducible rfl
      rotate_left
      · simp only [Act.put, List.setIfInBounds_toArray, List.set_cons_zero, List.set_cons_succ, i64_w, i32_w]
        rfl
      refine done_ (by kernel_rfl) ?_
      go_upto_region 5 with (fail)
      obtain ⟨w20, hw20⟩ : ∃ w20 : World, w11.drew = w20 := ⟨_, rfl⟩
      have hb20 : Below w11.heap.size w11 w20 := by rw [← hw20]; exact below_drew (Below.refl _ _)
      have HX20 := Aside0.mk (St.below (s := blk) HX11.out hb20)
      have B20 := Aside0.mk (Below.trans B11.out (Below.mono hb20 (Below.size B11.out)))
      clear hb20
      refine start_ (n := 13) (S := fun w' => w'.cell? ⟨g, 1, none⟩ = some (.slice A1 l1.length k1) ∧ w'.cell? ⟨W.heap.size, 0, none⟩ = some (.int .i64 q) ∧ w'.cell? ⟨W.heap.size, 1, none⟩ = some (.int .i64 p)) (ds := []) #[false, false, false, false, false, false, false, false, false, false, false, false, false] (by kernel_rfl) rfl rfl (by rw [hw20]; exact ⟨blk_cell ((B20.out.block g HG.out).trans HBK.out) 1, blk_cell (blk_at HX20.out) 0, blk_cell (blk_at HX20.out) 1⟩) (fun hHeld => ?_)
      rw [hw20] at hHeld ⊢
      refine pure_ (i := 0) (N := some 36) (v := ?_) (a' := ?_) #[true, false, false, false, false, false, false, false, false, false, false, false, false] rfl rfl (by kernel_rfl) (fun _ _ _ h => h) (Or.inl ⟨by rfl, ?_⟩) ?_ ?_
      rotate_left
      · intro w'
        go_simp
        with_reducible rfl
      rotate_left
      · simp only [Act.put, List.setIfInBounds_toArray, List.set_cons_zero, List.set_cons_succ, i64_w, i32_w]
        rfl
      refine pure_ (i := 1) (N := some 37) (v := ?_) (a' := ?_) #[true, true, false, false, false, false, false, false, false, false, false, false, false] rfl rfl (by kernel_rfl) (fun _ _ _ h => h) (Or.inl ⟨by rfl, ?_⟩) ?_ ?_
      rotate_left
      · intro w'
        go_simp
        with_reducible rfl
      rotate_left
      · simp only [Act.put, List.setIfInBounds_toArray, List.set_cons_zero, List.set_cons_succ, i64_w, i32_w]
        rfl
      refine pure_ (i := 2) (N := some 38) (v := ?_) (a' := ?_) #[true, true, true, false, false, false, false, false, false, false, false, false, false] rfl rfl (by kernel_rfl) (fun _ _ _ h => h) (Or.inl ⟨by rfl, ?_⟩) ?_ ?_
      rotate_left
      · intro w'
        go_simp
        with_reducible rfl
      rotate_left
      · simp only [Act.put, List.setIfInBounds_toArray, List.set_cons_zero, List.set_cons_succ, i64_w, i32_w]
        rfl
      refine pure_ (i := 3) (N := some 39) (v := ?_) (a' := ?_) #[true, true, true, true, false, false, false, false, false, false, false, false, false] rfl rfl (by kernel_rfl) (fun _ _ _ h => h) (Or.inl ⟨by rfl, ?_⟩) ?_ ?_
      rotate_left
      · intro w'
        go_simp
        with_reducible rfl
      rotate_left
      · simp only [Act.put, List.setIfInBounds_toArray, List.set_cons_zero, List.set_cons_succ, i64_w, i32_w]
        rfl
      refine take_ (i := 4) (N := some 40) (v := ?_) (a' := ?_) #[true, true, true, true, true, false, false, false, false, false, false, false, false] rfl rfl (by kernel_rfl) (fun _ _ _ h => h) (Or.inl ⟨by rfl, ?_⟩) hHeld ?_ ?_
      rotate_left
      · intro w' hS_
        obtain ⟨s0_, s1_, s2_⟩ := hS_
        go_simp
        with_reducible rfl
      rotate_left
      · simp only [Act.put, List.setIfInBounds_toArray, List.set_cons_zero, List.set_cons_succ, i64_w, i32_w]
        rfl
      refine take_ (i := 6) (N := some 42) (v := ?_) (a' := ?_) #[true, true, true, true, true, false, true, false, false, false, false, false, false] rfl rfl (by kernel_rfl) (fun _ _ _ h => h) (Or.inl ⟨by rfl, ?_⟩) hHeld ?_ ?_
      rotate_left
      · intro w' hS_
        obtain ⟨s0_, s1_, s2_⟩ := hS_
        go_simp
        with_reducible rfl
      rotate_left
      · simp only [Act.put, List.setIfInBounds_toArray, List.set_cons_zero, List.set_cons_succ, i64_w, i32_w]
        rfl
      refine pure_ (i := 9) (N := some 45) (v := ?_) (a' := ?_) #[true, true, true, true, true, false, true, false, false, true, false, false, false] rfl rfl (by kernel_rfl) (fun _ _ _ h => h) (Or.inl ⟨by rfl, ?_⟩) ?_ ?_
      rotate_left
      · intro w'
        go_simp
        with_reducible rfl
      rotate_left
      · simp only [Act.put, List.setIfInBounds_toArray, List.set_cons_zero, List.set_cons_succ, i64_w, i32_w]
        rfl
      refine two_ (i := 5) (j := 7) (Ni := some 41) (Nj := some 43) #[true, true, true, true, true, true, true, false, false, true, false, false, false] #[true, true, true, true, true, false, true, true, false, true, false, false, false] rfl rfl rfl rfl (by kernel_rfl) (by decide) (by decide) (fun K hK => ?_) (fun K hK => ?_)
      · skip
        refine goes_ Try.func27 (by kernel_rfl) rfl #[.slice A1 l1.length k1] ?hw rfl rfl ?hx ?_
        (case hw => rfl)
        (case hx => (try simp only [List.map_toArray, List.map_cons, List.map_nil]); first | done | rfl)
        refine (admit_pairs.calls (l1.length + 1) A1 k1 l1 (prs l1) _ (Kd.C_below HR1.out B20.out) HK1.out HPF.out).mono ?_
        rintro e wqx5 ⟨vqx5, rfl, rqx5, bqx5⟩
        obtain ⟨cqx5, hqx5, tqx5⟩ := row_got (w0 := W) c1 1 rqx5 bqx5 (Below.size B20.out)
        obtain ⟨Aqx5, kqx5, rfl⟩ := Kd.R_slice rqx5
        have HPqx5 := Aside0.mk (show (row 24 k24).M wqx5 W.heap.size (fun k => cqx5 k = 1) (prs l1) (.slice Aqx5 (prs l1).length kqx5) from hqx5)
        have HXqx5 := Aside0.mk (tqx5.keep _ (blk) 3 _ _ (by decide) HX20.out)
        have Bqx5 := Aside0.mk (tqx5.far B20.out)
        clear rqx5 bqx5 hqx5 tqx5
        refine ⟨_, rfl, ?_⟩
        have hHeld := (show _ = some (Value.slice A1 l1.length k1) ∧ _ = some (Value.int IntKind.i64 q) ∧ _ = some (Value.int IntKind.i64 p) from ⟨blk_cell ((Bqx5.out.block g HG.out).trans HBK.out) 1, blk_cell (blk_at HXqx5.out) 0, blk_cell (blk_at HXqx5.out) 1⟩)
        refine hK.out _ _ hHeld (fun hHeld => ?_)
        clear hK K
        refine norm_ (a' := ?_) ?_ ?_
        rotate_left
        · show Act.put _ (some 41) _ = _
          simp only [Act.put, List.setIfInBounds_toArray, List.set_cons_zero, List.set_cons_succ, i64_w, i32_w]
          rfl
        refine one_ (i := 7) (N := some 43) #[true, true, true, true, true, true, true, true, false, true, false, false, false] rfl rfl (by kernel_rfl) (by decide) (fun K hK => ?_)
        refine lit_step (e := 24) (c := cqx5) (w0 := W) k24 2 ?hg (N := 43) ?hd ([⟨q, p⟩] : List S24) [.int .i64 q, .int .i64 p] ?hr ?hp ?hs (by simp) ?_
        (case hd => rfl)
        (case hg => rfl)
        (case hp => exact reps_one _ _ _ _)
        (case hr => first | (go_simp; done) | (go_simp; rfl))
        (case hs => exact Below.size Bqx5.out)
        intro vqx5x7 wqx5x7 cqx5x7 hqx5x7 tqx5x7
        obtain ⟨Aqx5x7, kqx5x7, rfl, -, -⟩ := row_reads hqx5x7
        have HQqx5x7 := Aside0.mk (show (row 24 k24).M wqx5x7 W.heap.size (fun k => cqx5x7 k = 2) ([⟨q, p⟩] : List S24) (.slice Aqx5x7 ([⟨q, p⟩] : List S24).length kqx5x7) from hqx5x7)
        have HXqx5x7 := Aside0.mk (tqx5x7.keep _ (blk) 3 _ _ (by decide) HXqx5.out)
        have HPqx5x7 := Aside0.mk (tqx5x7.keep _ (row 24 k24) 1 _ _ (by decide) HPqx5.out)
        have Bqx5x7 := Aside0.mk (tqx5x7.far Bqx5.out)
        clear hqx5x7 tqx5x7
        have hHeld := (show _ = some (Value.slice A1 l1.length k1) ∧ _ = some (Value.int IntKind.i64 q) ∧ _ = some (Value.int IntKind.i64 p) from ⟨blk_cell ((Bqx5x7.out.block g HG.out).trans HBK.out) 1, blk_cell (blk_at HXqx5x7.out) 0, blk_cell (blk_at HXqx5x7.out) 1⟩)
        refine hK.out _ _ hHeld (fun hHeld => ?_)
        clear hK K
        refine norm_ (a' := ?_) ?_ ?_
        rotate_left
        · show Act.put _ (some 43) _ = _
          simp only [Act.put, List.setIfInBounds_toArray, List.set_cons_zero, List.set_cons_succ, i64_w, i32_w]
          rfl
        refine one_ (i := 8) (N := some 44) #[true, true, true, true, true, true, true, true, true, true, false, false, false] rfl rfl (by kernel_rfl) (by decide) (fun K hK => ?_)
        refine app_step (e := 24) (c := cqx5x7) (w0 := W) (d := k24) (i := 1) (by rfl) (.tmp 41) (.tmp 43) 51 (.agg #[.int .i64 0, .int .i64 0]) 16 rfl Try.underlying51 info_pair rfl (by decide) (by decide) flat24 (.slice Aqx5 (prs l1).length kqx5) (prs l1) ([⟨q, p⟩] : List S24) _ _ _ rfl rfl HPqx5x7.out (row_C HQqx5x7.out) ?hs (by have := HL.out; rw [prs_len]; show (_ + 1) * 16 ≤ _; omega) ?_
        (case hs => exact Below.size Bqx5x7.out)
        intro vqx5x7x8 wqx5x7x8 cqx5x7x8 hqx5x7x8 tqx5x7x8
        obtain ⟨Aqx5x7x8, kqx5x7x8, rfl, -, -⟩ := row_reads hqx5x7x8
        have HPqx5x7x8 := Aside0.mk (show (row 24 k24).M wqx5x7x8 W.heap.size (fun k => cqx5x7x8 k = 1) (prs l1 ++ ([⟨q, p⟩] : List S24)) (.slice Aqx5x7x8 (prs l1 ++ ([⟨q, p⟩] : List S24)).length kqx5x7x8) from hqx5x7x8)
        have HXqx5x7x8 := Aside0.mk (tqx5x7x8.keep _ (blk) 3 _ _ (by decide) HXqx5x7.out)
        have HQqx5x7x8 := Aside0.mk (tqx5x7x8.keep _ (row 24 k24) 2 _ _ (by decide) HQqx5x7.out)
        have Bqx5x7x8 := Aside0.mk (tqx5x7x8.far Bqx5x7.out)
        clear hqx5x7x8 tqx5x7x8
        have hHeld := (show _ = some (Value.slice A1 l1.length k1) ∧ _ = some (Value.int IntKind.i64 q) ∧ _ = some (Value.int IntKind.i64 p) from ⟨blk_cell ((Bqx5x7x8.out.block g HG.out).trans HBK.out) 1, blk_cell (blk_at HXqx5x7x8.out) 0, blk_cell (blk_at HXqx5x7x8.out) 1⟩)
        refine hK.out _ _ hHeld (fun hHeld => ?_)
        clear hK K
        refine norm_ (a' := ?_) ?_ ?_
        rotate_left
        · show Act.put _ (some 44) _ = _
          simp only [Act.put, List.setIfInBounds_toArray, List.set_cons_zero, List.set_cons_succ, i64_w, i32_w]
          rfl
        refine one_ (i := 10) (N := some 46) #[true, true, true, true, true, true, true, true, true, true, true, false, false] rfl rfl (by kernel_rfl) (by decide) (fun K hK => ?_)
        refine goes_ Try.func26 (by kernel_rfl) rfl #[.pointer (some ⟨g, 0, none⟩), .slice Aqx5x7x8 (prs l1 ++ ([⟨q, p⟩] : List S24)).length kqx5x7x8, .int .i64 now] ?hw rfl rfl ?hx ?_
        (case hw => rfl)
        (case hx => (try simp only [List.map_toArray, List.map_cons, List.map_nil]); first | done | rfl)
        refine (fits_calls (w0 := W) (c := cqx5x7x8) (j := 1) (m := m) (sv1 := .slice A1 l1.length k1) (A2 := A2) (k2 := k2) (l2 := l2) (ps := prs l1 ++ ([⟨q, p⟩] : List S24)) now HBK.out HR2.out HL.out.2 Bqx5x7x8.out HPqx5x7x8.out (by have := HL.out; rw [List.length_append, prs_len]; show _ + 1 ≤ _; omega) HM.out HOK.out).mono ?_
        rintro e wqx5x7x8x10 ⟨rfl, cqx5x7x8x10, tqx5x7x8x10⟩
        rw [HFB.out]
        have HXqx5x7x8x10 := Aside0.mk (tqx5x7x8x10.keep _ blk 3 _ _ (by decide) HXqx5x7x8.out)
        have Bqx5x7x8x10 := Aside0.mk (tqx5x7x8x10.far Bqx5x7x8.out)
        clear tqx5x7x8x10
        refine ⟨_, rfl, ?_⟩
        have hHeld := (show _ = some (Value.slice A1 l1.length k1) ∧ _ = some (Value.int IntKind.i64 q) ∧ _ = some (Value.int IntKind.i64 p) from ⟨blk_cell ((Bqx5x7x8x10.out.block g HG.out).trans HBK.out) 1, blk_cell (blk_at HXqx5x7x8x10.out) 0, blk_cell (blk_at HXqx5x7x8x10.out) 1⟩)
        refine hK.out _ _ hHeld (fun hHeld => ?_)
        clear hK K
        refine norm_ (a' := ?_) ?_ ?_
        rotate_left
        · show Act.put _ (some 46) _ = _
          simp only [Act.put, List.setIfInBounds_toArray, List.set_cons_zero, List.set_cons_succ, i64_w, i32_w]
          rfl
        refine pure_ (i := 11) (N := some 47) (v := ?_) (a' := ?_) #[true, true, true, true, true, true, true, true, true, true, true, true, false] rfl rfl (by kernel_rfl) (fun _ _ _ h => h) (Or.inl ⟨by rfl, ?_⟩) ?_ ?_
        rotate_left
        · intro w'
          go_simp
          with_reducible rfl
        rotate_left
        · simp only [Act.put, List.setIfInBounds_toArray, List.set_cons_zero, List.set_cons_succ, i64_w, i32_w]
          rfl
        refine pure_ (i := 12) (N := some 35) (v := ?_) (a' := ?_) #[true, true, true, true, true, true, true, true, true, true, true, true, true] rfl rfl (by kernel_rfl) (fun _ _ _ h => h) (Or.inl ⟨by rfl, ?_⟩) ?_ ?_
        rotate_left
        · intro w'
          go_simp
          with_reducible rfl
        rotate_left
        · simp only [Act.put, List.setIfInBounds_toArray, List.set_cons_zero, List.set_cons_succ, i64_w, i32_w]
          rfl
        refine done_ (by kernel_rfl) ?_
        go_wp2
        go_ret
        exact ⟨by rw [HV.out]; rfl, Bqx5x7x8x10.out⟩
      · skip
        refine lit_step (e := 24) (c := c1) (w0 := W) k24 2 ?hg (N := 43) ?hd ([⟨q, p⟩] : List S24) [.int .i64 q, .int .i64 p] ?hr ?hp ?hs (by simp) ?_
        (case hd => rfl)
        (case hg => rfl)
        (case hp => exact reps_one _ _ _ _)
        (case hr => first | (go_simp; done) | (go_simp; rfl))
        (case hs => exact Below.size B20.out)
        intro vqx7 wqx7 cqx7 hqx7 tqx7
        obtain ⟨Aqx7, kqx7, rfl, -, -⟩ := row_reads hqx7
        have HQqx7 := Aside0.mk (show (row 24 k24).M wqx7 W.heap.size (fun k => cqx7 k = 2) ([⟨q, p⟩] : List S24) (.slice Aqx7 ([⟨q, p⟩] : List S24).length kqx7) from hqx7)
        have HXqx7 := Aside0.mk (tqx7.keep _ (blk) 3 _ _ (by decide) HX20.out)
        have Bqx7 := Aside0.mk (tqx7.far B20.out)
        clear hqx7 tqx7
        have hHeld := (show _ = some (Value.slice A1 l1.length k1) ∧ _ = some (Value.int IntKind.i64 q) ∧ _ = some (Value.int IntKind.i64 p) from ⟨blk_cell ((Bqx7.out.block g HG.out).trans HBK.out) 1, blk_cell (blk_at HXqx7.out) 0, blk_cell (blk_at HXqx7.out) 1⟩)
        refine hK.out _ _ hHeld (fun hHeld => ?_)
        clear hK K
        refine norm_ (a' := ?_) ?_ ?_
        rotate_left
        · show Act.put _ (some 43) _ = _
          simp only [Act.put, List.setIfInBounds_toArray, List.set_cons_zero, List.set_cons_succ, i64_w, i32_w]
          rfl
        refine one_ (i := 5) (N := some 41) #[true, true, true, true, true, true, true, true, false, true, false, false, false] rfl rfl (by kernel_rfl) (by decide) (fun K hK => ?_)
        refine goes_ Try.func27 (by kernel_rfl) rfl #[.slice A1 l1.length k1] ?hw rfl rfl ?hx ?_
        (case hw => rfl)
        (case hx => (try simp only [List.map_toArray, List.map_cons, List.map_nil]); first | done | rfl)
        refine (admit_pairs.calls (l1.length + 1) A1 k1 l1 (prs l1) _ (Kd.C_below HR1.out Bqx7.out) HK1.out HPF.out).mono ?_
        rintro e wqx7x5 ⟨vqx7x5, rfl, rqx7x5, bqx7x5⟩
        obtain ⟨cqx7x5, hqx7x5, tqx7x5⟩ := row_got (w0 := W) cqx7 1 rqx7x5 bqx7x5 (Below.size Bqx7.out)
        obtain ⟨Aqx7x5, kqx7x5, rfl⟩ := Kd.R_slice rqx7x5
        have HPqx7x5 := Aside0.mk (show (row 24 k24).M wqx7x5 W.heap.size (fun k => cqx7x5 k = 1) (prs l1) (.slice Aqx7x5 (prs l1).length kqx7x5) from hqx7x5)
        have HXqx7x5 := Aside0.mk (tqx7x5.keep _ (blk) 3 _ _ (by decide) HXqx7.out)
        have HQqx7x5 := Aside0.mk (tqx7x5.keep _ (row 24 k24) 2 _ _ (by decide) HQqx7.out)
        have Bqx7x5 := Aside0.mk (tqx7x5.far Bqx7.out)
        clear rqx7x5 bqx7x5 hqx7x5 tqx7x5
        refine ⟨_, rfl, ?_⟩
        have hHeld := (show _ = some (Value.slice A1 l1.length k1) ∧ _ = some (Value.int IntKind.i64 q) ∧ _ = some (Value.int IntKind.i64 p) from ⟨blk_cell ((Bqx7x5.out.block g HG.out).trans HBK.out) 1, blk_cell (blk_at HXqx7x5.out) 0, blk_cell (blk_at HXqx7x5.out) 1⟩)
        refine hK.out _ _ hHeld (fun hHeld => ?_)
        clear hK K
        refine norm_ (a' := ?_) ?_ ?_
        rotate_left
        · show Act.put _ (some 41) _ = _
          simp only [Act.put, List.setIfInBounds_toArray, List.set_cons_zero, List.set_cons_succ, i64_w, i32_w]
          rfl
        refine one_ (i := 8) (N := some 44) #[true, true, true, true, true, true, true, true, true, true, false, false, false] rfl rfl (by kernel_rfl) (by decide) (fun K hK => ?_)
        refine app_step (e := 24) (c := cqx7x5) (w0 := W) (d := k24) (i := 1) (by rfl) (.tmp 41) (.tmp 43) 51 (.agg #[.int .i64 0, .int .i64 0]) 16 rfl Try.underlying51 info_pair rfl (by decide) (by decide) flat24 (.slice Aqx7x5 (prs l1).length kqx7x5) (prs l1) ([⟨q, p⟩] : List S24) _ _ _ rfl rfl HPqx7x5.out (row_C HQqx7x5.out) ?hs (by have := HL.out; rw [prs_len]; show (_ + 1) * 16 ≤ _; omega) ?_
        (case hs => exact Below.size Bqx7x5.out)
        intro vqx7x5x8 wqx7x5x8 cqx7x5x8 hqx7x5x8 tqx7x5x8
        obtain ⟨Aqx7x5x8, kqx7x5x8, rfl, -, -⟩ := row_reads hqx7x5x8
        have HPqx7x5x8 := Aside0.mk (show (row 24 k24).M wqx7x5x8 W.heap.size (fun k => cqx7x5x8 k = 1) (prs l1 ++ ([⟨q, p⟩] : List S24)) (.slice Aqx7x5x8 (prs l1 ++ ([⟨q, p⟩] : List S24)).length kqx7x5x8) from hqx7x5x8)
        have HXqx7x5x8 := Aside0.mk (tqx7x5x8.keep _ (blk) 3 _ _ (by decide) HXqx7x5.out)
        have HQqx7x5x8 := Aside0.mk (tqx7x5x8.keep _ (row 24 k24) 2 _ _ (by decide) HQqx7x5.out)
        have Bqx7x5x8 := Aside0.mk (tqx7x5x8.far Bqx7x5.out)
        clear hqx7x5x8 tqx7x5x8
        have hHeld := (show _ = some (Value.slice A1 l1.length k1) ∧ _ = some (Value.int IntKind.i64 q) ∧ _ = some (Value.int IntKind.i64 p) from ⟨blk_cell ((Bqx7x5x8.out.block g HG.out).trans HBK.out) 1, blk_cell (blk_at HXqx7x5x8.out) 0, blk_cell (blk_at HXqx7x5x8.out) 1⟩)
        refine hK.out _ _ hHeld (fun hHeld => ?_)
        clear hK K
        refine norm_ (a' := ?_) ?_ ?_
        rotate_left
        · show Act.put _ (some 44) _ = _
          simp only [Act.put, List.setIfInBounds_toArray, List.set_cons_zero, List.set_cons_succ, i64_w, i32_w]
          rfl
        refine one_ (i := 10) (N := some 46) #[true, true, true, true, true, true, true, true, true, true, true, false, false] rfl rfl (by kernel_rfl) (by decide) (fun K hK => ?_)
        refine goes_ Try.func26 (by kernel_rfl) rfl #[.pointer (some ⟨g, 0, none⟩), .slice Aqx7x5x8 (prs l1 ++ ([⟨q, p⟩] : List S24)).length kqx7x5x8, .int .i64 now] ?hw rfl rfl ?hx ?_
        (case hw => rfl)
        (case hx => (try simp only [List.map_toArray, List.map_cons, List.map_nil]); first | done | rfl)
        refine (fits_calls (w0 := W) (c := cqx7x5x8) (j := 1) (m := m) (sv1 := .slice A1 l1.length k1) (A2 := A2) (k2 := k2) (l2 := l2) (ps := prs l1 ++ ([⟨q, p⟩] : List S24)) now HBK.out HR2.out HL.out.2 Bqx7x5x8.out HPqx7x5x8.out (by have := HL.out; rw [List.length_append, prs_len]; show _ + 1 ≤ _; omega) HM.out HOK.out).mono ?_
        rintro e wqx7x5x8x10 ⟨rfl, cqx7x5x8x10, tqx7x5x8x10⟩
        rw [HFB.out]
        have HXqx7x5x8x10 := Aside0.mk (tqx7x5x8x10.keep _ blk 3 _ _ (by decide) HXqx7x5x8.out)
        have Bqx7x5x8x10 := Aside0.mk (tqx7x5x8x10.far Bqx7x5x8.out)
        clear tqx7x5x8x10
        refine ⟨_, rfl, ?_⟩
        have hHeld := (show _ = some (Value.slice A1 l1.length k1) ∧ _ = some (Value.int IntKind.i64 q) ∧ _ = some (Value.int IntKind.i64 p) from ⟨blk_cell ((Bqx7x5x8x10.out.block g HG.out).trans HBK.out) 1, blk_cell (blk_at HXqx7x5x8x10.out) 0, blk_cell (blk_at HXqx7x5x8x10.out) 1⟩)
        refine hK.out _ _ hHeld (fun hHeld => ?_)
        clear hK K
        refine norm_ (a' := ?_) ?_ ?_
        rotate_left
        · show Act.put _ (some 46) _ = _
          simp only [Act.put, List.setIfInBounds_toArray, List.set_cons_zero, List.set_cons_succ, i64_w, i32_w]
          rfl
        refine pure_ (i := 11) (N := some 47) (v := ?_) (a' := ?_) #[true, true, true, true, true, true, true, true, true, true, true, true, false] rfl rfl (by kernel_rfl) (fun _ _ _ h => h) (Or.inl ⟨by rfl, ?_⟩) ?_ ?_
        rotate_left
        · intro w'
          go_simp
          with_reducible rfl
        rotate_left
        · simp only [Act.put, List.setIfInBounds_toArray, List.set_cons_zero, List.set_cons_succ, i64_w, i32_w]
          rfl
        refine pure_ (i := 12) (N := some 35) (v := ?_) (a' := ?_) #[true, true, true, true, true, true, true, true, true, true, true, true, true] rfl rfl (by kernel_rfl) (fun _ _ _ h => h) (Or.inl ⟨by rfl, ?_⟩) ?_ ?_
        rotate_left
        · intro w'
          go_simp
          with_reducible rfl
        rotate_left
        · simp only [Act.put, List.setIfInBounds_toArray, List.set_cons_zero, List.set_cons_succ, i64_w, i32_w]
          rfl
        refine done_ (by kernel_rfl) ?_
        go_wp2
        go_ret
        exact ⟨by rw [HV.out]; rfl, Bqx7x5x8x10.out⟩
end Go.Proofs.Ytmjodeijafoabaa.Admit
