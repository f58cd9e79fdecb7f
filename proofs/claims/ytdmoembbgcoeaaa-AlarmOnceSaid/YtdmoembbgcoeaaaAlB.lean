/- Alarm: the alarms' New, Move, Next (no law is stated here; each says its conditions). -/
import Derived.Test.YtdmoembbgcoeaaaAlA
import Derived.StillTailTactics
namespace Go.Proofs.Ytdmoembbgcoeaaa.Alarm
open Go.RowKit Go.Proofs.YtdmoembbgcoeaaaW.PrintWords Go.Proofs.YtdmoembbgcoeaaaW.PrintLast Go.Proofs.YtdmoembbgcoeaaaW.PrintMore Go.Proofs.Ytdmoembbgcoeaaa.St Go.Proofs.Ytdmoembbgcoeaaa.Q Go.Proofs.Ytdmoembbgcoeaaa.Heap
open Go.Sort (HoldsK putRowK grow flatK)
set_option linter.unusedVariables false
set_option linter.unusedSimpArgs false
attribute [local go_sem] max2_int min2_int max_two min_two max_three min_three max_four min_four

theorem reps_ptr (w : World) (b g : Nat) : Reps (kp.M w b (fun _ => False)) kp.sz [g] [.pointer (some ⟨g, 0, none⟩)] := by
  refine ⟨rfl, fun i x hx => ?_⟩
  cases i with
  | zero => cases hx; rfl
  | succ i => simp at hx
theorem blk_put1 {w0 W : World} {c : Nat → Nat} {i : Nat} {cs : Array Value} {t : TypeId} {g : Nat} (h : blk.M W w0.heap.size (fun k => c k = i) (.cells cs t (0, 0)) (.pointer (some ⟨g, 0, none⟩))) (j : Nat) (u : Value) (hs : w0.heap.size ≤ W.heap.size) :
    ∃ c', blk.M (W.setCell ⟨g, j, none⟩ u) w0.heap.size (fun k => c' k = i) (.cells (cs.setIfInBounds j u) t (0, 0)) (.pointer (some ⟨g, 0, none⟩)) ∧ Turned c c' i w0 W (W.setCell ⟨g, j, none⟩ u) := by
  obtain ⟨g2, e1, ⟨e2, e2b⟩, e3, e4, e5⟩ := St.mine (s := blk) h
  injection e1 with e1
  injection e1 with e1
  injection e1 with e1
  subst e1
  have h2 := blk_set e5 j u
  exact turned (s := blk) ⟨g, rfl, Or.inl ⟨e2, e2b⟩, e3, blk_lt h2, h2⟩ ((Wrote.refl W _).setCell (Or.inl ⟨e2, e2b⟩) u) hs
section
variable {P : Program} {ops : Array Oper} {o : Oper} {a : Act} {Q : Exit → Act → World → Prop} {Kc : Act → World → Prop}
theorem store_step {W w1 : World} (hw : Region.wanted o (yielded ops a.tmps) = true) (hN : o.dst = none) (hrun : (execOp a.eval o).run P W = .ok .skip w1) (h : Kc (a.put none undef) w1) : if Region.wanted o (yielded ops a.tmps) = true then Oper.wp P o a W Kc Q else Kc (a.put none undef) W := by
  rw [if_pos hw]
  unfold Oper.wp
  rw [hrun]
  show Kc (a.put o.dst undef) w1
  rw [hN]
  exact h
end
set_option maxHeartbeats 1000000 in
set_option maxRecDepth 100000 in
theorem new_bad (m : Int) (W : World) (hm : m < 1 ∨ 64 < m) : Calls Try.prog 8 #[.int .i64 m] W fun e w' => e = .returned (.tuple #[.pointer none, .int .i64 1]) ∧ w' = W := by
  by_cases h1 : m < 1
  · have d1 : decide (m < 1) = true := decide_eq_true h1
    clear h1 hm
    go_enter Try.func8, Try.ntmps8
    go_wp2
    go_ret2
    exact ⟨rfl, rfl⟩
  · have d1 : decide (m < 1) = false := decide_eq_false h1
    have d2 : decide (64 < m) = true := decide_eq_true (by omega)
    clear h1 hm
    go_enter Try.func8, Try.ntmps8
    go_wp2
    go_ret2
    exact ⟨rfl, rfl⟩
theorem rep_getD (n j : Nat) : (List.replicate n ([] : List (Int × Int))).getD j [] = [] := by
  rw [List.getD_eq_getElem?_getD, List.getElem?_replicate]
  split <;> rfl
theorem info_ptr : (Try.prog.info? 57).map (fun i => (i.zero, i.size, i.bytes)) = some (some (.pointer none), kp.sz, 8) := by kernel_rfl
theorem getD_app (gs : List Nat) (g q : Nat) : (gs ++ [g]).getD q 0 = if q < gs.length then gs.getD q 0 else if q = gs.length then g else 0 := by
  rw [List.getD_eq_getElem?_getD, List.getD_eq_getElem?_getD]
  by_cases h : q < gs.length
  · rw [List.getElem?_append_left h, if_pos h]
  · rw [List.getElem?_append_right (by omega), if_neg h]
    by_cases e : q = gs.length
    · rw [if_pos e, show q - gs.length = 0 by omega]; rfl
    · rw [if_neg e, List.getElem?_eq_none (by simp; omega)]; rfl
def RelW (w0 W : World) (c : Nat → Nat) (i n ga : Nat) (x : Value) (wr : World) : Prop :=
  ∃ (j : Nat) (c' : Nat → Nat), j ≤ n ∧ x = .int .i64 (j : Int) ∧ AL w0 wr c' i (List.replicate j []) 0 ga ∧ TurnedA c c' i w0 W wr ∧ Below w0.heap.size w0 wr
set_option maxHeartbeats 4000000 in
set_option maxRecDepth 100000 in
theorem new_ok {w0 W : World} (c : Nat → Nat) (i : Nat) (n : Nat) (hm : 1 ≤ n ∧ n ≤ 64) (hB : Below w0.heap.size w0 W) :
    Calls Try.prog 8 #[.int .i64 (n : Int)] W fun e w' => ∃ ga : Nat, e = .returned (.tuple #[.pointer (some ⟨ga, 0, none⟩), .int .i64 0]) ∧ ∃ c', AL w0 w' c' i (List.replicate n []) 0 ga ∧ TurnedA c c' i w0 W w' := by
  have HB := Aside0.mk hB
  have d1 : decide ((n : Int) < 1) = false := decide_eq_false (by omega)
  have d2 : decide (64 < (n : Int)) = false := decide_eq_false (by omega)
  have d1n : decide (n < 1) = false := decide_eq_false (by omega)
  have d2n : decide (64 < n) = false := decide_eq_false (by omega)
  have HN := Aside0.mk hm
  clear hm hB
  go_enter Try.func8, Try.ntmps8
  go_upto_region 4 with (fail)
  have hbx : Below W.heap.size W (W.alloc (.cells #[.slice none 0 0, .int .i64 0] 56)) := below_alloc (Below.refl _ _) _
  have hX : (W.alloc (.cells #[.slice none 0 0, .int .i64 0] 56)).heap[W.heap.size]? = some (.cells #[.slice none 0 0, .int .i64 0] 56 (0, 0)) := by simpa using heap_alloc_new W _
  obtain ⟨c1, h1, t1⟩ := blk_new1 (w0 := w0) c i (Nat.le_refl _) hX hbx HB.out.size
  have A1 := Aside0.mk (show AL w0 _ c1 i (List.replicate 0 []) 0 W.heap.size from ⟨none, 0, [], rfl, h1, Kd.R_nil _ _ _ _ _, fun j hj => absurd hj (Nat.not_lt_zero _)⟩)
  have T1 := Aside0.mk ((TurnedA.refl c i w0 W).step t1 (Nat.le_refl _))
  have B1 := Aside0.mk (t1.far HB.out)
  clear h1 t1 hX hbx d1 d2 d1n d2n
  generalize W.alloc (.cells #[.slice none 0 0, .int .i64 0] 56) = w1 at A1 T1 B1 ⊢
  obtain ⟨ga, hga⟩ : ∃ ga, W.heap.size = ga := ⟨_, rfl⟩
  rw [hga] at A1 ⊢
  clear hga
  go_wp2
  go_loopw [14] (fun x wr => RelW w0 W c i n ga x wr) (fun x _ => n - (intOf x).toNat)
  case atStart => exact ⟨0, c1, Nat.zero_le _, rfl, A1.out, T1.out, B1.out⟩
  case round =>
    obtain ⟨j, cz, hj, rfl, hA, hT, hBz⟩ := hrel
    have TZ := Aside0.mk hT
    have BZ := Aside0.mk hBz
    have hj64 : j ≤ 64 := by have := HN.out; omega
    by_cases hlt : j < n
    · have pq : decide ((j : Int) < (n : Int)) = true := decide_eq_true (by omega)
      have pqn : decide (j < n) = true := decide_eq_true hlt
      obtain ⟨A, k, gs, h0, hb1, hb2, hb3⟩ := hA
      rw [List.length_replicate] at h0 hb1 hb2
      have HG0 := Aside0.mk h0
      have M1 := Aside0.mk hb1
      have M2 := Aside0.mk (show (row 57 kp).M wr w0.heap.size (fun k => cz k = i + 1) gs (.slice A gs.length k) from by rw [h0]; exact hb2)
      have HH := Aside0.mk (show ∀ q, q < j → hp.M wr w0.heap.size (fun k => cz k = i + 10 + q) ([], false, 1024) (.pointer (some ⟨gs.getD q 0, 0, none⟩)) from fun q hq => by have := hb3 q (by rw [List.length_replicate]; exact hq); rwa [rep_getD] at this)
      have HGL := Aside0.mk (show gs.length ≤ 64 from by omega)
      clear hT hBz hb1 hb2 hb3 A1 T1 B1
      rw [← h0] at M1
      clear h0
      go_upto_region 6 with (fail)
      obtain ⟨w5, hw5⟩ : ∃ w5 : World, wr.drew = w5 := ⟨_, rfl⟩
      have hb5 : Below wr.heap.size wr w5 := by rw [← hw5]; exact below_drew (Below.refl _ _)
      have HB5 := Aside0.mk (St.below (s := blk) M1.out hb5)
      have HP5 := Aside0.mk (St.below (s := row 57 kp) M2.out hb5)
      have B5 := Aside0.mk (Below.trans BZ.out (Below.mono hb5 (Below.size BZ.out)))
      have HH5 := Aside0.mk (show ∀ q, q < j → hp.M _ w0.heap.size _ ([], false, 1024) (.pointer (some ⟨gs.getD q 0, 0, none⟩)) from fun q hq => St.below (s := hp) (HH.out q hq) hb5)
      have TA5 := Aside0.mk (TZ.out.below hb5)
      clear hb5
      refine start_ (n := 11) (S := fun w' => w'.cell? ⟨ga, 0, none⟩ = some (.slice A gs.length k)) (ds := [10]) #[false, false, false, false, false, false, false, false, false, false, false] (by kernel_rfl) rfl rfl (by rw [hw5]; exact blk_cell (blk_at HB5.out) 0) (fun hHeld => ?_)
      refine pure_ (i := 0) (N := some 16) (v := ?_) (a' := ?_) #[true, false, false, false, false, false, false, false, false, false, false] rfl rfl (by kernel_rfl) (fun _ _ _ h => h) (Or.inl ⟨by rfl, ?_⟩) ?_ ?_
      rotate_left
      · intro w'
        go_simp
        with_reducible rfl
      rotate_left
      · simp only [Act.put, List.setIfInBounds_toArray, List.set_cons_zero, List.set_cons_succ, i64_w, i32_w]
        rfl
      refine pure_ (i := 1) (N := some 17) (v := ?_) (a' := ?_) #[true, true, false, false, false, false, false, false, false, false, false] rfl rfl (by kernel_rfl) (fun _ _ _ h => h) (Or.inl ⟨by rfl, ?_⟩) ?_ ?_
      rotate_left
      · intro w'
        go_simp
        with_reducible rfl
      rotate_left
      · simp only [Act.put, List.setIfInBounds_toArray, List.set_cons_zero, List.set_cons_succ, i64_w, i32_w]
        rfl
      refine pure_ (i := 2) (N := some 18) (v := ?_) (a' := ?_) #[true, true, true, false, false, false, false, false, false, false, false] rfl rfl (by kernel_rfl) (fun _ _ _ h => h) (Or.inl ⟨by rfl, ?_⟩) ?_ ?_
      rotate_left
      · intro w'
        go_simp
        with_reducible rfl
      rotate_left
      · simp only [Act.put, List.setIfInBounds_toArray, List.set_cons_zero, List.set_cons_succ, i64_w, i32_w]
        rfl
      refine pure_ (i := 3) (N := some 19) (v := ?_) (a' := ?_) #[true, true, true, true, false, false, false, false, false, false, false] rfl rfl (by kernel_rfl) (fun _ _ _ h => h) (Or.inl ⟨by rfl, ?_⟩) ?_ ?_
      rotate_left
      · intro w'
        go_simp
        with_reducible rfl
      rotate_left
      · simp only [Act.put, List.setIfInBounds_toArray, List.set_cons_zero, List.set_cons_succ, i64_w, i32_w]
        rfl
      refine take_ (i := 4) (N := some 20) (v := ?_) (a' := ?_) #[true, true, true, true, true, false, false, false, false, false, false] rfl rfl (by kernel_rfl) (fun _ _ _ h => h) (Or.inl ⟨by rfl, ?_⟩) hHeld ?_ ?_
      rotate_left
      · intro w' hS_
        obtain s0_ := hS_
        go_simp
        with_reducible rfl
      rotate_left
      · simp only [Act.put, List.setIfInBounds_toArray, List.set_cons_zero, List.set_cons_succ, i64_w, i32_w]
        rfl
      refine one_ (i := 5) (N := some 21) #[true, true, true, true, true, true, false, false, false, false, false] rfl rfl (by kernel_rfl) (by decide) (fun K hK => ?_)
      refine goes_ Try.func22 (by kernel_rfl) rfl #[.int .i64 1024, .bool false] ?hw rfl rfl ?hx ?_
      (case hw => rfl)
      (case hx => (try simp only [List.map_toArray, List.map_cons, List.map_nil]); first | done | rfl)
      rw [hw5]
      refine (newC (w0 := w0) cz (i + 10 + j) 1024 false B5.out).mono ?_
      rintro e w6 ⟨g6, rfl, c6, h6, t6⟩
      have HNW := Aside0.mk (show hp.M w6 w0.heap.size (fun k => c6 k = i + 10 + j) ([], false, 1024) (.pointer (some ⟨g6, 0, none⟩)) from h6)
      have HX6 := Aside0.mk (show (hp).M w6 w0.heap.size (fun k => c6 k = i + 10 + j) ([], false, 1024) (.pointer (some ⟨g6, 0, none⟩)) from h6)
      have HB6 := Aside0.mk (t6.keep _ (blk) (i) _ _ (by omega) HB5.out)
      have HP6 := Aside0.mk (t6.keep _ (row 57 kp) (i + 1) _ _ (by omega) HP5.out)
      have B6 := Aside0.mk (t6.far B5.out)
      have HH6 := Aside0.mk (show ∀ q, q < j → hp.M _ w0.heap.size _ ([], false, 1024) (.pointer (some ⟨gs.getD q 0, 0, none⟩)) from fun q hq => t6.keep _ hp _ _ _ (by omega) (HH5.out q hq))
      have TA6 := Aside0.mk (TA5.out.step t6 (by omega))
      clear h6 t6
      refine ⟨_, rfl, ?_⟩
      have hHeld := (show _ = some (Value.slice A gs.length k) from blk_cell (blk_at HB6.out) 0)
      refine hK.out _ _ hHeld (fun hHeld => ?_)
      clear hK K
      refine norm_ (a' := ?_) ?_ ?_
      rotate_left
      · show Act.put _ (some 21) _ = _
        simp only [Act.put, List.setIfInBounds_toArray, List.set_cons_zero, List.set_cons_succ, i64_w, i32_w]
        rfl
      refine one_ (i := 6) (N := some 22) #[true, true, true, true, true, true, true, false, false, false, false] rfl rfl (by kernel_rfl) (by decide) (fun K hK => ?_)
      refine lit_step (e := 57) (c := c6) (w0 := w0) kp (i + 2) ?hg (N := 22) ?hd [g6] [.pointer (some ⟨g6, 0, none⟩)] ?hr ?hp ?hs (by simp) ?_
      (case hd => rfl)
      (case hg => rfl)
      (case hp => exact reps_ptr _ _ _)
      (case hr => first | (go_simp; done) | (go_simp; rfl))
      (case hs => exact Below.size B6.out)
      intro v7 w7 c7 h7 t7
      obtain ⟨A7, k7, rfl, -, -⟩ := row_reads h7
      have HE7 := Aside0.mk (show (row 57 kp).M w7 w0.heap.size (fun k => c7 k = i + 2) [g6] (.slice A7 [g6].length k7) from h7)
      have HB7 := Aside0.mk (t7.keep _ (blk) (i) _ _ (by omega) HB6.out)
      have HP7 := Aside0.mk (t7.keep _ (row 57 kp) (i + 1) _ _ (by omega) HP6.out)
      have HX7 := Aside0.mk (t7.keep _ (hp) (i + 10 + j) _ _ (by omega) HX6.out)
      have B7 := Aside0.mk (t7.far B6.out)
      have HH7 := Aside0.mk (show ∀ q, q < j → hp.M _ w0.heap.size _ ([], false, 1024) (.pointer (some ⟨gs.getD q 0, 0, none⟩)) from fun q hq => t7.keep _ hp _ _ _ (by omega) (HH6.out q hq))
      have TA7 := Aside0.mk (TA6.out.step t7 (by omega))
      clear h7 t7
      have hHeld := (show _ = some (Value.slice A gs.length k) from blk_cell (blk_at HB7.out) 0)
      refine hK.out _ _ hHeld (fun hHeld => ?_)
      clear hK K
      refine norm_ (a' := ?_) ?_ ?_
      rotate_left
      · show Act.put _ (some 22) _ = _
        simp only [Act.put, List.setIfInBounds_toArray, List.set_cons_zero, List.set_cons_succ, i64_w, i32_w]
        rfl
      refine one_ (i := 7) (N := some 23) #[true, true, true, true, true, true, true, true, false, false, false] rfl rfl (by kernel_rfl) (by decide) (fun K hK => ?_)
      refine app_step (e := 57) (c := c7) (w0 := w0) (d := kp) (i := i + 1) (by rfl) (.tmp 20) (.tmp 22) 54 (.pointer none) 8 rfl Try.underlying54 info_ptr rfl (by decide) (by decide) flatP (.slice A gs.length k) gs [g6] _ _ _ rfl rfl HP7.out (row_C HE7.out) ?hs (by have := HGL.out; show (_ + 1) * 8 ≤ _; omega) ?_
      (case hs => exact Below.size B7.out)
      intro v8 w8 c8 h8 t8
      obtain ⟨A8, k8, rfl, -, -⟩ := row_reads h8
      have HP8 := Aside0.mk (show (row 57 kp).M w8 w0.heap.size (fun k => c8 k = i + 1) (gs ++ [g6]) (.slice A8 (gs ++ [g6]).length k8) from h8)
      have HB8 := Aside0.mk (t8.keep _ (blk) (i) _ _ (by omega) HB7.out)
      have HX8 := Aside0.mk (t8.keep _ (hp) (i + 10 + j) _ _ (by omega) HX7.out)
      have HE8 := Aside0.mk (t8.keep _ (row 57 kp) (i + 2) _ _ (by omega) HE7.out)
      have B8 := Aside0.mk (t8.far B7.out)
      have HH8 := Aside0.mk (show ∀ q, q < j → hp.M _ w0.heap.size _ ([], false, 1024) (.pointer (some ⟨gs.getD q 0, 0, none⟩)) from fun q hq => t8.keep _ hp _ _ _ (by omega) (HH7.out q hq))
      have TA8 := Aside0.mk (TA7.out.step t8 (by omega))
      clear h8 t8
      have hHeld := (show _ = some (Value.slice A gs.length k) from blk_cell (blk_at HB8.out) 0)
      refine hK.out _ _ hHeld (fun hHeld => ?_)
      clear hK K
      refine norm_ (a' := ?_) ?_ ?_
      rotate_left
      · show Act.put _ (some 23) _ = _
        simp only [Act.put, List.setIfInBounds_toArray, List.set_cons_zero, List.set_cons_succ, i64_w, i32_w]
        rfl
      refine pure_ (i := 8) (N := some 24) (v := ?_) (a' := ?_) #[true, true, true, true, true, true, true, true, true, false, false] rfl rfl (by kernel_rfl) (fun _ _ _ h => h) (Or.inl ⟨by rfl, ?_⟩) ?_ ?_
      rotate_left
      · intro w'
        go_simp
        with_reducible rfl
      rotate_left
      · simp only [Act.put, List.setIfInBounds_toArray, List.set_cons_zero, List.set_cons_succ, i64_w, i32_w]
        rfl
      refine pure_ (i := 9) (N := some 25) (v := ?_) (a' := ?_) #[true, true, true, true, true, true, true, true, true, true, false] rfl rfl (by kernel_rfl) (fun _ _ _ h => h) (Or.inl ⟨by rfl, ?_⟩) ?_ ?_
      rotate_left
      · intro w'
        go_simp
        with_reducible rfl
      rotate_left
      · simp only [Act.put, List.setIfInBounds_toArray, List.set_cons_zero, List.set_cons_succ, i64_w, i32_w]
        rfl
      refine last_ (i := 10) (N := none) #[true, true, true, true, true, true, true, true, true, true, true] rfl rfl (by kernel_rfl) (by decide) (fun K hK => ?_)
      have z1 := blk_cell (blk_at HB8.out) 0
      have f1 := blk_frozen (blk_at HB8.out) 0
      refine store_step (w1 := w8.setCell ⟨ga, 0, none⟩ (.slice A8 (gs ++ [g6]).length k8)) ?hw rfl ?hr ?_
      (case hw => rfl)
      (case hr => go_simp)
      obtain ⟨c9, h9, t9⟩ := blk_put1 HB8.out 0 (.slice A8 (gs ++ [g6]).length k8) (Below.size B8.out)
      clear z1 f1
      generalize w8.setCell ⟨ga, 0, none⟩ (.slice A8 (gs ++ [g6]).length k8) = w9 at h9 t9 ⊢
      have HB9 := Aside0.mk (show (blk).M w9 w0.heap.size (fun k => c9 k = i) (.cells #[.slice A8 (gs ++ [g6]).length k8, .int .i64 0] 56 (0, 0)) (.pointer (some ⟨ga, 0, none⟩)) from h9)
      have HP9 := Aside0.mk (t9.keep _ (row 57 kp) (i + 1) _ _ (by omega) HP8.out)
      have HX9 := Aside0.mk (t9.keep _ (hp) (i + 10 + j) _ _ (by omega) HX8.out)
      have HE9 := Aside0.mk (t9.keep _ (row 57 kp) (i + 2) _ _ (by omega) HE8.out)
      have B9 := Aside0.mk (t9.far B8.out)
      have HH9 := Aside0.mk (show ∀ q, q < j → hp.M _ w0.heap.size _ ([], false, 1024) (.pointer (some ⟨gs.getD q 0, 0, none⟩)) from fun q hq => t9.keep _ hp _ _ _ (by omega) (HH8.out q hq))
      have TA9 := Aside0.mk (TA8.out.step t9 (by omega))
      clear h9 t9
      refine hK.out _ _ ?_
      clear hK K hHeld
      refine norm_ (a' := ?_) ?_ ?_
      rotate_left
      · show Act.put _ (none) _ = _
        simp only [Act.put, List.setIfInBounds_toArray, List.set_cons_zero, List.set_cons_succ, i64_w, i32_w]
        rfl
      refine done_ (by kernel_rfl) ?_
      go_wp2
      refine ⟨⟨j + 1, c9, by omega, by go_num, ⟨A8, k8, gs ++ [g6], by rw [List.length_append, List.length_replicate, HG0.out]; rfl, by have h := HB9.out; rw [List.length_append] at h; rw [List.length_replicate, ← HG0.out]; exact h, by have h := HP9.out; rw [List.length_append] at h; rw [List.length_replicate, ← HG0.out]; exact h, fun q hq => ?_⟩, TA9.out, B9.out⟩, by simp [intOf]; omega⟩
      rw [List.length_replicate] at hq
      rw [rep_getD, getD_app, HG0.out]
      by_cases hqj : q < j
      · rw [if_pos hqj]; exact HH9.out q hqj
      · rw [if_neg hqj, if_pos (by omega), show q = j by omega]; exact HX9.out
    · have pq : decide ((j : Int) < (n : Int)) = false := decide_eq_false (by omega)
      have pqn : decide (j < n) = false := decide_eq_false hlt
      have hjn : j = n := by omega
      subst hjn
      have AZ := Aside0.mk hA
      clear hT hBz hA A1 T1 B1
      go_wp2
      go_ret2
      exact ⟨ga, rfl, cz, AZ.out, TZ.out⟩
/-- What Move answers, what is armed then. -/
def moveV (hs : List (List (Int × Int))) (cpu to' id : Int) : Int := if inr hs.length cpu = false ∨ inr hs.length to' = false then 1 else if (keyV (hs.getD cpu.toNat []) id).2 = false then 4 else 0
def moveH (hs : List (List (Int × Int))) (cpu to' id : Int) : List (List (Int × Int)) :=
  if moveV hs cpu to' id = 0 then (hs.set cpu.toNat (unarm (hs.getD cpu.toNat []) id)).set to'.toNat (rearm ((hs.set cpu.toNat (unarm (hs.getD cpu.toNat []) id)).getD to'.toNat []) id (keyV (hs.getD cpu.toNat []) id).1) else hs
set_option maxHeartbeats 2000000 in
set_option maxRecDepth 100000 in
theorem move_calls {w0 W : World} {c : Nat → Nat} {i ga : Nat} {hs : List (List (Int × Int))} {now : Int} (cpu to' id : Int) (h : AL w0 W c i hs now ga) (hl : ∀ j, j < hs.length → (hs.getD j []).length < 1024) (hw : (Lit.int .i64 id).wf = true) :
    Calls Try.prog 12 #[.pointer (some ⟨ga, 0, none⟩), .int .i64 cpu, .int .i64 to', .int .i64 id] W fun e w' => e = .returned (.int .i64 (moveV hs cpu to' id)) ∧ ∃ c', AL w0 w' c' i (moveH hs cpu to' id) now ga ∧ TurnedA c c' i w0 W w' := by
  have HA := Aside0.mk h
  have HL := Aside0.mk hl
  have HW := Aside0.mk hw
  obtain ⟨ev, hev⟩ : ∃ ev, moveV hs cpu to' id = ev := ⟨_, rfl⟩
  obtain ⟨eh, heh⟩ : ∃ eh, moveH hs cpu to' id = eh := ⟨_, rfl⟩
  have HEV := Aside0.mk hev
  have HEH := Aside0.mk (show eh = if ev = 0 then (hs.set cpu.toNat (unarm (hs.getD cpu.toNat []) id)).set to'.toNat (rearm ((hs.set cpu.toNat (unarm (hs.getD cpu.toNat []) id)).getD to'.toNat []) id (keyV (hs.getD cpu.toNat []) id).1) else hs from by rw [← heh, ← hev]; rfl)
  rw [hev, heh]
  clear hl hev heh hw
  cases hi : inr hs.length cpu with
  | false =>
    have HI := Aside0.mk hi
    have HV := Aside0.mk (show ev = 1 from by rw [← HEV.out]; unfold moveV; rw [if_pos (Or.inl hi)])
    obtain ⟨A, k, hb⟩ := h.at
    have HBK := Aside0.mk hb
    clear hi hb h
    go_enter Try.func12, Try.ntmps12
    go_wp2_with (first | (go_at_call 23; (with_reducible refine (is_calls _ HBK.out HI.out).mono ?_); rintro e wz ⟨rfl, hz⟩; have hz := hz.symm; subst hz))
    go_ret
    exact ⟨by rw [HV.out]; rfl, c, by rw [HEH.out, HV.out, if_neg (by decide)]; exact HA.out, TurnedA.refl _ _ _ _⟩
  | true =>
  cases hi2 : inr hs.length to' with
  | false =>
    have HI := Aside0.mk hi
    have HI2 := Aside0.mk hi2
    have HV := Aside0.mk (show ev = 1 from by rw [← HEV.out]; unfold moveV; rw [if_pos (Or.inr hi2)])
    obtain ⟨A, k, hb⟩ := h.at
    have HBK := Aside0.mk hb
    clear hi hi2 hb h
    go_enter Try.func12, Try.ntmps12
    go_wp2_with (first | (go_at_call 23; (with_reducible refine (is_calls _ HBK.out HI.out).mono ?_); rintro e wz ⟨rfl, hz⟩; have hz := hz.symm; subst hz) | (go_at_call 23; (with_reducible refine (is_calls _ HBK.out HI2.out).mono ?_); rintro e wz ⟨rfl, hz⟩; have hz := hz.symm; subst hz))
    go_ret
    exact ⟨by rw [HV.out]; rfl, c, by rw [HEH.out, HV.out, if_neg (by decide)]; exact HA.out, TurnedA.refl _ _ _ _⟩
  | true =>
    have HI := Aside0.mk hi
    have HI2 := Aside0.mk hi2
    obtain ⟨j, hj, hjn⟩ := inr_t hi
    subst hj
    obtain ⟨q, hq, hqn⟩ := inr_t hi2
    subst hq
    obtain ⟨ad, k, g, hb, hc, hm, hback⟩ := h.open hjn
    have HBK := Aside0.mk hb
    have HC := Aside0.mk hm
    have y0 := blk_cell hb 0
    have bq : (0 ≤ (j : Int) ∧ (j : Int) < (hs.length : Int)) := by omega
    rw [Int.toNat_natCast, Int.toNat_natCast] at HEH
    obtain ⟨⟨u, uk⟩, huk⟩ : ∃ v, keyV (hs.getD j []) id = v := ⟨_, rfl⟩
    have HK := Aside0.mk huk
    have HE2 := Aside0.mk (show ev = if uk = false then 4 else 0 from by rw [← HEV.out]; unfold moveV; rw [if_neg (by rw [hi, hi2]; simp), Int.toNat_natCast, huk])
    cases uk with
    | false =>
      have HV := Aside0.mk (show ev = 4 from by rw [HE2.out, if_pos rfl])
      clear hi hi2 hb h hm hback huk
      go_enter Try.func12, Try.ntmps12
      go_wp2_with (first | (go_at_call 23; (with_reducible refine (is_calls _ HBK.out HI.out).mono ?_); rintro e wz ⟨rfl, hz⟩; have hz := hz.symm; subst hz) | (go_at_call 23; (with_reducible refine (is_calls _ HBK.out HI2.out).mono ?_); rintro e wz ⟨rfl, hz⟩; have hz := hz.symm; subst hz) | (go_at_call 32; (with_reducible refine (keyA id HC.out HW.out).mono ?_); rintro e wz ⟨rfl, hz⟩; have hz := hz.symm; subst hz; rw [HK.out]))
      go_ret
      exact ⟨by rw [HV.out]; rfl, c, by rw [HEH.out, HV.out, if_neg (by decide)]; exact HA.out, TurnedA.refl _ _ _ _⟩
    | true =>
      have HV := Aside0.mk (show ev = 0 from by rw [HE2.out, if_neg (by decide)])
      obtain ⟨hs1, hhs1⟩ : ∃ hs1, hs.set j (unarm (hs.getD j []) id) = hs1 := ⟨_, rfl⟩
      have HS1 := Aside0.mk hhs1
      have HVL := Aside0.mk (show eh = hs1.set q (rearm (hs1.getD q []) id u) from by rw [HEH.out, HV.out, if_pos rfl, hhs1, huk])
      have hln : hs1.length = hs.length := by rw [← hhs1, List.length_set]
      have HQ := Aside0.mk (show q < hs1.length from by rw [hln]; exact hqn)
      have bq2 : (0 ≤ (q : Int) ∧ (q : Int) < (hs1.length : Int)) := by rw [hln]; omega
      have HL1 := Aside0.mk (show (hs1.getD q []).length < 1024 from by
        rw [← hhs1]
        by_cases e : q = j
        · subst e
          rw [List.getD_eq_getElem?_getD, List.getElem?_set_self hqn]
          exact Nat.lt_of_le_of_lt (unarm_le _ _) (HL.out q hqn)
        · rw [List.getD_eq_getElem?_getD, List.getElem?_set_ne (fun e2 => e e2.symm), ← List.getD_eq_getElem?_getD]
          exact HL.out q hqn)
      have HBB := Aside0.mk hback
      have HS := Aside0.mk h.size
      clear hi hi2 hb h hm hback huk hhs1 hln
      go_enter Try.func12, Try.ntmps12
      go_wp2_with (first | (go_at_call 23; (with_reducible refine (is_calls _ HBK.out HI.out).mono ?_); rintro e wz ⟨rfl, hz⟩; have hz := hz.symm; subst hz) | (go_at_call 23; (with_reducible refine (is_calls _ HBK.out HI2.out).mono ?_); rintro e wz ⟨rfl, hz⟩; have hz := hz.symm; subst hz) | (go_at_call 32; (with_reducible refine (keyA id HC.out HW.out).mono ?_); rintro e wz ⟨rfl, hz⟩; have hz := hz.symm; subst hz; rw [HK.out]) | (go_at_call 33; (with_reducible refine (dropA id HC.out HS.out HW.out).mono ?_); rintro e w3 ⟨rfl, c3, h3, t3⟩; have T3 := Aside0.mk t3; have A3 := HBB.out _ _ _ h3 t3; rw [HS1.out] at A3; have S3 := Aside0.mk A3.size; clear y0 hc h3 t3; obtain ⟨ad2, k2, g2, hb2, hc2, hm2, hback2⟩ := A3.open HQ.out; have y0 := blk_cell hb2 0; have HC2 := Aside0.mk hm2; have HB4 := Aside0.mk hback2; clear hb2 hm2 hback2 A3) | (go_at_call 24; (with_reducible refine (putA id u HC2.out S3.out HW.out HL1.out).mono ?_); rintro e w4 ⟨rfl, c4, h4, t4⟩; have H4 := Aside0.mk h4; have T4 := Aside0.mk t4; clear h4 t4))
      go_ret
      exact ⟨by rw [HV.out]; rfl, c4, by rw [HVL.out]; exact HB4.out _ _ _ H4.out T4.out, ((TurnedA.refl c i w0 W).step T3.out (by omega)).step T4.out (by omega)⟩
/-- The least of the first k registers. -/
def stepN (a v : Int × Bool) : Int × Bool := if v.2 = true ∧ (a.2 = false ∨ v.1 < a.1) then (v.1, true) else a
def nextN (hs : List (List (Int × Int))) : Nat → Int × Bool
  | 0 => (0, false)
  | k + 1 => stepN (nextN hs k) (regA hs (k : Int))
def nextV (hs : List (List (Int × Int))) : Int × Bool := nextN hs hs.length
def RelN (w0 W : World) (c : Nat → Nat) (i : Nat) (hs : List (List (Int × Int))) (now : Int) (ga : Nat) (lv av x : Value) (wr : World) : Prop :=
  ∃ k : Nat, k ≤ hs.length ∧ x = .int .i64 (k : Int) ∧ lv = .int .i64 (nextN hs k).1 ∧ av = .bool (nextN hs k).2 ∧ AL w0 wr c i hs now ga ∧ Below W.heap.size W wr
set_option maxHeartbeats 2000000 in
set_option maxRecDepth 100000 in
theorem next_calls {w0 W : World} {c : Nat → Nat} {i ga : Nat} {hs : List (List (Int × Int))} {now : Int} (h : AL w0 W c i hs now ga) (hl : hs.length ≤ 1000) {v : Int × Bool} (hv : nextV hs = v) :
    Calls Try.prog 14 #[.pointer (some ⟨ga, 0, none⟩)] W fun e w' => e = .returned (.tuple #[.int .i64 v.1, .bool v.2]) ∧ Below W.heap.size W w' := by
  subst hv
  have HA := Aside0.mk h
  have HL := Aside0.mk hl
  obtain ⟨A, k, hb⟩ := h.at
  have y0 := blk_cell hb 0
  clear hb h hl
  go_enter Try.func14, Try.ntmps14
  go_wp2
  go_loopw [4, 5, 14] (fun lv av x wr => RelN w0 W c i hs now ga lv av x wr) (fun _ _ x _ => hs.length - (intOf x).toNat)
  case atStart => exact ⟨0, Nat.zero_le _, rfl, rfl, rfl, HA.out, Below.refl _ _⟩
  case round =>
    obtain ⟨k, hk, rfl, rfl, rfl, hA, hB⟩ := hrel
    have AZ := Aside0.mk hA
    have BZ := Aside0.mk hB
    have hk1000 : k ≤ 1000 := by have := HL.out; omega
    obtain ⟨⟨a1, a2⟩, ha⟩ : ∃ a, nextN hs k = a := ⟨_, rfl⟩
    obtain ⟨⟨v1, v2⟩, hv⟩ : ∃ v, regA hs (k : Int) = v := ⟨_, rfl⟩
    have HN := Aside0.mk (show nextN hs (k + 1) = stepN (a1, a2) (v1, v2) from by rw [nextN, ha, hv])
    have HR := Aside0.mk hv
    have HNK := Aside0.mk ha
    rw [ha]
    clear hA hB hv ha y0
    by_cases hlt : k < hs.length
    · have pq : decide ((k : Int) < (hs.length : Int)) = true := decide_eq_true (by omega)
      have pqn : decide (k < hs.length) = true := decide_eq_true hlt
      cases v2 with
      | false =>
        have HE := Aside0.mk (show nextN hs (k + 1) = (a1, a2) from by rw [HN.out]; unfold stepN; rw [if_neg (fun e => absurd e.1 Bool.false_ne_true)])
        go_wp2_with (first | (go_at_call 13; (with_reducible refine (register_calls (k : Int) AZ.out HR.out).mono ?_); rintro e w2 ⟨rfl, hb2⟩; have A2 := Aside0.mk (AL.below AZ.out hb2); have B2 := Aside0.mk (BZ.out.trans (hb2.mono BZ.out.size)); clear hb2))
        exact ⟨⟨k + 1, by omega, by go_num, by rw [HE.out], by rw [HE.out], A2.out, B2.out⟩, by simp [intOf]; omega⟩
      | true =>
        cases a2 with
        | false =>
          have HE := Aside0.mk (show nextN hs (k + 1) = (v1, true) from by rw [HN.out]; unfold stepN; rw [if_pos ⟨rfl, Or.inl rfl⟩])
          go_wp2_with (first | (go_at_call 13; (with_reducible refine (register_calls (k : Int) AZ.out HR.out).mono ?_); rintro e w2 ⟨rfl, hb2⟩; have A2 := Aside0.mk (AL.below AZ.out hb2); have B2 := Aside0.mk (BZ.out.trans (hb2.mono BZ.out.size)); clear hb2))
          exact ⟨⟨k + 1, by omega, by go_num, by rw [HE.out], by rw [HE.out], A2.out, B2.out⟩, by simp [intOf]; omega⟩
        | true =>
          by_cases hlv : v1 < a1
          · have dlv : decide (v1 < a1) = true := decide_eq_true hlv
            have HE := Aside0.mk (show nextN hs (k + 1) = (v1, true) from by rw [HN.out]; unfold stepN; rw [if_pos ⟨rfl, Or.inr hlv⟩])
            clear hlv
            go_wp2_with (first | (go_at_call 13; (with_reducible refine (register_calls (k : Int) AZ.out HR.out).mono ?_); rintro e w2 ⟨rfl, hb2⟩; have A2 := Aside0.mk (AL.below AZ.out hb2); have B2 := Aside0.mk (BZ.out.trans (hb2.mono BZ.out.size)); clear hb2))
            exact ⟨⟨k + 1, by omega, by go_num, by rw [HE.out], by rw [HE.out], A2.out, B2.out⟩, by simp [intOf]; omega⟩
          · have dlv : decide (v1 < a1) = false := decide_eq_false hlv
            have HE := Aside0.mk (show nextN hs (k + 1) = (a1, true) from by rw [HN.out]; unfold stepN; rw [if_neg (by rintro ⟨_, e | e⟩; cases e; exact hlv e)])
            clear hlv
            go_wp2_with (first | (go_at_call 13; (with_reducible refine (register_calls (k : Int) AZ.out HR.out).mono ?_); rintro e w2 ⟨rfl, hb2⟩; have A2 := Aside0.mk (AL.below AZ.out hb2); have B2 := Aside0.mk (BZ.out.trans (hb2.mono BZ.out.size)); clear hb2))
            exact ⟨⟨k + 1, by omega, by go_num, by rw [HE.out], by rw [HE.out], A2.out, B2.out⟩, by simp [intOf]; omega⟩
    · have pq : decide ((k : Int) < (hs.length : Int)) = false := decide_eq_false (by omega)
      have pqn : decide (k < hs.length) = false := decide_eq_false hlt
      have HE := Aside0.mk (show nextV hs = (a1, a2) from by unfold nextV; rw [show hs.length = k by omega]; exact HNK.out)
      go_wp2
      go_ret2
      exact ⟨by rw [HE.out]; rfl, BZ.out⟩
end Go.Proofs.Ytdmoembbgcoeaaa.Alarm
