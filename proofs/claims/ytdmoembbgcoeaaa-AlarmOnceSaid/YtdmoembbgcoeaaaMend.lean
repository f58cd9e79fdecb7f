/- The heap's method mend: an item goes up, or down, to where it belongs (no law is stated here; each says its conditions). -/
import Derived.Test.YtdmoembbgcoeaaaHeapP
import Derived.Test.YtdmoembbgcoeaaaQt
import Derived.Test.YtdmoembbgcoeaaaWInvWords
namespace Go.Proofs.Ytdmoembbgcoeaaa.Heap
open Go.RowKit Go.Proofs.YtdmoembbgcoeaaaW.PrintWords Go.Proofs.YtdmoembbgcoeaaaW.PrintLast Go.Proofs.YtdmoembbgcoeaaaW.PrintMore Go.Proofs.Ytdmoembbgcoeaaa.St Go.Proofs.Ytdmoembbgcoeaaa.Q
set_option linter.unusedVariables false
set_option linter.unusedSimpArgs false
attribute [local go_sem] max2_int min2_int max_two min_two max_three min_three max_four min_four

/-- A heap's blocks, a box (gx) beside them. -/
def okx (w : World) (ok : Nat → Prop) (gx : Nat) : Nat → Prop := fun k => (ok k ∨ w.heap.size ≤ k) ∧ k ≠ gx
/-- What the rounds keep. -/
structure Keeps (w : World) (b : Nat) (ok : Nat → Prop) (x0 : H) (y : Int × Int) (v : Value) (gx : Nat) (k : Nat) (x' : H) (wr : World) : Prop where
  great : x'.great = x0.great
  room : x'.room = x0.room
  hole : Hole x' k y
  near : Near x0.great x'.l k
  perm : (x'.l.set k y).Perm x0.l
  st : heap.M wr b (okx w ok gx) x' v
  far : Wrote w wr ok
  box : wr.heap[gx]? = some (.cells #[.int .i64 y.1, .int .i64 y.2] 62 (0, 0))
  gx : w.heap.size ≤ gx
def RelU (w : World) (b : Nat) (ok : Nat → Prop) (x0 : H) (y : Int × Int) (v : Value) (gx : Nat) (i : Value) (wr : World) : Prop := ∃ (k : Nat) (x' : H), i = .int .i64 (k : Int) ∧ Keeps w b ok x0 y v gx k x' wr
def RelD (w : World) (b : Nat) (ok : Nat → Prop) (x0 : H) (y : Int × Int) (v : Value) (gx : Nat) (i kid : Value) (wr : World) : Prop := ∃ (k q1 : Nat) (x' : H), i = .int .i64 (k : Int) ∧ kid = .int .i64 (q1 : Int) ∧ 2 * k + 1 = q1 ∧ Keeps w b ok x0 y v gx k x' wr ∧ (0 < k → lt x0.great y (at_ x'.l ((k - 1) / 2)) = false)
section
variable {w wr : World} {b : Nat} {ok : Nat → Prop} {x0 x' : H} {y : Int × Int} {v : Value} {gx k : Nat}
theorem Keeps.len (h : Keeps w b ok x0 y v gx k x' wr) : x'.l.length = x0.l.length := by have := h.perm.length_eq; rwa [List.length_set] at this
/-- One that is elsewhere is put at the hole. -/
theorem Keeps.step {p : Nat} {w1 : World} (h : Keeps w b ok x0 y v gx k x' wr) (hp : p < x'.l.length) (hne : p ≠ k) (hn : Near x0.great (x'.l.set k (at_ x'.l p)) p) (hM : heap.M w1 b (more wr (okx w ok gx)) (putH x' k (at_ x'.l p)) v) (hw : Wrote wr w1 (okx w ok gx)) : Keeps w b ok x0 y v gx p (putH x' k (at_ x'.l p)) w1 := by
  have hm := h.hole.move hp hne
  refine ⟨h.great, h.room, hm.1, hn, hm.2.trans h.perm, heap.mono (fun j hj => ?_) hM, h.far.trans hw (fun j hj => hj.1), (hw.block gx (blk_lt h.box) (fun e => e.2 rfl)).trans h.box, h.gx⟩
  rcases hj with hj | hj
  · exact hj
  · exact ⟨Or.inr (Nat.le_trans h.far.size hj), fun e => by have := blk_lt h.box; omega⟩
theorem Keeps.below {w1 : World} (h : Keeps w b ok x0 y v gx k x' wr) (hb : Below wr.heap.size wr w1) : Keeps w b ok x0 y v gx k x' w1 :=
  ⟨h.great, h.room, h.hole, h.near, h.perm, heap.mono (fun _ hk => hk.1) (heap.move (fun k hk => hb.block k hk.2.2) (heap.bound h.st)), h.far.trans (Wrote.of_below hb (fun _ => False)) (fun _ hk => hk.elim), blk_below h.box hb, h.gx⟩
end
theorem set_at {l : List (Int × Int)} {k : Nat} (h : k < l.length) : l.set k (at_ l k) = l := by
  have e : at_ l k = l[k] := by unfold at_; rw [List.getD_eq_getElem?_getD, List.getElem?_eq_getElem h]; rfl
  rw [e, List.set_getElem_self]
set_option maxHeartbeats 1000000 in
set_option maxRecDepth 100000 in
theorem mend_calls {w : World} {b : Nat} {ok : Nat → Prop} {x : H} {v : Value} (i : Nat) (hM : heap.M w b ok x v) (hh : Hole x i (at_ x.l i)) (hn : Near x.great x.l i) :
    Calls Try.prog 40 #[v, .int .i64 (i : Int)] w fun e w' => e = .returned (.tuple #[]) ∧ (∃ x' : H, x'.great = x.great ∧ x'.room = x.room ∧ Full x' ∧ Ord x.great x'.l ∧ x'.l.Perm x.l ∧ heap.M w' b (more w ok) x' v) ∧ Wrote w w' ok := by
  obtain ⟨g, sv, bm, rfl, hA⟩ := hM
  obtain ⟨g2, c, rfl, hg2, hn2, hn3⟩ := hA.form (by have := hh.lt; omega)
  have HA := Aside0.mk hA
  have HH := Aside0.mk hh
  have HN := Aside0.mk hn
  have hi := hh.lt
  have hlt : (i : Int) < (x.l.length : Int) := by omega
  have hc2 := hA.c2
  obtain ⟨⟨k1, k2⟩, _, _⟩ := item_get hA.row hi
  rw [show x.l.getD i (0, 0) = at_ x.l i from rfl] at k1 k2
  generalize hy : at_ x.l i = y at k1 k2 HH
  have HY := Aside0.mk hy
  clear hA hh hn hy
  go_enter Try.func40, Try.ntmps40
  go_upto_block 0 with (fail)
  have hw4 : ∃ w4 : World, (w.alloc (.cells #[.int .i64 y.1, .int .i64 y.2] 62)) = w4 := ⟨_, rfl⟩
  obtain ⟨w4, hw4⟩ := hw4
  have hb4 : Below w.heap.size w w4 := by rw [← hw4]; exact below_alloc (Below.refl _ _) _
  have hx4 : w4.heap[w.heap.size]? = some (.cells #[.int .i64 y.1, .int .i64 y.2] 62 (0, 0)) := by rw [← hw4]; exact blk_new w _
  rw [hw4]
  obtain ⟨gx, hgx⟩ : ∃ gx : Nat, w.heap.size = gx := ⟨_, rfl⟩
  rw [hgx]
  have HK4 := Aside0.mk (show Keeps w b ok x y (.pointer (some ⟨g, 0, none⟩)) gx i x w4 from ⟨rfl, rfl, HH.out, HN.out, by
    rw [← HY.out]
    rw [show x.l.set i (at_ x.l i) = x.l from set_at hi], heap.mono (fun k hk => ⟨Or.inl hk.1, by have := hk.2.2; omega⟩) (heap.move (fun k hk => hb4.block k hk.2.2) (heap.bound HA.out.toM)), Wrote.of_below hb4 ok, by rw [← hgx]; exact hx4, by omega⟩)
  clear k1 k2 hw4 hb4 hx4 hc2 hlt
  go_cut [1] (fun v1 wc => ∃ (k : Nat) (x' : H), v1 = .int .i64 (k : Int) ∧ Keeps w b ok x y (.pointer (some ⟨g, 0, none⟩)) gx k x' wc ∧ (0 < k → lt x.great y (at_ x'.l ((k - 1) / 2)) = false))
  case first =>
    go_wp2
    go_loopw [1] (fun iv wr => RelU w b ok x y (.pointer (some ⟨g, 0, none⟩)) gx iv wr) (fun iv _ => (intOf iv).toNat)
    case atStart => exact ⟨i, x, rfl, HK4.out⟩
    case round =>
      obtain ⟨k, x', rfl, hK⟩ := hrel
      have HK := Aside0.mk hK
      clear hK HK4
      by_cases hk : k = 0
      · have h0 : decide ((0 : Int) < (k : Int)) = false := decide_eq_false (by omega)
        have h0n : decide (0 < k) = false := decide_eq_false (by omega)
        have HK00 := Aside0.mk hk
        clear hk
        go_upto_region 1 with (fail)
        refine q_start (by kernel_rfl) (by kernel_rfl) (fun w' => Below wr.heap.size wr w') (below_drew (Below.refl _ _)) ?_
        refine q_op (v := ?_) (a' := ?_) ?hw1 ?_ ?_ ?_
        case hw1 => rfl
        rotate_left
        rotate_left
        · intro w' hC_
          obtain _ := ((fun _ _ => trivial : ∀ w' : World, Below wr.heap.size wr w' → True) w' hC_)
          go_simp
          with_reducible rfl
        · show Act.put _ (some 13) _ = _
          simp only [Act.put, List.setIfInBounds_toArray, List.set_cons_zero, List.set_cons_succ, i64_w, i32_w]
          rfl
        refine q_op (v := ?_) (a' := ?_) ?hw1 ?_ ?_ ?_
        case hw1 => rfl
        rotate_left
        rotate_left
        · intro w' hC_
          obtain _ := ((fun _ _ => trivial : ∀ w' : World, Below wr.heap.size wr w' → True) w' hC_)
          go_simp
          with_reducible rfl
        · show Act.put _ (some 14) _ = _
          simp only [Act.put, List.setIfInBounds_toArray, List.set_cons_zero, List.set_cons_succ, i64_w, i32_w]
          rfl
        refine q_op (v := ?_) (a' := ?_) ?hw1 ?_ ?_ ?_
        case hw1 => rfl
        rotate_left
        rotate_left
        · intro w' hC_
          obtain _ := ((fun _ _ => trivial : ∀ w' : World, Below wr.heap.size wr w' → True) w' hC_)
          go_simp
          with_reducible rfl
        · show Act.put _ (some 15) _ = _
          simp only [Act.put, List.setIfInBounds_toArray, List.set_cons_zero, List.set_cons_succ, i64_w, i32_w]
          rfl
        refine q_off (a' := ?_) ?hw1 ?_ ?_
        case hw1 => exact wanted_off rfl rfl rfl rfl
        rotate_left
        · show Act.put _ (some 16) _ = _
          simp only [Act.put, List.setIfInBounds_toArray, List.set_cons_zero, List.set_cons_succ, i64_w, i32_w]
          rfl
        refine q_off (a' := ?_) ?hw1 ?_ ?_
        case hw1 => exact wanted_off rfl rfl rfl rfl
        rotate_left
        · show Act.put _ (some 17) _ = _
          simp only [Act.put, List.setIfInBounds_toArray, List.set_cons_zero, List.set_cons_succ, i64_w, i32_w]
          rfl
        refine q_off (a' := ?_) ?hw1 ?_ ?_
        case hw1 => exact wanted_off rfl rfl rfl rfl
        rotate_left
        · show Act.put _ (some 18) _ = _
          simp only [Act.put, List.setIfInBounds_toArray, List.set_cons_zero, List.set_cons_succ, i64_w, i32_w]
          rfl
        refine q_off (a' := ?_) ?hw1 ?_ ?_
        case hw1 => exact wanted_off rfl rfl rfl rfl
        rotate_left
        · show Act.put _ (some 19) _ = _
          simp only [Act.put, List.setIfInBounds_toArray, List.set_cons_zero, List.set_cons_succ, i64_w, i32_w]
          rfl
        refine q_off (a' := ?_) ?hw1 ?_ ?_
        case hw1 => exact wanted_off rfl rfl rfl rfl
        rotate_left
        · show Act.put _ (some 20) _ = _
          simp only [Act.put, List.setIfInBounds_toArray, List.set_cons_zero, List.set_cons_succ, i64_w, i32_w]
          rfl
        refine q_off (a' := ?_) ?hw1 ?_ ?_
        case hw1 => exact wanted_off rfl rfl rfl rfl
        rotate_left
        · show Act.put _ (some 21) _ = _
          simp only [Act.put, List.setIfInBounds_toArray, List.set_cons_zero, List.set_cons_succ, i64_w, i32_w]
          rfl
        refine q_off (a' := ?_) ?hw1 ?_ ?_
        case hw1 => exact wanted_off rfl rfl rfl rfl
        rotate_left
        · show Act.put _ (some 22) _ = _
          simp only [Act.put, List.setIfInBounds_toArray, List.set_cons_zero, List.set_cons_succ, i64_w, i32_w]
          rfl
        refine q_off (a' := ?_) ?hw1 ?_ ?_
        case hw1 => exact wanted_off rfl rfl rfl rfl
        rotate_left
        · show Act.put _ (some 23) _ = _
          simp only [Act.put, List.setIfInBounds_toArray, List.set_cons_zero, List.set_cons_succ, i64_w, i32_w]
          rfl
        refine q_off (a' := ?_) ?hw1 ?_ ?_
        case hw1 => exact wanted_off rfl rfl rfl rfl
        rotate_left
        · show Act.put _ (some 24) _ = _
          simp only [Act.put, List.setIfInBounds_toArray, List.set_cons_zero, List.set_cons_succ, i64_w, i32_w]
          rfl
        refine q_off (a' := ?_) ?hw1 ?_ ?_
        case hw1 => exact wanted_off rfl rfl rfl rfl
        rotate_left
        · show Act.put _ (some 25) _ = _
          simp only [Act.put, List.setIfInBounds_toArray, List.set_cons_zero, List.set_cons_succ, i64_w, i32_w]
          rfl
        refine q_off (a' := ?_) ?hw1 ?_ ?_
        case hw1 => exact wanted_off rfl rfl rfl rfl
        rotate_left
        · show Act.put _ (some 26) _ = _
          simp only [Act.put, List.setIfInBounds_toArray, List.set_cons_zero, List.set_cons_succ, i64_w, i32_w]
          rfl
        refine q_off (a' := ?_) ?hw1 ?_ ?_
        case hw1 => exact wanted_off rfl rfl rfl rfl
        rotate_left
        · show Act.put _ (some 27) _ = _
          simp only [Act.put, List.setIfInBounds_toArray, List.set_cons_zero, List.set_cons_succ, i64_w, i32_w]
          rfl
        refine q_off (a' := ?_) ?hw1 ?_ ?_
        case hw1 => exact wanted_off rfl rfl rfl rfl
        rotate_left
        · show Act.put _ (some 28) _ = _
          simp only [Act.put, List.setIfInBounds_toArray, List.set_cons_zero, List.set_cons_succ, i64_w, i32_w]
          rfl
        refine q_op (v := ?_) (a' := ?_) ?hw1 ?_ ?_ ?_
        case hw1 => rfl
        rotate_left
        rotate_left
        · intro w' hC_
          obtain _ := ((fun _ _ => trivial : ∀ w' : World, Below wr.heap.size wr w' → True) w' hC_)
          go_simp
          with_reducible rfl
        · show Act.put _ (some 29) _ = _
          simp only [Act.put, List.setIfInBounds_toArray, List.set_cons_zero, List.set_cons_succ, i64_w, i32_w]
          rfl
        refine q_nil ?_
        intro wq hC_
        have hbq := hC_
        have HKQ := Aside0.mk (HK.out.below hbq)
        clear hC_
        go_wp2
        go_meet
        exact ⟨k, x', rfl, HKQ.out, fun h => absurd h (by have := HK00.out; omega)⟩
      · obtain ⟨p, hp⟩ : ∃ p : Nat, (k - 1) / 2 = p := ⟨_, rfl⟩
        have hkl := HK.out.hole.lt
        have hpl : p < x'.l.length := by omega
        have hl1024 : x'.l.length ≤ 1024 := by obtain ⟨_, _, _, _, hA'⟩ := HK.out.st; exact hA'.len
        have h0 : decide ((0 : Int) < (k : Int)) = true := decide_eq_true (by omega)
        have h0' : (0 : Int) < (k : Int) := by omega
        have h0n : decide (0 < k) = true := decide_eq_true (by omega)
        have hd : ((k : Int) - 1).tdiv 2 = (p : Int) := by rw [Int.tdiv_eq_ediv_of_nonneg (by omega)]; omega
        have hd2 : ((k : Int) - 1) / 2 = (p : Int) := by omega
        have hk1024 : (k : Int) < 1024 := by omega
        have hqw : wrap64 ((wrap64 ((k : Int) - 1)).tdiv 2) = (p : Int) := by rw [show wrap64 ((k : Int) - 1) = (k : Int) - 1 by unfold wrap64; omega, hd]; unfold wrap64; omega
        have hp0 : (0 : Int) ≤ (p : Int) := by omega
        have hpl2 : (p : Int) < (x'.l.length : Int) := by omega
        obtain ⟨g', sv', bm', he', hA'⟩ := HK.out.st
        obtain rfl : g = g' := by injection he' with e1; injection e1 with e2; injection e2
        obtain ⟨g3, c3, rfl, hg3, _, _⟩ := hA'.form (by omega)
        have HF := Aside0.mk (show ∀ w' : World, Below wr.heap.size wr w' → w'.cell? ⟨gx, 0, none⟩ = some (.int .i64 y.1) ∧ w'.cell? ⟨gx, 1, none⟩ = some (.int .i64 y.2) ∧ w'.cell? ⟨g, 2, none⟩ = some (.slice (some ⟨g3, 0, none⟩) x'.l.length c3) ∧ w'.cell? ⟨g3, p * 2, none⟩ = some (.int .i64 (at_ x'.l p).1) ∧ w'.cell? ⟨g3, p * 2 + 1, none⟩ = some (.int .i64 (at_ x'.l p).2) from fun w' hb => ⟨blk_cell (blk_below HK.out.box hb) 0, blk_cell (blk_below HK.out.box hb) 1, (hA'.below hb).c2, (item_get (hA'.below hb).row hpl).1.1, (item_get (hA'.below hb).row hpl).1.2⟩)
        obtain ⟨r, hr⟩ : ∃ r : Int, cmpv x.great y (at_ x'.l p) = r := ⟨_, rfl⟩
        have HR := Aside0.mk hr
        have HLT := Aside0.mk (lt_iff x.great y (at_ x'.l p))
        rw [hr] at HLT
        have HWF := Aside0.mk (hA'.wf _ (at_mem hpl))
        have HSZ := Aside0.mk (HK.out.hole.sz_le hl1024 (at_ x'.l p) (Or.inr (by rw [(HK.out.hole.fwd p hpl (by omega)).1]; rfl)))
        clear hr hA' he'
        cases hc : lt x.great y (at_ x'.l p) with
        | true =>
          have hr0 : decide (r < 0) = true := by rw [← hc]; exact HLT.out
          go_upto_region 1 with (fail)
          refine q_start (by kernel_rfl) (by kernel_rfl) (fun w' => Below wr.heap.size wr w') (below_drew (Below.refl _ _)) ?_
          refine q_op (v := ?_) (a' := ?_) ?hw6 ?_ ?_ ?_
          case hw6 => rfl
          rotate_left
          rotate_left
          · intro w' hC_
            obtain ⟨s1, s2, s3, s4, s5⟩ := (HF.out w' hC_)
            go_simp
            with_reducible rfl
          · show Act.put _ (some 13) _ = _
            simp only [Act.put, List.setIfInBounds_toArray, List.set_cons_zero, List.set_cons_succ, i64_w, i32_w]
            rfl
          refine q_op (v := ?_) (a' := ?_) ?hw6 ?_ ?_ ?_
          case hw6 => rfl
          rotate_left
          rotate_left
          · intro w' hC_
            obtain ⟨s1, s2, s3, s4, s5⟩ := (HF.out w' hC_)
            go_simp
            with_reducible rfl
          · show Act.put _ (some 14) _ = _
            simp only [Act.put, List.setIfInBounds_toArray, List.set_cons_zero, List.set_cons_succ, i64_w, i32_w]
            rfl
          refine q_op (v := ?_) (a' := ?_) ?hw6 ?_ ?_ ?_
          case hw6 => rfl
          rotate_left
          rotate_left
          · intro w' hC_
            obtain ⟨s1, s2, s3, s4, s5⟩ := (HF.out w' hC_)
            go_simp
            with_reducible rfl
          · show Act.put _ (some 15) _ = _
            simp only [Act.put, List.setIfInBounds_toArray, List.set_cons_zero, List.set_cons_succ, i64_w, i32_w]
            rfl
          refine q_op (v := ?_) (a' := ?_) ?hw6 ?_ ?_ ?_
          case hw6 => exact wanted_on rfl rfl rfl rfl
          rotate_left
          rotate_left
          · intro w' hC_
            obtain ⟨s1, s2, s3, s4, s5⟩ := (HF.out w' hC_)
            go_simp
            with_reducible rfl
          · show Act.put _ (some 16) _ = _
            simp only [Act.put, List.setIfInBounds_toArray, List.set_cons_zero, List.set_cons_succ, i64_w, i32_w]
            rfl
          refine q_op (v := ?_) (a' := ?_) ?hw6 ?_ ?_ ?_
          case hw6 => exact wanted_on rfl rfl rfl rfl
          rotate_left
          rotate_left
          · intro w' hC_
            obtain ⟨s1, s2, s3, s4, s5⟩ := (HF.out w' hC_)
            go_simp
            with_reducible rfl
          · show Act.put _ (some 17) _ = _
            simp only [Act.put, List.setIfInBounds_toArray, List.set_cons_zero, List.set_cons_succ, i64_w, i32_w]
            rfl
          refine q_op (v := ?_) (a' := ?_) ?hw6 ?_ ?_ ?_
          case hw6 => exact wanted_on rfl rfl rfl rfl
          rotate_left
          rotate_left
          · intro w' hC_
            obtain ⟨s1, s2, s3, s4, s5⟩ := (HF.out w' hC_)
            go_simp
            with_reducible rfl
          · show Act.put _ (some 18) _ = _
            simp only [Act.put, List.setIfInBounds_toArray, List.set_cons_zero, List.set_cons_succ, i64_w, i32_w]
            rfl
          refine q_op (v := ?_) (a' := ?_) ?hw6 ?_ ?_ ?_
          case hw6 => exact wanted_on rfl rfl rfl rfl
          rotate_left
          rotate_left
          · intro w' hC_
            obtain ⟨s1, s2, s3, s4, s5⟩ := (HF.out w' hC_)
            go_simp
            with_reducible rfl
          · show Act.put _ (some 19) _ = _
            simp only [Act.put, List.setIfInBounds_toArray, List.set_cons_zero, List.set_cons_succ, i64_w, i32_w]
            rfl
          refine q_op (v := ?_) (a' := ?_) ?hw6 ?_ ?_ ?_
          case hw6 => exact wanted_on rfl rfl rfl rfl
          rotate_left
          rotate_left
          · intro w' hC_
            obtain ⟨s1, s2, s3, s4, s5⟩ := (HF.out w' hC_)
            go_simp
            with_reducible rfl
          · show Act.put _ (some 20) _ = _
            simp only [Act.put, List.setIfInBounds_toArray, List.set_cons_zero, List.set_cons_succ, i64_w, i32_w]
            rfl
          refine q_op (v := ?_) (a' := ?_) ?hw6 ?_ ?_ ?_
          case hw6 => exact wanted_on rfl rfl rfl rfl
          rotate_left
          rotate_left
          · intro w' hC_
            obtain ⟨s1, s2, s3, s4, s5⟩ := (HF.out w' hC_)
            go_simp
            with_reducible rfl
          · show Act.put _ (some 21) _ = _
            simp only [Act.put, List.setIfInBounds_toArray, List.set_cons_zero, List.set_cons_succ, i64_w, i32_w]
            rfl
          refine q_op (v := ?_) (a' := ?_) ?hw6 ?_ ?_ ?_
          case hw6 => exact wanted_on rfl rfl rfl rfl
          rotate_left
          rotate_left
          · intro w' hC_
            obtain ⟨s1, s2, s3, s4, s5⟩ := (HF.out w' hC_)
            go_simp
            with_reducible rfl
          · show Act.put _ (some 22) _ = _
            simp only [Act.put, List.setIfInBounds_toArray, List.set_cons_zero, List.set_cons_succ, i64_w, i32_w]
            rfl
          refine q_op (v := ?_) (a' := ?_) ?hw6 ?_ ?_ ?_
          case hw6 => exact wanted_on rfl rfl rfl rfl
          rotate_left
          rotate_left
          · intro w' hC_
            obtain ⟨s1, s2, s3, s4, s5⟩ := (HF.out w' hC_)
            go_simp
            with_reducible rfl
          · show Act.put _ (some 23) _ = _
            simp only [Act.put, List.setIfInBounds_toArray, List.set_cons_zero, List.set_cons_succ, i64_w, i32_w]
            rfl
          refine q_op (v := ?_) (a' := ?_) ?hw6 ?_ ?_ ?_
          case hw6 => exact wanted_on rfl rfl rfl rfl
          rotate_left
          rotate_left
          · intro w' hC_
            obtain ⟨s1, s2, s3, s4, s5⟩ := (HF.out w' hC_)
            go_simp
            with_reducible rfl
          · show Act.put _ (some 24) _ = _
            simp only [Act.put, List.setIfInBounds_toArray, List.set_cons_zero, List.set_cons_succ, i64_w, i32_w]
            rfl
          refine q_op (v := ?_) (a' := ?_) ?hw6 ?_ ?_ ?_
          case hw6 => exact wanted_on rfl rfl rfl rfl
          rotate_left
          rotate_left
          · intro w' hC_
            obtain ⟨s1, s2, s3, s4, s5⟩ := (HF.out w' hC_)
            go_simp
            with_reducible rfl
          · show Act.put _ (some 25) _ = _
            simp only [Act.put, List.setIfInBounds_toArray, List.set_cons_zero, List.set_cons_succ, i64_w, i32_w]
            rfl
          refine q_op (v := ?_) (a' := ?_) ?hw6 ?_ ?_ ?_
          case hw6 => exact wanted_on rfl rfl rfl rfl
          rotate_left
          rotate_left
          · intro w' hC_
            obtain ⟨s1, s2, s3, s4, s5⟩ := (HF.out w' hC_)
            go_simp
            with_reducible rfl
          · show Act.put _ (some 26) _ = _
            simp only [Act.put, List.setIfInBounds_toArray, List.set_cons_zero, List.set_cons_succ, i64_w, i32_w]
            rfl
          refine q_call (a' := ?_) Try.func51 (by kernel_rfl) rfl #[.pointer (some ⟨g, 0, none⟩), .agg #[.int .i64 y.1, .int .i64 y.2], .agg #[.int .i64 (at_ x'.l p).1, .int .i64 (at_ x'.l p).2]] ?hw6 rfl ?hx6 (.int .i64 r) ?_ ?_ ?_
          case hw6 => exact wanted_on rfl rfl rfl rfl
          case hx6 => (try simp only [List.map_toArray, List.map_cons, List.map_nil]); first | done | rfl
          rotate_left
          · intro w' hC_
            exact (compare_calls (y) (at_ x'.l p) (heap.mono (fun _ hk => hk.1) (heap.move (fun k hk => hC_.block k hk.2.2) (heap.bound HK.out.st)))).mono (fun e w'' ⟨he, hb⟩ => ⟨by rw [he, HK.out.great, HR.out], hC_.trans (hb.mono hC_.size)⟩)
          · show Act.put _ (some 27) _ = _
            simp only [Act.put, List.setIfInBounds_toArray, List.set_cons_zero, List.set_cons_succ, i64_w, i32_w]
            rfl
          refine q_op (v := ?_) (a' := ?_) ?hw6 ?_ ?_ ?_
          case hw6 => exact wanted_on rfl rfl rfl rfl
          rotate_left
          rotate_left
          · intro w' hC_
            obtain ⟨s1, s2, s3, s4, s5⟩ := (HF.out w' hC_)
            go_simp
            with_reducible rfl
          · show Act.put _ (some 28) _ = _
            simp only [Act.put, List.setIfInBounds_toArray, List.set_cons_zero, List.set_cons_succ, i64_w, i32_w]
            rfl
          refine q_op (v := ?_) (a' := ?_) ?hw6 ?_ ?_ ?_
          case hw6 => rfl
          rotate_left
          rotate_left
          · intro w' hC_
            obtain ⟨s1, s2, s3, s4, s5⟩ := (HF.out w' hC_)
            go_simp
            with_reducible rfl
          · show Act.put _ (some 29) _ = _
            simp only [Act.put, List.setIfInBounds_toArray, List.set_cons_zero, List.set_cons_succ, i64_w, i32_w]
            rfl
          refine q_nil ?_
          intro wq hC_
          have hbq := hC_
          have HKQ := Aside0.mk (HK.out.below hbq)
          clear hC_
          obtain ⟨s1, s2, s3, s4, s5⟩ := HF.out wq hbq
          clear hbq
          go_wp2_with (first | (go_at_call 52; (with_reducible refine (put_calls k (at_ x'.l p) HKQ.out.st hkl HWF.out HSZ.out).mono ?_); rintro e w6 ⟨rfl, hM6, hW6⟩; have HK6 := Aside0.mk (HKQ.out.step hpl (by omega) (by rw [← hp]; exact HKQ.out.near.up (by omega) hkl) hM6 hW6); clear hM6 hW6))
          go_roundw
          case rel => exact ⟨p, _, rfl, HK6.out⟩
          case measure => simp [intOf]; omega
        | false =>
          have hr0 : decide (r < 0) = false := by rw [← hc]; exact HLT.out
          go_upto_region 1 with (fail)
          refine q_start (by kernel_rfl) (by kernel_rfl) (fun w' => Below wr.heap.size wr w') (below_drew (Below.refl _ _)) ?_
          refine q_op (v := ?_) (a' := ?_) ?hw7 ?_ ?_ ?_
          case hw7 => rfl
          rotate_left
          rotate_left
          · intro w' hC_
            obtain ⟨s1, s2, s3, s4, s5⟩ := (HF.out w' hC_)
            go_simp
            with_reducible rfl
          · show Act.put _ (some 13) _ = _
            simp only [Act.put, List.setIfInBounds_toArray, List.set_cons_zero, List.set_cons_succ, i64_w, i32_w]
            rfl
          refine q_op (v := ?_) (a' := ?_) ?hw7 ?_ ?_ ?_
          case hw7 => rfl
          rotate_left
          rotate_left
          · intro w' hC_
            obtain ⟨s1, s2, s3, s4, s5⟩ := (HF.out w' hC_)
            go_simp
            with_reducible rfl
          · show Act.put _ (some 14) _ = _
            simp only [Act.put, List.setIfInBounds_toArray, List.set_cons_zero, List.set_cons_succ, i64_w, i32_w]
            rfl
          refine q_op (v := ?_) (a' := ?_) ?hw7 ?_ ?_ ?_
          case hw7 => rfl
          rotate_left
          rotate_left
          · intro w' hC_
            obtain ⟨s1, s2, s3, s4, s5⟩ := (HF.out w' hC_)
            go_simp
            with_reducible rfl
          · show Act.put _ (some 15) _ = _
            simp only [Act.put, List.setIfInBounds_toArray, List.set_cons_zero, List.set_cons_succ, i64_w, i32_w]
            rfl
          refine q_op (v := ?_) (a' := ?_) ?hw7 ?_ ?_ ?_
          case hw7 => exact wanted_on rfl rfl rfl rfl
          rotate_left
          rotate_left
          · intro w' hC_
            obtain ⟨s1, s2, s3, s4, s5⟩ := (HF.out w' hC_)
            go_simp
            with_reducible rfl
          · show Act.put _ (some 16) _ = _
            simp only [Act.put, List.setIfInBounds_toArray, List.set_cons_zero, List.set_cons_succ, i64_w, i32_w]
            rfl
          refine q_op (v := ?_) (a' := ?_) ?hw7 ?_ ?_ ?_
          case hw7 => exact wanted_on rfl rfl rfl rfl
          rotate_left
          rotate_left
          · intro w' hC_
            obtain ⟨s1, s2, s3, s4, s5⟩ := (HF.out w' hC_)
            go_simp
            with_reducible rfl
          · show Act.put _ (some 17) _ = _
            simp only [Act.put, List.setIfInBounds_toArray, List.set_cons_zero, List.set_cons_succ, i64_w, i32_w]
            rfl
          refine q_op (v := ?_) (a' := ?_) ?hw7 ?_ ?_ ?_
          case hw7 => exact wanted_on rfl rfl rfl rfl
          rotate_left
          rotate_left
          · intro w' hC_
            obtain ⟨s1, s2, s3, s4, s5⟩ := (HF.out w' hC_)
            go_simp
            with_reducible rfl
          · show Act.put _ (some 18) _ = _
            simp only [Act.put, List.setIfInBounds_toArray, List.set_cons_zero, List.set_cons_succ, i64_w, i32_w]
            rfl
          refine q_op (v := ?_) (a' := ?_) ?hw7 ?_ ?_ ?_
          case hw7 => exact wanted_on rfl rfl rfl rfl
          rotate_left
          rotate_left
          · intro w' hC_
            obtain ⟨s1, s2, s3, s4, s5⟩ := (HF.out w' hC_)
            go_simp
            with_reducible rfl
          · show Act.put _ (some 19) _ = _
            simp only [Act.put, List.setIfInBounds_toArray, List.set_cons_zero, List.set_cons_succ, i64_w, i32_w]
            rfl
          refine q_op (v := ?_) (a' := ?_) ?hw7 ?_ ?_ ?_
          case hw7 => exact wanted_on rfl rfl rfl rfl
          rotate_left
          rotate_left
          · intro w' hC_
            obtain ⟨s1, s2, s3, s4, s5⟩ := (HF.out w' hC_)
            go_simp
            with_reducible rfl
          · show Act.put _ (some 20) _ = _
            simp only [Act.put, List.setIfInBounds_toArray, List.set_cons_zero, List.set_cons_succ, i64_w, i32_w]
            rfl
          refine q_op (v := ?_) (a' := ?_) ?hw7 ?_ ?_ ?_
          case hw7 => exact wanted_on rfl rfl rfl rfl
          rotate_left
          rotate_left
          · intro w' hC_
            obtain ⟨s1, s2, s3, s4, s5⟩ := (HF.out w' hC_)
            go_simp
            with_reducible rfl
          · show Act.put _ (some 21) _ = _
            simp only [Act.put, List.setIfInBounds_toArray, List.set_cons_zero, List.set_cons_succ, i64_w, i32_w]
            rfl
          refine q_op (v := ?_) (a' := ?_) ?hw7 ?_ ?_ ?_
          case hw7 => exact wanted_on rfl rfl rfl rfl
          rotate_left
          rotate_left
          · intro w' hC_
            obtain ⟨s1, s2, s3, s4, s5⟩ := (HF.out w' hC_)
            go_simp
            with_reducible rfl
          · show Act.put _ (some 22) _ = _
            simp only [Act.put, List.setIfInBounds_toArray, List.set_cons_zero, List.set_cons_succ, i64_w, i32_w]
            rfl
          refine q_op (v := ?_) (a' := ?_) ?hw7 ?_ ?_ ?_
          case hw7 => exact wanted_on rfl rfl rfl rfl
          rotate_left
          rotate_left
          · intro w' hC_
            obtain ⟨s1, s2, s3, s4, s5⟩ := (HF.out w' hC_)
            go_simp
            with_reducible rfl
          · show Act.put _ (some 23) _ = _
            simp only [Act.put, List.setIfInBounds_toArray, List.set_cons_zero, List.set_cons_succ, i64_w, i32_w]
            rfl
          refine q_op (v := ?_) (a' := ?_) ?hw7 ?_ ?_ ?_
          case hw7 => exact wanted_on rfl rfl rfl rfl
          rotate_left
          rotate_left
          · intro w' hC_
            obtain ⟨s1, s2, s3, s4, s5⟩ := (HF.out w' hC_)
            go_simp
            with_reducible rfl
          · show Act.put _ (some 24) _ = _
            simp only [Act.put, List.setIfInBounds_toArray, List.set_cons_zero, List.set_cons_succ, i64_w, i32_w]
            rfl
          refine q_op (v := ?_) (a' := ?_) ?hw7 ?_ ?_ ?_
          case hw7 => exact wanted_on rfl rfl rfl rfl
          rotate_left
          rotate_left
          · intro w' hC_
            obtain ⟨s1, s2, s3, s4, s5⟩ := (HF.out w' hC_)
            go_simp
            with_reducible rfl
          · show Act.put _ (some 25) _ = _
            simp only [Act.put, List.setIfInBounds_toArray, List.set_cons_zero, List.set_cons_succ, i64_w, i32_w]
            rfl
          refine q_op (v := ?_) (a' := ?_) ?hw7 ?_ ?_ ?_
          case hw7 => exact wanted_on rfl rfl rfl rfl
          rotate_left
          rotate_left
          · intro w' hC_
            obtain ⟨s1, s2, s3, s4, s5⟩ := (HF.out w' hC_)
            go_simp
            with_reducible rfl
          · show Act.put _ (some 26) _ = _
            simp only [Act.put, List.setIfInBounds_toArray, List.set_cons_zero, List.set_cons_succ, i64_w, i32_w]
            rfl
          refine q_call (a' := ?_) Try.func51 (by kernel_rfl) rfl #[.pointer (some ⟨g, 0, none⟩), .agg #[.int .i64 y.1, .int .i64 y.2], .agg #[.int .i64 (at_ x'.l p).1, .int .i64 (at_ x'.l p).2]] ?hw7 rfl ?hx7 (.int .i64 r) ?_ ?_ ?_
          case hw7 => exact wanted_on rfl rfl rfl rfl
          case hx7 => (try simp only [List.map_toArray, List.map_cons, List.map_nil]); first | done | rfl
          rotate_left
          · intro w' hC_
            exact (compare_calls (y) (at_ x'.l p) (heap.mono (fun _ hk => hk.1) (heap.move (fun k hk => hC_.block k hk.2.2) (heap.bound HK.out.st)))).mono (fun e w'' ⟨he, hb⟩ => ⟨by rw [he, HK.out.great, HR.out], hC_.trans (hb.mono hC_.size)⟩)
          · show Act.put _ (some 27) _ = _
            simp only [Act.put, List.setIfInBounds_toArray, List.set_cons_zero, List.set_cons_succ, i64_w, i32_w]
            rfl
          refine q_op (v := ?_) (a' := ?_) ?hw7 ?_ ?_ ?_
          case hw7 => exact wanted_on rfl rfl rfl rfl
          rotate_left
          rotate_left
          · intro w' hC_
            obtain ⟨s1, s2, s3, s4, s5⟩ := (HF.out w' hC_)
            go_simp
            with_reducible rfl
          · show Act.put _ (some 28) _ = _
            simp only [Act.put, List.setIfInBounds_toArray, List.set_cons_zero, List.set_cons_succ, i64_w, i32_w]
            rfl
          refine q_op (v := ?_) (a' := ?_) ?hw7 ?_ ?_ ?_
          case hw7 => rfl
          rotate_left
          rotate_left
          · intro w' hC_
            obtain ⟨s1, s2, s3, s4, s5⟩ := (HF.out w' hC_)
            go_simp
            with_reducible rfl
          · show Act.put _ (some 29) _ = _
            simp only [Act.put, List.setIfInBounds_toArray, List.set_cons_zero, List.set_cons_succ, i64_w, i32_w]
            rfl
          refine q_nil ?_
          intro wq hC_
          have hbq := hC_
          have HKQ := Aside0.mk (HK.out.below hbq)
          clear hC_
          go_wp2
          go_meet
          exact ⟨k, x', rfl, HKQ.out, fun _ => by rw [hp]; exact hc⟩
  case rest =>
    obtain ⟨k0, x1, rfl, hK0, hup0⟩ := hcut
    have HK0 := Aside0.mk hK0
    have HU0 := Aside0.mk hup0
    have HWY := Aside0.mk (show (Lit.int .i64 y.1).wf = true from by rw [← HY.out]; exact HA.out.wf _ (at_mem hi))
    have hk0 : k0 < 1024 := by obtain ⟨_, _, _, _, hA'⟩ := hK0.st; have h1 := hA'.len; have h2 := hK0.hole.lt; omega
    have hk0' : (k0 : Int) < 1024 := by omega
    obtain ⟨q0, hq0⟩ : ∃ q0 : Nat, 2 * k0 + 1 = q0 := ⟨_, rfl⟩
    have e0 : (2 : Int) * (k0 : Int) + 1 = (q0 : Int) := by omega
    have HQ0 := Aside0.mk hq0
    clear hq0
    clear hK0 hup0 HK4 HN HH
    go_wp2
    go_loopw [1, 5] (fun iv kv wr => RelD w b ok x y (.pointer (some ⟨g, 0, none⟩)) gx iv kv wr) (fun iv _ _ => x.l.length - (intOf iv).toNat)
    case atStart => exact ⟨k0, q0, x1, rfl, rfl, HQ0.out, HK0.out, HU0.out⟩
    case round =>
      obtain ⟨k, q1, x', rfl, rfl, hq1, hK, hup⟩ := hrel
      have HE := Aside0.mk hq1
      have HK := Aside0.mk hK
      have HU := Aside0.mk hup
      have hkl := hK.hole.lt
      have HLEN := Aside0.mk hK.len
      obtain ⟨g', sv', bm', he', hA'⟩ := hK.st
      obtain rfl : g = g' := by injection he' with e1; injection e1 with e2; injection e2
      obtain ⟨g3, c3, rfl, hg3, _, _⟩ := hA'.form (by omega)
      have HA1 := Aside0.mk hA'
      have hl1024 : x'.l.length ≤ 1024 := hA'.len
      have hc2 := hA'.c2
      have HSY := Aside0.mk (hK.hole.sz_le hl1024 y (Or.inl rfl))
      have HF := Aside0.mk (show ∀ w' : World, Below wr.heap.size wr w' → w'.cell? ⟨gx, 0, none⟩ = some (.int .i64 y.1) ∧ w'.cell? ⟨gx, 1, none⟩ = some (.int .i64 y.2) ∧ w'.cell? ⟨g, 2, none⟩ = some (.slice (some ⟨g3, 0, none⟩) x'.l.length c3) from fun w' hb => ⟨blk_cell (blk_below hK.box hb) 0, blk_cell (blk_below hK.box hb) 1, (hA'.below hb).c2⟩)
      have HI := Aside0.mk (show ∀ (j : Nat) (w' : World), j < x'.l.length → Below wr.heap.size wr w' → w'.cell? ⟨g3, j * 2, none⟩ = some (.int .i64 (at_ x'.l j).1) ∧ w'.cell? ⟨g3, j * 2 + 1, none⟩ = some (.int .i64 (at_ x'.l j).2) from fun j w' hj hb => (item_get (hA'.below hb).row hj).1)
      clear hK hup hA' he' HK0 HU0
      by_cases hkid : q1 < x'.l.length
      · have hkdn : decide (q1 < x'.l.length) = true := decide_eq_true hkid
        have hkd : decide ((q1 : Int) < (x'.l.length : Int)) = true := decide_eq_true (by omega)
        clear hq1
        obtain ⟨q2, hq2⟩ : ∃ q2 : Nat, q1 + 1 = q2 := ⟨_, rfl⟩
        have e5 : (q1 : Int) + 1 = (q2 : Int) := by omega
        have HQ2 := Aside0.mk hq2
        clear hq2
        have hq1l : (q1 : Int) < (x'.l.length : Int) := by omega
        obtain ⟨β, hβ⟩ : ∃ β : Bool, (decide (q2 < x'.l.length) && lt x.great (at_ x'.l q2) (at_ x'.l q1)) = β := ⟨_, rfl⟩
        have HB := Aside0.mk hβ
        clear hβ
        go_upto_region 7 with (fail)
        go_cut [85] (fun v85 wc => v85 = .bool β ∧ Below wr.heap.size wr wc)
        case first =>
          have HQW := Aside0.mk (show wrap64 (q2 : Int) = (q2 : Int) by unfold wrap64; omega)
          by_cases h2 : q2 < x'.l.length
          · have h2d : decide ((q2 : Int) < (x'.l.length : Int)) = true := decide_eq_true (by omega)
            have h2dn : decide (q2 < x'.l.length) = true := decide_eq_true h2
            have h2l : (q2 : Int) < (x'.l.length : Int) := by omega
            obtain ⟨r, hr⟩ : ∃ r : Int, cmpv x.great (at_ x'.l q2) (at_ x'.l q1) = r := ⟨_, rfl⟩
            have HR := Aside0.mk hr
            have HBR := Aside0.mk (show decide (r < 0) = β from by rw [← hr, lt_iff, ← HB.out, decide_eq_true h2]; rfl)
            have HF7 := Aside0.mk (fun w' (hb : Below wr.heap.size wr w') => And.intro (HF.out w' hb) (And.intro (HI.out q2 w' h2 hb) (HI.out q1 w' hkid hb)))
            have hbr := HBR.out
            clear hr
            refine q_start (by kernel_rfl) (by kernel_rfl) (fun w' => Below wr.heap.size wr w') (below_drew (Below.refl _ _)) ?_
            refine q_op (v := ?_) (a' := ?_) ?hw2 ?_ ?_ ?_
            case hw2 => rfl
            rotate_left
            rotate_left
            · intro w' hC_
              obtain ⟨⟨s1, s2, s3⟩, ⟨s4, s5⟩, s6, s7⟩ := (HF7.out w' hC_)
              go_simp
              with_reducible rfl
            · show Act.put _ (some 58) _ = _
              simp only [Act.put, List.setIfInBounds_toArray, List.set_cons_zero, List.set_cons_succ, i64_w, i32_w]
              rfl
            refine q_op (v := .int .i64 (q2 : Int)) (a' := ?_) ?hw2 ?_ ?_ ?_
            case hw2 => rfl
            rotate_left
            · intro w' hC_
              obtain ⟨⟨s1, s2, s3⟩, ⟨s4, s5⟩, s6, s7⟩ := (HF7.out w' hC_)
              go_simp
              rw [i64_w, HQW.out]
            · show Act.put _ (some 59) _ = _
              simp only [Act.put, List.setIfInBounds_toArray, List.set_cons_zero, List.set_cons_succ, i64_w, i32_w]
              rfl
            refine q_op (v := ?_) (a' := ?_) ?hw2 ?_ ?_ ?_
            case hw2 => rfl
            rotate_left
            rotate_left
            · intro w' hC_
              obtain ⟨⟨s1, s2, s3⟩, ⟨s4, s5⟩, s6, s7⟩ := (HF7.out w' hC_)
              go_simp
              with_reducible rfl
            · show Act.put _ (some 60) _ = _
              simp only [Act.put, List.setIfInBounds_toArray, List.set_cons_zero, List.set_cons_succ, i64_w, i32_w]
              rfl
            refine q_op (v := ?_) (a' := ?_) ?hw2 ?_ ?_ ?_
            case hw2 => rfl
            rotate_left
            rotate_left
            · intro w' hC_
              obtain ⟨⟨s1, s2, s3⟩, ⟨s4, s5⟩, s6, s7⟩ := (HF7.out w' hC_)
              go_simp
              with_reducible rfl
            · show Act.put _ (some 61) _ = _
              simp only [Act.put, List.setIfInBounds_toArray, List.set_cons_zero, List.set_cons_succ, i64_w, i32_w]
              rfl
            refine q_op (v := ?_) (a' := ?_) ?hw2 ?_ ?_ ?_
            case hw2 => rfl
            rotate_left
            rotate_left
            · intro w' hC_
              obtain ⟨⟨s1, s2, s3⟩, ⟨s4, s5⟩, s6, s7⟩ := (HF7.out w' hC_)
              go_simp
              with_reducible rfl
            · show Act.put _ (some 62) _ = _
              simp only [Act.put, List.setIfInBounds_toArray, List.set_cons_zero, List.set_cons_succ, i64_w, i32_w]
              rfl
            refine q_op (v := ?_) (a' := ?_) ?hw2 ?_ ?_ ?_
            case hw2 => rfl
            rotate_left
            rotate_left
            · intro w' hC_
              obtain ⟨⟨s1, s2, s3⟩, ⟨s4, s5⟩, s6, s7⟩ := (HF7.out w' hC_)
              go_simp
              with_reducible rfl
            · show Act.put _ (some 63) _ = _
              simp only [Act.put, List.setIfInBounds_toArray, List.set_cons_zero, List.set_cons_succ, i64_w, i32_w]
              rfl
            refine q_op (v := ?_) (a' := ?_) ?hw2 ?_ ?_ ?_
            case hw2 => rfl
            rotate_left
            rotate_left
            · intro w' hC_
              obtain ⟨⟨s1, s2, s3⟩, ⟨s4, s5⟩, s6, s7⟩ := (HF7.out w' hC_)
              go_simp
              with_reducible rfl
            · show Act.put _ (some 64) _ = _
              simp only [Act.put, List.setIfInBounds_toArray, List.set_cons_zero, List.set_cons_succ, i64_w, i32_w]
              rfl
            refine q_op (v := ?_) (a' := ?_) ?hw2 ?_ ?_ ?_
            case hw2 => rfl
            rotate_left
            rotate_left
            · intro w' hC_
              obtain ⟨⟨s1, s2, s3⟩, ⟨s4, s5⟩, s6, s7⟩ := (HF7.out w' hC_)
              go_simp
              with_reducible rfl
            · show Act.put _ (some 65) _ = _
              simp only [Act.put, List.setIfInBounds_toArray, List.set_cons_zero, List.set_cons_succ, i64_w, i32_w]
              rfl
            refine q_op (v := ?_) (a' := ?_) ?hw2 ?_ ?_ ?_
            case hw2 => rfl
            rotate_left
            rotate_left
            · intro w' hC_
              obtain ⟨⟨s1, s2, s3⟩, ⟨s4, s5⟩, s6, s7⟩ := (HF7.out w' hC_)
              go_simp
              with_reducible rfl
            · show Act.put _ (some 66) _ = _
              simp only [Act.put, List.setIfInBounds_toArray, List.set_cons_zero, List.set_cons_succ, i64_w, i32_w]
              rfl
            refine q_op (v := ?_) (a' := ?_) ?hw2 ?_ ?_ ?_
            case hw2 => exact wanted_on rfl rfl rfl rfl
            rotate_left
            rotate_left
            · intro w' hC_
              obtain ⟨⟨s1, s2, s3⟩, ⟨s4, s5⟩, s6, s7⟩ := (HF7.out w' hC_)
              go_simp
              with_reducible rfl
            · show Act.put _ (some 67) _ = _
              simp only [Act.put, List.setIfInBounds_toArray, List.set_cons_zero, List.set_cons_succ, i64_w, i32_w]
              rfl
            refine q_op (v := ?_) (a' := ?_) ?hw2 ?_ ?_ ?_
            case hw2 => exact wanted_on rfl rfl rfl rfl
            rotate_left
            rotate_left
            · intro w' hC_
              obtain ⟨⟨s1, s2, s3⟩, ⟨s4, s5⟩, s6, s7⟩ := (HF7.out w' hC_)
              go_simp
              with_reducible rfl
            · show Act.put _ (some 68) _ = _
              simp only [Act.put, List.setIfInBounds_toArray, List.set_cons_zero, List.set_cons_succ, i64_w, i32_w]
              rfl
            refine q_op (v := ?_) (a' := ?_) ?hw2 ?_ ?_ ?_
            case hw2 => exact wanted_on rfl rfl rfl rfl
            rotate_left
            rotate_left
            · intro w' hC_
              obtain ⟨⟨s1, s2, s3⟩, ⟨s4, s5⟩, s6, s7⟩ := (HF7.out w' hC_)
              go_simp
              with_reducible rfl
            · show Act.put _ (some 69) _ = _
              simp only [Act.put, List.setIfInBounds_toArray, List.set_cons_zero, List.set_cons_succ, i64_w, i32_w]
              rfl
            refine q_op (v := ?_) (a' := ?_) ?hw2 ?_ ?_ ?_
            case hw2 => exact wanted_on rfl rfl rfl rfl
            rotate_left
            rotate_left
            · intro w' hC_
              obtain ⟨⟨s1, s2, s3⟩, ⟨s4, s5⟩, s6, s7⟩ := (HF7.out w' hC_)
              go_simp
              with_reducible rfl
            · show Act.put _ (some 70) _ = _
              simp only [Act.put, List.setIfInBounds_toArray, List.set_cons_zero, List.set_cons_succ, i64_w, i32_w]
              rfl
            refine q_op (v := ?_) (a' := ?_) ?hw2 ?_ ?_ ?_
            case hw2 => exact wanted_on rfl rfl rfl rfl
            rotate_left
            rotate_left
            · intro w' hC_
              obtain ⟨⟨s1, s2, s3⟩, ⟨s4, s5⟩, s6, s7⟩ := (HF7.out w' hC_)
              go_simp
              with_reducible rfl
            · show Act.put _ (some 71) _ = _
              simp only [Act.put, List.setIfInBounds_toArray, List.set_cons_zero, List.set_cons_succ, i64_w, i32_w]
              rfl
            refine q_op (v := ?_) (a' := ?_) ?hw2 ?_ ?_ ?_
            case hw2 => exact wanted_on rfl rfl rfl rfl
            rotate_left
            rotate_left
            · intro w' hC_
              obtain ⟨⟨s1, s2, s3⟩, ⟨s4, s5⟩, s6, s7⟩ := (HF7.out w' hC_)
              go_simp
              with_reducible rfl
            · show Act.put _ (some 72) _ = _
              simp only [Act.put, List.setIfInBounds_toArray, List.set_cons_zero, List.set_cons_succ, i64_w, i32_w]
              rfl
            refine q_op (v := .int .i64 (q2 : Int)) (a' := ?_) ?hw2 ?_ ?_ ?_
            case hw2 => exact wanted_on rfl rfl rfl rfl
            rotate_left
            · intro w' hC_
              obtain ⟨⟨s1, s2, s3⟩, ⟨s4, s5⟩, s6, s7⟩ := (HF7.out w' hC_)
              go_simp
              rw [i64_w, HQW.out]
            · show Act.put _ (some 73) _ = _
              simp only [Act.put, List.setIfInBounds_toArray, List.set_cons_zero, List.set_cons_succ, i64_w, i32_w]
              rfl
            refine q_op (v := ?_) (a' := ?_) ?hw2 ?_ ?_ ?_
            case hw2 => exact wanted_on rfl rfl rfl rfl
            rotate_left
            rotate_left
            · intro w' hC_
              obtain ⟨⟨s1, s2, s3⟩, ⟨s4, s5⟩, s6, s7⟩ := (HF7.out w' hC_)
              go_simp
              with_reducible rfl
            · show Act.put _ (some 74) _ = _
              simp only [Act.put, List.setIfInBounds_toArray, List.set_cons_zero, List.set_cons_succ, i64_w, i32_w]
              rfl
            refine q_op (v := ?_) (a' := ?_) ?hw2 ?_ ?_ ?_
            case hw2 => exact wanted_on rfl rfl rfl rfl
            rotate_left
            rotate_left
            · intro w' hC_
              obtain ⟨⟨s1, s2, s3⟩, ⟨s4, s5⟩, s6, s7⟩ := (HF7.out w' hC_)
              go_simp
              with_reducible rfl
            · show Act.put _ (some 75) _ = _
              simp only [Act.put, List.setIfInBounds_toArray, List.set_cons_zero, List.set_cons_succ, i64_w, i32_w]
              rfl
            refine q_op (v := ?_) (a' := ?_) ?hw2 ?_ ?_ ?_
            case hw2 => exact wanted_on rfl rfl rfl rfl
            rotate_left
            rotate_left
            · intro w' hC_
              obtain ⟨⟨s1, s2, s3⟩, ⟨s4, s5⟩, s6, s7⟩ := (HF7.out w' hC_)
              go_simp
              with_reducible rfl
            · show Act.put _ (some 76) _ = _
              simp only [Act.put, List.setIfInBounds_toArray, List.set_cons_zero, List.set_cons_succ, i64_w, i32_w]
              rfl
            refine q_op (v := ?_) (a' := ?_) ?hw2 ?_ ?_ ?_
            case hw2 => exact wanted_on rfl rfl rfl rfl
            rotate_left
            rotate_left
            · intro w' hC_
              obtain ⟨⟨s1, s2, s3⟩, ⟨s4, s5⟩, s6, s7⟩ := (HF7.out w' hC_)
              go_simp
              with_reducible rfl
            · show Act.put _ (some 77) _ = _
              simp only [Act.put, List.setIfInBounds_toArray, List.set_cons_zero, List.set_cons_succ, i64_w, i32_w]
              rfl
            refine q_op (v := ?_) (a' := ?_) ?hw2 ?_ ?_ ?_
            case hw2 => exact wanted_on rfl rfl rfl rfl
            rotate_left
            rotate_left
            · intro w' hC_
              obtain ⟨⟨s1, s2, s3⟩, ⟨s4, s5⟩, s6, s7⟩ := (HF7.out w' hC_)
              go_simp
              with_reducible rfl
            · show Act.put _ (some 78) _ = _
              simp only [Act.put, List.setIfInBounds_toArray, List.set_cons_zero, List.set_cons_succ, i64_w, i32_w]
              rfl
            refine q_op (v := ?_) (a' := ?_) ?hw2 ?_ ?_ ?_
            case hw2 => exact wanted_on rfl rfl rfl rfl
            rotate_left
            rotate_left
            · intro w' hC_
              obtain ⟨⟨s1, s2, s3⟩, ⟨s4, s5⟩, s6, s7⟩ := (HF7.out w' hC_)
              go_simp
              with_reducible rfl
            · show Act.put _ (some 79) _ = _
              simp only [Act.put, List.setIfInBounds_toArray, List.set_cons_zero, List.set_cons_succ, i64_w, i32_w]
              rfl
            refine q_op (v := ?_) (a' := ?_) ?hw2 ?_ ?_ ?_
            case hw2 => exact wanted_on rfl rfl rfl rfl
            rotate_left
            rotate_left
            · intro w' hC_
              obtain ⟨⟨s1, s2, s3⟩, ⟨s4, s5⟩, s6, s7⟩ := (HF7.out w' hC_)
              go_simp
              with_reducible rfl
            · show Act.put _ (some 80) _ = _
              simp only [Act.put, List.setIfInBounds_toArray, List.set_cons_zero, List.set_cons_succ, i64_w, i32_w]
              rfl
            refine q_op (v := ?_) (a' := ?_) ?hw2 ?_ ?_ ?_
            case hw2 => exact wanted_on rfl rfl rfl rfl
            rotate_left
            rotate_left
            · intro w' hC_
              obtain ⟨⟨s1, s2, s3⟩, ⟨s4, s5⟩, s6, s7⟩ := (HF7.out w' hC_)
              go_simp
              with_reducible rfl
            · show Act.put _ (some 81) _ = _
              simp only [Act.put, List.setIfInBounds_toArray, List.set_cons_zero, List.set_cons_succ, i64_w, i32_w]
              rfl
            refine q_op (v := ?_) (a' := ?_) ?hw2 ?_ ?_ ?_
            case hw2 => exact wanted_on rfl rfl rfl rfl
            rotate_left
            rotate_left
            · intro w' hC_
              obtain ⟨⟨s1, s2, s3⟩, ⟨s4, s5⟩, s6, s7⟩ := (HF7.out w' hC_)
              go_simp
              with_reducible rfl
            · show Act.put _ (some 82) _ = _
              simp only [Act.put, List.setIfInBounds_toArray, List.set_cons_zero, List.set_cons_succ, i64_w, i32_w]
              rfl
            refine q_call (a' := ?_) Try.func51 (by kernel_rfl) rfl #[.pointer (some ⟨g, 0, none⟩), .agg #[.int .i64 (at_ x'.l q2).1, .int .i64 (at_ x'.l q2).2], .agg #[.int .i64 (at_ x'.l q1).1, .int .i64 (at_ x'.l q1).2]] ?hw2 rfl ?hx2 (.int .i64 r) ?_ ?_ ?_
            case hw2 => exact wanted_on rfl rfl rfl rfl
            case hx2 => (try simp only [List.map_toArray, List.map_cons, List.map_nil]); first | done | rfl
            rotate_left
            · intro w' hC_
              exact (compare_calls (at_ x'.l q2) (at_ x'.l q1) (heap.mono (fun _ hk => hk.1) (heap.move (fun k hk => hC_.block k hk.2.2) (heap.bound HK.out.st)))).mono (fun e w'' ⟨he, hb⟩ => ⟨by rw [he, HK.out.great, HR.out], hC_.trans (hb.mono hC_.size)⟩)
            · show Act.put _ (some 83) _ = _
              simp only [Act.put, List.setIfInBounds_toArray, List.set_cons_zero, List.set_cons_succ, i64_w, i32_w]
              rfl
            refine q_op (v := ?_) (a' := ?_) ?hw2 ?_ ?_ ?_
            case hw2 => exact wanted_on rfl rfl rfl rfl
            rotate_left
            rotate_left
            · intro w' hC_
              obtain ⟨⟨s1, s2, s3⟩, ⟨s4, s5⟩, s6, s7⟩ := (HF7.out w' hC_)
              go_simp
              with_reducible rfl
            · show Act.put _ (some 84) _ = _
              simp only [Act.put, List.setIfInBounds_toArray, List.set_cons_zero, List.set_cons_succ, i64_w, i32_w]
              rfl
            refine q_op (v := ?_) (a' := ?_) ?hw2 ?_ ?_ ?_
            case hw2 => rfl
            rotate_left
            rotate_left
            · intro w' hC_
              obtain ⟨⟨s1, s2, s3⟩, ⟨s4, s5⟩, s6, s7⟩ := (HF7.out w' hC_)
              go_simp
              with_reducible rfl
            · show Act.put _ (some 85) _ = _
              simp only [Act.put, List.setIfInBounds_toArray, List.set_cons_zero, List.set_cons_succ, i64_w, i32_w]
              rfl
            refine q_nil ?_
            intro wq hC_
            go_wp2
            go_meet
            exact ⟨rfl, hC_⟩
          · have h2d : decide ((q2 : Int) < (x'.l.length : Int)) = false := decide_eq_false (by omega)
            have h2dn : decide (q2 < x'.l.length) = false := decide_eq_false h2
            have hb0 : β = false := by rw [← HB.out, decide_eq_false h2]; rfl
            subst hb0
            refine q_start (by kernel_rfl) (by kernel_rfl) (fun w' => Below wr.heap.size wr w') (below_drew (Below.refl _ _)) ?_
            refine q_op (v := ?_) (a' := ?_) ?hw3 ?_ ?_ ?_
            case hw3 => rfl
            rotate_left
            rotate_left
            · intro w' hC_
              obtain ⟨s1, s2, s3⟩ := (HF.out w' hC_)
              go_simp
              with_reducible rfl
            · show Act.put _ (some 58) _ = _
              simp only [Act.put, List.setIfInBounds_toArray, List.set_cons_zero, List.set_cons_succ, i64_w, i32_w]
              rfl
            refine q_op (v := .int .i64 (q2 : Int)) (a' := ?_) ?hw3 ?_ ?_ ?_
            case hw3 => rfl
            rotate_left
            · intro w' hC_
              obtain ⟨s1, s2, s3⟩ := (HF.out w' hC_)
              go_simp
              rw [i64_w, HQW.out]
            · show Act.put _ (some 59) _ = _
              simp only [Act.put, List.setIfInBounds_toArray, List.set_cons_zero, List.set_cons_succ, i64_w, i32_w]
              rfl
            refine q_op (v := ?_) (a' := ?_) ?hw3 ?_ ?_ ?_
            case hw3 => rfl
            rotate_left
            rotate_left
            · intro w' hC_
              obtain ⟨s1, s2, s3⟩ := (HF.out w' hC_)
              go_simp
              with_reducible rfl
            · show Act.put _ (some 60) _ = _
              simp only [Act.put, List.setIfInBounds_toArray, List.set_cons_zero, List.set_cons_succ, i64_w, i32_w]
              rfl
            refine q_op (v := ?_) (a' := ?_) ?hw3 ?_ ?_ ?_
            case hw3 => rfl
            rotate_left
            rotate_left
            · intro w' hC_
              obtain ⟨s1, s2, s3⟩ := (HF.out w' hC_)
              go_simp
              with_reducible rfl
            · show Act.put _ (some 61) _ = _
              simp only [Act.put, List.setIfInBounds_toArray, List.set_cons_zero, List.set_cons_succ, i64_w, i32_w]
              rfl
            refine q_op (v := ?_) (a' := ?_) ?hw3 ?_ ?_ ?_
            case hw3 => rfl
            rotate_left
            rotate_left
            · intro w' hC_
              obtain ⟨s1, s2, s3⟩ := (HF.out w' hC_)
              go_simp
              with_reducible rfl
            · show Act.put _ (some 62) _ = _
              simp only [Act.put, List.setIfInBounds_toArray, List.set_cons_zero, List.set_cons_succ, i64_w, i32_w]
              rfl
            refine q_op (v := ?_) (a' := ?_) ?hw3 ?_ ?_ ?_
            case hw3 => rfl
            rotate_left
            rotate_left
            · intro w' hC_
              obtain ⟨s1, s2, s3⟩ := (HF.out w' hC_)
              go_simp
              with_reducible rfl
            · show Act.put _ (some 63) _ = _
              simp only [Act.put, List.setIfInBounds_toArray, List.set_cons_zero, List.set_cons_succ, i64_w, i32_w]
              rfl
            refine q_op (v := ?_) (a' := ?_) ?hw3 ?_ ?_ ?_
            case hw3 => rfl
            rotate_left
            rotate_left
            · intro w' hC_
              obtain ⟨s1, s2, s3⟩ := (HF.out w' hC_)
              go_simp
              with_reducible rfl
            · show Act.put _ (some 64) _ = _
              simp only [Act.put, List.setIfInBounds_toArray, List.set_cons_zero, List.set_cons_succ, i64_w, i32_w]
              rfl
            refine q_op (v := ?_) (a' := ?_) ?hw3 ?_ ?_ ?_
            case hw3 => rfl
            rotate_left
            rotate_left
            · intro w' hC_
              obtain ⟨s1, s2, s3⟩ := (HF.out w' hC_)
              go_simp
              with_reducible rfl
            · show Act.put _ (some 65) _ = _
              simp only [Act.put, List.setIfInBounds_toArray, List.set_cons_zero, List.set_cons_succ, i64_w, i32_w]
              rfl
            refine q_op (v := ?_) (a' := ?_) ?hw3 ?_ ?_ ?_
            case hw3 => rfl
            rotate_left
            rotate_left
            · intro w' hC_
              obtain ⟨s1, s2, s3⟩ := (HF.out w' hC_)
              go_simp
              with_reducible rfl
            · show Act.put _ (some 66) _ = _
              simp only [Act.put, List.setIfInBounds_toArray, List.set_cons_zero, List.set_cons_succ, i64_w, i32_w]
              rfl
            refine q_off (a' := ?_) ?hw3 ?_ ?_
            case hw3 => exact wanted_off rfl rfl rfl rfl
            rotate_left
            · show Act.put _ (some 67) _ = _
              simp only [Act.put, List.setIfInBounds_toArray, List.set_cons_zero, List.set_cons_succ, i64_w, i32_w]
              rfl
            refine q_off (a' := ?_) ?hw3 ?_ ?_
            case hw3 => exact wanted_off rfl rfl rfl rfl
            rotate_left
            · show Act.put _ (some 68) _ = _
              simp only [Act.put, List.setIfInBounds_toArray, List.set_cons_zero, List.set_cons_succ, i64_w, i32_w]
              rfl
            refine q_off (a' := ?_) ?hw3 ?_ ?_
            case hw3 => exact wanted_off rfl rfl rfl rfl
            rotate_left
            · show Act.put _ (some 69) _ = _
              simp only [Act.put, List.setIfInBounds_toArray, List.set_cons_zero, List.set_cons_succ, i64_w, i32_w]
              rfl
            refine q_off (a' := ?_) ?hw3 ?_ ?_
            case hw3 => exact wanted_off rfl rfl rfl rfl
            rotate_left
            · show Act.put _ (some 70) _ = _
              simp only [Act.put, List.setIfInBounds_toArray, List.set_cons_zero, List.set_cons_succ, i64_w, i32_w]
              rfl
            refine q_off (a' := ?_) ?hw3 ?_ ?_
            case hw3 => exact wanted_off rfl rfl rfl rfl
            rotate_left
            · show Act.put _ (some 71) _ = _
              simp only [Act.put, List.setIfInBounds_toArray, List.set_cons_zero, List.set_cons_succ, i64_w, i32_w]
              rfl
            refine q_off (a' := ?_) ?hw3 ?_ ?_
            case hw3 => exact wanted_off rfl rfl rfl rfl
            rotate_left
            · show Act.put _ (some 72) _ = _
              simp only [Act.put, List.setIfInBounds_toArray, List.set_cons_zero, List.set_cons_succ, i64_w, i32_w]
              rfl
            refine q_off (a' := ?_) ?hw3 ?_ ?_
            case hw3 => exact wanted_off rfl rfl rfl rfl
            rotate_left
            · show Act.put _ (some 73) _ = _
              simp only [Act.put, List.setIfInBounds_toArray, List.set_cons_zero, List.set_cons_succ, i64_w, i32_w]
              rfl
            refine q_off (a' := ?_) ?hw3 ?_ ?_
            case hw3 => exact wanted_off rfl rfl rfl rfl
            rotate_left
            · show Act.put _ (some 74) _ = _
              simp only [Act.put, List.setIfInBounds_toArray, List.set_cons_zero, List.set_cons_succ, i64_w, i32_w]
              rfl
            refine q_off (a' := ?_) ?hw3 ?_ ?_
            case hw3 => exact wanted_off rfl rfl rfl rfl
            rotate_left
            · show Act.put _ (some 75) _ = _
              simp only [Act.put, List.setIfInBounds_toArray, List.set_cons_zero, List.set_cons_succ, i64_w, i32_w]
              rfl
            refine q_off (a' := ?_) ?hw3 ?_ ?_
            case hw3 => exact wanted_off rfl rfl rfl rfl
            rotate_left
            · show Act.put _ (some 76) _ = _
              simp only [Act.put, List.setIfInBounds_toArray, List.set_cons_zero, List.set_cons_succ, i64_w, i32_w]
              rfl
            refine q_off (a' := ?_) ?hw3 ?_ ?_
            case hw3 => exact wanted_off rfl rfl rfl rfl
            rotate_left
            · show Act.put _ (some 77) _ = _
              simp only [Act.put, List.setIfInBounds_toArray, List.set_cons_zero, List.set_cons_succ, i64_w, i32_w]
              rfl
            refine q_off (a' := ?_) ?hw3 ?_ ?_
            case hw3 => exact wanted_off rfl rfl rfl rfl
            rotate_left
            · show Act.put _ (some 78) _ = _
              simp only [Act.put, List.setIfInBounds_toArray, List.set_cons_zero, List.set_cons_succ, i64_w, i32_w]
              rfl
            refine q_off (a' := ?_) ?hw3 ?_ ?_
            case hw3 => exact wanted_off rfl rfl rfl rfl
            rotate_left
            · show Act.put _ (some 79) _ = _
              simp only [Act.put, List.setIfInBounds_toArray, List.set_cons_zero, List.set_cons_succ, i64_w, i32_w]
              rfl
            refine q_off (a' := ?_) ?hw3 ?_ ?_
            case hw3 => exact wanted_off rfl rfl rfl rfl
            rotate_left
            · show Act.put _ (some 80) _ = _
              simp only [Act.put, List.setIfInBounds_toArray, List.set_cons_zero, List.set_cons_succ, i64_w, i32_w]
              rfl
            refine q_off (a' := ?_) ?hw3 ?_ ?_
            case hw3 => exact wanted_off rfl rfl rfl rfl
            rotate_left
            · show Act.put _ (some 81) _ = _
              simp only [Act.put, List.setIfInBounds_toArray, List.set_cons_zero, List.set_cons_succ, i64_w, i32_w]
              rfl
            refine q_off (a' := ?_) ?hw3 ?_ ?_
            case hw3 => exact wanted_off rfl rfl rfl rfl
            rotate_left
            · show Act.put _ (some 82) _ = _
              simp only [Act.put, List.setIfInBounds_toArray, List.set_cons_zero, List.set_cons_succ, i64_w, i32_w]
              rfl
            refine q_off (a' := ?_) ?hw3 ?_ ?_
            case hw3 => exact wanted_off rfl rfl rfl rfl
            rotate_left
            · show Act.put _ (some 83) _ = _
              simp only [Act.put, List.setIfInBounds_toArray, List.set_cons_zero, List.set_cons_succ, i64_w, i32_w]
              rfl
            refine q_off (a' := ?_) ?hw3 ?_ ?_
            case hw3 => exact wanted_off rfl rfl rfl rfl
            rotate_left
            · show Act.put _ (some 84) _ = _
              simp only [Act.put, List.setIfInBounds_toArray, List.set_cons_zero, List.set_cons_succ, i64_w, i32_w]
              rfl
            refine q_op (v := ?_) (a' := ?_) ?hw3 ?_ ?_ ?_
            case hw3 => rfl
            rotate_left
            rotate_left
            · intro w' hC_
              obtain ⟨s1, s2, s3⟩ := (HF.out w' hC_)
              go_simp
              with_reducible rfl
            · show Act.put _ (some 85) _ = _
              simp only [Act.put, List.setIfInBounds_toArray, List.set_cons_zero, List.set_cons_succ, i64_w, i32_w]
              rfl
            refine q_nil ?_
            intro wq hC_
            go_wp2
            go_meet
            exact ⟨rfl, hC_⟩
        case rest =>
          obtain ⟨rfl, hbc⟩ := hcut
          have HBC := Aside0.mk hbc
          clear hbc
          cases β with
          | true =>
            have hbb := HB.out
            rw [Bool.and_eq_true, decide_eq_true_eq] at hbb
            have hql : q2 < x'.l.length := hbb.1
            have HBEST := Aside0.mk (show ∀ c, 0 < c → c < x'.l.length → (c - 1) / 2 = k → lt x.great (at_ x'.l c) (at_ x'.l q2) = false from fun c h0 hc hck => by
              have hq := HE.out
              rcases (show c = q1 ∨ c = q2 by have := HQ2.out; omega) with rfl | rfl
              · exact lt_asym hbb.2
              · exact lt_irr _ _)
            have hqk : (q2 - 1) / 2 = k := by have := HE.out; have := HQ2.out; omega
            have hqp : 0 < q2 := by have := HQ2.out; omega
            have HFQ := Aside0.mk (fun w' (hb : Below wr.heap.size wr w') => And.intro (HF.out w' hb) (HI.out q2 w' hql hb))
            clear hbb HB HI hkid hkd hkdn hq1l
            go_upto_region 9 with (fail)
            have hqi : (q2 : Int) < (x'.l.length : Int) := by omega
            obtain ⟨r, hr⟩ : ∃ r : Int, cmpv x.great y (at_ x'.l q2) = r := ⟨_, rfl⟩
            have HR := Aside0.mk hr
            have HLT := Aside0.mk (lt_iff x.great y (at_ x'.l q2))
            rw [hr] at HLT
            clear hr
            have HWF := Aside0.mk (HA1.out.wf _ (at_mem hql))
            have HSZ := Aside0.mk (HK.out.hole.sz_le hl1024 (at_ x'.l q2) (Or.inr (by rw [(HK.out.hole.fwd q2 hql (by omega)).1]; rfl)))
            cases hc : lt x.great y (at_ x'.l q2) with
            | true =>
              have hr0 : decide (r < 0) = true := by rw [← hc]; exact HLT.out
              refine q_start (by kernel_rfl) (by kernel_rfl) (fun w' => Below wr.heap.size wr w') (below_drew HBC.out) ?_
              refine q_op (v := ?_) (a' := ?_) ?hw4 ?_ ?_ ?_
              case hw4 => rfl
              rotate_left
              rotate_left
              · intro w' hC_
                obtain ⟨⟨s1, s2, s3⟩, s4, s5⟩ := (HFQ.out w' hC_)
                go_simp
                with_reducible rfl
              · show Act.put _ (some 88) _ = _
                simp only [Act.put, List.setIfInBounds_toArray, List.set_cons_zero, List.set_cons_succ, i64_w, i32_w]
                rfl
              refine q_op (v := ?_) (a' := ?_) ?hw4 ?_ ?_ ?_
              case hw4 => rfl
              rotate_left
              rotate_left
              · intro w' hC_
                obtain ⟨⟨s1, s2, s3⟩, s4, s5⟩ := (HFQ.out w' hC_)
                go_simp
                with_reducible rfl
              · show Act.put _ (some 89) _ = _
                simp only [Act.put, List.setIfInBounds_toArray, List.set_cons_zero, List.set_cons_succ, i64_w, i32_w]
                rfl
              refine q_op (v := ?_) (a' := ?_) ?hw4 ?_ ?_ ?_
              case hw4 => rfl
              rotate_left
              rotate_left
              · intro w' hC_
                obtain ⟨⟨s1, s2, s3⟩, s4, s5⟩ := (HFQ.out w' hC_)
                go_simp
                with_reducible rfl
              · show Act.put _ (some 90) _ = _
                simp only [Act.put, List.setIfInBounds_toArray, List.set_cons_zero, List.set_cons_succ, i64_w, i32_w]
                rfl
              refine q_op (v := ?_) (a' := ?_) ?hw4 ?_ ?_ ?_
              case hw4 => rfl
              rotate_left
              rotate_left
              · intro w' hC_
                obtain ⟨⟨s1, s2, s3⟩, s4, s5⟩ := (HFQ.out w' hC_)
                go_simp
                with_reducible rfl
              · show Act.put _ (some 91) _ = _
                simp only [Act.put, List.setIfInBounds_toArray, List.set_cons_zero, List.set_cons_succ, i64_w, i32_w]
                rfl
              refine q_op (v := ?_) (a' := ?_) ?hw4 ?_ ?_ ?_
              case hw4 => rfl
              rotate_left
              rotate_left
              · intro w' hC_
                obtain ⟨⟨s1, s2, s3⟩, s4, s5⟩ := (HFQ.out w' hC_)
                go_simp
                with_reducible rfl
              · show Act.put _ (some 92) _ = _
                simp only [Act.put, List.setIfInBounds_toArray, List.set_cons_zero, List.set_cons_succ, i64_w, i32_w]
                rfl
              refine q_op (v := ?_) (a' := ?_) ?hw4 ?_ ?_ ?_
              case hw4 => rfl
              rotate_left
              rotate_left
              · intro w' hC_
                obtain ⟨⟨s1, s2, s3⟩, s4, s5⟩ := (HFQ.out w' hC_)
                go_simp
                with_reducible rfl
              · show Act.put _ (some 93) _ = _
                simp only [Act.put, List.setIfInBounds_toArray, List.set_cons_zero, List.set_cons_succ, i64_w, i32_w]
                rfl
              refine q_op (v := ?_) (a' := ?_) ?hw4 ?_ ?_ ?_
              case hw4 => rfl
              rotate_left
              rotate_left
              · intro w' hC_
                obtain ⟨⟨s1, s2, s3⟩, s4, s5⟩ := (HFQ.out w' hC_)
                go_simp
                with_reducible rfl
              · show Act.put _ (some 94) _ = _
                simp only [Act.put, List.setIfInBounds_toArray, List.set_cons_zero, List.set_cons_succ, i64_w, i32_w]
                rfl
              refine q_op (v := ?_) (a' := ?_) ?hw4 ?_ ?_ ?_
              case hw4 => rfl
              rotate_left
              rotate_left
              · intro w' hC_
                obtain ⟨⟨s1, s2, s3⟩, s4, s5⟩ := (HFQ.out w' hC_)
                go_simp
                with_reducible rfl
              · show Act.put _ (some 95) _ = _
                simp only [Act.put, List.setIfInBounds_toArray, List.set_cons_zero, List.set_cons_succ, i64_w, i32_w]
                rfl
              refine q_op (v := ?_) (a' := ?_) ?hw4 ?_ ?_ ?_
              case hw4 => rfl
              rotate_left
              rotate_left
              · intro w' hC_
                obtain ⟨⟨s1, s2, s3⟩, s4, s5⟩ := (HFQ.out w' hC_)
                go_simp
                with_reducible rfl
              · show Act.put _ (some 96) _ = _
                simp only [Act.put, List.setIfInBounds_toArray, List.set_cons_zero, List.set_cons_succ, i64_w, i32_w]
                rfl
              refine q_call (a' := ?_) Try.func51 (by kernel_rfl) rfl #[.pointer (some ⟨g, 0, none⟩), .agg #[.int .i64 (y).1, .int .i64 (y).2], .agg #[.int .i64 (at_ x'.l q2).1, .int .i64 (at_ x'.l q2).2]] ?hw4 rfl ?hx4 (.int .i64 r) ?_ ?_ ?_
              case hw4 => rfl
              case hx4 => (try simp only [List.map_toArray, List.map_cons, List.map_nil]); first | done | rfl
              rotate_left
              · intro w' hC_
                exact (compare_calls (y) (at_ x'.l q2) (heap.mono (fun _ hk => hk.1) (heap.move (fun k hk => hC_.block k hk.2.2) (heap.bound HK.out.st)))).mono (fun e w'' ⟨he, hb⟩ => ⟨by rw [he, HK.out.great, HR.out], hC_.trans (hb.mono hC_.size)⟩)
              · show Act.put _ (some 97) _ = _
                simp only [Act.put, List.setIfInBounds_toArray, List.set_cons_zero, List.set_cons_succ, i64_w, i32_w]
                rfl
              refine q_op (v := ?_) (a' := ?_) ?hw4 ?_ ?_ ?_
              case hw4 => rfl
              rotate_left
              rotate_left
              · intro w' hC_
                obtain ⟨⟨s1, s2, s3⟩, s4, s5⟩ := (HFQ.out w' hC_)
                go_simp
                with_reducible rfl
              · show Act.put _ (some 98) _ = _
                simp only [Act.put, List.setIfInBounds_toArray, List.set_cons_zero, List.set_cons_succ, i64_w, i32_w]
                rfl
              refine q_nil ?_
              intro wq hC_
              have HKQ := Aside0.mk (HK.out.below hC_)
              obtain ⟨⟨s1, s2, s3⟩, s4, s5⟩ := HFQ.out wq hC_
              clear hC_
              go_wp2_with (first | (go_at_call 52; (with_reducible refine (put_calls k y HKQ.out.st hkl HWY.out HSY.out).mono ?_); rintro e w6 ⟨rfl, hM6, hW6⟩; have HM6 := Aside0.mk hM6; have HW6 := Aside0.mk hW6; clear hM6 hW6))
              go_end0
              exact ⟨rfl, ⟨putH x' k y, HKQ.out.great, HKQ.out.room, HKQ.out.hole.fill, HKQ.out.near.fill hkl HU.out (fun c h0 hc' hck => nlt_trans (HBEST.out c h0 hc' hck) (lt_asym hc)), HKQ.out.perm, heap.mono (fun j hj => hj.elim (fun h => h.1) (fun h => Or.inr (Nat.le_trans HKQ.out.far.size h))) HM6.out⟩, HKQ.out.far.trans HW6.out (fun j hj => hj.1)⟩
            | false =>
              have hr0 : decide (r < 0) = false := by rw [← hc]; exact HLT.out
              refine q_start (by kernel_rfl) (by kernel_rfl) (fun w' => Below wr.heap.size wr w') (below_drew HBC.out) ?_
              refine q_op (v := ?_) (a' := ?_) ?hw4 ?_ ?_ ?_
              case hw4 => rfl
              rotate_left
              rotate_left
              · intro w' hC_
                obtain ⟨⟨s1, s2, s3⟩, s4, s5⟩ := (HFQ.out w' hC_)
                go_simp
                with_reducible rfl
              · show Act.put _ (some 88) _ = _
                simp only [Act.put, List.setIfInBounds_toArray, List.set_cons_zero, List.set_cons_succ, i64_w, i32_w]
                rfl
              refine q_op (v := ?_) (a' := ?_) ?hw4 ?_ ?_ ?_
              case hw4 => rfl
              rotate_left
              rotate_left
              · intro w' hC_
                obtain ⟨⟨s1, s2, s3⟩, s4, s5⟩ := (HFQ.out w' hC_)
                go_simp
                with_reducible rfl
              · show Act.put _ (some 89) _ = _
                simp only [Act.put, List.setIfInBounds_toArray, List.set_cons_zero, List.set_cons_succ, i64_w, i32_w]
                rfl
              refine q_op (v := ?_) (a' := ?_) ?hw4 ?_ ?_ ?_
              case hw4 => rfl
              rotate_left
              rotate_left
              · intro w' hC_
                obtain ⟨⟨s1, s2, s3⟩, s4, s5⟩ := (HFQ.out w' hC_)
                go_simp
                with_reducible rfl
              · show Act.put _ (some 90) _ = _
                simp only [Act.put, List.setIfInBounds_toArray, List.set_cons_zero, List.set_cons_succ, i64_w, i32_w]
                rfl
              refine q_op (v := ?_) (a' := ?_) ?hw4 ?_ ?_ ?_
              case hw4 => rfl
              rotate_left
              rotate_left
              · intro w' hC_
                obtain ⟨⟨s1, s2, s3⟩, s4, s5⟩ := (HFQ.out w' hC_)
                go_simp
                with_reducible rfl
              · show Act.put _ (some 91) _ = _
                simp only [Act.put, List.setIfInBounds_toArray, List.set_cons_zero, List.set_cons_succ, i64_w, i32_w]
                rfl
              refine q_op (v := ?_) (a' := ?_) ?hw4 ?_ ?_ ?_
              case hw4 => rfl
              rotate_left
              rotate_left
              · intro w' hC_
                obtain ⟨⟨s1, s2, s3⟩, s4, s5⟩ := (HFQ.out w' hC_)
                go_simp
                with_reducible rfl
              · show Act.put _ (some 92) _ = _
                simp only [Act.put, List.setIfInBounds_toArray, List.set_cons_zero, List.set_cons_succ, i64_w, i32_w]
                rfl
              refine q_op (v := ?_) (a' := ?_) ?hw4 ?_ ?_ ?_
              case hw4 => rfl
              rotate_left
              rotate_left
              · intro w' hC_
                obtain ⟨⟨s1, s2, s3⟩, s4, s5⟩ := (HFQ.out w' hC_)
                go_simp
                with_reducible rfl
              · show Act.put _ (some 93) _ = _
                simp only [Act.put, List.setIfInBounds_toArray, List.set_cons_zero, List.set_cons_succ, i64_w, i32_w]
                rfl
              refine q_op (v := ?_) (a' := ?_) ?hw4 ?_ ?_ ?_
              case hw4 => rfl
              rotate_left
              rotate_left
              · intro w' hC_
                obtain ⟨⟨s1, s2, s3⟩, s4, s5⟩ := (HFQ.out w' hC_)
                go_simp
                with_reducible rfl
              · show Act.put _ (some 94) _ = _
                simp only [Act.put, List.setIfInBounds_toArray, List.set_cons_zero, List.set_cons_succ, i64_w, i32_w]
                rfl
              refine q_op (v := ?_) (a' := ?_) ?hw4 ?_ ?_ ?_
              case hw4 => rfl
              rotate_left
              rotate_left
              · intro w' hC_
                obtain ⟨⟨s1, s2, s3⟩, s4, s5⟩ := (HFQ.out w' hC_)
                go_simp
                with_reducible rfl
              · show Act.put _ (some 95) _ = _
                simp only [Act.put, List.setIfInBounds_toArray, List.set_cons_zero, List.set_cons_succ, i64_w, i32_w]
                rfl
              refine q_op (v := ?_) (a' := ?_) ?hw4 ?_ ?_ ?_
              case hw4 => rfl
              rotate_left
              rotate_left
              · intro w' hC_
                obtain ⟨⟨s1, s2, s3⟩, s4, s5⟩ := (HFQ.out w' hC_)
                go_simp
                with_reducible rfl
              · show Act.put _ (some 96) _ = _
                simp only [Act.put, List.setIfInBounds_toArray, List.set_cons_zero, List.set_cons_succ, i64_w, i32_w]
                rfl
              refine q_call (a' := ?_) Try.func51 (by kernel_rfl) rfl #[.pointer (some ⟨g, 0, none⟩), .agg #[.int .i64 (y).1, .int .i64 (y).2], .agg #[.int .i64 (at_ x'.l q2).1, .int .i64 (at_ x'.l q2).2]] ?hw4 rfl ?hx4 (.int .i64 r) ?_ ?_ ?_
              case hw4 => rfl
              case hx4 => (try simp only [List.map_toArray, List.map_cons, List.map_nil]); first | done | rfl
              rotate_left
              · intro w' hC_
                exact (compare_calls (y) (at_ x'.l q2) (heap.mono (fun _ hk => hk.1) (heap.move (fun k hk => hC_.block k hk.2.2) (heap.bound HK.out.st)))).mono (fun e w'' ⟨he, hb⟩ => ⟨by rw [he, HK.out.great, HR.out], hC_.trans (hb.mono hC_.size)⟩)
              · show Act.put _ (some 97) _ = _
                simp only [Act.put, List.setIfInBounds_toArray, List.set_cons_zero, List.set_cons_succ, i64_w, i32_w]
                rfl
              refine q_op (v := ?_) (a' := ?_) ?hw4 ?_ ?_ ?_
              case hw4 => rfl
              rotate_left
              rotate_left
              · intro w' hC_
                obtain ⟨⟨s1, s2, s3⟩, s4, s5⟩ := (HFQ.out w' hC_)
                go_simp
                with_reducible rfl
              · show Act.put _ (some 98) _ = _
                simp only [Act.put, List.setIfInBounds_toArray, List.set_cons_zero, List.set_cons_succ, i64_w, i32_w]
                rfl
              refine q_nil ?_
              intro wq hC_
              have HKQ := Aside0.mk (HK.out.below hC_)
              obtain ⟨⟨s1, s2, s3⟩, s4, s5⟩ := HFQ.out wq hC_
              clear hC_
              have hqb : (q2 : Int) < 1024 := by omega
              go_wp2_with (first | (go_at_call 52; (with_reducible refine (put_calls k (at_ x'.l q2) HKQ.out.st hkl HWF.out HSZ.out).mono ?_); rintro e w6 ⟨rfl, hM6, hW6⟩; have HK6 := Aside0.mk (HKQ.out.step hql (by omega) (HKQ.out.near.down hqp hql hqk hkl HBEST.out) hM6 hW6); clear hM6 hW6))
              go_roundw
              case rel => exact ⟨q2, 2 * q2 + 1, _, rfl, by first | rfl | (congr 1; omega), rfl, HK6.out, fun _ => by rw [hqk]; show lt x.great y (at_ (x'.l.set k (at_ x'.l q2)) k) = false; rw [at_set_same hkl]; exact hc⟩
              case measure => have hlen := HLEN.out; simp [intOf]; omega
          | false =>
            have hbb := HB.out
            have hql : q1 < x'.l.length := hkid
            have HBEST := Aside0.mk (show ∀ c, 0 < c → c < x'.l.length → (c - 1) / 2 = k → lt x.great (at_ x'.l c) (at_ x'.l q1) = false from fun c h0 hc hck => by
              have hq := HE.out
              rcases (show c = q1 ∨ c = q2 by have := HQ2.out; omega) with rfl | rfl
              · exact lt_irr _ _
              · rw [decide_eq_true hc, Bool.true_and] at hbb
                exact hbb)
            have hqk : (q1 - 1) / 2 = k := by have := HE.out; have := HQ2.out; omega
            have hqp : 0 < q1 := by have := HE.out; have := HQ2.out; omega
            have HFQ := Aside0.mk (fun w' (hb : Below wr.heap.size wr w') => And.intro (HF.out w' hb) (HI.out q1 w' hql hb))
            clear hbb HB HI hkd hkdn hq1l e5
            go_upto_region 9 with (fail)
            have hqi : (q1 : Int) < (x'.l.length : Int) := by omega
            obtain ⟨r, hr⟩ : ∃ r : Int, cmpv x.great y (at_ x'.l q1) = r := ⟨_, rfl⟩
            have HR := Aside0.mk hr
            have HLT := Aside0.mk (lt_iff x.great y (at_ x'.l q1))
            rw [hr] at HLT
            clear hr
            have HWF := Aside0.mk (HA1.out.wf _ (at_mem hql))
            have HSZ := Aside0.mk (HK.out.hole.sz_le hl1024 (at_ x'.l q1) (Or.inr (by rw [(HK.out.hole.fwd q1 hql (by omega)).1]; rfl)))
            cases hc : lt x.great y (at_ x'.l q1) with
            | true =>
              have hr0 : decide (r < 0) = true := by rw [← hc]; exact HLT.out
              refine q_start (by kernel_rfl) (by kernel_rfl) (fun w' => Below wr.heap.size wr w') (below_drew HBC.out) ?_
              refine q_op (v := ?_) (a' := ?_) ?hw5 ?_ ?_ ?_
              case hw5 => rfl
              rotate_left
              rotate_left
              · intro w' hC_
                obtain ⟨⟨s1, s2, s3⟩, s4, s5⟩ := (HFQ.out w' hC_)
                go_simp
                with_reducible rfl
              · show Act.put _ (some 88) _ = _
                simp only [Act.put, List.setIfInBounds_toArray, List.set_cons_zero, List.set_cons_succ, i64_w, i32_w]
                rfl
              refine q_op (v := ?_) (a' := ?_) ?hw5 ?_ ?_ ?_
              case hw5 => rfl
              rotate_left
              rotate_left
              · intro w' hC_
                obtain ⟨⟨s1, s2, s3⟩, s4, s5⟩ := (HFQ.out w' hC_)
                go_simp
                with_reducible rfl
              · show Act.put _ (some 89) _ = _
                simp only [Act.put, List.setIfInBounds_toArray, List.set_cons_zero, List.set_cons_succ, i64_w, i32_w]
                rfl
              refine q_op (v := ?_) (a' := ?_) ?hw5 ?_ ?_ ?_
              case hw5 => rfl
              rotate_left
              rotate_left
              · intro w' hC_
                obtain ⟨⟨s1, s2, s3⟩, s4, s5⟩ := (HFQ.out w' hC_)
                go_simp
                with_reducible rfl
              · show Act.put _ (some 90) _ = _
                simp only [Act.put, List.setIfInBounds_toArray, List.set_cons_zero, List.set_cons_succ, i64_w, i32_w]
                rfl
              refine q_op (v := ?_) (a' := ?_) ?hw5 ?_ ?_ ?_
              case hw5 => rfl
              rotate_left
              rotate_left
              · intro w' hC_
                obtain ⟨⟨s1, s2, s3⟩, s4, s5⟩ := (HFQ.out w' hC_)
                go_simp
                with_reducible rfl
              · show Act.put _ (some 91) _ = _
                simp only [Act.put, List.setIfInBounds_toArray, List.set_cons_zero, List.set_cons_succ, i64_w, i32_w]
                rfl
              refine q_op (v := ?_) (a' := ?_) ?hw5 ?_ ?_ ?_
              case hw5 => rfl
              rotate_left
              rotate_left
              · intro w' hC_
                obtain ⟨⟨s1, s2, s3⟩, s4, s5⟩ := (HFQ.out w' hC_)
                go_simp
                with_reducible rfl
              · show Act.put _ (some 92) _ = _
                simp only [Act.put, List.setIfInBounds_toArray, List.set_cons_zero, List.set_cons_succ, i64_w, i32_w]
                rfl
              refine q_op (v := ?_) (a' := ?_) ?hw5 ?_ ?_ ?_
              case hw5 => rfl
              rotate_left
              rotate_left
              · intro w' hC_
                obtain ⟨⟨s1, s2, s3⟩, s4, s5⟩ := (HFQ.out w' hC_)
                go_simp
                with_reducible rfl
              · show Act.put _ (some 93) _ = _
                simp only [Act.put, List.setIfInBounds_toArray, List.set_cons_zero, List.set_cons_succ, i64_w, i32_w]
                rfl
              refine q_op (v := ?_) (a' := ?_) ?hw5 ?_ ?_ ?_
              case hw5 => rfl
              rotate_left
              rotate_left
              · intro w' hC_
                obtain ⟨⟨s1, s2, s3⟩, s4, s5⟩ := (HFQ.out w' hC_)
                go_simp
                with_reducible rfl
              · show Act.put _ (some 94) _ = _
                simp only [Act.put, List.setIfInBounds_toArray, List.set_cons_zero, List.set_cons_succ, i64_w, i32_w]
                rfl
              refine q_op (v := ?_) (a' := ?_) ?hw5 ?_ ?_ ?_
              case hw5 => rfl
              rotate_left
              rotate_left
              · intro w' hC_
                obtain ⟨⟨s1, s2, s3⟩, s4, s5⟩ := (HFQ.out w' hC_)
                go_simp
                with_reducible rfl
              · show Act.put _ (some 95) _ = _
                simp only [Act.put, List.setIfInBounds_toArray, List.set_cons_zero, List.set_cons_succ, i64_w, i32_w]
                rfl
              refine q_op (v := ?_) (a' := ?_) ?hw5 ?_ ?_ ?_
              case hw5 => rfl
              rotate_left
              rotate_left
              · intro w' hC_
                obtain ⟨⟨s1, s2, s3⟩, s4, s5⟩ := (HFQ.out w' hC_)
                go_simp
                with_reducible rfl
              · show Act.put _ (some 96) _ = _
                simp only [Act.put, List.setIfInBounds_toArray, List.set_cons_zero, List.set_cons_succ, i64_w, i32_w]
                rfl
              refine q_call (a' := ?_) Try.func51 (by kernel_rfl) rfl #[.pointer (some ⟨g, 0, none⟩), .agg #[.int .i64 (y).1, .int .i64 (y).2], .agg #[.int .i64 (at_ x'.l q1).1, .int .i64 (at_ x'.l q1).2]] ?hw5 rfl ?hx5 (.int .i64 r) ?_ ?_ ?_
              case hw5 => rfl
              case hx5 => (try simp only [List.map_toArray, List.map_cons, List.map_nil]); first | done | rfl
              rotate_left
              · intro w' hC_
                exact (compare_calls (y) (at_ x'.l q1) (heap.mono (fun _ hk => hk.1) (heap.move (fun k hk => hC_.block k hk.2.2) (heap.bound HK.out.st)))).mono (fun e w'' ⟨he, hb⟩ => ⟨by rw [he, HK.out.great, HR.out], hC_.trans (hb.mono hC_.size)⟩)
              · show Act.put _ (some 97) _ = _
                simp only [Act.put, List.setIfInBounds_toArray, List.set_cons_zero, List.set_cons_succ, i64_w, i32_w]
                rfl
              refine q_op (v := ?_) (a' := ?_) ?hw5 ?_ ?_ ?_
              case hw5 => rfl
              rotate_left
              rotate_left
              · intro w' hC_
                obtain ⟨⟨s1, s2, s3⟩, s4, s5⟩ := (HFQ.out w' hC_)
                go_simp
                with_reducible rfl
              · show Act.put _ (some 98) _ = _
                simp only [Act.put, List.setIfInBounds_toArray, List.set_cons_zero, List.set_cons_succ, i64_w, i32_w]
                rfl
              refine q_nil ?_
              intro wq hC_
              have HKQ := Aside0.mk (HK.out.below hC_)
              obtain ⟨⟨s1, s2, s3⟩, s4, s5⟩ := HFQ.out wq hC_
              clear hC_
              go_wp2_with (first | (go_at_call 52; (with_reducible refine (put_calls k y HKQ.out.st hkl HWY.out HSY.out).mono ?_); rintro e w6 ⟨rfl, hM6, hW6⟩; have HM6 := Aside0.mk hM6; have HW6 := Aside0.mk hW6; clear hM6 hW6))
              go_end0
              exact ⟨rfl, ⟨putH x' k y, HKQ.out.great, HKQ.out.room, HKQ.out.hole.fill, HKQ.out.near.fill hkl HU.out (fun c h0 hc' hck => nlt_trans (HBEST.out c h0 hc' hck) (lt_asym hc)), HKQ.out.perm, heap.mono (fun j hj => hj.elim (fun h => h.1) (fun h => Or.inr (Nat.le_trans HKQ.out.far.size h))) HM6.out⟩, HKQ.out.far.trans HW6.out (fun j hj => hj.1)⟩
            | false =>
              have hr0 : decide (r < 0) = false := by rw [← hc]; exact HLT.out
              refine q_start (by kernel_rfl) (by kernel_rfl) (fun w' => Below wr.heap.size wr w') (below_drew HBC.out) ?_
              refine q_op (v := ?_) (a' := ?_) ?hw5 ?_ ?_ ?_
              case hw5 => rfl
              rotate_left
              rotate_left
              · intro w' hC_
                obtain ⟨⟨s1, s2, s3⟩, s4, s5⟩ := (HFQ.out w' hC_)
                go_simp
                with_reducible rfl
              · show Act.put _ (some 88) _ = _
                simp only [Act.put, List.setIfInBounds_toArray, List.set_cons_zero, List.set_cons_succ, i64_w, i32_w]
                rfl
              refine q_op (v := ?_) (a' := ?_) ?hw5 ?_ ?_ ?_
              case hw5 => rfl
              rotate_left
              rotate_left
              · intro w' hC_
                obtain ⟨⟨s1, s2, s3⟩, s4, s5⟩ := (HFQ.out w' hC_)
                go_simp
                with_reducible rfl
              · show Act.put _ (some 89) _ = _
                simp only [Act.put, List.setIfInBounds_toArray, List.set_cons_zero, List.set_cons_succ, i64_w, i32_w]
                rfl
              refine q_op (v := ?_) (a' := ?_) ?hw5 ?_ ?_ ?_
              case hw5 => rfl
              rotate_left
              rotate_left
              · intro w' hC_
                obtain ⟨⟨s1, s2, s3⟩, s4, s5⟩ := (HFQ.out w' hC_)
                go_simp
                with_reducible rfl
              · show Act.put _ (some 90) _ = _
                simp only [Act.put, List.setIfInBounds_toArray, List.set_cons_zero, List.set_cons_succ, i64_w, i32_w]
                rfl
              refine q_op (v := ?_) (a' := ?_) ?hw5 ?_ ?_ ?_
              case hw5 => rfl
              rotate_left
              rotate_left
              · intro w' hC_
                obtain ⟨⟨s1, s2, s3⟩, s4, s5⟩ := (HFQ.out w' hC_)
                go_simp
                with_reducible rfl
              · show Act.put _ (some 91) _ = _
                simp only [Act.put, List.setIfInBounds_toArray, List.set_cons_zero, List.set_cons_succ, i64_w, i32_w]
                rfl
              refine q_op (v := ?_) (a' := ?_) ?hw5 ?_ ?_ ?_
              case hw5 => rfl
              rotate_left
              rotate_left
              · intro w' hC_
                obtain ⟨⟨s1, s2, s3⟩, s4, s5⟩ := (HFQ.out w' hC_)
                go_simp
                with_reducible rfl
              · show Act.put _ (some 92) _ = _
                simp only [Act.put, List.setIfInBounds_toArray, List.set_cons_zero, List.set_cons_succ, i64_w, i32_w]
                rfl
              refine q_op (v := ?_) (a' := ?_) ?hw5 ?_ ?_ ?_
              case hw5 => rfl
              rotate_left
              rotate_left
              · intro w' hC_
                obtain ⟨⟨s1, s2, s3⟩, s4, s5⟩ := (HFQ.out w' hC_)
                go_simp
                with_reducible rfl
              · show Act.put _ (some 93) _ = _
                simp only [Act.put, List.setIfInBounds_toArray, List.set_cons_zero, List.set_cons_succ, i64_w, i32_w]
                rfl
              refine q_op (v := ?_) (a' := ?_) ?hw5 ?_ ?_ ?_
              case hw5 => rfl
              rotate_left
              rotate_left
              · intro w' hC_
                obtain ⟨⟨s1, s2, s3⟩, s4, s5⟩ := (HFQ.out w' hC_)
                go_simp
                with_reducible rfl
              · show Act.put _ (some 94) _ = _
                simp only [Act.put, List.setIfInBounds_toArray, List.set_cons_zero, List.set_cons_succ, i64_w, i32_w]
                rfl
              refine q_op (v := ?_) (a' := ?_) ?hw5 ?_ ?_ ?_
              case hw5 => rfl
              rotate_left
              rotate_left
              · intro w' hC_
                obtain ⟨⟨s1, s2, s3⟩, s4, s5⟩ := (HFQ.out w' hC_)
                go_simp
                with_reducible rfl
              · show Act.put _ (some 95) _ = _
                simp only [Act.put, List.setIfInBounds_toArray, List.set_cons_zero, List.set_cons_succ, i64_w, i32_w]
                rfl
              refine q_op (v := ?_) (a' := ?_) ?hw5 ?_ ?_ ?_
              case hw5 => rfl
              rotate_left
              rotate_left
              · intro w' hC_
                obtain ⟨⟨s1, s2, s3⟩, s4, s5⟩ := (HFQ.out w' hC_)
                go_simp
                with_reducible rfl
              · show Act.put _ (some 96) _ = _
                simp only [Act.put, List.setIfInBounds_toArray, List.set_cons_zero, List.set_cons_succ, i64_w, i32_w]
                rfl
              refine q_call (a' := ?_) Try.func51 (by kernel_rfl) rfl #[.pointer (some ⟨g, 0, none⟩), .agg #[.int .i64 (y).1, .int .i64 (y).2], .agg #[.int .i64 (at_ x'.l q1).1, .int .i64 (at_ x'.l q1).2]] ?hw5 rfl ?hx5 (.int .i64 r) ?_ ?_ ?_
              case hw5 => rfl
              case hx5 => (try simp only [List.map_toArray, List.map_cons, List.map_nil]); first | done | rfl
              rotate_left
              · intro w' hC_
                exact (compare_calls (y) (at_ x'.l q1) (heap.mono (fun _ hk => hk.1) (heap.move (fun k hk => hC_.block k hk.2.2) (heap.bound HK.out.st)))).mono (fun e w'' ⟨he, hb⟩ => ⟨by rw [he, HK.out.great, HR.out], hC_.trans (hb.mono hC_.size)⟩)
              · show Act.put _ (some 97) _ = _
                simp only [Act.put, List.setIfInBounds_toArray, List.set_cons_zero, List.set_cons_succ, i64_w, i32_w]
                rfl
              refine q_op (v := ?_) (a' := ?_) ?hw5 ?_ ?_ ?_
              case hw5 => rfl
              rotate_left
              rotate_left
              · intro w' hC_
                obtain ⟨⟨s1, s2, s3⟩, s4, s5⟩ := (HFQ.out w' hC_)
                go_simp
                with_reducible rfl
              · show Act.put _ (some 98) _ = _
                simp only [Act.put, List.setIfInBounds_toArray, List.set_cons_zero, List.set_cons_succ, i64_w, i32_w]
                rfl
              refine q_nil ?_
              intro wq hC_
              have HKQ := Aside0.mk (HK.out.below hC_)
              obtain ⟨⟨s1, s2, s3⟩, s4, s5⟩ := HFQ.out wq hC_
              clear hC_
              have hqb : (q1 : Int) < 1024 := by omega
              go_wp2_with (first | (go_at_call 52; (with_reducible refine (put_calls k (at_ x'.l q1) HKQ.out.st hkl HWF.out HSZ.out).mono ?_); rintro e w6 ⟨rfl, hM6, hW6⟩; have HK6 := Aside0.mk (HKQ.out.step hql (by omega) (HKQ.out.near.down hqp hql hqk hkl HBEST.out) hM6 hW6); clear hM6 hW6))
              go_roundw
              case rel => exact ⟨q1, 2 * q1 + 1, _, rfl, by first | rfl | (congr 1; omega), rfl, HK6.out, fun _ => by rw [hqk]; show lt x.great y (at_ (x'.l.set k (at_ x'.l q1)) k) = false; rw [at_set_same hkl]; exact hc⟩
              case measure => have hlen := HLEN.out; simp [intOf]; omega
      · have hkdn : decide (q1 < x'.l.length) = false := decide_eq_false hkid
        have hkd : decide ((q1 : Int) < (x'.l.length : Int)) = false := decide_eq_false (by omega)
        obtain ⟨s1, s2, _⟩ := HF.out wr (Below.refl _ _)
        go_wp2_with (first | (go_at_call 52; (with_reducible refine (put_calls k y HK.out.st hkl HWY.out HSY.out).mono ?_); rintro e w6 ⟨rfl, hM6, hW6⟩; have HM6 := Aside0.mk hM6; have HW6 := Aside0.mk hW6; clear hM6 hW6))
        go_end0
        exact ⟨rfl, ⟨putH x' k y, HK.out.great, HK.out.room, HK.out.hole.fill, HK.out.near.fill hkl HU.out (fun c h0 hc hck => absurd hc (by omega)), HK.out.perm, heap.mono (fun j hj => hj.elim (fun h => h.1) (fun h => Or.inr (Nat.le_trans HK.out.far.size h))) HM6.out⟩, HK.out.far.trans HW6.out (fun j hj => hj.1)⟩
end Go.Proofs.Ytdmoembbgcoeaaa.Heap
