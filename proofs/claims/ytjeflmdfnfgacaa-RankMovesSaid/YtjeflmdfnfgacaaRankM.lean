/- RankMoves: the walk (no condition). -/
import Derived.Test.YtjeflmdfnfgacaaRankL
import Derived.Test.YtjeflmdfnfgacaaRankMP
import Derived.Test.YtjeflmdfnfgacaaReg
import Derived.Test.YtjeflmdfnfgacaaQx27
namespace Go.Proofs.Ytjeflmdfnfgacaa.Rank
open Go.RowKit Go.Proofs.YtjeflmdfnfgacaaW.PrintWords Go.Proofs.YtjeflmdfnfgacaaW.PrintLast Go.Proofs.YtjeflmdfnfgacaaW.PrintMore Go.Proofs.Ytjeflmdfnfgacaa.St Go.Proofs.Ytjeflmdfnfgacaa.Q Go.Proofs.Ytjeflmdfnfgacaa.Heap
set_option linter.unusedVariables false
set_option linter.unusedSimpArgs false
attribute [local go_sem] max2_int min2_int max_two min_two max_three min_three max_four min_four

theorem read_act {w : World} {ad : Addr} {l : List (Int × Int × Int × Int × Bool)} (h : (Kd.pair (Kd.int .i64) (Kd.pair (Kd.int .i64) (Kd.pair (Kd.int .i64) (Kd.pair (Kd.int .i64) Kd.bool)))).C w (some ad) l.length l) {j : Nat} (hj : j < l.length) {x1 x2 x3 x4 : Int} {x5 : Bool} (hx : l.getD j (0, 0, 0, 0, false) = (x1, x2, x3, x4, x5)) :
    w.cell? ⟨(ad.add (j * 5)).block, (ad.add (j * 5)).off + 1, none⟩ = some (.int .i64 x2) ∧ w.cell? ⟨(ad.add (j * 5)).block, (ad.add (j * 5)).off + 2, none⟩ = some (.int .i64 x3) ∧ w.cell? ⟨(ad.add (j * 5)).block, (ad.add (j * 5)).off + 2 + 1, none⟩ = some (.int .i64 x4) ∧ w.cell? ⟨(ad.add (j * 5)).block, (ad.add (j * 5)).off + 2 + 2, none⟩ = some (.bool x5) := by
  obtain ⟨ad', c, e, _, hK, hc0⟩ := Kd.C_get h (0, 0, 0, 0, false) (j : Int) (by omega) (by omega)
  cases e
  rw [Int.toNat_natCast] at hK hc0
  have hc : ∀ i u, c[i]? = some u → w.cell? (ad.add (j * 5 + i)) = some u := hc0
  rw [hx] at hK
  obtain ⟨_, _, rfl, rfl, _, _, rfl, rfl, _, _, rfl, rfl, _, _, rfl, rfl, rfl⟩ := hK
  exact ⟨by rw [← add_field _ _ 1 (by omega)]; exact hc 1 _ rfl, by rw [← add_field _ _ 2 (by omega)]; exact hc 2 _ rfl, by have := hc 3 _ rfl; rw [add_field _ _ 3 (by omega)] at this; exact this, by have := hc 4 _ rfl; rw [add_field _ _ 4 (by omega)] at this; exact this⟩
theorem some_ad {w : World} {A : Option Addr} {l : List (Int × Int × Int × Int × Bool)} (h : (Kd.pair (Kd.int .i64) (Kd.pair (Kd.int .i64) (Kd.pair (Kd.int .i64) (Kd.pair (Kd.int .i64) Kd.bool)))).C w A l.length l) {j : Nat} (hj : j < l.length) : ∃ ad, A = some ad := by
  obtain ⟨ad, c, e, _⟩ := Kd.C_get h (0, 0, 0, 0, false) (j : Int) (by omega) (by omega)
  exact ⟨ad, e⟩
def RelM (w : World) (m n : Nat) (v i : Value) (wr : World) : Prop :=
  ∃ (j : Nat) (c : Nat → Nat) (s : List (Option Ent)), j ≤ m ∧ i = .int .i64 (j : Int) ∧ Good s ∧ s.length = n ∧ rank.M wr w.heap.size (fun k => c k = 0) s v ∧ Below w.heap.size w wr
set_option maxHeartbeats 8000000 in
set_option maxRecDepth 100000 in
theorem moves_main (cpus : Int) (A : Option Addr) (cap : Nat) (l : List (Int × Int × Int × Int × Bool)) {w : World} (hr : (Kd.pair (Kd.int .i64) (Kd.pair (Kd.int .i64) (Kd.pair (Kd.int .i64) (Kd.pair (Kd.int .i64) Kd.bool)))).C w A l.length l) (frm too : Int) (n f t : Nat) (hn : cpus = (n : Int)) (hf : frm = (f : Int)) (ht : too = (t : Int)) (q0 : ¬ cpus < 1) (q1 : ¬ 64 < cpus) (q2 : ¬ 60 < (l.length : Int)) (q3 : ¬ frm < 0) (q4 : ¬ too < 0) (q5 : ¬ cpus ≤ frm) (q6 : ¬ cpus ≤ too) (q7 : ¬ frm = too) :
    Calls Try.prog 5 #[.int .i64 cpus, .slice A l.length cap, .int .i64 frm, .int .i64 too] w fun e w' => e = .returned (.bool true) ∧ Below w.heap.size w w' := by
  have HC := Aside0.mk hr
  have HL := Aside0.mk (show l.length ≤ 60 from by omega)
  have HN := Aside0.mk (show cpus = (n : Int) ∧ 1 ≤ n ∧ n ≤ 64 from ⟨hn, by omega, by omega⟩)
  have HFT := Aside0.mk (show frm = (f : Int) ∧ too = (t : Int) ∧ f < n ∧ t < n ∧ f ≠ t from ⟨hf, ht, by omega, by omega, by omega⟩)
  have p2n : decide (60 < l.length) = false := decide_eq_false (by omega)
  have p0 : decide (cpus < 1) = false := decide_eq_false q0
  have p1 : decide (64 < cpus) = false := decide_eq_false q1
  have p2 : decide (60 < (l.length : Int)) = false := decide_eq_false q2
  have p3 : decide (frm < 0) = false := decide_eq_false q3
  have p4 : decide (too < 0) = false := decide_eq_false q4
  have p5 : decide (cpus ≤ frm) = false := decide_eq_false q5
  have p6 : decide (cpus ≤ too) = false := decide_eq_false q6
  have p7 : (frm == too) = false := beq_eq_false_iff_ne.2 q7
  clear hr hn hf ht q0 q1 q2 q3 q4 q5 q6 q7
  go_enter Try.func5, Try.ntmps5
  go_wp2_with (first | (go_at_call 6; (with_reducible refine (awake_calls _).mono ?_); rintro e w1 ⟨rfl, hb1⟩; have B1 := Aside0.mk hb1; clear hb1) | (go_at_call 7; (with_reducible refine (newL (w0 := w) (fun _ => 9) 0 cpus n (List.replicate n none) HN.out.1 rfl HN.out.2.1 HN.out.2.2 B1.out).mono ?_); rintro e w2 ⟨gn, rfl, c2, h2, t2⟩; have H2 := Aside0.mk h2; have B2 := Aside0.mk (t2.far B1.out); clear h2 t2))
  generalize hv : (Value.pointer (some ⟨gn, 0, none⟩)) = v at H2 ⊢
  go_loopw [11] (fun i wr => RelM w l.length n v i wr) (fun i _ => l.length - (intOf i).toNat)
  case atStart => exact ⟨0, c2, _, Nat.zero_le _, rfl, good_new n, List.length_replicate, H2.out, B2.out⟩
  case round =>
    obtain ⟨j, c, s, hj, rfl, hG, hlen, hS, hB⟩ := hrel
    have HS := Aside0.mk hS
    have HB := Aside0.mk hB
    have HG := Aside0.mk hG
    have HLN := Aside0.mk hlen
    have hj60 : j ≤ 60 := by have := HL.out; omega
    clear hS hB hG hlen H2
    by_cases hlt : j < l.length
    · obtain ⟨ad, hAd⟩ := some_ad HC.out hlt
      subst hAd
      obtain ⟨x1, x2, x3, x4, x5, hx⟩ : ∃ x1 x2 x3 x4 x5, l.getD j (0, 0, 0, 0, false) = (x1, x2, x3, x4, x5) := ⟨_, _, _, _, _, rfl⟩
      have HX := Aside0.mk hx
      clear hx
      have bq : (0 ≤ (j : Int) ∧ (j : Int) < (l.length : Int)) := by omega
      go_upto_region 9 with (fail)
      obtain ⟨w20, hw20⟩ : ∃ w20 : World, wr.drew = w20 := ⟨_, rfl⟩
      have hb20 : Below wr.heap.size wr w20 := by rw [← hw20]; exact below_drew (Below.refl _ _)
      have HR20 := Aside0.mk (St.below (s := rank) HS.out hb20)
      have B20 := Aside0.mk (Below.trans HB.out (Below.mono hb20 (Below.size HB.out)))
      clear hb20
      refine start_ (n := 12) (S := fun w' => w'.cell? ⟨(ad.add (j * 5)).block, (ad.add (j * 5)).off + 1, none⟩ = some (.int .i64 x2) ∧ w'.cell? ⟨(ad.add (j * 5)).block, (ad.add (j * 5)).off + 2, none⟩ = some (.int .i64 x3) ∧ w'.cell? ⟨(ad.add (j * 5)).block, (ad.add (j * 5)).off + 2 + 1, none⟩ = some (.int .i64 x4) ∧ w'.cell? ⟨(ad.add (j * 5)).block, (ad.add (j * 5)).off + 2 + 2, none⟩ = some (.bool x5)) (ds := []) #[false, false, false, false, false, false, false, false, false, false, false, false] (by kernel_rfl) rfl rfl (by rw [hw20]; exact read_act (Kd.C_below HC.out B20.out) hlt HX.out) (fun hHeld => ?_)
      refine pure_ (i := 0) (N := some 71) (v := ?_) (a' := ?_) #[true, false, false, false, false, false, false, false, false, false, false, false] rfl rfl (by kernel_rfl) (fun _ _ _ h => h) (Or.inl ⟨by rfl, ?_⟩) ?_ ?_
      rotate_left
      · intro w'
        go_simp
        with_reducible rfl
      rotate_left
      · simp only [Act.put, List.setIfInBounds_toArray, List.set_cons_zero, List.set_cons_succ, i64_w, i32_w]
        rfl
      refine pure_ (i := 1) (N := some 72) (v := ?_) (a' := ?_) #[true, true, false, false, false, false, false, false, false, false, false, false] rfl rfl (by kernel_rfl) (fun _ _ _ h => h) (Or.inl ⟨by rfl, ?_⟩) ?_ ?_
      rotate_left
      · intro w'
        go_simp
        with_reducible rfl
      rotate_left
      · simp only [Act.put, List.setIfInBounds_toArray, List.set_cons_zero, List.set_cons_succ, i64_w, i32_w]
        rfl
      refine pure_ (i := 2) (N := some 73) (v := ?_) (a' := ?_) #[true, true, true, false, false, false, false, false, false, false, false, false] rfl rfl (by kernel_rfl) (fun _ _ _ h => h) (Or.inl ⟨by rfl, ?_⟩) ?_ ?_
      rotate_left
      · intro w'
        go_simp
        with_reducible rfl
      rotate_left
      · simp only [Act.put, List.setIfInBounds_toArray, List.set_cons_zero, List.set_cons_succ, i64_w, i32_w]
        rfl
      refine pure_ (i := 3) (N := some 74) (v := ?_) (a' := ?_) #[true, true, true, true, false, false, false, false, false, false, false, false] rfl rfl (by kernel_rfl) (fun _ _ _ h => h) (Or.inl ⟨by rfl, ?_⟩) ?_ ?_
      rotate_left
      · intro w'
        go_simp
        with_reducible rfl
      rotate_left
      · simp only [Act.put, List.setIfInBounds_toArray, List.set_cons_zero, List.set_cons_succ, i64_w, i32_w]
        rfl
      refine pure_ (i := 4) (N := some 75) (v := ?_) (a' := ?_) #[true, true, true, true, true, false, false, false, false, false, false, false] rfl rfl (by kernel_rfl) (fun _ _ _ h => h) (Or.inl ⟨by rfl, ?_⟩) ?_ ?_
      rotate_left
      · intro w'
        go_simp
        with_reducible rfl
      rotate_left
      · simp only [Act.put, List.setIfInBounds_toArray, List.set_cons_zero, List.set_cons_succ, i64_w, i32_w]
        rfl
      refine take_ (i := 5) (N := some 76) (v := ?_) (a' := ?_) #[true, true, true, true, true, true, false, false, false, false, false, false] rfl rfl (by kernel_rfl) (fun _ _ _ h => h) (Or.inl ⟨by rfl, ?_⟩) hHeld ?_ ?_
      rotate_left
      · intro w' hS_
        obtain ⟨s0_, s1_, s2_, s3_⟩ := hS_
        go_simp
        with_reducible rfl
      rotate_left
      · simp only [Act.put, List.setIfInBounds_toArray, List.set_cons_zero, List.set_cons_succ, i64_w, i32_w]
        rfl
      refine pure_ (i := 6) (N := some 77) (v := ?_) (a' := ?_) #[true, true, true, true, true, true, true, false, false, false, false, false] rfl rfl (by kernel_rfl) (fun _ _ _ h => h) (Or.inl ⟨by rfl, ?_⟩) ?_ ?_
      rotate_left
      · intro w'
        go_simp
        with_reducible rfl
      rotate_left
      · simp only [Act.put, List.setIfInBounds_toArray, List.set_cons_zero, List.set_cons_succ, i64_w, i32_w]
        rfl
      refine pure_ (i := 7) (N := some 78) (v := ?_) (a' := ?_) #[true, true, true, true, true, true, true, true, false, false, false, false] rfl rfl (by kernel_rfl) (fun _ _ _ h => h) (Or.inl ⟨by rfl, ?_⟩) ?_ ?_
      rotate_left
      · intro w'
        go_simp
        with_reducible rfl
      rotate_left
      · simp only [Act.put, List.setIfInBounds_toArray, List.set_cons_zero, List.set_cons_succ, i64_w, i32_w]
        rfl
      refine pure_ (i := 8) (N := some 79) (v := ?_) (a' := ?_) #[true, true, true, true, true, true, true, true, true, false, false, false] rfl rfl (by kernel_rfl) (fun _ _ _ h => h) (Or.inl ⟨by rfl, ?_⟩) ?_ ?_
      rotate_left
      · intro w'
        go_simp
        with_reducible rfl
      rotate_left
      · simp only [Act.put, List.setIfInBounds_toArray, List.set_cons_zero, List.set_cons_succ, i64_w, i32_w]
        rfl
      refine pure_ (i := 9) (N := some 80) (v := ?_) (a' := ?_) #[true, true, true, true, true, true, true, true, true, true, false, false] rfl rfl (by kernel_rfl) (fun _ _ _ h => h) (Or.inl ⟨by rfl, ?_⟩) ?_ ?_
      rotate_left
      · intro w'
        go_simp
        with_reducible rfl
      rotate_left
      · simp only [Act.put, List.setIfInBounds_toArray, List.set_cons_zero, List.set_cons_succ, i64_w, i32_w]
        rfl
      refine take_ (i := 10) (N := some 81) (v := ?_) (a' := ?_) #[true, true, true, true, true, true, true, true, true, true, true, false] rfl rfl (by kernel_rfl) (fun _ _ _ h => h) (Or.inl ⟨by rfl, ?_⟩) hHeld ?_ ?_
      rotate_left
      · intro w' hS_
        obtain ⟨s0_, s1_, s2_, s3_⟩ := hS_
        go_simp
        with_reducible rfl
      rotate_left
      · simp only [Act.put, List.setIfInBounds_toArray, List.set_cons_zero, List.set_cons_succ, i64_w, i32_w]
        rfl
      refine one_ (i := 11) (N := some 82) #[true, true, true, true, true, true, true, true, true, true, true, true] rfl rfl (by kernel_rfl) (by decide) (fun K hK => ?_)
      refine goes_ Try.func8 (by kernel_rfl) rfl #[v, .int .i64 x2, .agg #[.int .i64 x3, .int .i64 x4, .bool x5]] ?hw rfl rfl ?hx ?_
      (case hw => rfl)
      (case hx => (try simp only [List.map_toArray, List.map_cons, List.map_nil]); first | done | rfl)
      rw [hw20]
      refine (setC x2 x3 x4 x5 HR20.out (Below.size B20.out)).mono ?_
      rintro e w21 ⟨rfl, c21, h21, t21⟩
      have HR21 := Aside0.mk (show (rank).M w21 w.heap.size (fun k => c21 k = 0) (setv s x2 (x3, x4, x5)).2 v from h21)
      have B21 := Aside0.mk (t21.far B20.out)
      clear h21 t21
      refine ⟨_, rfl, ?_⟩
      have hHeld := read_act (Kd.C_below HC.out B21.out) hlt HX.out
      refine hK.out _ _ hHeld (fun hHeld => ?_)
      clear hK K
      refine norm_ (a' := ?_) ?_ ?_
      rotate_left
      · show Act.put _ (some 82) _ = _
        simp only [Act.put, List.setIfInBounds_toArray, List.set_cons_zero, List.set_cons_succ, i64_w, i32_w]
        rfl
      refine done_ (by kernel_rfl) ?_
      go_wp2
      exact ⟨⟨j + 1, c21, _, by omega, by go_num, good_setv HG.out _ _, (setv_len _ _ _).trans HLN.out, HR21.out, B21.out⟩, by simp [intOf]; omega⟩
    · obtain ⟨y1, y2, y3, yq, hy⟩ : ∃ y1 y2 y3 yq, atv s too = ((y1, y2, y3), yq) := ⟨_, _, _, _, rfl⟩
      have HY := Aside0.mk hy
      clear hy
      cases hxf : s.getD f none with
      | none =>
        have HXF := Aside0.mk (show atv s frm = ((0, 0, false), false) from by rw [HFT.out.1]; unfold atv; rw [if_pos (isv_of (by rw [HLN.out]; exact HFT.out.2.2.1)), Int.toNat_natCast, hxf]; rfl)
        clear hxf
        go_upto_region 11 with (first | (go_at_call 11; (with_reducible refine (atL frm 0 0 false false HXF.out HS.out).mono ?_); rintro e w30 ⟨rfl, hb30⟩; have HR30 := Aside0.mk (St.below (s := rank) HS.out hb30); have B30 := Aside0.mk (Below.trans HB.out (Below.mono hb30 (Below.size HB.out))); clear hb30) | ((with_reducible refine gate_dst (N := 12) rfl ?_); refine box_event ?hg (N := 12) ?hd (cs := #[(.int .i64 0), (.int .i64 0), (.bool false)]) (t := 29) ?hr ?_; (case hd => rfl); (case hg => rfl); (case hr => first | (go_simp; done) | (go_simp; rfl)); intro g31 hg31 w31 hx31 hb31; have HX31 := Aside0.mk hx31; have HB31 := Aside0.mk hb31; have HG31 := Aside0.mk hg31; have r031 := blk_cell hx31 0; have r131 := blk_cell hx31 1; have r231 := blk_cell hx31 2; have q031 := blk_frozen hx31 0; have q131 := blk_frozen hx31 1; have q231 := blk_frozen hx31 2; clear hx31 hb31 hg31))
        have hbz : Below w30.heap.size w30 (((w31.setCell ⟨g31, 0, none⟩ (.int .i64 (0))).setCell ⟨g31, 1, none⟩ (.int .i64 (0))).setCell ⟨g31, 2, none⟩ (.bool false)) := ((HB31.out.setCell (by have := HG31.out; show w30.heap.size ≤ g31; omega) _).setCell (by have := HG31.out; show w30.heap.size ≤ g31; omega) _).setCell (by have := HG31.out; show w30.heap.size ≤ g31; omega) _
        have hy : (((w31.setCell ⟨g31, 0, none⟩ (.int .i64 (0))).setCell ⟨g31, 1, none⟩ (.int .i64 (0))).setCell ⟨g31, 2, none⟩ (.bool false)).heap[g31]? = some (.cells #[.int .i64 (0), .int .i64 (0), .bool false] 29 (0, 0)) := blk_put (cs := #[.int .i64 (0), .int .i64 (0), .bool false]) (blk_put (cs := #[.int .i64 (0), .int .i64 0, .bool false]) (blk_put (cs := #[.int .i64 0, .int .i64 0, .bool false]) HX31.out 0 _ rfl) 1 _ rfl) 2 _ rfl
        clear r031 r131 r231 q031 q131 q231
        generalize (((w31.setCell ⟨g31, 0, none⟩ (.int .i64 (0))).setCell ⟨g31, 1, none⟩ (.int .i64 (0))).setCell ⟨g31, 2, none⟩ (.bool false)) = wb31 at hbz hy ⊢
        have HRb31 := Aside0.mk (St.below (s := rank) HR30.out hbz)
        have Bb31 := Aside0.mk (Below.trans B30.out (Below.mono hbz (Below.size B30.out)))
        have y0 := blk_cell hy 0
        clear hbz hy
        go_upto_region 12 with (first | (go_at_call 11; (with_reducible refine (atL too y1 y2 y3 yq HY.out HRb31.out).mono ?_); rintro e w32 ⟨rfl, hb32⟩; have HR32 := Aside0.mk (St.below (s := rank) HRb31.out hb32); have B32 := Aside0.mk (Below.trans Bb31.out (Below.mono hb32 (Below.size Bb31.out))); clear hb32) | ((with_reducible refine gate_dst (N := 14) rfl ?_); refine box_event ?hg (N := 14) ?hd (cs := #[(.int .i64 0), (.int .i64 0), (.bool false)]) (t := 29) ?hr ?_; (case hd => rfl); (case hg => rfl); (case hr => first | (go_simp; done) | (go_simp; rfl)); intro g33 hg33 w33 hx33 hb33; have HX33 := Aside0.mk hx33; have HB33 := Aside0.mk hb33; have HG33 := Aside0.mk hg33; have r033 := blk_cell hx33 0; have r133 := blk_cell hx33 1; have r233 := blk_cell hx33 2; have q033 := blk_frozen hx33 0; have q133 := blk_frozen hx33 1; have q233 := blk_frozen hx33 2; clear hx33 hb33 hg33))
        have hbz : Below w32.heap.size w32 (((w33.setCell ⟨g33, 0, none⟩ (.int .i64 (y1))).setCell ⟨g33, 1, none⟩ (.int .i64 (y2))).setCell ⟨g33, 2, none⟩ (.bool y3)) := ((HB33.out.setCell (by have := HG33.out; show w32.heap.size ≤ g33; omega) _).setCell (by have := HG33.out; show w32.heap.size ≤ g33; omega) _).setCell (by have := HG33.out; show w32.heap.size ≤ g33; omega) _
        have hy : (((w33.setCell ⟨g33, 0, none⟩ (.int .i64 (y1))).setCell ⟨g33, 1, none⟩ (.int .i64 (y2))).setCell ⟨g33, 2, none⟩ (.bool y3)).heap[g33]? = some (.cells #[.int .i64 (y1), .int .i64 (y2), .bool y3] 29 (0, 0)) := blk_put (cs := #[.int .i64 (y1), .int .i64 (y2), .bool false]) (blk_put (cs := #[.int .i64 (y1), .int .i64 0, .bool false]) (blk_put (cs := #[.int .i64 0, .int .i64 0, .bool false]) HX33.out 0 _ rfl) 1 _ rfl) 2 _ rfl
        clear r033 r133 r233 q033 q133 q233
        generalize (((w33.setCell ⟨g33, 0, none⟩ (.int .i64 (y1))).setCell ⟨g33, 1, none⟩ (.int .i64 (y2))).setCell ⟨g33, 2, none⟩ (.bool y3)) = wb33 at hbz hy ⊢
        have HRb33 := Aside0.mk (St.below (s := rank) HR32.out hbz)
        have Bb33 := Aside0.mk (Below.trans B32.out (Below.mono hbz (Below.size B32.out)))
        have y0 := blk_cell hy 0
        clear hbz hy
        go_wp2
        go_ret
        exact ⟨rfl, Bb33.out⟩
      | some e =>
        obtain ⟨e1, e2, e3⟩ := e
        have HXF := Aside0.mk (show atv s frm = ((e1, e2, e3), true) from by rw [HFT.out.1]; unfold atv; rw [if_pos (isv_of (by rw [HLN.out]; exact HFT.out.2.2.1)), Int.toNat_natCast, hxf])
        have HE := Aside0.mk hxf
        clear hxf
        go_upto_region 11 with (first | (go_at_call 11; (with_reducible refine (atL frm e1 e2 e3 true HXF.out HS.out).mono ?_); rintro e w30 ⟨rfl, hb30⟩; have HR30 := Aside0.mk (St.below (s := rank) HS.out hb30); have B30 := Aside0.mk (Below.trans HB.out (Below.mono hb30 (Below.size HB.out))); clear hb30) | ((with_reducible refine gate_dst (N := 12) rfl ?_); refine box_event ?hg (N := 12) ?hd (cs := #[(.int .i64 0), (.int .i64 0), (.bool false)]) (t := 29) ?hr ?_; (case hd => rfl); (case hg => rfl); (case hr => first | (go_simp; done) | (go_simp; rfl)); intro g31 hg31 w31 hx31 hb31; have HX31 := Aside0.mk hx31; have HB31 := Aside0.mk hb31; have HG31 := Aside0.mk hg31; have r031 := blk_cell hx31 0; have r131 := blk_cell hx31 1; have r231 := blk_cell hx31 2; have q031 := blk_frozen hx31 0; have q131 := blk_frozen hx31 1; have q231 := blk_frozen hx31 2; clear hx31 hb31 hg31))
        have hbz : Below w30.heap.size w30 (((w31.setCell ⟨g31, 0, none⟩ (.int .i64 (e1))).setCell ⟨g31, 1, none⟩ (.int .i64 (e2))).setCell ⟨g31, 2, none⟩ (.bool e3)) := ((HB31.out.setCell (by have := HG31.out; show w30.heap.size ≤ g31; omega) _).setCell (by have := HG31.out; show w30.heap.size ≤ g31; omega) _).setCell (by have := HG31.out; show w30.heap.size ≤ g31; omega) _
        have hy : (((w31.setCell ⟨g31, 0, none⟩ (.int .i64 (e1))).setCell ⟨g31, 1, none⟩ (.int .i64 (e2))).setCell ⟨g31, 2, none⟩ (.bool e3)).heap[g31]? = some (.cells #[.int .i64 (e1), .int .i64 (e2), .bool e3] 29 (0, 0)) := blk_put (cs := #[.int .i64 (e1), .int .i64 (e2), .bool false]) (blk_put (cs := #[.int .i64 (e1), .int .i64 0, .bool false]) (blk_put (cs := #[.int .i64 0, .int .i64 0, .bool false]) HX31.out 0 _ rfl) 1 _ rfl) 2 _ rfl
        clear r031 r131 r231 q031 q131 q231
        generalize (((w31.setCell ⟨g31, 0, none⟩ (.int .i64 (e1))).setCell ⟨g31, 1, none⟩ (.int .i64 (e2))).setCell ⟨g31, 2, none⟩ (.bool e3)) = wb31 at hbz hy ⊢
        obtain ⟨cb31, hb31, tb31⟩ := blk_new1 (w0 := w) c 2 (by have := HG31.out; omega) hy hbz (Below.size B30.out)
        have HXb31 := Aside0.mk (show (blk).M wb31 w.heap.size (fun k => cb31 k = 2) (.cells #[.int .i64 (e1), .int .i64 (e2), .bool e3] 29 (0, 0)) (.pointer (some ⟨g31, 0, none⟩)) from hb31)
        have HRb31 := Aside0.mk (tb31.keep _ (rank) 0 _ _ (by decide) HR30.out)
        have Bb31 := Aside0.mk (tb31.far B30.out)
        clear hbz hy hb31 tb31
        go_upto_region 12 with (first | (go_at_call 11; (with_reducible refine (atL too y1 y2 y3 yq HY.out HRb31.out).mono ?_); rintro e w32 ⟨rfl, hb32⟩; have HR32 := Aside0.mk (St.below (s := rank) HRb31.out hb32); have HX32 := Aside0.mk (St.below (s := blk) HXb31.out hb32); have B32 := Aside0.mk (Below.trans Bb31.out (Below.mono hb32 (Below.size Bb31.out))); clear hb32) | ((with_reducible refine gate_dst (N := 14) rfl ?_); refine box_event ?hg (N := 14) ?hd (cs := #[(.int .i64 0), (.int .i64 0), (.bool false)]) (t := 29) ?hr ?_; (case hd => rfl); (case hg => rfl); (case hr => first | (go_simp; done) | (go_simp; rfl)); intro g33 hg33 w33 hx33 hb33; have HX33 := Aside0.mk hx33; have HB33 := Aside0.mk hb33; have HG33 := Aside0.mk hg33; have r033 := blk_cell hx33 0; have r133 := blk_cell hx33 1; have r233 := blk_cell hx33 2; have q033 := blk_frozen hx33 0; have q133 := blk_frozen hx33 1; have q233 := blk_frozen hx33 2; clear hx33 hb33 hg33))
        have hbz : Below w32.heap.size w32 (((w33.setCell ⟨g33, 0, none⟩ (.int .i64 (y1))).setCell ⟨g33, 1, none⟩ (.int .i64 (y2))).setCell ⟨g33, 2, none⟩ (.bool y3)) := ((HB33.out.setCell (by have := HG33.out; show w32.heap.size ≤ g33; omega) _).setCell (by have := HG33.out; show w32.heap.size ≤ g33; omega) _).setCell (by have := HG33.out; show w32.heap.size ≤ g33; omega) _
        have hy : (((w33.setCell ⟨g33, 0, none⟩ (.int .i64 (y1))).setCell ⟨g33, 1, none⟩ (.int .i64 (y2))).setCell ⟨g33, 2, none⟩ (.bool y3)).heap[g33]? = some (.cells #[.int .i64 (y1), .int .i64 (y2), .bool y3] 29 (0, 0)) := blk_put (cs := #[.int .i64 (y1), .int .i64 (y2), .bool false]) (blk_put (cs := #[.int .i64 (y1), .int .i64 0, .bool false]) (blk_put (cs := #[.int .i64 0, .int .i64 0, .bool false]) HX33.out 0 _ rfl) 1 _ rfl) 2 _ rfl
        clear r033 r133 r233 q033 q133 q233
        generalize (((w33.setCell ⟨g33, 0, none⟩ (.int .i64 (y1))).setCell ⟨g33, 1, none⟩ (.int .i64 (y2))).setCell ⟨g33, 2, none⟩ (.bool y3)) = wb33 at hbz hy ⊢
        have HRb33 := Aside0.mk (St.below (s := rank) HR32.out hbz)
        have HXb33 := Aside0.mk (St.below (s := blk) HX32.out hbz)
        have Bb33 := Aside0.mk (Below.trans B32.out (Below.mono hbz (Below.size B32.out)))
        have y0 := blk_cell hy 0
        clear hbz hy
        cases hyt : s.getD t none with
        | some e' =>
          have hq : yq = true := by
            have h1 := HY.out
            rw [HFT.out.2.1] at h1
            unfold atv at h1
            rw [if_pos (isv_of (by rw [HLN.out]; exact HFT.out.2.2.2.1)), Int.toNat_natCast, hyt] at h1
            exact (congrArg Prod.snd h1).symm
          subst hq
          clear hyt
          go_wp2
          go_ret
          exact ⟨rfl, Bb33.out⟩
        | none =>
          have hq : yq = false := by
            have h1 := HY.out
            rw [HFT.out.2.1] at h1
            unfold atv at h1
            rw [if_pos (isv_of (by rw [HLN.out]; exact HFT.out.2.2.2.1)), Int.toNat_natCast, hyt] at h1
            exact (congrArg Prod.snd h1).symm
          subst hq
          obtain ⟨⟨r, hr0, hA1⟩, hA2, hA3, hA4, hA5, hA6⟩ := moves_pure HG.out HFT.out.2.2.2.2 (show t < s.length from by rw [HLN.out]; exact HFT.out.2.2.2.1) HE.out hyt
          rw [← HFT.out.2.1] at hA1 hA3 hA4
          rw [← HFT.out.1] at hA2 hA5
          have M1 := Aside0.mk hA1
          have M2 := Aside0.mk hA2
          have M3 := Aside0.mk hA3
          have M4 := Aside0.mk hA4
          have M5 := Aside0.mk hA5
          have M6 := Aside0.mk hA6
          have hr1 : (r != 0) = true := bne_iff_ne.2 hr0
          obtain ⟨n1, hn1⟩ : ∃ n1, (allOf s).length = n1 := ⟨_, rfl⟩
          have HN1 := Aside0.mk hn1
          clear hA1 hA2 hA3 hA4 hA5 hA6 hr0 hn1 hyt
          go_upto_region 19 with (first | (go_at_call 12; (with_reducible refine (allC 4 HRb33.out (Below.size Bb33.out)).mono ?_); rintro e w40 ⟨va40, rfl, c40, h40, t40⟩; obtain ⟨A40, k40, rfl⟩ := Kd.R_slice h40; rw [HN1.out]; have HA40 := Aside0.mk (show (row 29 KE).M w40 w.heap.size (fun k => c40 k = 4) (allOf s) (.slice A40 ((allOf s)).length k40) from h40); have HR40 := Aside0.mk (t40.keep _ (rank) 0 _ _ (by decide) HRb33.out); have HX40 := Aside0.mk (t40.keep _ (blk) 2 _ _ (by decide) HXb33.out); have B40 := Aside0.mk (t40.far Bb33.out); clear h40 t40; have yx0 := blk_cell (blk_at HX40.out) 0; have yx1 := blk_cell (blk_at HX40.out) 1; have yx2 := blk_cell (blk_at HX40.out) 2) | (go_at_call 8; (with_reducible refine (setL too e1 e2 e3 (r) s M1.out HR40.out (Below.size B40.out)).mono ?_); rintro e w41 ⟨rfl, c41, h41, t41⟩; have HR41 := Aside0.mk (show (rank).M w41 w.heap.size (fun k => c41 k = 0) s v from h41); have HX41 := Aside0.mk (t41.keep _ (blk) 2 _ _ (by decide) HX40.out); have HA41 := Aside0.mk (t41.keep _ (row 29 KE) 4 _ _ (by decide) HA40.out); have B41 := Aside0.mk (t41.far B40.out); clear h41 t41; clear yx0 yx1 yx2) | (go_at_call 13; (with_reducible refine (clearL frm 0 (s.set f none) M2.out HR41.out (Below.size B41.out)).mono ?_); rintro e w42 ⟨rfl, c42, h42, t42⟩; have HR42 := Aside0.mk (show (rank).M w42 w.heap.size (fun k => c42 k = 0) (s.set f none) v from h42); have HX42 := Aside0.mk (t42.keep _ (blk) 2 _ _ (by decide) HX41.out); have HA42 := Aside0.mk (t42.keep _ (row 29 KE) 4 _ _ (by decide) HA41.out); have B42 := Aside0.mk (t42.far B41.out); clear h42 t42; have yx0 := blk_cell (blk_at HX42.out) 0; have yx1 := blk_cell (blk_at HX42.out) 1; have yx2 := blk_cell (blk_at HX42.out) 2) | (go_at_call 8; (with_reducible refine (setL too e1 e2 e3 (0) ((s.set f none).set t (some (e1, e2, e3))) M3.out HR42.out (Below.size B42.out)).mono ?_); rintro e w43 ⟨rfl, c43, h43, t43⟩; have HR43 := Aside0.mk (show (rank).M w43 w.heap.size (fun k => c43 k = 0) ((s.set f none).set t (some (e1, e2, e3))) v from h43); have HX43 := Aside0.mk (t43.keep _ (blk) 2 _ _ (by decide) HX42.out); have HA43 := Aside0.mk (t43.keep _ (row 29 KE) 4 _ _ (by decide) HA42.out); have B43 := Aside0.mk (t43.far B42.out); clear h43 t43; clear yx0 yx1 yx2) | (go_at_call 11; (with_reducible refine (atL too e1 e2 e3 true M4.out HR43.out).mono ?_); rintro e w44 ⟨rfl, hb44⟩; have HR44 := Aside0.mk (St.below (s := rank) HR43.out hb44); have HX44 := Aside0.mk (St.below (s := blk) HX43.out hb44); have HA44 := Aside0.mk (St.below (s := row 29 KE) HA43.out hb44); have B44 := Aside0.mk (Below.trans B43.out (Below.mono hb44 (Below.size B43.out))); clear hb44) | ((with_reducible refine gate_dst (N := 20) rfl ?_); refine box_event ?hg (N := 20) ?hd (cs := #[(.int .i64 0), (.int .i64 0), (.bool false)]) (t := 29) ?hr ?_; (case hd => rfl); (case hg => rfl); (case hr => first | (go_simp; done) | (go_simp; rfl)); intro g45 hg45 w45 hx45 hb45; have HX45 := Aside0.mk hx45; have HB45 := Aside0.mk hb45; have HG45 := Aside0.mk hg45; have r045 := blk_cell hx45 0; have r145 := blk_cell hx45 1; have r245 := blk_cell hx45 2; have q045 := blk_frozen hx45 0; have q145 := blk_frozen hx45 1; have q245 := blk_frozen hx45 2; clear hx45 hb45 hg45))
          have hbz : Below w44.heap.size w44 (((w45.setCell ⟨g45, 0, none⟩ (.int .i64 (e1))).setCell ⟨g45, 1, none⟩ (.int .i64 (e2))).setCell ⟨g45, 2, none⟩ (.bool e3)) := ((HB45.out.setCell (by have := HG45.out; show w44.heap.size ≤ g45; omega) _).setCell (by have := HG45.out; show w44.heap.size ≤ g45; omega) _).setCell (by have := HG45.out; show w44.heap.size ≤ g45; omega) _
          have hy : (((w45.setCell ⟨g45, 0, none⟩ (.int .i64 (e1))).setCell ⟨g45, 1, none⟩ (.int .i64 (e2))).setCell ⟨g45, 2, none⟩ (.bool e3)).heap[g45]? = some (.cells #[.int .i64 (e1), .int .i64 (e2), .bool e3] 29 (0, 0)) := blk_put (cs := #[.int .i64 (e1), .int .i64 (e2), .bool false]) (blk_put (cs := #[.int .i64 (e1), .int .i64 0, .bool false]) (blk_put (cs := #[.int .i64 0, .int .i64 0, .bool false]) HX45.out 0 _ rfl) 1 _ rfl) 2 _ rfl
          clear r045 r145 r245 q045 q145 q245
          generalize (((w45.setCell ⟨g45, 0, none⟩ (.int .i64 (e1))).setCell ⟨g45, 1, none⟩ (.int .i64 (e2))).setCell ⟨g45, 2, none⟩ (.bool e3)) = wb45 at hbz hy ⊢
          obtain ⟨cb45, hb45, tb45⟩ := blk_new1 (w0 := w) c43 6 (by have := HG45.out; omega) hy hbz (Below.size B44.out)
          have HYb45 := Aside0.mk (show (blk).M wb45 w.heap.size (fun k => cb45 k = 6) (.cells #[.int .i64 (e1), .int .i64 (e2), .bool e3] 29 (0, 0)) (.pointer (some ⟨g45, 0, none⟩)) from hb45)
          have HRb45 := Aside0.mk (tb45.keep _ (rank) 0 _ _ (by decide) HR44.out)
          have HXb45 := Aside0.mk (tb45.keep _ (blk) 2 _ _ (by decide) HX44.out)
          have HAb45 := Aside0.mk (tb45.keep _ (row 29 KE) 4 _ _ (by decide) HA44.out)
          have Bb45 := Aside0.mk (tb45.far B44.out)
          clear hbz hy hb45 tb45
          go_upto_region 20 with (first | (go_at_call 11; (with_reducible refine (atL frm 0 0 false false M5.out HRb45.out).mono ?_); rintro e w46 ⟨rfl, hb46⟩; have HR46 := Aside0.mk (St.below (s := rank) HRb45.out hb46); have HX46 := Aside0.mk (St.below (s := blk) HXb45.out hb46); have HA46 := Aside0.mk (St.below (s := row 29 KE) HAb45.out hb46); have HY46 := Aside0.mk (St.below (s := blk) HYb45.out hb46); have B46 := Aside0.mk (Below.trans Bb45.out (Below.mono hb46 (Below.size Bb45.out))); clear hb46) | ((with_reducible refine gate_dst (N := 22) rfl ?_); refine box_event ?hg (N := 22) ?hd (cs := #[(.int .i64 0), (.int .i64 0), (.bool false)]) (t := 29) ?hr ?_; (case hd => rfl); (case hg => rfl); (case hr => first | (go_simp; done) | (go_simp; rfl)); intro g47 hg47 w47 hx47 hb47; have HX47 := Aside0.mk hx47; have HB47 := Aside0.mk hb47; have HG47 := Aside0.mk hg47; have r047 := blk_cell hx47 0; have r147 := blk_cell hx47 1; have r247 := blk_cell hx47 2; have q047 := blk_frozen hx47 0; have q147 := blk_frozen hx47 1; have q247 := blk_frozen hx47 2; clear hx47 hb47 hg47))
          have hbz : Below w46.heap.size w46 (((w47.setCell ⟨g47, 0, none⟩ (.int .i64 (0))).setCell ⟨g47, 1, none⟩ (.int .i64 (0))).setCell ⟨g47, 2, none⟩ (.bool false)) := ((HB47.out.setCell (by have := HG47.out; show w46.heap.size ≤ g47; omega) _).setCell (by have := HG47.out; show w46.heap.size ≤ g47; omega) _).setCell (by have := HG47.out; show w46.heap.size ≤ g47; omega) _
          have hy : (((w47.setCell ⟨g47, 0, none⟩ (.int .i64 (0))).setCell ⟨g47, 1, none⟩ (.int .i64 (0))).setCell ⟨g47, 2, none⟩ (.bool false)).heap[g47]? = some (.cells #[.int .i64 (0), .int .i64 (0), .bool false] 29 (0, 0)) := blk_put (cs := #[.int .i64 (0), .int .i64 (0), .bool false]) (blk_put (cs := #[.int .i64 (0), .int .i64 0, .bool false]) (blk_put (cs := #[.int .i64 0, .int .i64 0, .bool false]) HX47.out 0 _ rfl) 1 _ rfl) 2 _ rfl
          clear r047 r147 r247 q047 q147 q247
          generalize (((w47.setCell ⟨g47, 0, none⟩ (.int .i64 (0))).setCell ⟨g47, 1, none⟩ (.int .i64 (0))).setCell ⟨g47, 2, none⟩ (.bool false)) = wb47 at hbz hy ⊢
          have HRb47 := Aside0.mk (St.below (s := rank) HR46.out hbz)
          have HXb47 := Aside0.mk (St.below (s := blk) HX46.out hbz)
          have HAb47 := Aside0.mk (St.below (s := row 29 KE) HA46.out hbz)
          have HYb47 := Aside0.mk (St.below (s := blk) HY46.out hbz)
          have Bb47 := Aside0.mk (Below.trans B46.out (Below.mono hbz (Below.size B46.out)))
          clear hbz hy
          have yx0 := blk_cell (blk_at HXb47.out) 0
          have yx1 := blk_cell (blk_at HXb47.out) 1
          have yx2 := blk_cell (blk_at HXb47.out) 2
          have yy0 := blk_cell (blk_at HYb47.out) 0
          have yy1 := blk_cell (blk_at HYb47.out) 1
          have yy2 := blk_cell (blk_at HYb47.out) 2
          go_wp2_with (first | (go_at_call 12; (with_reducible refine (allC 5 HRb47.out (Below.size Bb47.out)).mono ?_); rintro e w48 ⟨va48, rfl, c48, h48, t48⟩; obtain ⟨A48, k48, rfl⟩ := Kd.R_slice h48; rw [M6.out, HN1.out]; have HB48 := Aside0.mk (show (row 29 KE).M w48 w.heap.size (fun k => c48 k = 5) (allOf ((s.set f none).set t (some (e1, e2, e3)))) (.slice A48 ((allOf ((s.set f none).set t (some (e1, e2, e3))))).length k48) from h48); have HR48 := Aside0.mk (t48.keep _ (rank) 0 _ _ (by decide) HRb47.out); have HX48 := Aside0.mk (t48.keep _ (blk) 2 _ _ (by decide) HXb47.out); have HA48 := Aside0.mk (t48.keep _ (row 29 KE) 4 _ _ (by decide) HAb47.out); have HY48 := Aside0.mk (t48.keep _ (blk) 6 _ _ (by decide) HYb47.out); have B48 := Aside0.mk (t48.far Bb47.out); clear h48 t48))
          go_ret
          exact ⟨rfl, B48.out⟩
set_option maxHeartbeats 4000000 in
set_option maxRecDepth 100000 in
theorem moves_walk (cpus : Int) (_ : (Lit.int .i64 cpus).wf = true) (A : Option Addr) (cap : Nat) (l : List (Int × Int × Int × Int × Bool)) {good : (Int × Int × Int × Int × Bool) → Prop} {w : World} (hr : (Kd.pair (Kd.int .i64) (Kd.pair (Kd.int .i64) (Kd.pair (Kd.int .i64) (Kd.pair (Kd.int .i64) Kd.bool)))).C w A l.length l) (hc : l.length ≤ cap) (hg : ∀ a ∈ l, good a) (frm : Int) (_ : (Lit.int .i64 frm).wf = true) (too : Int) (_ : (Lit.int .i64 too).wf = true) (_ : World) :
    Calls Try.prog 5 #[.int .i64 cpus, .slice A l.length cap, .int .i64 frm, .int .i64 too] w fun e w' => e = .returned (.bool true) ∧ Below w.heap.size w w' := by
  by_cases q0 : cpus < 1
  · have p0 : decide (cpus < 1) = true := decide_eq_true q0
    clear q0
    go_enter Try.func5, Try.ntmps5
    go_wp2_with (first | (go_at_call 6; (with_reducible refine (awake_calls _).mono ?_); rintro e w1 ⟨rfl, hb1⟩; have B1 := Aside0.mk hb1; clear hb1))
    go_ret
    exact ⟨rfl, B1.out⟩
  by_cases q1 : 64 < cpus
  · have p0 : decide (cpus < 1) = false := decide_eq_false q0
    have p1 : decide (64 < cpus) = true := decide_eq_true q1
    clear q0 q1
    go_enter Try.func5, Try.ntmps5
    go_wp2_with (first | (go_at_call 6; (with_reducible refine (awake_calls _).mono ?_); rintro e w1 ⟨rfl, hb1⟩; have B1 := Aside0.mk hb1; clear hb1))
    go_ret
    exact ⟨rfl, B1.out⟩
  by_cases q2 : 60 < (l.length : Int)
  · have p0 : decide (cpus < 1) = false := decide_eq_false q0
    have p1 : decide (64 < cpus) = false := decide_eq_false q1
    have p2 : decide (60 < (l.length : Int)) = true := decide_eq_true q2
    have p2n : decide (60 < l.length) = true := decide_eq_true (by omega)
    clear q0 q1 q2
    go_enter Try.func5, Try.ntmps5
    go_wp2_with (first | (go_at_call 6; (with_reducible refine (awake_calls _).mono ?_); rintro e w1 ⟨rfl, hb1⟩; have B1 := Aside0.mk hb1; clear hb1))
    go_ret
    exact ⟨rfl, B1.out⟩
  by_cases q3 : frm < 0
  · have p0 : decide (cpus < 1) = false := decide_eq_false q0
    have p1 : decide (64 < cpus) = false := decide_eq_false q1
    have p2 : decide (60 < (l.length : Int)) = false := decide_eq_false q2
    have p3 : decide (frm < 0) = true := decide_eq_true q3
    have p2n : decide (60 < l.length) = false := decide_eq_false (by omega)
    clear q0 q1 q2 q3
    go_enter Try.func5, Try.ntmps5
    go_wp2_with (first | (go_at_call 6; (with_reducible refine (awake_calls _).mono ?_); rintro e w1 ⟨rfl, hb1⟩; have B1 := Aside0.mk hb1; clear hb1))
    go_ret
    exact ⟨rfl, B1.out⟩
  by_cases q4 : too < 0
  · have p0 : decide (cpus < 1) = false := decide_eq_false q0
    have p1 : decide (64 < cpus) = false := decide_eq_false q1
    have p2 : decide (60 < (l.length : Int)) = false := decide_eq_false q2
    have p3 : decide (frm < 0) = false := decide_eq_false q3
    have p4 : decide (too < 0) = true := decide_eq_true q4
    have p2n : decide (60 < l.length) = false := decide_eq_false (by omega)
    clear q0 q1 q2 q3 q4
    go_enter Try.func5, Try.ntmps5
    go_wp2_with (first | (go_at_call 6; (with_reducible refine (awake_calls _).mono ?_); rintro e w1 ⟨rfl, hb1⟩; have B1 := Aside0.mk hb1; clear hb1))
    go_ret
    exact ⟨rfl, B1.out⟩
  by_cases q5 : cpus ≤ frm
  · have p0 : decide (cpus < 1) = false := decide_eq_false q0
    have p1 : decide (64 < cpus) = false := decide_eq_false q1
    have p2 : decide (60 < (l.length : Int)) = false := decide_eq_false q2
    have p3 : decide (frm < 0) = false := decide_eq_false q3
    have p4 : decide (too < 0) = false := decide_eq_false q4
    have p5 : decide (cpus ≤ frm) = true := decide_eq_true q5
    have p2n : decide (60 < l.length) = false := decide_eq_false (by omega)
    clear q0 q1 q2 q3 q4 q5
    go_enter Try.func5, Try.ntmps5
    go_wp2_with (first | (go_at_call 6; (with_reducible refine (awake_calls _).mono ?_); rintro e w1 ⟨rfl, hb1⟩; have B1 := Aside0.mk hb1; clear hb1))
    go_ret
    exact ⟨rfl, B1.out⟩
  by_cases q6 : cpus ≤ too
  · have p0 : decide (cpus < 1) = false := decide_eq_false q0
    have p1 : decide (64 < cpus) = false := decide_eq_false q1
    have p2 : decide (60 < (l.length : Int)) = false := decide_eq_false q2
    have p3 : decide (frm < 0) = false := decide_eq_false q3
    have p4 : decide (too < 0) = false := decide_eq_false q4
    have p5 : decide (cpus ≤ frm) = false := decide_eq_false q5
    have p6 : decide (cpus ≤ too) = true := decide_eq_true q6
    have p2n : decide (60 < l.length) = false := decide_eq_false (by omega)
    clear q0 q1 q2 q3 q4 q5 q6
    go_enter Try.func5, Try.ntmps5
    go_wp2_with (first | (go_at_call 6; (with_reducible refine (awake_calls _).mono ?_); rintro e w1 ⟨rfl, hb1⟩; have B1 := Aside0.mk hb1; clear hb1))
    go_ret
    exact ⟨rfl, B1.out⟩
  by_cases q7 : frm = too
  · have p0 : decide (cpus < 1) = false := decide_eq_false q0
    have p1 : decide (64 < cpus) = false := decide_eq_false q1
    have p2 : decide (60 < (l.length : Int)) = false := decide_eq_false q2
    have p3 : decide (frm < 0) = false := decide_eq_false q3
    have p4 : decide (too < 0) = false := decide_eq_false q4
    have p5 : decide (cpus ≤ frm) = false := decide_eq_false q5
    have p6 : decide (cpus ≤ too) = false := decide_eq_false q6
    have p7 : (frm == too) = true := beq_iff_eq.2 q7
    have p2n : decide (60 < l.length) = false := decide_eq_false (by omega)
    clear q0 q1 q2 q3 q4 q5 q6 q7
    go_enter Try.func5, Try.ntmps5
    go_wp2_with (first | (go_at_call 6; (with_reducible refine (awake_calls _).mono ?_); rintro e w1 ⟨rfl, hb1⟩; have B1 := Aside0.mk hb1; clear hb1))
    go_ret
    exact ⟨rfl, B1.out⟩
  exact moves_main cpus A cap l hr frm too cpus.toNat frm.toNat too.toNat (by omega) (by omega) (by omega) q0 q1 q2 q3 q4 q5 q6 q7
end Go.Proofs.Ytjeflmdfnfgacaa.Rank
