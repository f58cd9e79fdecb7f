/- Alarm: the comparison of two rings, the sort of a row of them (no law is stated here; each says its conditions). -/
import Derived.Test.YtdmoembbgcoeaaaAlS
import Derived.Test.YtdmoembbgcoeaaaQt
import Derived.Test.YtdmoembbgcoeaaaQx4
import Derived.Test.YtdmoembbgcoeaaaQx6
import Derived.Test.YtdmoembbgcoeaaaQx8
namespace Go.Proofs.Ytdmoembbgcoeaaa.Alarm
open Go.RowKit Go.Proofs.YtdmoembbgcoeaaaW.PrintWords Go.Proofs.YtdmoembbgcoeaaaW.PrintLast Go.Proofs.YtdmoembbgcoeaaaW.PrintMore Go.Proofs.Ytdmoembbgcoeaaa.St Go.Proofs.Ytdmoembbgcoeaaa.Q Go.Proofs.Ytdmoembbgcoeaaa.Heap
open Go.Sort (HoldsK putRowK grow flatK)
set_option linter.unusedVariables false
set_option linter.unusedSimpArgs false
attribute [local go_sem] max2_int min2_int max_two min_two max_three min_three max_four min_four

def cmpi (a b : Int) : Int := if a < b then -1 else if a > b then 1 else 0
theorem cmp64_f (a b : Int) : cmp_Compare_int64.f a b = some (cmpi a b) := by
  unfold cmp_Compare_int64.f cmp_isNaN_int64.f cmpi
  simp
  split <;> simp_all
  split <;> simp_all
theorem cmpi_f (a b : Int) : cmp_Compare_int.f a b = some (cmpi a b) := by
  unfold cmp_Compare_int.f cmp_isNaN_int.f cmpi
  simp
  split <;> simp_all
  split <;> simp_all
def or3 (a b c : Int) : Int := if a = 0 then (if b = 0 then c else b) else a
/-- The order of rings: by tick, by CPU, by id. -/
def cfR (x y : Int × Int × Int) : Int := or3 (cmpi x.2.2 y.2.2) (cmpi x.1 y.1) (cmpi x.2.1 y.2.1)
def bef (x y : Int × Int × Int) : Prop := x.2.2 < y.2.2 ∨ (x.2.2 = y.2.2 ∧ (x.1 < y.1 ∨ (x.1 = y.1 ∧ x.2.1 < y.2.1)))
theorem cfR_neg (x y : Int × Int × Int) : cfR x y < 0 ↔ bef x y := by
  unfold cfR bef or3 cmpi
  repeat' split
  all_goals omega
theorem lt_bef (x y : Int × Int × Int) : ltOf cfR x y = true ↔ bef x y := by
  rw [← cfR_neg]
  unfold ltOf
  simp
theorem lt_nbef (x y : Int × Int × Int) : ltOf cfR x y = false ↔ ¬ bef x y := by
  rw [← lt_bef]
  simp
theorem swoR : Go.Sort.SWO (ltOf cfR) where
  irrefl x := by rw [lt_nbef]; unfold bef; omega
  trans x y z h1 h2 := by rw [lt_bef] at *; unfold bef at *; omega
  ntrans x y z h1 h2 := by rw [lt_nbef] at *; unfold bef at *; omega
theorem totR (x y : Int × Int × Int) (h1 : ltOf cfR x y = false) (h2 : ltOf cfR y x = false) : x = y := by
  rw [lt_nbef] at h1 h2
  unfold bef at h1 h2
  obtain ⟨x0, x1, x2⟩ := x
  obtain ⟨y0, y1, y2⟩ := y
  simp only [Prod.mk.injEq]
  simp only at h1 h2
  omega
theorem or_f (a b c : Int) : cmp_Or_int.f 5 [a, b, c] = some (or3 a b c) := by
  unfold cmp_Or_int.f
  simp [cmp_Or_int.l0, or3, rd]
  by_cases h1 : a = 0 <;> by_cases h2 : b = 0 <;> by_cases h3 : c = 0 <;> simp [h1, h2, h3, wrap64]
/-- Draws, and blocks behind. -/
def Gr (W w : World) : Prop := ∃ (q : Nat) (os : Array Obj), w = grow (W.drewN q) os
theorem Gr.refl (W : World) : Gr W W := ⟨0, #[], by rw [Go.Sort.grow_empty]; rfl⟩
theorem Gr.drewN {W w : World} (h : Gr W w) (n : Nat) : Gr W (w.drewN n) := by
  obtain ⟨q, os, rfl⟩ := h
  exact ⟨q + n, os, by simp [World.drewN, grow, Nat.add_assoc]⟩
theorem Gr.drew {W w : World} (h : Gr W w) : Gr W w.drew := Gr.drewN h 1
theorem Gr.alloc {W w : World} (h : Gr W w) (o : Obj) : Gr W (w.alloc o) := by
  obtain ⟨q, os, rfl⟩ := h
  exact ⟨q, os ++ #[o], by rw [Go.Sort.alloc_eq_grow, Go.Sort.grow_grow]⟩
theorem Gr.trans {W w w' : World} (h : Gr W w) (k : Gr w w') : Gr W w' := by
  obtain ⟨q, os, rfl⟩ := k
  obtain ⟨q0, os0, e⟩ := Gr.drewN h q
  exact ⟨q0, os0 ++ os, by rw [e, Go.Sort.grow_grow]⟩
theorem Gr.heap {W w : World} (h : Gr W w) {k : Nat} (hk : k < W.heap.size) : w.heap[k]? = W.heap[k]? := by
  obtain ⟨q, os, rfl⟩ := h
  show (W.heap ++ os)[k]? = _
  rw [Array.getElem?_append_left hk]
theorem Gr.size {W w : World} (h : Gr W w) : W.heap.size ≤ w.heap.size := by
  obtain ⟨q, os, rfl⟩ := h
  show W.heap.size ≤ (W.heap ++ os).size
  simp
theorem Gr.drawn {W w w' : World} (h : Gr W w) (k : Drawn0 w w') : Gr W w' := by
  obtain ⟨⟨n, rfl⟩⟩ := k
  exact h.drewN n
section
variable {P : Program} {ops : Array Oper} {o : Oper} {a : Act} {Q : Exit → Act → World → Prop} {Kc : Act → World → Prop}
theorem val_step {W w1 : World} {v : Value} {N : Tmp} (hw : Region.wanted o (yielded ops a.tmps) = true) (hN : o.dst = some N) (hrun : (execOp a.eval o).run P W = .ok (.value v) w1) (h : Kc (a.put (some N) v) w1) : if Region.wanted o (yielded ops a.tmps) = true then Oper.wp P o a W Kc Q else Kc (a.put none undef) W := by
  rw [if_pos hw]
  unfold Oper.wp
  rw [hrun]
  show Kc (a.put o.dst v) w1
  rw [hN]
  exact h
end
set_option maxHeartbeats 4000000 in
set_option maxRecDepth 100000 in
theorem less_calls (x y : Int × Int × Int) (W : World) : Calls Try.prog 28 #[.agg (encR x).toArray, .agg (encR y).toArray] W fun e w' => e = .returned (.int .i64 (cfR x y)) ∧ Gr W w' := by
  obtain ⟨a0, a1, a2⟩ := x
  obtain ⟨b0, b1, b2⟩ := y
  show Calls Try.prog 28 #[.agg #[.int .i64 a0, .int .i64 a1, .int .i64 a2], .agg #[.int .i64 b0, .int .i64 b1, .int .i64 b2]] W fun e w' => e = .returned (.int .i64 (or3 (cmpi a2 b2) (cmpi a0 b0) (cmpi a1 b1))) ∧ Gr W w'
  have hW : ((W.alloc (.cells #[.int .i64 a0, .int .i64 a1, .int .i64 a2] 34)).alloc (.cells #[.int .i64 b0, .int .i64 b1, .int .i64 b2] 34)) = grow W #[(.cells #[.int .i64 a0, .int .i64 a1, .int .i64 a2] 34), (.cells #[.int .i64 b0, .int .i64 b1, .int .i64 b2] 34)] := by rw [Go.Sort.alloc_eq_grow, Go.Sort.alloc_eq_grow, Go.Sort.grow_grow]; rfl
  have h1 : ((W.alloc (.cells #[.int .i64 a0, .int .i64 a1, .int .i64 a2] 34)).alloc (.cells #[.int .i64 b0, .int .i64 b1, .int .i64 b2] 34)).heap[W.heap.size]? = some (.cells #[.int .i64 a0, .int .i64 a1, .int .i64 a2] 34 (0, 0)) := by
    rw [hW]
    show (W.heap ++ #[_, _])[W.heap.size]? = _
    rw [Array.getElem?_append_right (Nat.le_refl _), Nat.sub_self]
    rfl
  have h2 : ((W.alloc (.cells #[.int .i64 a0, .int .i64 a1, .int .i64 a2] 34)).alloc (.cells #[.int .i64 b0, .int .i64 b1, .int .i64 b2] 34)).heap[W.heap.size + 1]? = some (.cells #[.int .i64 b0, .int .i64 b1, .int .i64 b2] 34 (0, 0)) := by
    rw [hW]
    show (W.heap ++ #[_, _])[W.heap.size + 1]? = _
    rw [Array.getElem?_append_right (by omega), show W.heap.size + 1 - W.heap.size = 1 by omega]
    rfl
  have HCE := Aside0.mk (show ∀ w', Gr ((W.alloc (.cells #[.int .i64 a0, .int .i64 a1, .int .i64 a2] 34)).alloc (.cells #[.int .i64 b0, .int .i64 b1, .int .i64 b2] 34)) w' → w'.cell? ⟨W.heap.size, 0, none⟩ = some (.int .i64 a0) ∧ w'.cell? ⟨W.heap.size, 1, none⟩ = some (.int .i64 a1) ∧ w'.cell? ⟨W.heap.size, 2, none⟩ = some (.int .i64 a2) ∧ w'.cell? ⟨W.heap.size + 1, 0, none⟩ = some (.int .i64 b0) ∧ w'.cell? ⟨W.heap.size + 1, 1, none⟩ = some (.int .i64 b1) ∧ w'.cell? ⟨W.heap.size + 1, 2, none⟩ = some (.int .i64 b2) from fun w' hg => by
    have hs : ((W.alloc (.cells #[.int .i64 a0, .int .i64 a1, .int .i64 a2] 34)).alloc (.cells #[.int .i64 b0, .int .i64 b1, .int .i64 b2] 34)).heap.size = W.heap.size + 2 := by
      rw [hW]
      show (W.heap ++ #[_, _]).size = _
      rw [Array.size_append]
      rfl
    have k1 := (hg.heap (k := W.heap.size) (by omega)).trans h1
    have k2 := (hg.heap (k := W.heap.size + 1) (by omega)).trans h2
    exact ⟨blk_cell k1 0, blk_cell k1 1, blk_cell k1 2, blk_cell k2 0, blk_cell k2 1, blk_cell k2 2⟩)
  clear h1 h2 hW
  go_enter Try.func28, Try.ntmps28
  go_upto_region 1 with (fail)
  obtain ⟨w3, hw3⟩ : ∃ w3 : World, ((W.alloc (.cells #[.int .i64 a0, .int .i64 a1, .int .i64 a2] 34)).alloc (.cells #[.int .i64 b0, .int .i64 b1, .int .i64 b2] 34)).drew = w3 := ⟨_, rfl⟩
  have G3 := Aside0.mk (show Gr ((W.alloc (.cells #[.int .i64 a0, .int .i64 a1, .int .i64 a2] 34)).alloc (.cells #[.int .i64 b0, .int .i64 b1, .int .i64 b2] 34)) w3 from by rw [← hw3]; exact (Gr.refl _).drew)
  refine start_ (n := 18) (S := fun w' => w'.cell? ⟨W.heap.size, 0, none⟩ = some (.int .i64 a0) ∧ w'.cell? ⟨W.heap.size, 1, none⟩ = some (.int .i64 a1) ∧ w'.cell? ⟨W.heap.size, 2, none⟩ = some (.int .i64 a2) ∧ w'.cell? ⟨W.heap.size + 1, 0, none⟩ = some (.int .i64 b0) ∧ w'.cell? ⟨W.heap.size + 1, 1, none⟩ = some (.int .i64 b1) ∧ w'.cell? ⟨W.heap.size + 1, 2, none⟩ = some (.int .i64 b2)) (ds := []) #[false, false, false, false, false, false, false, false, false, false, false, false, false, false, false, false, false, false] (by kernel_rfl) rfl rfl (by rw [hw3]; exact HCE.out _ G3.out) (fun hHeld => ?_)
  rw [hw3] at hHeld ⊢
  refine pure_ (i := 0) (N := some 5) (v := ?_) (a' := ?_) #[true, false, false, false, false, false, false, false, false, false, false, false, false, false, false, false, false, false] rfl rfl (by kernel_rfl) (fun _ _ _ h => h) (Or.inl ⟨by rfl, ?_⟩) ?_ ?_
  rotate_left
  · intro w'
    go_simp
    with_reducible rfl
  rotate_left
  · simp only [Act.put, List.setIfInBounds_toArray, List.set_cons_zero, List.set_cons_succ, i64_w, i32_w]
    rfl
  refine take_ (i := 1) (N := some 6) (v := ?_) (a' := ?_) #[true, true, false, false, false, false, false, false, false, false, false, false, false, false, false, false, false, false] rfl rfl (by kernel_rfl) (fun _ _ _ h => h) (Or.inl ⟨by rfl, ?_⟩) hHeld ?_ ?_
  rotate_left
  · intro w' hS_
    obtain ⟨s0_, s1_, s2_, s3_, s4_, s5_⟩ := hS_
    go_simp
    with_reducible rfl
  rotate_left
  · simp only [Act.put, List.setIfInBounds_toArray, List.set_cons_zero, List.set_cons_succ, i64_w, i32_w]
    rfl
  refine pure_ (i := 2) (N := some 7) (v := ?_) (a' := ?_) #[true, true, true, false, false, false, false, false, false, false, false, false, false, false, false, false, false, false] rfl rfl (by kernel_rfl) (fun _ _ _ h => h) (Or.inl ⟨by rfl, ?_⟩) ?_ ?_
  rotate_left
  · intro w'
    go_simp
    with_reducible rfl
  rotate_left
  · simp only [Act.put, List.setIfInBounds_toArray, List.set_cons_zero, List.set_cons_succ, i64_w, i32_w]
    rfl
  refine take_ (i := 3) (N := some 8) (v := ?_) (a' := ?_) #[true, true, true, true, false, false, false, false, false, false, false, false, false, false, false, false, false, false] rfl rfl (by kernel_rfl) (fun _ _ _ h => h) (Or.inl ⟨by rfl, ?_⟩) hHeld ?_ ?_
  rotate_left
  · intro w' hS_
    obtain ⟨s0_, s1_, s2_, s3_, s4_, s5_⟩ := hS_
    go_simp
    with_reducible rfl
  rotate_left
  · simp only [Act.put, List.setIfInBounds_toArray, List.set_cons_zero, List.set_cons_succ, i64_w, i32_w]
    rfl
  refine pure_ (i := 5) (N := some 10) (v := ?_) (a' := ?_) #[true, true, true, true, false, true, false, false, false, false, false, false, false, false, false, false, false, false] rfl rfl (by kernel_rfl) (fun _ _ _ h => h) (Or.inl ⟨by rfl, ?_⟩) ?_ ?_
  rotate_left
  · intro w'
    go_simp
    with_reducible rfl
  rotate_left
  · simp only [Act.put, List.setIfInBounds_toArray, List.set_cons_zero, List.set_cons_succ, i64_w, i32_w]
    rfl
  refine take_ (i := 6) (N := some 11) (v := ?_) (a' := ?_) #[true, true, true, true, false, true, true, false, false, false, false, false, false, false, false, false, false, false] rfl rfl (by kernel_rfl) (fun _ _ _ h => h) (Or.inl ⟨by rfl, ?_⟩) hHeld ?_ ?_
  rotate_left
  · intro w' hS_
    obtain ⟨s0_, s1_, s2_, s3_, s4_, s5_⟩ := hS_
    go_simp
    with_reducible rfl
  rotate_left
  · simp only [Act.put, List.setIfInBounds_toArray, List.set_cons_zero, List.set_cons_succ, i64_w, i32_w]
    rfl
  refine pure_ (i := 7) (N := some 12) (v := ?_) (a' := ?_) #[true, true, true, true, false, true, true, true, false, false, false, false, false, false, false, false, false, false] rfl rfl (by kernel_rfl) (fun _ _ _ h => h) (Or.inl ⟨by rfl, ?_⟩) ?_ ?_
  rotate_left
  · intro w'
    go_simp
    with_reducible rfl
  rotate_left
  · simp only [Act.put, List.setIfInBounds_toArray, List.set_cons_zero, List.set_cons_succ, i64_w, i32_w]
    rfl
  refine take_ (i := 8) (N := some 13) (v := ?_) (a' := ?_) #[true, true, true, true, false, true, true, true, true, false, false, false, false, false, false, false, false, false] rfl rfl (by kernel_rfl) (fun _ _ _ h => h) (Or.inl ⟨by rfl, ?_⟩) hHeld ?_ ?_
  rotate_left
  · intro w' hS_
    obtain ⟨s0_, s1_, s2_, s3_, s4_, s5_⟩ := hS_
    go_simp
    with_reducible rfl
  rotate_left
  · simp only [Act.put, List.setIfInBounds_toArray, List.set_cons_zero, List.set_cons_succ, i64_w, i32_w]
    rfl
  refine pure_ (i := 10) (N := some 15) (v := ?_) (a' := ?_) #[true, true, true, true, false, true, true, true, true, false, true, false, false, false, false, false, false, false] rfl rfl (by kernel_rfl) (fun _ _ _ h => h) (Or.inl ⟨by rfl, ?_⟩) ?_ ?_
  rotate_left
  · intro w'
    go_simp
    with_reducible rfl
  rotate_left
  · simp only [Act.put, List.setIfInBounds_toArray, List.set_cons_zero, List.set_cons_succ, i64_w, i32_w]
    rfl
  refine take_ (i := 11) (N := some 16) (v := ?_) (a' := ?_) #[true, true, true, true, false, true, true, true, true, false, true, true, false, false, false, false, false, false] rfl rfl (by kernel_rfl) (fun _ _ _ h => h) (Or.inl ⟨by rfl, ?_⟩) hHeld ?_ ?_
  rotate_left
  · intro w' hS_
    obtain ⟨s0_, s1_, s2_, s3_, s4_, s5_⟩ := hS_
    go_simp
    with_reducible rfl
  rotate_left
  · simp only [Act.put, List.setIfInBounds_toArray, List.set_cons_zero, List.set_cons_succ, i64_w, i32_w]
    rfl
  refine pure_ (i := 12) (N := some 17) (v := ?_) (a' := ?_) #[true, true, true, true, false, true, true, true, true, false, true, true, true, false, false, false, false, false] rfl rfl (by kernel_rfl) (fun _ _ _ h => h) (Or.inl ⟨by rfl, ?_⟩) ?_ ?_
  rotate_left
  · intro w'
    go_simp
    with_reducible rfl
  rotate_left
  · simp only [Act.put, List.setIfInBounds_toArray, List.set_cons_zero, List.set_cons_succ, i64_w, i32_w]
    rfl
  refine take_ (i := 13) (N := some 18) (v := ?_) (a' := ?_) #[true, true, true, true, false, true, true, true, true, false, true, true, true, true, false, false, false, false] rfl rfl (by kernel_rfl) (fun _ _ _ h => h) (Or.inl ⟨by rfl, ?_⟩) hHeld ?_ ?_
  rotate_left
  · intro w' hS_
    obtain ⟨s0_, s1_, s2_, s3_, s4_, s5_⟩ := hS_
    go_simp
    with_reducible rfl
  rotate_left
  · simp only [Act.put, List.setIfInBounds_toArray, List.set_cons_zero, List.set_cons_succ, i64_w, i32_w]
    rfl
  refine one_ (i := 4) (N := some 9) #[true, true, true, true, true, true, true, true, true, false, true, true, true, true, false, false, false, false] rfl rfl (by kernel_rfl) (by decide) (fun K hK => ?_)
  refine goes_ Try.func30 (by kernel_rfl) rfl #[.int .i64 a2, .int .i64 b2] ?hw rfl rfl ?hx ?_
  (case hw => rfl)
  (case hx => (try simp only [List.map_toArray, List.map_cons, List.map_nil]); first | done | rfl)
  refine (cmp_Compare_int64.calls a2 b2 _ _ (cmp64_f a2 b2)).mono ?_
  rintro e wpx4 ⟨rfl, hdpx4⟩
  have Gpx4 := Aside0.mk (Gr.drawn G3.out hdpx4)
  clear hdpx4
  refine ⟨_, rfl, ?_⟩
  have hHeld := HCE.out _ Gpx4.out
  refine hK.out _ _ hHeld (fun hHeld => ?_)
  clear hK K
  refine norm_ (a' := ?_) ?_ ?_
  rotate_left
  · show Act.put _ (some 9) _ = _
    simp only [Act.put, List.setIfInBounds_toArray, List.set_cons_zero, List.set_cons_succ, i64_w, i32_w]
    rfl
  refine one_ (i := 9) (N := some 14) #[true, true, true, true, true, true, true, true, true, true, true, true, true, true, false, false, false, false] rfl rfl (by kernel_rfl) (by decide) (fun K hK => ?_)
  refine goes_ Try.func31 (by kernel_rfl) rfl #[.int .i64 a0, .int .i64 b0] ?hw rfl rfl ?hx ?_
  (case hw => rfl)
  (case hx => (try simp only [List.map_toArray, List.map_cons, List.map_nil]); first | done | rfl)
  refine (cmp_Compare_int.calls a0 b0 _ _ (cmpi_f a0 b0)).mono ?_
  rintro e wqx4x9 ⟨rfl, hdqx4x9⟩
  have Gqx4x9 := Aside0.mk (Gr.drawn Gpx4.out hdqx4x9)
  clear hdqx4x9
  refine ⟨_, rfl, ?_⟩
  have hHeld := HCE.out _ Gqx4x9.out
  refine hK.out _ _ hHeld (fun hHeld => ?_)
  clear hK K
  refine norm_ (a' := ?_) ?_ ?_
  rotate_left
  · show Act.put _ (some 14) _ = _
    simp only [Act.put, List.setIfInBounds_toArray, List.set_cons_zero, List.set_cons_succ, i64_w, i32_w]
    rfl
  refine one_ (i := 14) (N := some 19) #[true, true, true, true, true, true, true, true, true, true, true, true, true, true, true, false, false, false] rfl rfl (by kernel_rfl) (by decide) (fun K hK => ?_)
  refine goes_ Try.func31 (by kernel_rfl) rfl #[.int .i64 a1, .int .i64 b1] ?hw rfl rfl ?hx ?_
  (case hw => rfl)
  (case hx => (try simp only [List.map_toArray, List.map_cons, List.map_nil]); first | done | rfl)
  refine (cmp_Compare_int.calls a1 b1 _ _ (cmpi_f a1 b1)).mono ?_
  rintro e wrx4x9x14 ⟨rfl, hdrx4x9x14⟩
  have Grx4x9x14 := Aside0.mk (Gr.drawn Gqx4x9.out hdrx4x9x14)
  clear hdrx4x9x14
  refine ⟨_, rfl, ?_⟩
  have hHeld := HCE.out _ Grx4x9x14.out
  refine hK.out _ _ hHeld (fun hHeld => ?_)
  clear hK K
  refine norm_ (a' := ?_) ?_ ?_
  rotate_left
  · show Act.put _ (some 19) _ = _
    simp only [Act.put, List.setIfInBounds_toArray, List.set_cons_zero, List.set_cons_succ, i64_w, i32_w]
    rfl
  refine one_ (i := 15) (N := some 20) #[true, true, true, true, true, true, true, true, true, true, true, true, true, true, true, true, false, false] rfl rfl (by kernel_rfl) (by decide) (fun K hK => ?_)
  refine val_step (N := 20) (v := .slice (some ⟨wrx4x9x14.heap.size, 0, none⟩) 3 3) (w1 := wrx4x9x14.alloc (.cells (nums .i64 [cmpi a2 b2, cmpi a0 b0, cmpi a1 b1]).toArray 3)) ?hw rfl ?hr ?_
  (case hw => rfl)
  (case hr => first | (go_simp; done) | (go_simp; rfl))
  have hLsx4x9x14x15 := lit_R .i64 wrx4x9x14 3 (Nat.le_refl _) [cmpi a2 b2, cmpi a0 b0, cmpi a1 b1] (by simp)
  have Csx4x9x14x15 := Aside0.mk (Kd.R_reads' hLsx4x9x14x15)
  have Gsx4x9x14x15 := Aside0.mk (Gr.alloc Grx4x9x14.out (.cells (nums .i64 [cmpi a2 b2, cmpi a0 b0, cmpi a1 b1]).toArray 3))
  clear hLsx4x9x14x15
  generalize wrx4x9x14.alloc (.cells (nums .i64 [cmpi a2 b2, cmpi a0 b0, cmpi a1 b1]).toArray 3) = wsx4x9x14x15 at Csx4x9x14x15 Gsx4x9x14x15 ⊢
  have hHeld := HCE.out _ Gsx4x9x14x15.out
  refine hK.out _ _ hHeld (fun hHeld => ?_)
  clear hK K
  refine norm_ (a' := ?_) ?_ ?_
  rotate_left
  · show Act.put _ (some 20) _ = _
    simp only [Act.put, List.setIfInBounds_toArray, List.set_cons_zero, List.set_cons_succ, i64_w, i32_w]
    rfl
  refine one_ (i := 16) (N := some 21) #[true, true, true, true, true, true, true, true, true, true, true, true, true, true, true, true, true, false] rfl rfl (by kernel_rfl) (by decide) (fun K hK => ?_)
  refine goes_ Try.func29 (by kernel_rfl) rfl #[.slice (some ⟨wrx4x9x14.heap.size, 0, none⟩) 3 3] ?hw rfl rfl ?hx ?_
  (case hw => rfl)
  (case hx => (try simp only [List.map_toArray, List.map_cons, List.map_nil]); first | done | rfl)
  refine (cmp_Or_int.calls 5 (some ⟨wrx4x9x14.heap.size, 0, none⟩) 3 [cmpi a2 b2, cmpi a0 b0, cmpi a1 b1] _ _ Csx4x9x14x15.out.2.2 Csx4x9x14x15.out.2.1 (or_f _ _ _)).mono ?_
  rintro e wtx4x9x14x15x16 ⟨rfl, hdtx4x9x14x15x16⟩
  have Gtx4x9x14x15x16 := Aside0.mk (Gr.drawn Gsx4x9x14x15.out hdtx4x9x14x15x16)
  clear hdtx4x9x14x15x16
  refine ⟨_, rfl, ?_⟩
  have hHeld := HCE.out _ Gtx4x9x14x15x16.out
  refine hK.out _ _ hHeld (fun hHeld => ?_)
  clear hK K
  refine norm_ (a' := ?_) ?_ ?_
  rotate_left
  · show Act.put _ (some 21) _ = _
    simp only [Act.put, List.setIfInBounds_toArray, List.set_cons_zero, List.set_cons_succ, i64_w, i32_w]
    rfl
  refine pure_ (i := 17) (N := some 4) (v := ?_) (a' := ?_) #[true, true, true, true, true, true, true, true, true, true, true, true, true, true, true, true, true, true] rfl rfl (by kernel_rfl) (fun _ _ _ h => h) (Or.inl ⟨by rfl, ?_⟩) ?_ ?_
  rotate_left
  · intro w'
    go_simp
    with_reducible rfl
  rotate_left
  · simp only [Act.put, List.setIfInBounds_toArray, List.set_cons_zero, List.set_cons_succ, i64_w, i32_w]
    rfl
  refine done_ (by kernel_rfl) ?_
  go_wp2
  go_ret
  exact ⟨rfl, (((Gr.refl W).alloc _).alloc _).trans Gtx4x9x14x15x16.out⟩
theorem lays (P0 : Nat → Nat) (blk off size : Nat) (w : World) : CmpLays Try.prog 28 #[] encR 3 cfR blk off size w := fun m os dk _ x y =>
  (less_calls x y _).mono (fun e w' h => ⟨h.1, h.2⟩)
/-- The library's sort of a row of rings. -/
theorem sort_calls {w0 W : World} {c : Nat → Nat} {i g k : Nat} {l : List (Int × Int × Int)} (h : (row 34 KR).M W w0.heap.size (fun k => c k = i) l (.slice (some ⟨g, 0, none⟩) l.length k)) (hs : w0.heap.size ≤ W.heap.size) (hl : l.length ≤ 100000) :
    Calls Try.prog 27 #[.slice (some ⟨g, 0, none⟩) l.length k, .func (.func 28) #[] #[]] W fun e w' => e = .returned (.tuple #[]) ∧ ∃ c', (row 34 KR).M w' w0.heap.size (fun k => c' k = i) (l.mergeSort fun x y => !(ltOf cfR y x)) (.slice (some ⟨g, 0, none⟩) l.length k) ∧ Turned c c' i w0 W w' := by
  have hm := St.mine (s := row 34 KR) h
  obtain ⟨hok, hb, hn, cur, hh, hnc, hcm, hcs, htk⟩ := own_cells hm
  have h1 := AnyQ.slices_SortFunc_total sortR 3 (fun w => Try.isAgg34 w) (fun w => Try.sizeOf34 w) encR encR_len (fun x v hv => by simp [encR] at hv; rcases hv with rfl | rfl | rfl <;> rfl) cfR swoR 28 #[] g 0 k l.toArray W
    (enters_of Try.func28 (by kernel_rfl) rfl) (lays id _ _ _ _) (holds_ring hm) (blk_lt hh) (by simp; omega) totR
  have hsz : l.toArray.size = l.length := by simp
  rw [hsz] at h1
  refine h1.mono ?_
  rintro e w' ⟨he, n, os, rfl⟩
  obtain ⟨h2, h3⟩ := sorted_ring (row_ready h) n (l.mergeSort fun x y => !(ltOf cfR y x)) os (List.length_mergeSort _)
  exact ⟨he, turned (s := row 34 KR) h2 (h3.weaken (fun k hk => by rw [hk]; exact hok)) hs⟩
theorem sort_none (A : Option Addr) (k : Nat) (W : World) :
    Calls Try.prog 27 #[.slice A 0 k, .func (.func 28) #[] #[]] W fun e w' => e = .returned (.tuple #[]) ∧ w' = W := AnyF.slices_SortFunc_none sortR A k _ W
end Go.Proofs.Ytdmoembbgcoeaaa.Alarm
