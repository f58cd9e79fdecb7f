/- Admit: AdmitKnown: who lingers, changes, edge cases (the walk) (no law is stated here; each says its conditions). -/
import Derived.Test.YtmjodeijafoabaaSt
import Derived.Test.YtmjodeijafoabaaReg
import Derived.Test.YtmjodeijafoabaaQt
import Derived.Test.YtmjodeijafoabaaAdK
namespace Go.Proofs.Ytmjodeijafoabaa.Admit
open Go.RowKit Go.Proofs.YtmjodeijafoabaaW.PrintWords Go.Proofs.YtmjodeijafoabaaW.PrintLast Go.Proofs.YtmjodeijafoabaaW.PrintMore Go.Proofs.Ytmjodeijafoabaa.St Go.Proofs.Ytmjodeijafoabaa.Q Go.Proofs.Ytmjodeijafoabaa.Pure
set_option linter.unusedVariables false
set_option linter.unusedSimpArgs false
attribute [local go_sem] max2_int min2_int max_two min_two max_three min_three max_four min_four

theorem BK.keep {w0 W W1 : World} {c c1 : Nat → Nat} {i g : Nat} {m : Int} {l1 l2 : List S37} {js : List Nat} (h : BK w0 W c i m l1 l2 g) (t : TurnedL c c1 js w0 W W1) (h0 : i ∉ js) (h1 : i + 1 ∉ js) (h2 : i + 2 ∉ js) : BK w0 W1 c1 i m l1 l2 g := by
  obtain ⟨A1, k1, A2, k2, b1, b2, b3⟩ := h
  exact ⟨A1, k1, A2, k2, t.keep _ blk _ _ _ h0 b1, t.keep _ (row 37 k37) _ _ _ h1 b2, t.keep _ (row 37 k37) _ _ _ h2 b3⟩
theorem okl0 : Okl (prs []) := fun x hx => by simp [prs] at hx
theorem okl1 {q p : Int} (h : okv q p) (id t : Int) : Okl (prs [⟨id, ⟨q, p⟩, t⟩]) := fun x hx => by
  simp [prs] at hx
  rw [hx]
  exact h
theorem ok12 : okv 1 2 := ⟨⟨by decide, by decide⟩, by decide, by decide⟩
theorem ok34 : okv 3 4 := ⟨⟨by decide, by decide⟩, by decide, by decide⟩
/-- Those that are on the wide machine. -/
def wl (y : Nat) : List S37 := (List.range y).map (fun (k : Nat) => (⟨(k : Int), ⟨1, 2⟩, -1⟩ : S37))
theorem wl_len (y : Nat) : (wl y).length = y := by unfold wl; rw [List.length_map, List.length_range]
theorem wl_more (y : Nat) : wl (y + 1) = wl y ++ [⟨(y : Int), ⟨1, 2⟩, -1⟩] := by unfold wl; rw [List.range_succ, List.map_append]; rfl
theorem wl_ok (y : Nat) : Okl (prs (wl y)) := fun x hx => by
  unfold prs wl at hx
  rw [List.map_map] at hx
  obtain ⟨k, _, rfl⟩ := List.mem_map.1 hx
  exact ok12
theorem wl_v : ∀ y, y < 32 → enterV 64 (wl y) [] (y : Int) 1 2 0 = 0 := by decide +kernel
theorem wl_l {y : Nat} (h : y < 32) : enterL 64 (wl y) [] (y : Int) 1 2 0 = wl (y + 1) := by unfold enterL; rw [if_pos (wl_v y h), wl_more]
theorem wl_f : enterV 64 (wl 32) [] 32 1 2 0 = 3 := by decide +kernel
theorem wl_fl : enterL 64 (wl 32) [] 32 1 2 0 = wl 32 := by unfold enterL; rw [if_neg (by rw [wl_f]; decide)]
theorem wl_inv {y : Nat} (h : y ≤ 32) : Inv (wl y) [] 0 := ⟨by rw [wl_len]; exact h, Nat.le_refl _, wl_ok y, okl0⟩
section
variable {w0 W : World} {c : Nat → Nat} {i g : Nat} {m : Int} {l1 l2 : List S37}
theorem BK.ask2 (q p now : Int) (h : BK w0 W c i m l1 l2 g) {j : Nat} (hi : Inv l1 l2 j) (hj : j ≤ 900) (hm : 1 ≤ m ∧ m ≤ 64) {r : Int} (hr : askV m l1 l2 q p now = r) :
    Calls Try.prog 12 #[.pointer (some ⟨g, 0, none⟩), .agg #[.int .i64 q, .int .i64 p], .int .i64 now] W fun e w' => e = .returned (.int .i64 r) ∧ Below W.heap.size W w' := by
  subst hr
  exact BK.ask q p now h hi hj hm
theorem BK.leave2 (id till now : Int) (h : BK w0 W c i m l1 l2 g) (hB : Below w0.heap.size w0 W) {j : Nat} (hi : Inv l1 l2 j) (hj : j ≤ 900) {r : Int} {l o : List S37} (hr : leaveV l1 id till now = r) (hl : leaveL l1 id till now = l) (ho : leaveO l1 l2 id till now = o) :
    Calls Try.prog 10 #[.pointer (some ⟨g, 0, none⟩), .int .i64 id, .int .i64 till, .int .i64 now] W fun e w' => e = .returned (.int .i64 r) ∧ ∃ c', BK w0 w' c' i m l o g ∧ TurnedL c c' [i, i + 1, i + 2, i + 3, i + 4] w0 W w' := by
  subst hr; subst hl; subst ho
  exact BK.leave id till now h hB hi hj
theorem BK.change2 (id q p now : Int) (h : BK w0 W c i m l1 l2 g) (hB : Below w0.heap.size w0 W) {j : Nat} (hi : Inv l1 l2 j) (hj : j ≤ 900) (hm : 1 ≤ m ∧ m ≤ 64) {r : Int} {l : List S37} (hr : changeV m l1 l2 id q p now = r) (hl : changeL m l1 l2 id q p now = l) :
    Calls Try.prog 14 #[.pointer (some ⟨g, 0, none⟩), .int .i64 id, .agg #[.int .i64 q, .int .i64 p], .int .i64 now] W fun e w' => e = .returned (.int .i64 r) ∧ ∃ c', BK w0 w' c' i m l l2 g ∧ TurnedL c c' [i, i + 1, i + 2, i + 3, i + 4] w0 W w' := by
  subst hr; subst hl
  exact change_calls id q p now h hB ⟨by have := hi.1; omega, by have := hi.2.1; omega⟩ hm hi.2.2.1 hi.2.2.2
theorem BK.lingers (now : Int) (h : BK w0 W c i m l1 l2 g) (hl : l2.length ≤ 1000) {n : Nat} (hn : (ling now l2).length = n) :
    Calls Try.prog 13 #[.pointer (some ⟨g, 0, none⟩), .int .i64 now] W fun e w' => ∃ A k, e = .returned (.slice A n k) ∧ Below W.heap.size W w' := by
  obtain ⟨A1, k1, A2, k2, h1, h2, h3⟩ := h
  refine (lingers_calls now (blk_at h1) (row_C h3) hl).mono ?_
  rintro e w' ⟨v, rfl, hv, hb⟩
  obtain ⟨A, k, rfl, _, _⟩ := row_reads hv
  rw [hn]
  exact ⟨A, k, rfl, hb⟩
end
def RelY (w : World) (gb gv gx : Nat) (i : Value) (wr : World) : Prop :=
  ∃ (y : Nat) (c : Nat → Nat), y ≤ 32 ∧ i = .int .i64 (y : Int) ∧ BK w wr c 0 1 [] ([⟨7, ⟨1, 2⟩, 5⟩] : List S37) gb ∧ BK w wr c 10 64 (wl y) [] gv ∧ blk.M wr w.heap.size (fun k => c k = 9) (.cells #[.int .i64 1, .int .i64 2] 24 (0, 0)) (.pointer (some ⟨gx, 0, none⟩)) ∧ Below w.heap.size w wr
theorem kk1v : enterV 1 ([] : List S37) ([] : List S37) 1 2 1 0 = 1 := by decide +kernel
theorem kk1l : enterL 1 ([] : List S37) ([] : List S37) 1 2 1 0 = ([] : List S37) := by unfold enterL; rw [if_neg (by rw [kk1v]; decide)]
theorem ik0 : Inv ([] : List S37) ([] : List S37) 1 := ⟨by decide, by decide, okl0, okl0⟩
theorem kk2v : enterV 1 ([] : List S37) ([] : List S37) 1 1 2 (-1) = 1 := by decide +kernel
theorem kk2l : enterL 1 ([] : List S37) ([] : List S37) 1 1 2 (-1) = ([] : List S37) := by unfold enterL; rw [if_neg (by rw [kk2v]; decide)]
theorem kk3v : enterV 1 ([] : List S37) ([] : List S37) 7 1 2 0 = 0 := by decide +kernel
theorem kk3l : enterL 1 ([] : List S37) ([] : List S37) 7 1 2 0 = ([⟨7, ⟨1, 2⟩, -1⟩] : List S37) := by unfold enterL; rw [if_pos kk3v]; rfl
theorem kk4v : enterV 1 ([⟨7, ⟨1, 2⟩, -1⟩] : List S37) ([] : List S37) 7 1 2 0 = 5 := by decide +kernel
theorem kk4l : enterL 1 ([⟨7, ⟨1, 2⟩, -1⟩] : List S37) ([] : List S37) 7 1 2 0 = ([⟨7, ⟨1, 2⟩, -1⟩] : List S37) := by unfold enterL; rw [if_neg (by rw [kk4v]; decide)]
theorem ik1 : Inv ([⟨7, ⟨1, 2⟩, -1⟩] : List S37) ([] : List S37) 1 := ⟨by decide, by decide, okl1 ok12 7 (-1), okl0⟩
theorem kk5v : leaveV ([⟨7, ⟨1, 2⟩, -1⟩] : List S37) 8 5 0 = 2 := by decide +kernel
theorem kk5l : leaveL ([⟨7, ⟨1, 2⟩, -1⟩] : List S37) 8 5 0 = ([⟨7, ⟨1, 2⟩, -1⟩] : List S37) := by unfold leaveL; rw [if_neg (by rw [kk5v]; decide)]
theorem kk5o : leaveO ([⟨7, ⟨1, 2⟩, -1⟩] : List S37) ([] : List S37) 8 5 0 = ([] : List S37) := by unfold leaveO; rw [if_neg (by decide +kernel)]
theorem kk6v : leaveV ([⟨7, ⟨1, 2⟩, -1⟩] : List S37) 7 (-1) 0 = 1 := by decide +kernel
theorem kk6l : leaveL ([⟨7, ⟨1, 2⟩, -1⟩] : List S37) 7 (-1) 0 = ([⟨7, ⟨1, 2⟩, -1⟩] : List S37) := by unfold leaveL; rw [if_neg (by rw [kk6v]; decide)]
theorem kk6o : leaveO ([⟨7, ⟨1, 2⟩, -1⟩] : List S37) ([] : List S37) 7 (-1) 0 = ([] : List S37) := by unfold leaveO; rw [if_neg (by decide +kernel)]
theorem kk7v : leaveV ([⟨7, ⟨1, 2⟩, -1⟩] : List S37) 7 5 0 = 0 := by decide +kernel
theorem kk7l : leaveL ([⟨7, ⟨1, 2⟩, -1⟩] : List S37) 7 5 0 = ([] : List S37) := by unfold leaveL; rw [if_pos kk7v]; rfl
theorem kk7o : leaveO ([⟨7, ⟨1, 2⟩, -1⟩] : List S37) ([] : List S37) 7 5 0 = ([⟨7, ⟨1, 2⟩, 5⟩] : List S37) := by unfold leaveO; rw [if_pos ⟨kk7v, by decide⟩]; rfl
theorem kk8v : askV 1 ([] : List S37) ([⟨7, ⟨1, 2⟩, 5⟩] : List S37) 1 2 4 = 7 := by decide +kernel
theorem ik2 : Inv ([] : List S37) ([⟨7, ⟨1, 2⟩, 5⟩] : List S37) 1 := ⟨by decide, by decide, okl0, okl1 ok12 7 5⟩
theorem kk9v : askV 1 ([] : List S37) ([⟨7, ⟨1, 2⟩, 5⟩] : List S37) 1 2 5 = 0 := by decide +kernel
theorem lg18 : (ling 4 ([⟨7, ⟨1, 2⟩, 5⟩] : List S37)).length = 1 := by decide +kernel
theorem lg19 : (ling 5 ([⟨7, ⟨1, 2⟩, 5⟩] : List S37)).length = 0 := by decide +kernel
theorem kk10v : enterV 1 ([] : List S37) ([⟨7, ⟨1, 2⟩, 5⟩] : List S37) 9 1 2 5 = 0 := by decide +kernel
theorem kk10l : enterL 1 ([] : List S37) ([⟨7, ⟨1, 2⟩, 5⟩] : List S37) 9 1 2 5 = ([⟨9, ⟨1, 2⟩, -1⟩] : List S37) := by unfold enterL; rw [if_pos kk10v]; rfl
theorem kk11v : changeV 1 ([⟨9, ⟨1, 2⟩, -1⟩] : List S37) ([⟨7, ⟨1, 2⟩, 5⟩] : List S37) 9 3 4 5 = 0 := by decide +kernel
theorem kk11l : changeL 1 ([⟨9, ⟨1, 2⟩, -1⟩] : List S37) ([⟨7, ⟨1, 2⟩, 5⟩] : List S37) 9 3 4 5 = ([⟨9, ⟨3, 4⟩, -1⟩] : List S37) := by unfold changeL; rw [if_pos kk11v]; rfl
theorem ik3 : Inv ([⟨9, ⟨1, 2⟩, -1⟩] : List S37) ([⟨7, ⟨1, 2⟩, 5⟩] : List S37) 1 := ⟨by decide, by decide, okl1 ok12 9 (-1), okl1 ok12 7 5⟩
theorem kk12v : changeV 1 ([⟨9, ⟨3, 4⟩, -1⟩] : List S37) ([⟨7, ⟨1, 2⟩, 5⟩] : List S37) 10 1 2 5 = 2 := by decide +kernel
theorem kk12l : changeL 1 ([⟨9, ⟨3, 4⟩, -1⟩] : List S37) ([⟨7, ⟨1, 2⟩, 5⟩] : List S37) 10 1 2 5 = ([⟨9, ⟨3, 4⟩, -1⟩] : List S37) := by unfold changeL; rw [if_neg (by rw [kk12v]; decide)]
theorem ik4 : Inv ([⟨9, ⟨3, 4⟩, -1⟩] : List S37) ([⟨7, ⟨1, 2⟩, 5⟩] : List S37) 1 := ⟨by decide, by decide, okl1 ok34 9 (-1), okl1 ok12 7 5⟩
theorem kk13v : changeV 1 ([⟨9, ⟨3, 4⟩, -1⟩] : List S37) ([⟨7, ⟨1, 2⟩, 5⟩] : List S37) 9 3 4 2 = 7 := by decide +kernel
theorem kk13l : changeL 1 ([⟨9, ⟨3, 4⟩, -1⟩] : List S37) ([⟨7, ⟨1, 2⟩, 5⟩] : List S37) 9 3 4 2 = ([⟨9, ⟨3, 4⟩, -1⟩] : List S37) := by unfold changeL; rw [if_neg (by rw [kk13v]; decide)]
theorem kk14v : leaveV ([⟨9, ⟨3, 4⟩, -1⟩] : List S37) 9 5 5 = 0 := by decide +kernel
theorem kk14l : leaveL ([⟨9, ⟨3, 4⟩, -1⟩] : List S37) 9 5 5 = ([] : List S37) := by unfold leaveL; rw [if_pos kk14v]; rfl
theorem kk14o : leaveO ([⟨9, ⟨3, 4⟩, -1⟩] : List S37) ([⟨7, ⟨1, 2⟩, 5⟩] : List S37) 9 5 5 = ([⟨7, ⟨1, 2⟩, 5⟩] : List S37) := by unfold leaveO; rw [if_neg (by decide +kernel)]
theorem lgz : (ling 5 ([⟨7, ⟨1, 2⟩, 5⟩] : List S37)).length = 0 := by decide +kernel
set_option maxHeartbeats 8000000 in
set_option maxRecDepth 100000 in
theorem known_walk (w : World) : Calls Try.prog 4 #[] w fun e w' => e = .returned (.bool true) ∧ Below w.heap.size w w' := by
  go_enter Try.func4, Try.ntmps4
  go_upto_region 6 with (first | (go_at_call 7; (with_reducible refine (awake_calls _).mono ?_); rintro e w2 ⟨rfl, hb2⟩; have B2 := Aside0.mk hb2; clear hb2) | (go_at_call 8; (with_reducible refine (new_bad 0 _ (by decide)).mono ?_); rintro e w3 ⟨rfl, rfl⟩) | (go_at_call 8; (with_reducible refine (new_ok (w0 := w) (fun _ => 99) 0 1 (by decide) B2.out).mono ?_); rintro e w4 ⟨gb, rfl, c4, h4, t4⟩; have H4 := Aside0.mk h4; have B4 := Aside0.mk (t4.far B2.out); clear h4 t4) | ((with_reducible refine gate_dst (N := 5) rfl ?_); refine box_event ?hg (N := 5) ?hd (cs := #[.int .i64 0, .int .i64 0]) (t := 24) ?hr ?_; (case hd => rfl); (case hg => rfl); (case hr => first | (go_simp; done) | (go_simp; rfl) | kernel_rfl); intro gx hgx wx hxx hbx; have HXX := Aside0.mk hxx; have HBX := Aside0.mk hbx; have HGX := Aside0.mk hgx; have r0 := blk_cell hxx 0; have r1 := blk_cell hxx 1; have s0 := blk_frozen hxx 0; have s1 := blk_frozen hxx 1; clear hxx hbx hgx))
  have hz : w4.heap.size ≤ gx := Nat.le_of_eq HGX.out.symm
  have hbz : Below w4.heap.size w4 ((wx.setCell ⟨gx, 0, none⟩ (.int .i64 1)).setCell ⟨gx, 1, none⟩ (.int .i64 2)) := ((HBX.out.setCell hz _).setCell hz _)
  have hy : ((wx.setCell ⟨gx, 0, none⟩ (.int .i64 1)).setCell ⟨gx, 1, none⟩ (.int .i64 2)).heap[gx]? = some (.cells #[.int .i64 1, .int .i64 2] 24 (0, 0)) := blk_put (cs := #[.int .i64 1, .int .i64 0]) (blk_put (cs := #[.int .i64 0, .int .i64 0]) HXX.out 0 _ rfl) 1 _ rfl
  clear r0 r1 s0 s1 HXX HBX HGX
  generalize ((wx.setCell ⟨gx, 0, none⟩ (.int .i64 1)).setCell ⟨gx, 1, none⟩ (.int .i64 2)) = w5 at hbz hy ⊢
  obtain ⟨c5, h5, t5⟩ := blk_new1 (w0 := w) c4 9 hz hy hbz (Below.size B4.out)
  have X5 := Aside0.mk h5
  have H5 := Aside0.mk (BK.keep (c1 := c5) H4.out ((TurnedL.refl c4 [9] w w4).step t5 (by simp)) (by decide) (by decide) (by decide))
  have B5 := Aside0.mk (t5.far B4.out)
  clear h5 t5 hbz hy hz
  obtain ⟨w6, hw6⟩ : ∃ w6 : World, w5.drew = w6 := ⟨_, rfl⟩
  have hb6 : Below w5.heap.size w5 w6 := by rw [← hw6]; exact below_drew (Below.refl _ _)
  have H6 := Aside0.mk (BK.below H5.out hb6)
  have X6 := Aside0.mk (St.below (s := blk) X5.out hb6)
  have B6 := Aside0.mk (Below.trans B5.out (Below.mono hb6 (Below.size B5.out)))
  clear hb6
  refine start_ (n := 8) (S := fun w' => w'.cell? ⟨gx, 0, none⟩ = some (.int .i64 1) ∧ w'.cell? ⟨gx, 1, none⟩ = some (.int .i64 2)) (ds := []) #[false, false, false, false, false, false, false, false] (by kernel_rfl) rfl rfl (by rw [hw6]; exact ⟨blk_cell (blk_at X6.out) 0, blk_cell (blk_at X6.out) 1⟩) (fun hHeld => ?_)
  refine pure_ (i := 0) (N := some 37) (v := ?_) (a' := ?_) #[true, false, false, false, false, false, false, false] rfl rfl (by kernel_rfl) (fun _ _ _ h => h) (Or.inl ⟨by rfl, ?_⟩) ?_ ?_
  rotate_left
  · intro w'
    go_simp
    with_reducible rfl
  rotate_left
  · simp only [Act.put, List.setIfInBounds_toArray, List.set_cons_zero, List.set_cons_succ, i64_w, i32_w]
    rfl
  refine pure_ (i := 1) (N := some 38) (v := ?_) (a' := ?_) #[true, true, false, false, false, false, false, false] rfl rfl (by kernel_rfl) (fun _ _ _ h => h) (Or.inl ⟨by rfl, ?_⟩) ?_ ?_
  rotate_left
  · intro w'
    go_simp
    with_reducible rfl
  rotate_left
  · simp only [Act.put, List.setIfInBounds_toArray, List.set_cons_zero, List.set_cons_succ, i64_w, i32_w]
    rfl
  refine pure_ (i := 3) (N := some 40) (v := ?_) (a' := ?_) #[true, true, false, true, false, false, false, false] rfl rfl (by kernel_rfl) (fun _ _ _ h => h) (Or.inl ⟨by rfl, ?_⟩) ?_ ?_
  rotate_left
  · intro w'
    go_simp
    with_reducible rfl
  rotate_left
  · simp only [Act.put, List.setIfInBounds_toArray, List.set_cons_zero, List.set_cons_succ, i64_w, i32_w]
    rfl
  refine take_ (i := 4) (N := some 41) (v := ?_) (a' := ?_) #[true, true, false, true, true, false, false, false] rfl rfl (by kernel_rfl) (fun _ _ _ h => h) (Or.inl ⟨by rfl, ?_⟩) hHeld ?_ ?_
  rotate_left
  · intro w' hS_
    obtain ⟨s0_, s1_⟩ := hS_
    go_simp
    with_reducible rfl
  rotate_left
  · simp only [Act.put, List.setIfInBounds_toArray, List.set_cons_zero, List.set_cons_succ, i64_w, i32_w]
    rfl
  refine one_ (i := 2) (N := some 39) #[true, true, true, true, true, false, false, false] rfl rfl (by kernel_rfl) (by decide) (fun K hK => ?_)
  refine goes_ Try.func9 (by kernel_rfl) rfl #[.pointer (some ⟨gb, 0, none⟩), .int .i64 1, .agg #[.int .i64 2, .int .i64 1], .int .i64 0] ?hw rfl rfl ?hx ?_
  (case hw => rfl)
  (case hx => (try simp only [List.map_toArray, List.map_cons, List.map_nil]); first | done | rfl)
  rw [hw6]
  refine (BK.enter 1 2 1 0 H6.out B6.out (j := 1) ik0 (by decide) (by decide) kk1v kk1l).mono ?_
  rintro e w7 ⟨rfl, c7, h7, t7⟩
  have H7 := Aside0.mk h7
  have X7 := Aside0.mk (t7.keep _ blk 9 _ _ (by decide) X6.out)
  have B7 := Aside0.mk (t7.far B6.out)
  clear h7 t7
  refine ⟨_, rfl, ?_⟩
  have hHeld := (show _ = some (Value.int IntKind.i64 1) ∧ _ = some (Value.int IntKind.i64 2) from ⟨blk_cell (blk_at X7.out) 0, blk_cell (blk_at X7.out) 1⟩)
  refine hK.out _ _ hHeld (fun hHeld => ?_)
  clear hK K
  refine norm_ (a' := ?_) ?_ ?_
  rotate_left
  · show Act.put _ (some 39) _ = _
    simp only [Act.put, List.setIfInBounds_toArray, List.set_cons_zero, List.set_cons_succ, i64_w, i32_w]
    rfl
  refine one_ (i := 5) (N := some 42) #[true, true, true, true, true, true, false, false] rfl rfl (by kernel_rfl) (by decide) (fun K hK => ?_)
  refine goes_ Try.func9 (by kernel_rfl) rfl #[.pointer (some ⟨gb, 0, none⟩), .int .i64 1, .agg #[.int .i64 1, .int .i64 2], .int .i64 (-1)] ?hw rfl rfl ?hx ?_
  (case hw => rfl)
  (case hx => (try simp only [List.map_toArray, List.map_cons, List.map_nil]); first | done | rfl)
  refine (BK.enter 1 1 2 (-1) H7.out B7.out (j := 1) ik0 (by decide) (by decide) kk2v kk2l).mono ?_
  rintro e w8 ⟨rfl, c8, h8, t8⟩
  have H8 := Aside0.mk h8
  have X8 := Aside0.mk (t8.keep _ blk 9 _ _ (by decide) X7.out)
  have B8 := Aside0.mk (t8.far B7.out)
  clear h8 t8
  refine ⟨_, rfl, ?_⟩
  have hHeld := (show _ = some (Value.int IntKind.i64 1) ∧ _ = some (Value.int IntKind.i64 2) from ⟨blk_cell (blk_at X8.out) 0, blk_cell (blk_at X8.out) 1⟩)
  refine hK.out _ _ hHeld (fun hHeld => ?_)
  clear hK K
  refine norm_ (a' := ?_) ?_ ?_
  rotate_left
  · show Act.put _ (some 42) _ = _
    simp only [Act.put, List.setIfInBounds_toArray, List.set_cons_zero, List.set_cons_succ, i64_w, i32_w]
    rfl
  refine pure_ (i := 6) (N := some 6) (v := ?_) (a' := ?_) #[true, true, true, true, true, true, true, false] rfl rfl (by kernel_rfl) (fun _ _ _ h => h) (Or.inl ⟨by rfl, ?_⟩) ?_ ?_
  rotate_left
  · intro w'
    go_simp
    with_reducible rfl
  rotate_left
  · simp only [Act.put, List.setIfInBounds_toArray, List.set_cons_zero, List.set_cons_succ, i64_w, i32_w]
    rfl
  refine pure_ (i := 7) (N := some 7) (v := ?_) (a' := ?_) #[true, true, true, true, true, true, true, true] rfl rfl (by kernel_rfl) (fun _ _ _ h => h) (Or.inl ⟨by rfl, ?_⟩) ?_ ?_
  rotate_left
  · intro w'
    go_simp
    with_reducible rfl
  rotate_left
  · simp only [Act.put, List.setIfInBounds_toArray, List.set_cons_zero, List.set_cons_succ, i64_w, i32_w]
    rfl
  refine done_ (by kernel_rfl) ?_
  go_upto_region 7 with (fail)
  obtain ⟨w9, hw9⟩ : ∃ w9 : World, w8.drew = w9 := ⟨_, rfl⟩
  have hb9 : Below w8.heap.size w8 w9 := by rw [← hw9]; exact below_drew (Below.refl _ _)
  have H9 := Aside0.mk (BK.below H8.out hb9)
  have X9 := Aside0.mk (St.below (s := blk) X8.out hb9)
  have B9 := Aside0.mk (Below.trans B8.out (Below.mono hb9 (Below.size B8.out)))
  clear hb9
  refine start_ (n := 8) (S := fun w' => w'.cell? ⟨gx, 0, none⟩ = some (.int .i64 1) ∧ w'.cell? ⟨gx, 1, none⟩ = some (.int .i64 2)) (ds := []) #[false, false, false, false, false, false, false, false] (by kernel_rfl) rfl rfl (by rw [hw9]; exact ⟨blk_cell (blk_at X9.out) 0, blk_cell (blk_at X9.out) 1⟩) (fun hHeld => ?_)
  refine pure_ (i := 0) (N := some 43) (v := ?_) (a' := ?_) #[true, false, false, false, false, false, false, false] rfl rfl (by kernel_rfl) (fun _ _ _ h => h) (Or.inl ⟨by rfl, ?_⟩) ?_ ?_
  rotate_left
  · intro w'
    go_simp
    with_reducible rfl
  rotate_left
  · simp only [Act.put, List.setIfInBounds_toArray, List.set_cons_zero, List.set_cons_succ, i64_w, i32_w]
    rfl
  refine take_ (i := 1) (N := some 44) (v := ?_) (a' := ?_) #[true, true, false, false, false, false, false, false] rfl rfl (by kernel_rfl) (fun _ _ _ h => h) (Or.inl ⟨by rfl, ?_⟩) hHeld ?_ ?_
  rotate_left
  · intro w' hS_
    obtain ⟨s0_, s1_⟩ := hS_
    go_simp
    with_reducible rfl
  rotate_left
  · simp only [Act.put, List.setIfInBounds_toArray, List.set_cons_zero, List.set_cons_succ, i64_w, i32_w]
    rfl
  refine pure_ (i := 3) (N := some 46) (v := ?_) (a' := ?_) #[true, true, false, true, false, false, false, false] rfl rfl (by kernel_rfl) (fun _ _ _ h => h) (Or.inl ⟨by rfl, ?_⟩) ?_ ?_
  rotate_left
  · intro w'
    go_simp
    with_reducible rfl
  rotate_left
  · simp only [Act.put, List.setIfInBounds_toArray, List.set_cons_zero, List.set_cons_succ, i64_w, i32_w]
    rfl
  refine take_ (i := 4) (N := some 47) (v := ?_) (a' := ?_) #[true, true, false, true, true, false, false, false] rfl rfl (by kernel_rfl) (fun _ _ _ h => h) (Or.inl ⟨by rfl, ?_⟩) hHeld ?_ ?_
  rotate_left
  · intro w' hS_
    obtain ⟨s0_, s1_⟩ := hS_
    go_simp
    with_reducible rfl
  rotate_left
  · simp only [Act.put, List.setIfInBounds_toArray, List.set_cons_zero, List.set_cons_succ, i64_w, i32_w]
    rfl
  refine one_ (i := 2) (N := some 45) #[true, true, true, true, true, false, false, false] rfl rfl (by kernel_rfl) (by decide) (fun K hK => ?_)
  refine goes_ Try.func9 (by kernel_rfl) rfl #[.pointer (some ⟨gb, 0, none⟩), .int .i64 7, .agg #[.int .i64 1, .int .i64 2], .int .i64 0] ?hw rfl rfl ?hx ?_
  (case hw => rfl)
  (case hx => (try simp only [List.map_toArray, List.map_cons, List.map_nil]); first | done | rfl)
  rw [hw9]
  refine (BK.enter 7 1 2 0 H9.out B9.out (j := 1) ik0 (by decide) (by decide) kk3v kk3l).mono ?_
  rintro e w10 ⟨rfl, c10, h10, t10⟩
  have H10 := Aside0.mk h10
  have X10 := Aside0.mk (t10.keep _ blk 9 _ _ (by decide) X9.out)
  have B10 := Aside0.mk (t10.far B9.out)
  clear h10 t10
  refine ⟨_, rfl, ?_⟩
  have hHeld := (show _ = some (Value.int IntKind.i64 1) ∧ _ = some (Value.int IntKind.i64 2) from ⟨blk_cell (blk_at X10.out) 0, blk_cell (blk_at X10.out) 1⟩)
  refine hK.out _ _ hHeld (fun hHeld => ?_)
  clear hK K
  refine norm_ (a' := ?_) ?_ ?_
  rotate_left
  · show Act.put _ (some 45) _ = _
    simp only [Act.put, List.setIfInBounds_toArray, List.set_cons_zero, List.set_cons_succ, i64_w, i32_w]
    rfl
  refine one_ (i := 5) (N := some 48) #[true, true, true, true, true, true, false, false] rfl rfl (by kernel_rfl) (by decide) (fun K hK => ?_)
  refine goes_ Try.func9 (by kernel_rfl) rfl #[.pointer (some ⟨gb, 0, none⟩), .int .i64 7, .agg #[.int .i64 1, .int .i64 2], .int .i64 0] ?hw rfl rfl ?hx ?_
  (case hw => rfl)
  (case hx => (try simp only [List.map_toArray, List.map_cons, List.map_nil]); first | done | rfl)
  refine (BK.enter 7 1 2 0 H10.out B10.out (j := 1) ik1 (by decide) (by decide) kk4v kk4l).mono ?_
  rintro e w11 ⟨rfl, c11, h11, t11⟩
  have H11 := Aside0.mk h11
  have X11 := Aside0.mk (t11.keep _ blk 9 _ _ (by decide) X10.out)
  have B11 := Aside0.mk (t11.far B10.out)
  clear h11 t11
  refine ⟨_, rfl, ?_⟩
  have hHeld := (show _ = some (Value.int IntKind.i64 1) ∧ _ = some (Value.int IntKind.i64 2) from ⟨blk_cell (blk_at X11.out) 0, blk_cell (blk_at X11.out) 1⟩)
  refine hK.out _ _ hHeld (fun hHeld => ?_)
  clear hK K
  refine norm_ (a' := ?_) ?_ ?_
  rotate_left
  · show Act.put _ (some 48) _ = _
    simp only [Act.put, List.setIfInBounds_toArray, List.set_cons_zero, List.set_cons_succ, i64_w, i32_w]
    rfl
  refine pure_ (i := 6) (N := some 8) (v := ?_) (a' := ?_) #[true, true, true, true, true, true, true, false] rfl rfl (by kernel_rfl) (fun _ _ _ h => h) (Or.inl ⟨by rfl, ?_⟩) ?_ ?_
  rotate_left
  · intro w'
    go_simp
    with_reducible rfl
  rotate_left
  · simp only [Act.put, List.setIfInBounds_toArray, List.set_cons_zero, List.set_cons_succ, i64_w, i32_w]
    rfl
  refine pure_ (i := 7) (N := some 9) (v := ?_) (a' := ?_) #[true, true, true, true, true, true, true, true] rfl rfl (by kernel_rfl) (fun _ _ _ h => h) (Or.inl ⟨by rfl, ?_⟩) ?_ ?_
  rotate_left
  · intro w'
    go_simp
    with_reducible rfl
  rotate_left
  · simp only [Act.put, List.setIfInBounds_toArray, List.set_cons_zero, List.set_cons_succ, i64_w, i32_w]
    rfl
  refine done_ (by kernel_rfl) ?_
  go_upto_region 10 with (first | (go_at_call 10; (with_reducible refine (BK.leave2 8 5 0 H11.out B11.out (j := 1) ik1 (by decide) kk5v kk5l kk5o).mono ?_); rintro e w12 ⟨rfl, c12, h12, t12⟩; have H12 := Aside0.mk h12; have X12 := Aside0.mk (t12.keep _ blk 9 _ _ (by decide) X11.out); have B12 := Aside0.mk (t12.far B11.out); clear h12 t12) | (go_at_call 10; (with_reducible refine (BK.leave2 7 (-1) 0 H12.out B12.out (j := 1) ik1 (by decide) kk6v kk6l kk6o).mono ?_); rintro e w13 ⟨rfl, c13, h13, t13⟩; have H13 := Aside0.mk h13; have X13 := Aside0.mk (t13.keep _ blk 9 _ _ (by decide) X12.out); have B13 := Aside0.mk (t13.far B12.out); clear h13 t13) | (go_at_call 10; (with_reducible refine (BK.leave2 7 5 0 H13.out B13.out (j := 1) ik1 (by decide) kk7v kk7l kk7o).mono ?_); rintro e w14 ⟨rfl, c14, h14, t14⟩; have H14 := Aside0.mk h14; have X14 := Aside0.mk (t14.keep _ blk 9 _ _ (by decide) X13.out); have B14 := Aside0.mk (t14.far B13.out); clear h14 t14))
  obtain ⟨w15, hw15⟩ : ∃ w15 : World, w14.drew = w15 := ⟨_, rfl⟩
  have hb15 : Below w14.heap.size w14 w15 := by rw [← hw15]; exact below_drew (Below.refl _ _)
  have H15 := Aside0.mk (BK.below H14.out hb15)
  have X15 := Aside0.mk (St.below (s := blk) X14.out hb15)
  have B15 := Aside0.mk (Below.trans B14.out (Below.mono hb15 (Below.size B14.out)))
  clear hb15
  refine start_ (n := 8) (S := fun w' => w'.cell? ⟨gx, 0, none⟩ = some (.int .i64 1) ∧ w'.cell? ⟨gx, 1, none⟩ = some (.int .i64 2)) (ds := []) #[false, false, false, false, false, false, false, false] (by kernel_rfl) rfl rfl (by rw [hw15]; exact ⟨blk_cell (blk_at X15.out) 0, blk_cell (blk_at X15.out) 1⟩) (fun hHeld => ?_)
  refine pure_ (i := 0) (N := some 55) (v := ?_) (a' := ?_) #[true, false, false, false, false, false, false, false] rfl rfl (by kernel_rfl) (fun _ _ _ h => h) (Or.inl ⟨by rfl, ?_⟩) ?_ ?_
  rotate_left
  · intro w'
    go_simp
    with_reducible rfl
  rotate_left
  · simp only [Act.put, List.setIfInBounds_toArray, List.set_cons_zero, List.set_cons_succ, i64_w, i32_w]
    rfl
  refine take_ (i := 1) (N := some 56) (v := ?_) (a' := ?_) #[true, true, false, false, false, false, false, false] rfl rfl (by kernel_rfl) (fun _ _ _ h => h) (Or.inl ⟨by rfl, ?_⟩) hHeld ?_ ?_
  rotate_left
  · intro w' hS_
    obtain ⟨s0_, s1_⟩ := hS_
    go_simp
    with_reducible rfl
  rotate_left
  · simp only [Act.put, List.setIfInBounds_toArray, List.set_cons_zero, List.set_cons_succ, i64_w, i32_w]
    rfl
  refine pure_ (i := 3) (N := some 58) (v := ?_) (a' := ?_) #[true, true, false, true, false, false, false, false] rfl rfl (by kernel_rfl) (fun _ _ _ h => h) (Or.inl ⟨by rfl, ?_⟩) ?_ ?_
  rotate_left
  · intro w'
    go_simp
    with_reducible rfl
  rotate_left
  · simp only [Act.put, List.setIfInBounds_toArray, List.set_cons_zero, List.set_cons_succ, i64_w, i32_w]
    rfl
  refine take_ (i := 4) (N := some 59) (v := ?_) (a' := ?_) #[true, true, false, true, true, false, false, false] rfl rfl (by kernel_rfl) (fun _ _ _ h => h) (Or.inl ⟨by rfl, ?_⟩) hHeld ?_ ?_
  rotate_left
  · intro w' hS_
    obtain ⟨s0_, s1_⟩ := hS_
    go_simp
    with_reducible rfl
  rotate_left
  · simp only [Act.put, List.setIfInBounds_toArray, List.set_cons_zero, List.set_cons_succ, i64_w, i32_w]
    rfl
  refine one_ (i := 2) (N := some 57) #[true, true, true, true, true, false, false, false] rfl rfl (by kernel_rfl) (by decide) (fun K hK => ?_)
  refine goes_ Try.func12 (by kernel_rfl) rfl #[.pointer (some ⟨gb, 0, none⟩), .agg #[.int .i64 1, .int .i64 2], .int .i64 4] ?hw rfl rfl ?hx ?_
  (case hw => rfl)
  (case hx => (try simp only [List.map_toArray, List.map_cons, List.map_nil]); first | done | rfl)
  rw [hw15]
  refine (BK.ask2 1 2 4 H15.out (j := 1) ik2 (by decide) (by decide) kk8v).mono ?_
  rintro e w16 ⟨rfl, hb16⟩
  have H16 := Aside0.mk (BK.below H15.out hb16)
  have X16 := Aside0.mk (St.below (s := blk) X15.out hb16)
  have B16 := Aside0.mk (Below.trans B15.out (Below.mono hb16 (Below.size B15.out)))
  clear hb16
  refine ⟨_, rfl, ?_⟩
  have hHeld := (show _ = some (Value.int IntKind.i64 1) ∧ _ = some (Value.int IntKind.i64 2) from ⟨blk_cell (blk_at X16.out) 0, blk_cell (blk_at X16.out) 1⟩)
  refine hK.out _ _ hHeld (fun hHeld => ?_)
  clear hK K
  refine norm_ (a' := ?_) ?_ ?_
  rotate_left
  · show Act.put _ (some 57) _ = _
    simp only [Act.put, List.setIfInBounds_toArray, List.set_cons_zero, List.set_cons_succ, i64_w, i32_w]
    rfl
  refine one_ (i := 5) (N := some 60) #[true, true, true, true, true, true, false, false] rfl rfl (by kernel_rfl) (by decide) (fun K hK => ?_)
  refine goes_ Try.func12 (by kernel_rfl) rfl #[.pointer (some ⟨gb, 0, none⟩), .agg #[.int .i64 1, .int .i64 2], .int .i64 5] ?hw rfl rfl ?hx ?_
  (case hw => rfl)
  (case hx => (try simp only [List.map_toArray, List.map_cons, List.map_nil]); first | done | rfl)
  refine (BK.ask2 1 2 5 H16.out (j := 1) ik2 (by decide) (by decide) kk9v).mono ?_
  rintro e w17 ⟨rfl, hb17⟩
  have H17 := Aside0.mk (BK.below H16.out hb17)
  have X17 := Aside0.mk (St.below (s := blk) X16.out hb17)
  have B17 := Aside0.mk (Below.trans B16.out (Below.mono hb17 (Below.size B16.out)))
  clear hb17
  refine ⟨_, rfl, ?_⟩
  have hHeld := (show _ = some (Value.int IntKind.i64 1) ∧ _ = some (Value.int IntKind.i64 2) from ⟨blk_cell (blk_at X17.out) 0, blk_cell (blk_at X17.out) 1⟩)
  refine hK.out _ _ hHeld (fun hHeld => ?_)
  clear hK K
  refine norm_ (a' := ?_) ?_ ?_
  rotate_left
  · show Act.put _ (some 60) _ = _
    simp only [Act.put, List.setIfInBounds_toArray, List.set_cons_zero, List.set_cons_succ, i64_w, i32_w]
    rfl
  refine pure_ (i := 6) (N := some 13) (v := ?_) (a' := ?_) #[true, true, true, true, true, true, true, false] rfl rfl (by kernel_rfl) (fun _ _ _ h => h) (Or.inl ⟨by rfl, ?_⟩) ?_ ?_
  rotate_left
  · intro w'
    go_simp
    with_reducible rfl
  rotate_left
  · simp only [Act.put, List.setIfInBounds_toArray, List.set_cons_zero, List.set_cons_succ, i64_w, i32_w]
    rfl
  refine pure_ (i := 7) (N := some 14) (v := ?_) (a' := ?_) #[true, true, true, true, true, true, true, true] rfl rfl (by kernel_rfl) (fun _ _ _ h => h) (Or.inl ⟨by rfl, ?_⟩) ?_ ?_
  rotate_left
  · intro w'
    go_simp
    with_reducible rfl
  rotate_left
  · simp only [Act.put, List.setIfInBounds_toArray, List.set_cons_zero, List.set_cons_succ, i64_w, i32_w]
    rfl
  refine done_ (by kernel_rfl) ?_
  go_upto_region 14 with (first | (go_at_call 13; (with_reducible refine (BK.lingers 4 H17.out (by decide) lg18).mono ?_); rintro e w18 ⟨A18, k18, rfl, hb18⟩; have H18 := Aside0.mk (BK.below H17.out hb18); have X18 := Aside0.mk (St.below (s := blk) X17.out hb18); have B18 := Aside0.mk (Below.trans B17.out (Below.mono hb18 (Below.size B17.out))); clear hb18) | (go_at_call 13; (with_reducible refine (BK.lingers 5 H18.out (by decide) lg19).mono ?_); rintro e w19 ⟨A19, k19, rfl, hb19⟩; have H19 := Aside0.mk (BK.below H18.out hb19); have X19 := Aside0.mk (St.below (s := blk) X18.out hb19); have B19 := Aside0.mk (Below.trans B18.out (Below.mono hb19 (Below.size B18.out))); clear hb19; have y0 := blk_cell (blk_at X19.out) 0; have y1 := blk_cell (blk_at X19.out) 1) | (go_at_call 9; (with_reducible refine (BK.enter 9 1 2 5 H19.out B19.out (j := 1) ik2 (by decide) (by decide) kk10v kk10l).mono ?_); rintro e w20 ⟨rfl, c20, h20, t20⟩; have H20 := Aside0.mk h20; have X20 := Aside0.mk (t20.keep _ blk 9 _ _ (by decide) X19.out); have B20 := Aside0.mk (t20.far B19.out); clear h20 t20; clear y0 y1))
  obtain ⟨w21, hw21⟩ : ∃ w21 : World, w20.drew = w21 := ⟨_, rfl⟩
  have hb21 : Below w20.heap.size w20 w21 := by rw [← hw21]; exact below_drew (Below.refl _ _)
  have H21 := Aside0.mk (BK.below H20.out hb21)
  have X21 := Aside0.mk (St.below (s := blk) X20.out hb21)
  have B21 := Aside0.mk (Below.trans B20.out (Below.mono hb21 (Below.size B20.out)))
  clear hb21
  refine start_ (n := 8) (S := fun w' => w'.cell? ⟨gx, 0, none⟩ = some (.int .i64 1) ∧ w'.cell? ⟨gx, 1, none⟩ = some (.int .i64 2)) (ds := []) #[false, false, false, false, false, false, false, false] (by kernel_rfl) rfl rfl (by rw [hw21]; exact ⟨blk_cell (blk_at X21.out) 0, blk_cell (blk_at X21.out) 1⟩) (fun hHeld => ?_)
  refine pure_ (i := 0) (N := some 70) (v := ?_) (a' := ?_) #[true, false, false, false, false, false, false, false] rfl rfl (by kernel_rfl) (fun _ _ _ h => h) (Or.inl ⟨by rfl, ?_⟩) ?_ ?_
  rotate_left
  · intro w'
    go_simp
    with_reducible rfl
  rotate_left
  · simp only [Act.put, List.setIfInBounds_toArray, List.set_cons_zero, List.set_cons_succ, i64_w, i32_w]
    rfl
  refine pure_ (i := 1) (N := some 71) (v := ?_) (a' := ?_) #[true, true, false, false, false, false, false, false] rfl rfl (by kernel_rfl) (fun _ _ _ h => h) (Or.inl ⟨by rfl, ?_⟩) ?_ ?_
  rotate_left
  · intro w'
    go_simp
    with_reducible rfl
  rotate_left
  · simp only [Act.put, List.setIfInBounds_toArray, List.set_cons_zero, List.set_cons_succ, i64_w, i32_w]
    rfl
  refine pure_ (i := 3) (N := some 73) (v := ?_) (a' := ?_) #[true, true, false, true, false, false, false, false] rfl rfl (by kernel_rfl) (fun _ _ _ h => h) (Or.inl ⟨by rfl, ?_⟩) ?_ ?_
  rotate_left
  · intro w'
    go_simp
    with_reducible rfl
  rotate_left
  · simp only [Act.put, List.setIfInBounds_toArray, List.set_cons_zero, List.set_cons_succ, i64_w, i32_w]
    rfl
  refine take_ (i := 4) (N := some 74) (v := ?_) (a' := ?_) #[true, true, false, true, true, false, false, false] rfl rfl (by kernel_rfl) (fun _ _ _ h => h) (Or.inl ⟨by rfl, ?_⟩) hHeld ?_ ?_
  rotate_left
  · intro w' hS_
    obtain ⟨s0_, s1_⟩ := hS_
    go_simp
    with_reducible rfl
  rotate_left
  · simp only [Act.put, List.setIfInBounds_toArray, List.set_cons_zero, List.set_cons_succ, i64_w, i32_w]
    rfl
  refine one_ (i := 2) (N := some 72) #[true, true, true, true, true, false, false, false] rfl rfl (by kernel_rfl) (by decide) (fun K hK => ?_)
  refine goes_ Try.func14 (by kernel_rfl) rfl #[.pointer (some ⟨gb, 0, none⟩), .int .i64 9, .agg #[.int .i64 3, .int .i64 4], .int .i64 5] ?hw rfl rfl ?hx ?_
  (case hw => rfl)
  (case hx => (try simp only [List.map_toArray, List.map_cons, List.map_nil]); first | done | rfl)
  rw [hw21]
  refine (BK.change2 9 3 4 5 H21.out B21.out (j := 1) ik3 (by decide) (by decide) kk11v kk11l).mono ?_
  rintro e w22 ⟨rfl, c22, h22, t22⟩
  have H22 := Aside0.mk h22
  have X22 := Aside0.mk (t22.keep _ blk 9 _ _ (by decide) X21.out)
  have B22 := Aside0.mk (t22.far B21.out)
  clear h22 t22
  refine ⟨_, rfl, ?_⟩
  have hHeld := (show _ = some (Value.int IntKind.i64 1) ∧ _ = some (Value.int IntKind.i64 2) from ⟨blk_cell (blk_at X22.out) 0, blk_cell (blk_at X22.out) 1⟩)
  refine hK.out _ _ hHeld (fun hHeld => ?_)
  clear hK K
  refine norm_ (a' := ?_) ?_ ?_
  rotate_left
  · show Act.put _ (some 72) _ = _
    simp only [Act.put, List.setIfInBounds_toArray, List.set_cons_zero, List.set_cons_succ, i64_w, i32_w]
    rfl
  refine one_ (i := 5) (N := some 75) #[true, true, true, true, true, true, false, false] rfl rfl (by kernel_rfl) (by decide) (fun K hK => ?_)
  refine goes_ Try.func14 (by kernel_rfl) rfl #[.pointer (some ⟨gb, 0, none⟩), .int .i64 10, .agg #[.int .i64 1, .int .i64 2], .int .i64 5] ?hw rfl rfl ?hx ?_
  (case hw => rfl)
  (case hx => (try simp only [List.map_toArray, List.map_cons, List.map_nil]); first | done | rfl)
  refine (BK.change2 10 1 2 5 H22.out B22.out (j := 1) ik4 (by decide) (by decide) kk12v kk12l).mono ?_
  rintro e w23 ⟨rfl, c23, h23, t23⟩
  have H23 := Aside0.mk h23
  have X23 := Aside0.mk (t23.keep _ blk 9 _ _ (by decide) X22.out)
  have B23 := Aside0.mk (t23.far B22.out)
  clear h23 t23
  refine ⟨_, rfl, ?_⟩
  have hHeld := (show _ = some (Value.int IntKind.i64 1) ∧ _ = some (Value.int IntKind.i64 2) from ⟨blk_cell (blk_at X23.out) 0, blk_cell (blk_at X23.out) 1⟩)
  refine hK.out _ _ hHeld (fun hHeld => ?_)
  clear hK K
  refine norm_ (a' := ?_) ?_ ?_
  rotate_left
  · show Act.put _ (some 75) _ = _
    simp only [Act.put, List.setIfInBounds_toArray, List.set_cons_zero, List.set_cons_succ, i64_w, i32_w]
    rfl
  refine pure_ (i := 6) (N := some 18) (v := ?_) (a' := ?_) #[true, true, true, true, true, true, true, false] rfl rfl (by kernel_rfl) (fun _ _ _ h => h) (Or.inl ⟨by rfl, ?_⟩) ?_ ?_
  rotate_left
  · intro w'
    go_simp
    with_reducible rfl
  rotate_left
  · simp only [Act.put, List.setIfInBounds_toArray, List.set_cons_zero, List.set_cons_succ, i64_w, i32_w]
    rfl
  refine pure_ (i := 7) (N := some 19) (v := ?_) (a' := ?_) #[true, true, true, true, true, true, true, true] rfl rfl (by kernel_rfl) (fun _ _ _ h => h) (Or.inl ⟨by rfl, ?_⟩) ?_ ?_
  rotate_left
  · intro w'
    go_simp
    with_reducible rfl
  rotate_left
  · simp only [Act.put, List.setIfInBounds_toArray, List.set_cons_zero, List.set_cons_succ, i64_w, i32_w]
    rfl
  refine done_ (by kernel_rfl) ?_
  go_wp2_with (first | (go_at_call 14; (with_reducible refine (BK.change2 9 3 4 2 H23.out B23.out (j := 1) ik4 (by decide) (by decide) kk13v kk13l).mono ?_); rintro e w24 ⟨rfl, c24, h24, t24⟩; have H24 := Aside0.mk h24; have X24 := Aside0.mk (t24.keep _ blk 9 _ _ (by decide) X23.out); have B24 := Aside0.mk (t24.far B23.out); clear h24 t24) | (go_at_call 10; (with_reducible refine (BK.leave2 9 5 5 H24.out B24.out (j := 1) ik4 (by decide) kk14v kk14l kk14o).mono ?_); rintro e w25 ⟨rfl, c25, h25, t25⟩; have H25 := Aside0.mk h25; have X25 := Aside0.mk (t25.keep _ blk 9 _ _ (by decide) X24.out); have B25 := Aside0.mk (t25.far B24.out); clear h25 t25) | (go_at_call 8; (with_reducible refine (new_ok (w0 := w) c25 10 64 (by decide) B25.out).mono ?_); rintro e w80 ⟨gv, rfl, c80, h80, t80⟩; have V80 := Aside0.mk h80; have H80 := Aside0.mk (BK.keep H25.out t80 (by decide) (by decide) (by decide)); have X80 := Aside0.mk (t80.keep _ blk 9 _ _ (by decide) X25.out); have B80 := Aside0.mk (t80.far B25.out); clear h80 t80))
  go_loopw [24] (fun i wr => RelY w gb gv gx i wr) (fun i _ => 32 - (intOf i).toNat)
  case atStart => exact ⟨0, c80, by decide, rfl, H80.out, V80.out, X80.out, B80.out⟩
  case round =>
    as_aux_lemma =>
    obtain ⟨y, c, hy, rfl, hH, hV, hX, hB⟩ := hrel
    have HZ := Aside0.mk hH
    have VZ := Aside0.mk hV
    have XZ := Aside0.mk hX
    have BZ := Aside0.mk hB
    clear hH hV hX hB
    have y0 := blk_cell (blk_at XZ.out) 0
    have y1 := blk_cell (blk_at XZ.out) 1
    by_cases hlt : y < 32
    · have pj : decide ((y : Int) < 32) = true := decide_eq_true (by omega)
      have WV := Aside0.mk (wl_v y hlt)
      have WL := Aside0.mk (wl_l hlt)
      have WI := Aside0.mk (wl_inv hy)
      go_wp2_with (first | (go_at_call 9; (with_reducible refine (BK.enter (y : Int) 1 2 0 VZ.out BZ.out (j := 0) WI.out (by decide) (by decide) WV.out WL.out).mono ?_); rintro e w81 ⟨rfl, c81, h81, t81⟩; have V81 := Aside0.mk h81; have H81 := Aside0.mk (BK.keep HZ.out t81 (by decide) (by decide) (by decide)); have X81 := Aside0.mk (t81.keep _ blk 9 _ _ (by decide) XZ.out); have B81 := Aside0.mk (t81.far BZ.out); clear h81 t81))
      go_roundw
      case rel => exact ⟨y + 1, c81, by omega, by go_num, H81.out, V81.out, X81.out, B81.out⟩
      case measure => simp [intOf]; omega
    · have pj : decide ((y : Int) < 32) = false := decide_eq_false (by omega)
      obtain rfl : y = 32 := by omega
      have WI := Aside0.mk (wl_inv (Nat.le_refl 32))
      go_wp2_with (first | (go_at_call 9; (with_reducible refine (BK.enter 32 1 2 0 VZ.out BZ.out (j := 0) WI.out (by decide) (by decide) wl_f wl_fl).mono ?_); rintro e w81 ⟨rfl, c81, h81, t81⟩; have H81 := Aside0.mk (BK.keep HZ.out t81 (by decide) (by decide) (by decide)); have B81 := Aside0.mk (t81.far BZ.out); clear h81 t81) | (go_at_call 11; (with_reducible refine (BK.live H81.out (by decide)).mono ?_); rintro e w82 ⟨A82, k82, rfl, hc82, hb82⟩; have H82 := Aside0.mk (BK.below H81.out hb82); have B82 := Aside0.mk (Below.trans B81.out (Below.mono hb82 (Below.size B81.out))); clear hc82 hb82) | (go_at_call 13; (with_reducible refine (BK.lingers 5 H82.out (by decide) lgz).mono ?_); rintro e w83 ⟨A83, k83, rfl, hb83⟩; have B83 := Aside0.mk (Below.trans B82.out (Below.mono hb83 (Below.size B82.out))); clear hb83))
      go_ret
      exact ⟨rfl, B83.out⟩
end Go.Proofs.Ytmjodeijafoabaa.Admit
