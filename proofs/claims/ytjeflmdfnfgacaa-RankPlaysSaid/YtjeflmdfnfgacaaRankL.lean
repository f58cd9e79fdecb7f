/- Rank's calls with numbers written out, and the law's own awake (no condition). -/
import Derived.Test.YtjeflmdfnfgacaaRankC
import Derived.Test.YtjeflmdfnfgacaaReg
import Derived.Test.YtjeflmdfnfgacaaQx27
namespace Go.Proofs.Ytjeflmdfnfgacaa.Rank
open Go.RowKit Go.Proofs.YtjeflmdfnfgacaaW.PrintWords Go.Proofs.YtjeflmdfnfgacaaW.PrintLast Go.Proofs.YtjeflmdfnfgacaaW.PrintMore Go.Proofs.Ytjeflmdfnfgacaa.St Go.Proofs.Ytjeflmdfnfgacaa.Q Go.Proofs.Ytjeflmdfnfgacaa.Heap
set_option linter.unusedVariables false
set_option linter.unusedSimpArgs false
attribute [local go_sem] max2_int min2_int max_two min_two max_three min_three max_four min_four

section
variable {w0 W W1 : World} {c : Nat → Nat} {i : Nat} {s : List (Option Ent)} {v : Value}
theorem newL (c : Nat → Nat) (i : Nat) (r : Int) (n : Nat) (s' : List (Option Ent)) (hr : r = (n : Int)) (hs' : List.replicate n none = s') (hn : 1 ≤ n) (hn2 : n ≤ 64) (hB : Below w0.heap.size w0 W) :
    Calls Try.prog 7 #[.int .i64 r] W fun e w' => ∃ g : Nat, e = .returned (.tuple #[.pointer (some ⟨g, 0, none⟩), .int .i64 0]) ∧ ∃ c', rank.M w' w0.heap.size (fun k => c' k = i) s' (.pointer (some ⟨g, 0, none⟩)) ∧ Turned c c' i w0 W w' := by
  subst hr; subst hs'; exact newC c i n hn hn2 hB
theorem setL (a e1 e2 : Int) (e3 : Bool) (r : Int) (s' : List (Option Ent)) (hr : setv s a (e1, e2, e3) = (r, s')) (h : rank.M W w0.heap.size (fun k => c k = i) s v) (hs : w0.heap.size ≤ W.heap.size) :
    Calls Try.prog 8 #[v, .int .i64 a, .agg #[.int .i64 e1, .int .i64 e2, .bool e3]] W fun e w' => e = .returned (.int .i64 r) ∧ ∃ c', rank.M w' w0.heap.size (fun k => c' k = i) s' v ∧ Turned c c' i w0 W w' := by
  have := setC a e1 e2 e3 h hs
  rw [hr] at this
  exact this
theorem clearL (a : Int) (r : Int) (s' : List (Option Ent)) (hr : clearv s a = (r, s')) (h : rank.M W w0.heap.size (fun k => c k = i) s v) (hs : w0.heap.size ≤ W.heap.size) :
    Calls Try.prog 13 #[v, .int .i64 a] W fun e w' => e = .returned (.int .i64 r) ∧ ∃ c', rank.M w' w0.heap.size (fun k => c' k = i) s' v ∧ Turned c c' i w0 W w' := by
  have := clearC a h hs
  rw [hr] at this
  exact this
theorem worstL {b : Nat} {ok : Nat → Prop} (j : Nat) (r : Int) (e1 e2 : Int) (e3 : Bool) (hr : (j : Int) = r) (hb : bestB s j (e1, e2, e3) = true) (h : rank.M W b ok s v) :
    Calls Try.prog 9 #[v] W fun e w' => e = .returned (.tuple #[.int .i64 r, .agg #[.int .i64 e1, .int .i64 e2, .bool e3], .bool true]) ∧ Below W.heap.size W w' := by
  subst hr; exact worst_some j e1 e2 e3 h (best_of hb)
theorem worstN {b : Nat} {ok : Nat → Prop} (hd : dues 0 s = []) (h : rank.M W b ok s v) :
    Calls Try.prog 9 #[v] W fun e w' => e = .returned (.tuple #[.int .i64 0, .agg #[.int .i64 0, .int .i64 0, .bool false], .bool false]) ∧ Below W.heap.size W w' := worst_none h hd
theorem whereL {b : Nat} {ok : Nat → Prop} (id : Int) (r : Int) (q : Bool) (hr : wv s id = (r, q)) (h : rank.M W b ok s v) :
    Calls Try.prog 10 #[v, .int .i64 id] W fun e w' => e = .returned (.tuple #[.int .i64 r, .bool q]) ∧ Below W.heap.size W w' := by
  have := where_calls id h
  rw [hr] at this
  exact this
theorem atL {b : Nat} {ok : Nat → Prop} (a : Int) (e1 e2 : Int) (e3 q : Bool) (hr : atv s a = ((e1, e2, e3), q)) (h : rank.M W b ok s v) :
    Calls Try.prog 11 #[v, .int .i64 a] W fun e w' => e = .returned (.tuple #[.agg #[.int .i64 e1, .int .i64 e2, .bool e3], .bool q]) ∧ Below W.heap.size W w' := by
  have := at_calls a h
  rw [hr] at this
  exact this
theorem idleL {b : Nat} {ok : Nat → Prop} (m : Nat) (r : Int) (hr : (m : Int) = r) (hm : idleB m s = true) (h : rank.M W b ok s v) :
    Calls Try.prog 14 #[v] W fun e w' => e = .returned (.int .u64 r) ∧ w' = W := by
  refine (idle_calls h).mono ?_
  rintro e w' ⟨⟨m', h1, h2⟩, h3⟩
  rw [h1, idle_of hm h2, hr]
  exact ⟨rfl, h3⟩
end
theorem of_lit (W : World) (x r : Int) (hf : mask_Of.f 2 [x] = some r) :
    Calls Try.prog 15 #[.slice (some ⟨W.heap.size, 0, none⟩) 1 1] (W.alloc (.cells #[.int .i64 x] 3)) fun e w' => e = .returned (.int .u64 r) ∧ Below W.heap.size W w' := by
  have hC : (Kd.int .i64).C (W.alloc (.cells #[.int .i64 x] 3)) (some ⟨W.heap.size, 0, none⟩) ([x] : List Int).length [x] := (Kd.R_reads' (lit_R .i64 W 3 (Nat.le_refl _) [x] (by simp))).2.2
  refine (mask_Of.calls 2 (some ⟨W.heap.size, 0, none⟩) 1 [x] r (W.alloc (.cells #[.int .i64 x] 3)) hC (Nat.le_refl _) hf).mono ?_
  rintro e w' ⟨rfl, hd⟩
  have h1 := below_alloc (Below.refl W.heap.size W) (.cells #[.int .i64 x] 3)
  exact ⟨rfl, h1.trans ((Drawn0.below hd).mono h1.size)⟩
set_option maxHeartbeats 2000000 in
set_option maxRecDepth 100000 in
theorem awake_calls (w : World) : Calls Try.prog 6 #[] w fun e w' => e = .returned (.bool true) ∧ Below w.heap.size w w' := by
  go_enter Try.func6, Try.ntmps6
  go_upto_region 6 with (first | (go_at_call 7; (with_reducible refine (newL (w0 := w) (fun _ => 9) 0 (3) 3 [none, none, none] rfl rfl (by decide) (by decide) (Below.refl _ _)).mono ?_); rintro e w1 ⟨gn, rfl, c1, h1, t1⟩; have HR1 := Aside0.mk (show (rank).M w1 w.heap.size (fun k => c1 k = 0) [none, none, none] (.pointer (some ⟨gn, 0, none⟩)) from h1); have B1 := Aside0.mk (t1.far (Below.refl _ _)); clear h1 t1) | (go_at_call 8; (with_reducible refine (setL (0) (1) (3) false (0) [some (1, 3, false), none, none] (by decide +kernel) HR1.out (Below.size B1.out)).mono ?_); rintro e w2 ⟨rfl, c2, h2, t2⟩; have HR2 := Aside0.mk (show (rank).M w2 w.heap.size (fun k => c2 k = 0) [some (1, 3, false), none, none] (.pointer (some ⟨gn, 0, none⟩)) from h2); have B2 := Aside0.mk (t2.far B1.out); clear h2 t2) | (go_at_call 8; (with_reducible refine (setL (2) (2) (5) false (0) [some (1, 3, false), none, some (2, 5, false)] (by decide +kernel) HR2.out (Below.size B2.out)).mono ?_); rintro e w3 ⟨rfl, c3, h3, t3⟩; have HR3 := Aside0.mk (show (rank).M w3 w.heap.size (fun k => c3 k = 0) [some (1, 3, false), none, some (2, 5, false)] (.pointer (some ⟨gn, 0, none⟩)) from h3); have B3 := Aside0.mk (t3.far B2.out); clear h3 t3) | (go_at_call 9; (with_reducible refine (worstL 2 2 2 5 false rfl (by decide +kernel) HR3.out).mono ?_); rintro e w4 ⟨rfl, hb4⟩; have HR4 := Aside0.mk (St.below (s := rank) HR3.out hb4); have B4 := Aside0.mk (Below.trans B3.out (Below.mono hb4 (Below.size B3.out))); clear hb4) | ((with_reducible refine gate_dst (N := 6) rfl ?_); refine box_event ?hg (N := 6) ?hd (cs := #[(.int .i64 0), (.int .i64 0), (.bool false)]) (t := 29) ?hr ?_; (case hd => rfl); (case hg => rfl); (case hr => first | (go_simp; done) | (go_simp; rfl)); intro g5 hg5 w5 hx5 hb5; have HX5 := Aside0.mk hx5; have HB5 := Aside0.mk hb5; have HG5 := Aside0.mk hg5; have r05 := blk_cell hx5 0; have r15 := blk_cell hx5 1; have r25 := blk_cell hx5 2; have q05 := blk_frozen hx5 0; have q15 := blk_frozen hx5 1; have q25 := blk_frozen hx5 2; clear hx5 hb5 hg5))
  have hbz : Below w4.heap.size w4 (((w5.setCell ⟨g5, 0, none⟩ (.int .i64 (2))).setCell ⟨g5, 1, none⟩ (.int .i64 (5))).setCell ⟨g5, 2, none⟩ (.bool false)) := ((HB5.out.setCell (by have := HG5.out; show w4.heap.size ≤ g5; omega) _).setCell (by have := HG5.out; show w4.heap.size ≤ g5; omega) _).setCell (by have := HG5.out; show w4.heap.size ≤ g5; omega) _
  have hy : (((w5.setCell ⟨g5, 0, none⟩ (.int .i64 (2))).setCell ⟨g5, 1, none⟩ (.int .i64 (5))).setCell ⟨g5, 2, none⟩ (.bool false)).heap[g5]? = some (.cells #[.int .i64 (2), .int .i64 (5), .bool false] 29 (0, 0)) := blk_put (cs := #[.int .i64 (2), .int .i64 (5), .bool false]) (blk_put (cs := #[.int .i64 (2), .int .i64 0, .bool false]) (blk_put (cs := #[.int .i64 0, .int .i64 0, .bool false]) HX5.out 0 _ rfl) 1 _ rfl) 2 _ rfl
  clear r05 r15 r25 q05 q15 q25
  generalize (((w5.setCell ⟨g5, 0, none⟩ (.int .i64 (2))).setCell ⟨g5, 1, none⟩ (.int .i64 (5))).setCell ⟨g5, 2, none⟩ (.bool false)) = wb5 at hbz hy ⊢
  have HRb5 := Aside0.mk (St.below (s := rank) HR4.out hbz)
  have Bb5 := Aside0.mk (Below.trans B4.out (Below.mono hbz (Below.size B4.out)))
  have y0 := blk_cell hy 0
  clear hbz hy
  go_wp2_with (first | (go_at_call 14; (with_reducible refine (idleL 2 2 rfl (by decide +kernel) HRb5.out).mono ?_); rintro e wz ⟨rfl, rfl⟩) | (go_at_call 15; (with_reducible refine (of_lit _ (1) 2 (by decide +kernel)).mono ?_); rintro e w9 ⟨rfl, hb9⟩; have B9 := Aside0.mk (Below.trans Bb5.out (Below.mono hb9 (Below.size Bb5.out))); clear hb9))
  go_ret
  exact ⟨rfl, B9.out⟩
end Go.Proofs.Ytjeflmdfnfgacaa.Rank
