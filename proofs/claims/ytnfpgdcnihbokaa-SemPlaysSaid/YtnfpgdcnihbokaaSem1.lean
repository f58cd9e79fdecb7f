/- What the methods of a sem turn: next, Free, Throw, New; by colours (no law is stated here; each says its conditions). -/
import Derived.Test.YtnfpgdcnihbokaaSem
namespace Go.Proofs.Ytnfpgdcnihbokaa.Sem
open Go.RowKit Go.Proofs.YtnfpgdcnihbokaaW.PrintWords Go.Proofs.YtnfpgdcnihbokaaW.PrintLast Go.Proofs.YtnfpgdcnihbokaaW.PrintMore Go.Proofs.Ytnfpgdcnihbokaa.St Go.Proofs.Ytnfpgdcnihbokaa.Q Go.Proofs.Ytnfpgdcnihbokaa.Fifo
set_option linter.unusedVariables false
set_option linter.unusedSimpArgs false
attribute [local go_sem] max2_int min2_int max_two min_two max_three min_three max_four min_four



set_option maxHeartbeats 1000000 in
set_option maxRecDepth 100000 in
theorem next_none {w : World} {b : Nat} {ok : Nat → Prop} {most h : Int} {d : Bool} {v : Value} (hM : sem.M w b ok (most, h, d, []) v) :
    Calls Try.prog 23 #[v] w fun e w' => e = .returned (.int .i64 (-1)) ∧ sem.M w' b ok (most, -1, d, []) v ∧ Wrote w w' ok := by
  obtain ⟨g, pv, rfl, hA⟩ := hM
  have h0 := hA.c0
  have h1 := hA.c1
  have h2 := hA.c2
  have h3 := hA.c3
  have f1 := hA.f1
  have f2 := hA.f2
  have HF := Aside0.mk hA.fif
  obtain ⟨gf, hpv⟩ := hA.form
  subst hpv
  have HA := Aside0.mk hA
  clear hA
  go_enter Try.func23, Try.ntmps23
  go_wp2_with (first | (go_at_call 27; (with_reducible refine (get_calls (HA.out.set1 (-1)).fif).mono ?_); rintro e w3 ⟨rfl, hF3, hW3⟩; rw [show some_ ([] : List Int) = false from rfl]; have A3 := Aside0.mk ((HA.out.set1 (-1)).turn (fun k hk => hk) (hW3.block g (HA.out.set1 (-1)).2.2.1 (fun hk => hk.2 rfl)) hF3); have W3 := Aside0.mk (((Wrote.refl w ok).setCell (p := ⟨g, 1, none⟩) (Or.inl HA.out.1) (.int .i64 (-1))).trans hW3 (fun k hk => Or.inl hk.1)); clear hF3 hW3; have k1 := A3.out.c1; have k2 := A3.out.f1))
  go_ret
  exact ⟨rfl, A3.out.toM, W3.out⟩

set_option maxHeartbeats 1000000 in
set_option maxRecDepth 100000 in
theorem next_some {w : World} {b : Nat} {ok : Nat → Prop} {most h : Int} {d : Bool} {x : Int} {t : List Int} {v : Value} (hM : sem.M w b ok (most, h, d, x :: t) v) :
    Calls Try.prog 23 #[v] w fun e w' => e = .returned (.int .i64 x) ∧ sem.M w' b ok (most, x, d, t) v ∧ Wrote w w' ok := by
  obtain ⟨g, pv, rfl, hA⟩ := hM
  have h0 := hA.c0
  have h1 := hA.c1
  have h2 := hA.c2
  have h3 := hA.c3
  have f1 := hA.f1
  have f2 := hA.f2
  have HF := Aside0.mk hA.fif
  obtain ⟨gf, hpv⟩ := hA.form
  subst hpv
  have HA := Aside0.mk hA
  have HS := Aside0.mk (show some_ (x :: t) = true from decide_eq_true (by simp))
  clear hA
  go_enter Try.func23, Try.ntmps23
  go_wp2_with (first | (go_at_call 27; (with_reducible refine (get_calls (HA.out.set1 (-1)).fif).mono ?_); rintro e w3 ⟨rfl, hF3, hW3⟩; rw [HS.out, show front (x :: t) = x from rfl]; have A3 := Aside0.mk ((HA.out.set1 (-1)).turn (fun k hk => hk) (hW3.block g (HA.out.set1 (-1)).2.2.1 (fun hk => hk.2 rfl)) hF3); have W3 := Aside0.mk (((Wrote.refl w ok).setCell (p := ⟨g, 1, none⟩) (Or.inl HA.out.1) (.int .i64 (-1))).trans hW3 (fun k hk => Or.inl hk.1)); clear hF3 hW3; have k1 := A3.out.c1; have k2 := A3.out.f1))
  go_ret
  exact ⟨rfl, (A3.out.set1 x).toM, W3.out.setCell (Or.inl HA.out.1) _⟩

theorem next_calls {w : World} {b : Nat} {ok : Nat → Prop} {most h : Int} {d : Bool} {q : List Int} {v : Value} (hM : sem.M w b ok (most, h, d, q) v) :
    Calls Try.prog 23 #[v] w fun e w' => e = .returned (.int .i64 (nxt q)) ∧ sem.M w' b ok (most, nxt q, d, q.tail) v ∧ Wrote w w' ok := by
  cases q with
  | nil => exact next_none hM
  | cons x t => exact next_some hM
set_option maxHeartbeats 1000000 in
set_option maxRecDepth 100000 in
theorem free_neg {w : World} {b : Nat} {ok : Nat → Prop} {most h : Int} {d : Bool} {q : List Int} {v : Value} (id : Int) (hM : sem.M w b ok (most, h, d, q) v) (c : id < 0) :
    Calls Try.prog 13 #[v, .int .i64 id] w fun e w' => e = .returned (.tuple #[.int .i64 0, .bool false, .int .i64 4]) ∧ sem.M w' b ok (most, h, d, q) v ∧ Wrote w w' ok := by
  obtain ⟨g, pv, rfl, hA⟩ := hM
  have h0 := hA.c0
  have h1 := hA.c1
  have h2 := hA.c2
  have h3 := hA.c3
  have f1 := hA.f1
  have f2 := hA.f2
  have HF := Aside0.mk hA.fif
  obtain ⟨gf, hpv⟩ := hA.form
  subst hpv
  have HA := Aside0.mk hA
  have d1 : decide (id < 0) = true := decide_eq_true c
  clear c
  clear hA
  go_enter Try.func13, Try.ntmps13
  go_wp2
  go_ret3
  exact ⟨rfl, HA.out.toM, Wrote.refl _ _⟩

set_option maxHeartbeats 1000000 in
set_option maxRecDepth 100000 in
theorem free_bad {w : World} {b : Nat} {ok : Nat → Prop} {most h : Int} {d : Bool} {q : List Int} {v : Value} (id : Int) (hM : sem.M w b ok (most, h, d, q) v) (c : ¬ id < 0) (c2 : ¬ h = id) :
    Calls Try.prog 13 #[v, .int .i64 id] w fun e w' => e = .returned (.tuple #[.int .i64 0, .bool false, .int .i64 4]) ∧ sem.M w' b ok (most, h, d, q) v ∧ Wrote w w' ok := by
  obtain ⟨g, pv, rfl, hA⟩ := hM
  have h0 := hA.c0
  have h1 := hA.c1
  have h2 := hA.c2
  have h3 := hA.c3
  have f1 := hA.f1
  have f2 := hA.f2
  have HF := Aside0.mk hA.fif
  obtain ⟨gf, hpv⟩ := hA.form
  subst hpv
  have HA := Aside0.mk hA
  have d1 : decide (id < 0) = false := decide_eq_false c
  have d2 : (h != id) = true := bne_iff_ne.mpr c2
  clear c c2
  clear hA
  go_enter Try.func13, Try.ntmps13
  go_wp2
  go_ret3
  exact ⟨rfl, HA.out.toM, Wrote.refl _ _⟩

set_option maxHeartbeats 1000000 in
set_option maxRecDepth 100000 in
theorem free_ok {w : World} {b : Nat} {ok : Nat → Prop} {most h : Int} {d : Bool} {q : List Int} {v : Value} (id : Int) (hM : sem.M w b ok (most, h, d, q) v) (c : ¬ id < 0) (c2 : h = id) :
    Calls Try.prog 13 #[v, .int .i64 id] w fun e w' => e = .returned (.tuple #[.int .i64 (nxt q), .bool false, .int .i64 0]) ∧ sem.M w' b ok (most, nxt q, d, q.tail) v ∧ Wrote w w' ok := by
  obtain ⟨g, pv, rfl, hA⟩ := hM
  have h0 := hA.c0
  have h1 := hA.c1
  have h2 := hA.c2
  have h3 := hA.c3
  have f1 := hA.f1
  have f2 := hA.f2
  have HF := Aside0.mk hA.fif
  obtain ⟨gf, hpv⟩ := hA.form
  subst hpv
  have HA := Aside0.mk hA
  have HM := Aside0.mk hA.toM
  have d1 : decide (id < 0) = false := decide_eq_false c
  have d2 : (h != id) = false := bne_eq_false_iff_eq.mpr c2
  clear c c2
  clear hA
  go_enter Try.func13, Try.ntmps13
  go_wp2_with (first | (go_at_call 23; (with_reducible refine (next_calls HM.out).mono ?_); rintro e w3 ⟨rfl, hM3, hW3⟩; have M3 := Aside0.mk hM3; have W3 := Aside0.mk hW3; clear hM3 hW3))
  go_ret3
  exact ⟨rfl, M3.out, W3.out⟩

theorem free_none {w : World} {b : Nat} {ok : Nat → Prop} {most h : Int} {d : Bool} {q : List Int} {v : Value} (id : Int) (hM : sem.M w b ok (most, h, d, q) v) (c : id < 0 ∨ h ≠ id) :
    Calls Try.prog 13 #[v, .int .i64 id] w fun e w' => e = .returned (.tuple #[.int .i64 0, .bool false, .int .i64 4]) ∧ sem.M w' b ok (most, h, d, q) v ∧ Wrote w w' ok := by
  by_cases c1 : id < 0
  · exact free_neg id hM c1
  · exact free_bad id hM c1 (c.resolve_left c1)
set_option maxHeartbeats 1000000 in
set_option maxRecDepth 100000 in
theorem throw_none {w : World} {b : Nat} {ok : Nat → Prop} {most h : Int} {d : Bool} {q : List Int} {v : Value} (id : Int) (hM : sem.M w b ok (most, h, d, q) v) (c : id < 0 ∨ h ≠ id) :
    Calls Try.prog 12 #[v, .int .i64 id] w fun e w' => e = .returned (.tuple #[.int .i64 0, .bool false, .int .i64 4]) ∧ sem.M w' b ok (most, h, d, q) v ∧ Wrote w w' ok := by
  obtain ⟨g, pv, rfl, hA⟩ := hM
  have h0 := hA.c0
  have h1 := hA.c1
  have h2 := hA.c2
  have h3 := hA.c3
  have f1 := hA.f1
  have f2 := hA.f2
  have HF := Aside0.mk hA.fif
  obtain ⟨gf, hpv⟩ := hA.form
  subst hpv
  have HA := Aside0.mk hA
  have HM := Aside0.mk hA.toM
  have HC := Aside0.mk c
  clear c h0 h1 h2 h3 f1 f2
  clear hA
  go_enter Try.func12, Try.ntmps12
  go_wp2_with (first | (go_at_call 13; (with_reducible refine (free_none id HM.out HC.out).mono ?_); rintro e w3 ⟨rfl, hM3, hW3⟩; obtain ⟨g3, pv3, hv3, A3'⟩ := hM3; injection hv3 with hv3; injection hv3 with hv3; injection hv3 with hv3; subst hv3; have A3 := Aside0.mk A3'; have W3 := Aside0.mk hW3; have k2 := A3'.c2; have k3 := A3'.f2; clear A3' hW3))
  go_ret3
  exact ⟨rfl, A3.out.toM, W3.out⟩

set_option maxHeartbeats 1000000 in
set_option maxRecDepth 100000 in
theorem throw_ok {w : World} {b : Nat} {ok : Nat → Prop} {most h : Int} {d : Bool} {q : List Int} {v : Value} (id : Int) (hM : sem.M w b ok (most, h, d, q) v) (c : ¬ id < 0) (c2 : h = id) :
    Calls Try.prog 12 #[v, .int .i64 id] w fun e w' => e = .returned (.tuple #[.int .i64 (nxt q), .bool (!(nxt q == -1)), .int .i64 0]) ∧ sem.M w' b ok (most, nxt q, nxt q == -1, q.tail) v ∧ Wrote w w' ok := by
  obtain ⟨g, pv, rfl, hA⟩ := hM
  have h0 := hA.c0
  have h1 := hA.c1
  have h2 := hA.c2
  have h3 := hA.c3
  have f1 := hA.f1
  have f2 := hA.f2
  have HF := Aside0.mk hA.fif
  obtain ⟨gf, hpv⟩ := hA.form
  subst hpv
  have HA := Aside0.mk hA
  have HM := Aside0.mk hA.toM
  have HC := Aside0.mk (And.intro c c2)
  clear c c2 h0 h1 h2 h3 f1 f2
  clear hA
  go_enter Try.func12, Try.ntmps12
  go_wp2_with (first | (go_at_call 13; (with_reducible refine (free_ok id HM.out HC.out.1 HC.out.2).mono ?_); rintro e w3 ⟨rfl, hM3, hW3⟩; obtain ⟨g3, pv3, hv3, A3'⟩ := hM3; injection hv3 with hv3; injection hv3 with hv3; injection hv3 with hv3; subst hv3; have A3 := Aside0.mk A3'; have W3 := Aside0.mk hW3; have k2 := A3'.c2; have k3 := A3'.f2; clear A3' hW3))
  go_ret3
  exact ⟨rfl, (A3.out.set2 _).toM, W3.out.setCell (Or.inl HA.out.1) _⟩


set_option maxHeartbeats 1000000 in
set_option maxRecDepth 100000 in
theorem new_bad (n : Int) (w : World) (c : n < 1 ∨ 1048576 < n) : Calls Try.prog 8 #[.int .i64 n] w fun e w' => e = .returned (.tuple #[.pointer none, .int .i64 1]) ∧ w' = w := by
  by_cases c1 : n < 1
  · have d1 : decide (n < 1) = true := decide_eq_true c1
    clear c1 c
    go_enter Try.func8, Try.ntmps8
    go_wp2
    go_ret2
    exact ⟨rfl, rfl⟩
  · have d1 : decide (n < 1) = false := decide_eq_false c1
    have d2 : decide (1048576 < n) = true := decide_eq_true (c.resolve_left c1)
    clear c1 c
    go_enter Try.func8, Try.ntmps8
    go_wp2
    go_ret2
    exact ⟨rfl, rfl⟩
set_option maxHeartbeats 1000000 in
set_option maxRecDepth 100000 in
theorem new_calls (n : Int) (w : World) (c : 1 ≤ n) (c2 : n ≤ 1048576) :
    Calls Try.prog 8 #[.int .i64 n] w fun e w' => ∃ g : Nat, e = .returned (.tuple #[.pointer (some ⟨g, 0, none⟩), .int .i64 0]) ∧ sem.M w' w.heap.size (fun k => w.heap.size ≤ k) (n, -1, false, []) (.pointer (some ⟨g, 0, none⟩)) ∧ Below w.heap.size w w' := by
  have hu := Try.underlying51
  have d1 : decide (n < 1) = false := decide_eq_false (by omega)
  have d2 : decide (1048576 < n) = false := decide_eq_false (by omega)
  clear c c2
  go_enter Try.func8, Try.ntmps8
  go_wp2_with (first | (go_at_call 20; (with_reducible refine (Fifo.new_calls 63 w).mono ?_); rintro e w3 ⟨gf, rfl, hF, hb⟩; have HF := Aside0.mk (show fifo.M w3 w.heap.size (fun k => w.heap.size ≤ k) (63, []) (.pointer (some ⟨gf, 0, none⟩)) from hF); have HB := Aside0.mk hb; clear hF hb) | ((with_reducible refine gate_dst (N := 13) rfl ?_); refine box_event ?hg (N := 13) ?hd (cs := #[.int .i64 n, .int .i64 (-1), .bool false, .pointer (some ⟨gf, 0, none⟩)]) (t := 51) ?hr ?_; (case hd => rfl); (case hg => rfl); (case hr => first | (go_simp; done) | (go_simp; rfl)); intro gb hg w4 hbox hb; have HG := Aside0.mk hg; have HX := Aside0.mk hbox; have HB4 := Aside0.mk hb; clear hg hbox hb))
  go_ret2
  have hge : w.heap.size ≤ gb := by rw [HG.out]; exact HB.out.size
  refine ⟨gb, rfl, ⟨gb, _, rfl, hge, hge, blk_lt HX.out, HX.out, ?_⟩, HB.out.trans (HB4.out.mono HB.out.size)⟩
  exact fifo.mono (fun k hk => ⟨hk.1, fun e => by have h1 := hk.2.2; have h2 := HG.out; rw [e, h2] at h1; exact absurd h1 (Nat.lt_irrefl _)⟩) (fifo.move (fun k hk => HB4.out.block k hk.2.2) (fifo.bound HF.out))

/-! by colours -/
section
variable {w0 W : World} {c : Nat → Nat} {i : Nat} {most h : Int} {d : Bool} {q : List Int} {v : Value}
theorem sem_size (hM : sem.M W w0.heap.size (fun k => c k = i) (most, h, d, q) v) : w0.heap.size ≤ W.heap.size := by
  obtain ⟨g, sv, _, _, h2, h3, _⟩ := hM
  omega
theorem sem_len {b : Nat} {ok : Nat → Prop} (hM : sem.M W b ok (most, h, d, q) v) : q.length ≤ 63 := by
  obtain ⟨g, sv, _, hA⟩ := hM
  have := (fifo_len hA.fif).1
  omega
/-- A call's end, by colours. -/
theorem toC {x' : Int × Int × Bool × List Int} {fn : Nat} {args : Array Value} {r : Value} {x : Int × Int × Bool × List Int} {ok' : Nat → Prop} (hM : sem.M W w0.heap.size (fun k => c k = i) x v) (hok : ∀ k, ok' k → mineOf c i w0 k ∨ W.heap.size ≤ k)
    (hc : Calls Try.prog fn args W fun e w' => e = .returned r ∧ sem.M w' w0.heap.size ok' x' v ∧ Wrote W w' (mineOf c i w0)) :
    Calls Try.prog fn args W fun e w' => e = .returned r ∧ ∃ c', sem.M w' w0.heap.size (fun k => c' k = i) x' v ∧ Turned c c' i w0 W w' :=
  hc.mono fun e w' ⟨he, h1, h2⟩ => ⟨he, turned (sem.mono hok h1) h2 (sem_size hM)⟩
theorem newC (c : Nat → Nat) (i : Nat) (n : Int) (c1 : 1 ≤ n) (c2 : n ≤ 1048576) (hB : Below w0.heap.size w0 W) : Calls Try.prog 8 #[.int .i64 n] W fun e w' => ∃ g : Nat, e = .returned (.tuple #[.pointer (some ⟨g, 0, none⟩), .int .i64 0]) ∧ ∃ c', sem.M w' w0.heap.size (fun k => c' k = i) (n, -1, false, []) (.pointer (some ⟨g, 0, none⟩)) ∧ Turned c c' i w0 W w' :=
  (new_calls n W c1 c2).mono fun e w' ⟨g, he, hM, hb⟩ => ⟨g, he, turned_new hM hb hB.size (fun ⟨g1, sv, e1, h1, h2, h3, h4, ⟨g2, sv2, e2, k1, k2, k3, k4, k5, k6⟩⟩ => ⟨g1, sv, e1, h1, Nat.le_trans hB.size h2, h3, h4, ⟨g2, sv2, e2, k1, Nat.le_trans hB.size k2, k3, k4, Kd.R_lower k5 hB.size, k6⟩⟩)⟩
end
end Go.Proofs.Ytnfpgdcnihbokaa.Sem
