/- The one that is held by turns (sem): what it holds, and what each of its methods turns (no law is stated here; each says its conditions). -/
import Derived.Test.YtnfpgdcnihbokaaFifo5
namespace Go.Proofs.Ytnfpgdcnihbokaa.Sem
open Go.RowKit Go.Proofs.YtnfpgdcnihbokaaW.PrintWords Go.Proofs.YtnfpgdcnihbokaaW.PrintLast Go.Proofs.YtnfpgdcnihbokaaW.PrintMore Go.Proofs.Ytnfpgdcnihbokaa.St Go.Proofs.Ytnfpgdcnihbokaa.Q Go.Proofs.Ytnfpgdcnihbokaa.Fifo
set_option linter.unusedVariables false
set_option linter.unusedSimpArgs false
attribute [local go_sem] max2_int min2_int max_two min_two max_three min_three max_four min_four



/-- What a sem's block holds: how long, the holder, whether the last one was thrown out; behind it the row of those that wait. -/
def At (w : World) (b : Nat) (ok : Nat → Prop) (x : Int × Int × Bool × List Int) (g : Nat) (pv : Value) : Prop :=
  ok g ∧ b ≤ g ∧ g < w.heap.size ∧ w.heap[g]? = some (.cells #[.int .i64 x.1, .int .i64 x.2.1, .bool x.2.2.1, pv] 51 (0, 0)) ∧ fifo.M w b (fun k => ok k ∧ k ≠ g) (63, x.2.2.2) pv
def sem : St (Int × Int × Bool × List Int) where
  M := fun w b ok x v => ∃ g pv, v = .pointer (some ⟨g, 0, none⟩) ∧ At w b ok x g pv
  mono := fun h ⟨g, sv, e, h1, h2, h3, h4, h5⟩ => ⟨g, sv, e, h _ h1, h2, h3, h4, fifo.mono (fun k hk => ⟨h k hk.1, hk.2⟩) h5⟩
  move := fun h ⟨g, sv, e, h1, h2, h3, h4, h5⟩ => ⟨g, sv, e, h1, h2, blk_lt ((h g h1).trans h4), (h g h1).trans h4, fifo.move (fun k hk => h k hk.1) h5⟩
  bound := fun ⟨g, sv, e, h1, h2, h3, h4, h5⟩ => ⟨g, sv, e, ⟨h1, h2, h3⟩, h2, h3, h4, fifo.mono (fun k hk => ⟨⟨hk.1.1, hk.2.1, hk.2.2⟩, hk.1.2⟩) (fifo.bound h5)⟩
section
variable {w w1 : World} {b : Nat} {ok ok1 : Nat → Prop} {most h h' : Int} {d d' : Bool} {q q' : List Int} {v : Value} {g : Nat} {pv : Value}
theorem At.c0 (hA : At w b ok (most, h, d, q) g pv) : w.cell? ⟨g, 0, none⟩ = some (.int .i64 most) := blk_cell hA.2.2.2.1 0
theorem At.c1 (hA : At w b ok (most, h, d, q) g pv) : w.cell? ⟨g, 1, none⟩ = some (.int .i64 h) := blk_cell hA.2.2.2.1 1
theorem At.c2 (hA : At w b ok (most, h, d, q) g pv) : w.cell? ⟨g, 2, none⟩ = some (.bool d) := blk_cell hA.2.2.2.1 2
theorem At.c3 (hA : At w b ok (most, h, d, q) g pv) : w.cell? ⟨g, 3, none⟩ = some pv := blk_cell hA.2.2.2.1 3
theorem At.f1 (hA : At w b ok (most, h, d, q) g pv) : w.frozen? ⟨g, 1, none⟩ = false := blk_frozen hA.2.2.2.1 1
theorem At.f2 (hA : At w b ok (most, h, d, q) g pv) : w.frozen? ⟨g, 2, none⟩ = false := blk_frozen hA.2.2.2.1 2
theorem At.fif (hA : At w b ok (most, h, d, q) g pv) : fifo.M w b (fun k => ok k ∧ k ≠ g) (63, q) pv := hA.2.2.2.2
theorem At.form (hA : At w b ok (most, h, d, q) g pv) : ∃ gf, pv = .pointer (some ⟨gf, 0, none⟩) := by obtain ⟨gf, _, e, _⟩ := hA.fif; exact ⟨gf, e⟩
theorem At.toM (hA : At w b ok (most, h, d, q) g pv) : sem.M w b ok (most, h, d, q) (.pointer (some ⟨g, 0, none⟩)) := ⟨g, pv, rfl, hA⟩
/-- Nothing turned but the row behind it. -/
theorem At.turn (hA : At w b ok (most, h, d, q) g pv) (hok : ∀ k, ok k → ok1 k) (hb : w1.heap[g]? = w.heap[g]?) (hf : fifo.M w1 b (fun k => ok1 k ∧ k ≠ g) (63, q') pv) : At w1 b ok1 (most, h, d, q') g pv :=
  ⟨hok _ hA.1, hA.2.1, blk_lt (hb.trans hA.2.2.2.1), hb.trans hA.2.2.2.1, hf⟩
/-- The holder's cell is written. -/
theorem At.set1 (hA : At w b ok (most, h, d, q) g pv) (h' : Int) : At (w.setCell ⟨g, 1, none⟩ (.int .i64 h')) b ok (most, h', d, q) g pv := by
  have h9 := blk_put hA.2.2.2.1 1 (.int .i64 h') (cs' := #[.int .i64 most, .int .i64 h', .bool d, pv]) rfl
  exact ⟨hA.1, hA.2.1, blk_lt h9, h9, fifo.mono (fun k hk => hk.1) (fifo.move (fun k hk => Below.heap_setCell _ _ _ k hk.1.2) (fifo.bound hA.fif))⟩
theorem At.set2 (hA : At w b ok (most, h, d, q) g pv) (d' : Bool) : At (w.setCell ⟨g, 2, none⟩ (.bool d')) b ok (most, h, d', q) g pv := by
  have h9 := blk_put hA.2.2.2.1 2 (.bool d') (cs' := #[.int .i64 most, .int .i64 h, .bool d', pv]) rfl
  exact ⟨hA.1, hA.2.1, blk_lt h9, h9, fifo.mono (fun k hk => hk.1) (fifo.move (fun k hk => Below.heap_setCell _ _ _ k hk.1.2) (fifo.bound hA.fif))⟩
theorem At.drewN (hA : At w b ok (most, h, d, q) g pv) (n : Nat) : At (w.drewN n) b ok (most, h, d, q) g pv := hA.turn (fun _ hk => hk) rfl (fifo_drewN hA.fif n)
theorem At.more (hA : At w b ok (most, h, d, q) g pv) (W : World) : At w b (more W ok) (most, h, d, q) g pv := ⟨Or.inl hA.1, hA.2.1, hA.2.2.1, hA.2.2.2.1, fifo.mono (fun k hk => ⟨Or.inl hk.1, hk.2⟩) hA.fif⟩
end

/-- How many are ahead of one. -/
def aheadOf (h : Int) (q : List Int) (id : Int) : Int := if id < 0 then -1 else if h = id then 0 else if id ∈ q then placeOf q id + 1 else -1
theorem ahead_neg {h : Int} {q : List Int} {id : Int} (c : id < 0) : aheadOf h q id = -1 := if_pos c
theorem ahead_held {h : Int} {q : List Int} {id : Int} (c : ¬ id < 0) (c2 : h = id) : aheadOf h q id = 0 := by rw [aheadOf, if_neg c, if_pos c2]
theorem ahead_in {h : Int} {q : List Int} {id : Int} (c : ¬ id < 0) (c2 : ¬ h = id) (c3 : id ∈ q) : aheadOf h q id = placeOf q id + 1 := by rw [aheadOf, if_neg c, if_neg c2, if_pos c3]
theorem ahead_out {h : Int} {q : List Int} {id : Int} (c : ¬ id < 0) (c2 : ¬ h = id) (c3 : id ∉ q) : aheadOf h q id = -1 := by rw [aheadOf, if_neg c, if_neg c2, if_neg c3]
def nxt : List Int → Int
  | [] => -1
  | x :: _ => x
set_option maxHeartbeats 1000000 in
set_option maxRecDepth 100000 in
theorem holder_calls {w : World} {b : Nat} {ok : Nat → Prop} {most h : Int} {d : Bool} {q : List Int} {v : Value} (hM : sem.M w b ok (most, h, d, q) v) :
    Calls Try.prog 10 #[v] w fun e w' => e = .returned (.int .i64 h) ∧ w' = w := by
  obtain ⟨g, pv, rfl, hA⟩ := hM
  have h0 := hA.c0
  have h1 := hA.c1
  have h2 := hA.c2
  have h3 := hA.c3
  have f1 := hA.f1
  have f2 := hA.f2
  have HF := Aside0.mk hA.fif
  obtain ⟨gf, hpv⟩ := hA.form
  subst hpv
  have HA := Aside0.mk hA
  clear hA
  go_enter Try.func10, Try.ntmps10
  go_wp2
  go_ret
  exact ⟨rfl, rfl⟩

set_option maxHeartbeats 1000000 in
set_option maxRecDepth 100000 in
theorem dead_calls {w : World} {b : Nat} {ok : Nat → Prop} {most h : Int} {d : Bool} {q : List Int} {v : Value} (hM : sem.M w b ok (most, h, d, q) v) :
    Calls Try.prog 15 #[v] w fun e w' => e = .returned (.bool d) ∧ w' = w := by
  obtain ⟨g, pv, rfl, hA⟩ := hM
  have h0 := hA.c0
  have h1 := hA.c1
  have h2 := hA.c2
  have h3 := hA.c3
  have f1 := hA.f1
  have f2 := hA.f2
  have HF := Aside0.mk hA.fif
  obtain ⟨gf, hpv⟩ := hA.form
  subst hpv
  have HA := Aside0.mk hA
  clear hA
  go_enter Try.func15, Try.ntmps15
  go_wp2
  go_ret
  exact ⟨rfl, rfl⟩

set_option maxHeartbeats 1000000 in
set_option maxRecDepth 100000 in
theorem most_calls {w : World} {b : Nat} {ok : Nat → Prop} {most h : Int} {d : Bool} {q : List Int} {v : Value} (hM : sem.M w b ok (most, h, d, q) v) :
    Calls Try.prog 19 #[v] w fun e w' => e = .returned (.int .i64 most) ∧ w' = w := by
  obtain ⟨g, pv, rfl, hA⟩ := hM
  have h0 := hA.c0
  have h1 := hA.c1
  have h2 := hA.c2
  have h3 := hA.c3
  have f1 := hA.f1
  have f2 := hA.f2
  have HF := Aside0.mk hA.fif
  obtain ⟨gf, hpv⟩ := hA.form
  subst hpv
  have HA := Aside0.mk hA
  clear hA
  go_enter Try.func19, Try.ntmps19
  go_wp2
  go_ret
  exact ⟨rfl, rfl⟩

set_option maxHeartbeats 1000000 in
set_option maxRecDepth 100000 in
theorem waits_calls {w : World} {b : Nat} {ok : Nat → Prop} {most h : Int} {d : Bool} {q : List Int} {v : Value} (hM : sem.M w b ok (most, h, d, q) v) :
    Calls Try.prog 14 #[v] w fun e w' => ∃ v1, e = .returned v1 ∧ (Kd.int .i64).R 3 w' w.heap.size (fun k => w.heap.size ≤ k) v1 q ∧ Below w.heap.size w w' := by
  obtain ⟨g, pv, rfl, hA⟩ := hM
  have h0 := hA.c0
  have h1 := hA.c1
  have h2 := hA.c2
  have h3 := hA.c3
  have f1 := hA.f1
  have f2 := hA.f2
  have HF := Aside0.mk hA.fif
  obtain ⟨gf, hpv⟩ := hA.form
  subst hpv
  have HA := Aside0.mk hA
  clear hA
  go_enter Try.func14, Try.ntmps14
  go_wp2_with (first | (go_at_call 24; (with_reducible refine (all_calls HF.out).mono ?_); rintro e w3 ⟨v1, rfl, hO, hb⟩; have HO := Aside0.mk hO; have HB := Aside0.mk hb; clear hO hb))
  go_ret
  exact ⟨v1, rfl, HO.out, HB.out⟩

set_option maxHeartbeats 1000000 in
set_option maxRecDepth 100000 in
theorem ahead_n {w : World} {b : Nat} {ok : Nat → Prop} {most h : Int} {d : Bool} {q : List Int} {v : Value} (id : Int) (hM : sem.M w b ok (most, h, d, q) v) (c : id < 0) :
    Calls Try.prog 11 #[v, .int .i64 id] w fun e w' => e = .returned (.int .i64 (aheadOf h q id)) ∧ ∃ nd, w' = w.drewN nd := by
  obtain ⟨g, pv, rfl, hA⟩ := hM
  have h0 := hA.c0
  have h1 := hA.c1
  have h2 := hA.c2
  have h3 := hA.c3
  have f1 := hA.f1
  have f2 := hA.f2
  have HF := Aside0.mk hA.fif
  obtain ⟨gf, hpv⟩ := hA.form
  subst hpv
  have HA := Aside0.mk hA
  have HX := Aside0.mk (ahead_neg (h := h) (q := q) c)
  have d1 : decide (id < 0) = true := decide_eq_true c
  clear c
  rw [HX.out]
  clear hA
  go_enter Try.func11, Try.ntmps11
  go_wp2
  go_ret
  exact ⟨rfl, 0, rfl⟩

set_option maxHeartbeats 1000000 in
set_option maxRecDepth 100000 in
theorem ahead_h {w : World} {b : Nat} {ok : Nat → Prop} {most h : Int} {d : Bool} {q : List Int} {v : Value} (id : Int) (hM : sem.M w b ok (most, h, d, q) v) (c : ¬ id < 0) (c2 : h = id) :
    Calls Try.prog 11 #[v, .int .i64 id] w fun e w' => e = .returned (.int .i64 (aheadOf h q id)) ∧ ∃ nd, w' = w.drewN nd := by
  obtain ⟨g, pv, rfl, hA⟩ := hM
  have h0 := hA.c0
  have h1 := hA.c1
  have h2 := hA.c2
  have h3 := hA.c3
  have f1 := hA.f1
  have f2 := hA.f2
  have HF := Aside0.mk hA.fif
  obtain ⟨gf, hpv⟩ := hA.form
  subst hpv
  have HA := Aside0.mk hA
  have HX := Aside0.mk (ahead_held (q := q) c c2)
  have d1 : decide (id < 0) = false := decide_eq_false c
  have d2 : (h == id) = true := beq_iff_eq.mpr c2
  clear c c2
  rw [HX.out]
  clear hA
  go_enter Try.func11, Try.ntmps11
  go_wp2
  go_ret
  exact ⟨rfl, 0, rfl⟩

set_option maxHeartbeats 1000000 in
set_option maxRecDepth 100000 in
theorem ahead_i {w : World} {b : Nat} {ok : Nat → Prop} {most h : Int} {d : Bool} {q : List Int} {v : Value} (id : Int) (hM : sem.M w b ok (most, h, d, q) v) (c : ¬ id < 0) (c2 : ¬ h = id) (c3 : id ∈ q) :
    Calls Try.prog 11 #[v, .int .i64 id] w fun e w' => e = .returned (.int .i64 (aheadOf h q id)) ∧ ∃ nd, w' = w.drewN nd := by
  obtain ⟨g, pv, rfl, hA⟩ := hM
  have h0 := hA.c0
  have h1 := hA.c1
  have h2 := hA.c2
  have h3 := hA.c3
  have f1 := hA.f1
  have f2 := hA.f2
  have HF := Aside0.mk hA.fif
  obtain ⟨gf, hpv⟩ := hA.form
  subst hpv
  have HA := Aside0.mk hA
  have HX := Aside0.mk (ahead_in c c2 c3)
  have HP := Aside0.mk (placeOf_in c3)
  have HL := Aside0.mk (fifo_len hA.fif)
  have hq : q.idxOf id < q.length := List.idxOf_lt_length_of_mem c3
  have d1 : decide (id < 0) = false := decide_eq_false c
  have d2 : (h == id) = false := beq_eq_false_iff_ne.mpr c2
  clear c c2 c3
  rw [HX.out, HP.out]
  have hq2 : q.idxOf id < 256 := by have := HL.out; omega
  generalize q.idxOf id = p at HP hq2
  clear hA
  go_enter Try.func11, Try.ntmps11
  go_wp2_with (first | (go_at_call 22; (with_reducible refine (place_calls id HF.out).mono ?_); rintro e w3 ⟨rfl, ⟨nd, rfl⟩⟩; rw [HP.out]))
  go_ret
  exact ⟨rfl, nd, rfl⟩

set_option maxHeartbeats 1000000 in
set_option maxRecDepth 100000 in
theorem ahead_o {w : World} {b : Nat} {ok : Nat → Prop} {most h : Int} {d : Bool} {q : List Int} {v : Value} (id : Int) (hM : sem.M w b ok (most, h, d, q) v) (c : ¬ id < 0) (c2 : ¬ h = id) (c3 : id ∉ q) :
    Calls Try.prog 11 #[v, .int .i64 id] w fun e w' => e = .returned (.int .i64 (aheadOf h q id)) ∧ ∃ nd, w' = w.drewN nd := by
  obtain ⟨g, pv, rfl, hA⟩ := hM
  have h0 := hA.c0
  have h1 := hA.c1
  have h2 := hA.c2
  have h3 := hA.c3
  have f1 := hA.f1
  have f2 := hA.f2
  have HF := Aside0.mk hA.fif
  obtain ⟨gf, hpv⟩ := hA.form
  subst hpv
  have HA := Aside0.mk hA
  have HX := Aside0.mk (ahead_out c c2 c3)
  have HP := Aside0.mk (placeOf_lt c3)
  have d1 : decide (id < 0) = false := decide_eq_false c
  have d2 : (h == id) = false := beq_eq_false_iff_ne.mpr c2
  clear c c2 c3
  rw [HX.out]
  clear hA
  go_enter Try.func11, Try.ntmps11
  go_wp2_with (first | (go_at_call 22; (with_reducible refine (place_calls id HF.out).mono ?_); rintro e w3 ⟨rfl, ⟨nd, rfl⟩⟩; rw [HP.out]))
  go_ret
  exact ⟨rfl, nd, rfl⟩

theorem ahead_calls {w : World} {b : Nat} {ok : Nat → Prop} {most h : Int} {d : Bool} {q : List Int} {v : Value} (id : Int) (hM : sem.M w b ok (most, h, d, q) v) :
    Calls Try.prog 11 #[v, .int .i64 id] w fun e w' => e = .returned (.int .i64 (aheadOf h q id)) ∧ ∃ nd, w' = w.drewN nd := by
  by_cases c : id < 0
  · exact ahead_n id hM c
  · by_cases c2 : h = id
    · exact ahead_h id hM c c2
    · by_cases c3 : id ∈ q
      · exact ahead_i id hM c c2 c3
      · exact ahead_o id hM c c2 c3

set_option maxHeartbeats 1000000 in
set_option maxRecDepth 100000 in
theorem ask_neg {w : World} {b : Nat} {ok : Nat → Prop} {most h : Int} {d : Bool} {q : List Int} {v : Value} (id : Int) (hM : sem.M w b ok (most, h, d, q) v) (c : id < 0) :
    Calls Try.prog 9 #[v, .int .i64 id] w fun e w' => e = .returned (.tuple #[.bool false, .int .i64 1]) ∧ sem.M w' b (more w ok) (most, h, d, q) v ∧ Wrote w w' ok := by
  obtain ⟨g, pv, rfl, hA⟩ := hM
  have h0 := hA.c0
  have h1 := hA.c1
  have h2 := hA.c2
  have h3 := hA.c3
  have f1 := hA.f1
  have f2 := hA.f2
  have HF := Aside0.mk hA.fif
  obtain ⟨gf, hpv⟩ := hA.form
  subst hpv
  have HA := Aside0.mk hA
  have d1 : decide (id < 0) = true := decide_eq_true c
  clear c
  clear hA
  go_enter Try.func9, Try.ntmps9
  go_wp2
  go_ret2
  exact ⟨rfl, (HA.out.more w).toM, Wrote.refl _ _⟩

set_option maxHeartbeats 1000000 in
set_option maxRecDepth 100000 in
theorem ask_busy {w : World} {b : Nat} {ok : Nat → Prop} {most h : Int} {d : Bool} {q : List Int} {v : Value} (id : Int) (hM : sem.M w b ok (most, h, d, q) v) (c : ¬ id < 0) (c2 : 0 ≤ aheadOf h q id) :
    Calls Try.prog 9 #[v, .int .i64 id] w fun e w' => e = .returned (.tuple #[.bool false, .int .i64 5]) ∧ sem.M w' b (more w ok) (most, h, d, q) v ∧ Wrote w w' ok := by
  obtain ⟨g, pv, rfl, hA⟩ := hM
  have h0 := hA.c0
  have h1 := hA.c1
  have h2 := hA.c2
  have h3 := hA.c3
  have f1 := hA.f1
  have f2 := hA.f2
  have HF := Aside0.mk hA.fif
  obtain ⟨gf, hpv⟩ := hA.form
  subst hpv
  have HA := Aside0.mk hA
  have HM := Aside0.mk hA.toM
  have d1 : decide (id < 0) = false := decide_eq_false c
  clear c
  obtain ⟨p, hp⟩ : ∃ p, aheadOf h q id = p := ⟨_, rfl⟩
  have HX := Aside0.mk hp
  rw [hp] at c2
  have d2 : decide (0 ≤ p) = true := decide_eq_true c2
  clear hp c2
  clear hA
  go_enter Try.func9, Try.ntmps9
  go_wp2_with (first | (go_at_call 11; (with_reducible refine (ahead_calls id HM.out).mono ?_); rintro e w2 ⟨rfl, ⟨nd, rfl⟩⟩; rw [HX.out]))
  go_ret2
  exact ⟨rfl, ((HA.out.drewN nd).more w).toM, (Wrote.refl _ _).drewN nd⟩

set_option maxHeartbeats 1000000 in
set_option maxRecDepth 100000 in
theorem ask_take {w : World} {b : Nat} {ok : Nat → Prop} {most h : Int} {d : Bool} {q : List Int} {v : Value} (id : Int) (hM : sem.M w b ok (most, h, d, q) v) (c : ¬ id < 0) (c2 : aheadOf h q id = -1) (c3 : h = -1) :
    Calls Try.prog 9 #[v, .int .i64 id] w fun e w' => e = .returned (.tuple #[.bool true, .int .i64 0]) ∧ sem.M w' b (more w ok) (most, id, false, q) v ∧ Wrote w w' ok := by
  obtain ⟨g, pv, rfl, hA⟩ := hM
  have h0 := hA.c0
  have h1 := hA.c1
  have h2 := hA.c2
  have h3 := hA.c3
  have f1 := hA.f1
  have f2 := hA.f2
  have HF := Aside0.mk hA.fif
  obtain ⟨gf, hpv⟩ := hA.form
  subst hpv
  have HA := Aside0.mk hA
  have HM := Aside0.mk hA.toM
  have d1 : decide (id < 0) = false := decide_eq_false c
  clear c
  have HX := Aside0.mk c2
  subst c3
  clear c2
  clear hA
  go_enter Try.func9, Try.ntmps9
  go_wp2_with (first | (go_at_call 11; (with_reducible refine (ahead_calls id HM.out).mono ?_); rintro e w2 ⟨rfl, ⟨nd, rfl⟩⟩; rw [HX.out]))
  go_ret2
  exact ⟨rfl, ((((HA.out.drewN nd).set1 id).set2 false).more w).toM, (((Wrote.refl _ _).drewN nd).setCell (Or.inl HA.out.1) _).setCell (Or.inl HA.out.1) _⟩

set_option maxHeartbeats 1000000 in
set_option maxRecDepth 100000 in
theorem ask_full {w : World} {b : Nat} {ok : Nat → Prop} {most h : Int} {d : Bool} {q : List Int} {v : Value} (id : Int) (hM : sem.M w b ok (most, h, d, q) v) (c : ¬ id < 0) (c2 : aheadOf h q id = -1) (c3 : ¬ h = -1) (c4 : (q.length : Int) = 63) :
    Calls Try.prog 9 #[v, .int .i64 id] w fun e w' => e = .returned (.tuple #[.bool false, .int .i64 3]) ∧ sem.M w' b (more w ok) (most, h, d, q) v ∧ Wrote w w' ok := by
  obtain ⟨g, pv, rfl, hA⟩ := hM
  have h0 := hA.c0
  have h1 := hA.c1
  have h2 := hA.c2
  have h3 := hA.c3
  have f1 := hA.f1
  have f2 := hA.f2
  have HF := Aside0.mk hA.fif
  obtain ⟨gf, hpv⟩ := hA.form
  subst hpv
  have HA := Aside0.mk hA
  have HM := Aside0.mk hA.toM
  have d1 : decide (id < 0) = false := decide_eq_false c
  clear c
  have HX := Aside0.mk c2
  have d3 : (h == -1) = false := beq_eq_false_iff_ne.mpr c3
  clear c2 c3
  have HD := Aside0.mk (decide_eq_false (show ¬ (q.length : Int) ≠ 63 from fun hn => hn c4))
  have HP := Aside0.mk (putl_t (x := id) c4)
  clear c4
  clear hA
  go_enter Try.func9, Try.ntmps9
  go_wp2_with (first | (go_at_call 11; (with_reducible refine (ahead_calls id HM.out).mono ?_); rintro e w2 ⟨rfl, ⟨nd, rfl⟩⟩; rw [HX.out]) | (go_at_call 21; (with_reducible refine (put_calls id (fifo_drewN HF.out nd)).mono ?_); rintro e w3 ⟨rfl, hF3, hW3⟩; rw [HD.out]; have HF3 := Aside0.mk hF3; have HW3 := Aside0.mk hW3; clear hF3 hW3))
  go_ret2
  refine ⟨rfl, ?_, ((Wrote.refl w ok).drewN nd).trans HW3.out (fun k hk => Or.inl hk.1)⟩
  have hf := HF3.out
  rw [HP.out] at hf
  exact (HA.out.turn (fun k hk => Or.inl hk) (HW3.out.block g HA.out.2.2.1 (fun hk => hk.2 rfl)) (fifo.mono (fun k hk => hk.elim (fun h2 => ⟨Or.inl h2.1, h2.2⟩) (fun h2 => ⟨Or.inr h2, Nat.ne_of_gt (Nat.lt_of_lt_of_le HA.out.2.2.1 h2)⟩)) hf)).toM

set_option maxHeartbeats 1000000 in
set_option maxRecDepth 100000 in
theorem ask_wait {w : World} {b : Nat} {ok : Nat → Prop} {most h : Int} {d : Bool} {q : List Int} {v : Value} (id : Int) (hM : sem.M w b ok (most, h, d, q) v) (c : ¬ id < 0) (c2 : aheadOf h q id = -1) (c3 : ¬ h = -1) (c4 : ¬ (q.length : Int) = 63) :
    Calls Try.prog 9 #[v, .int .i64 id] w fun e w' => e = .returned (.tuple #[.bool false, .int .i64 0]) ∧ sem.M w' b (more w ok) (most, h, d, q ++ [id]) v ∧ Wrote w w' ok := by
  obtain ⟨g, pv, rfl, hA⟩ := hM
  have h0 := hA.c0
  have h1 := hA.c1
  have h2 := hA.c2
  have h3 := hA.c3
  have f1 := hA.f1
  have f2 := hA.f2
  have HF := Aside0.mk hA.fif
  obtain ⟨gf, hpv⟩ := hA.form
  subst hpv
  have HA := Aside0.mk hA
  have HM := Aside0.mk hA.toM
  have d1 : decide (id < 0) = false := decide_eq_false c
  clear c
  have HX := Aside0.mk c2
  have d3 : (h == -1) = false := beq_eq_false_iff_ne.mpr c3
  clear c2 c3
  have HD := Aside0.mk (decide_eq_true (show (q.length : Int) ≠ 63 from c4))
  have HP := Aside0.mk (putl_f (x := id) c4)
  clear c4
  clear hA
  go_enter Try.func9, Try.ntmps9
  go_wp2_with (first | (go_at_call 11; (with_reducible refine (ahead_calls id HM.out).mono ?_); rintro e w2 ⟨rfl, ⟨nd, rfl⟩⟩; rw [HX.out]) | (go_at_call 21; (with_reducible refine (put_calls id (fifo_drewN HF.out nd)).mono ?_); rintro e w3 ⟨rfl, hF3, hW3⟩; rw [HD.out]; have HF3 := Aside0.mk hF3; have HW3 := Aside0.mk hW3; clear hF3 hW3))
  go_ret2
  refine ⟨rfl, ?_, ((Wrote.refl w ok).drewN nd).trans HW3.out (fun k hk => Or.inl hk.1)⟩
  have hf := HF3.out
  rw [HP.out] at hf
  exact (HA.out.turn (fun k hk => Or.inl hk) (HW3.out.block g HA.out.2.2.1 (fun hk => hk.2 rfl)) (fifo.mono (fun k hk => hk.elim (fun h2 => ⟨Or.inl h2.1, h2.2⟩) (fun h2 => ⟨Or.inr h2, Nat.ne_of_gt (Nat.lt_of_lt_of_le HA.out.2.2.1 h2)⟩)) hf)).toM

end Go.Proofs.Ytnfpgdcnihbokaa.Sem
