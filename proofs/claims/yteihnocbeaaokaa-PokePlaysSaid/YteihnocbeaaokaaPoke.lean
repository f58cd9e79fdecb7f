/- The words that CPUs send each other (poke): what is held, and what its methods turn: is, may, Send, Read, See, Count (no law is stated here; each says its conditions). -/
import Derived.Test.YteihnocbeaaokaaSt
import Derived.Test.YteihnocbeaaokaaQx6
import Derived.Test.YteihnocbeaaokaaQx9
import Derived.Deep.QuietTactic
import Derived.BigQuiet
namespace Go.Proofs.Yteihnocbeaaokaa.Poke
open Go.RowKit Go.Proofs.YteihnocbeaaokaaW.PrintWords Go.Proofs.YteihnocbeaaokaaW.PrintLast Go.Proofs.YteihnocbeaaokaaW.PrintMore Go.Proofs.Yteihnocbeaaokaa.St Go.Proofs.Yteihnocbeaaokaa.Q
set_option linter.unusedVariables false
set_option linter.unusedSimpArgs false
attribute [local go_sem] max2_int min2_int max_two min_two max_three min_three max_four min_four

/-- A box's cells. -/
def cellsOf (x : S56) : List Value := [.int .i64 x.f0, .int .u64 x.f1, .int .i64 x.f2]
section
variable {W : World} {base g n cap : Nat} {ok : Nat → Prop} {xs : List S56}
theorem box_get (h : k56.R 56 W base ok (.slice (some ⟨g, 0, none⟩) n cap) xs) {j : Nat} (hj : j < n) :
    (W.cell? ⟨g, j * 3, none⟩ = some (.int .i64 (xs.getD j z56).f0) ∧ W.cell? ⟨g, j * 3 + 1, none⟩ = some (.int .u64 (xs.getD j z56).f1) ∧ W.cell? ⟨g, j * 3 + 2, none⟩ = some (.int .i64 (xs.getD j z56).f2)) ∧ W.frozen? ⟨g, j * 3, none⟩ = false ∧ W.frozen? ⟨g, j * 3 + 1, none⟩ = false ∧ W.frozen? ⟨g, j * 3 + 2, none⟩ = false := by
  obtain ⟨c, _, hM, hcell, hfr⟩ := Kd.R_elem h z56 (j : Int) (by omega) (by omega)
  rw [Int.toNat_natCast] at hM hcell hfr
  obtain rfl := k56_openM hM
  exact ⟨⟨hcell 0 _ rfl, hcell 1 _ rfl, hcell 2 _ rfl⟩, hfr 0, hfr 1, hfr 2⟩
theorem box_set (h : k56.R 56 W base ok (.slice (some ⟨g, 0, none⟩) n cap) xs) {j f : Nat} (hj : j < n) (hf : f < 3) (u : Value) (x' : S56) (hx : cellsOf x' = (cellsOf (xs.getD j z56)).set f u) :
    k56.R 56 (W.setCell ⟨g, j * 3 + f, none⟩ u) base ok (.slice (some ⟨g, 0, none⟩) n cap) (xs.set j x') ∧ W.grownBy (W.setCell ⟨g, j * 3 + f, none⟩ u) (some g) := by
  obtain ⟨c, hcl, hM, hcell, hfr⟩ := Kd.R_elem h z56 (j : Int) (by omega) (by omega)
  obtain rfl := k56_openM hM
  have hM2 : k56.M W base (fun _ => False) x' ([.int .i64 (xs.getD (j : Int).toNat z56).f0, .int .u64 (xs.getD (j : Int).toNat z56).f1, .int .i64 (xs.getD (j : Int).toNat z56).f2].take f ++ [u] ++ [.int .i64 (xs.getD (j : Int).toNat z56).f0, .int .u64 (xs.getD (j : Int).toNat z56).f1, .int .i64 (xs.getD (j : Int).toNat z56).f2].drop (f + 1)) := by
    rw [Int.toNat_natCast]
    have e : [.int .i64 (xs.getD j z56).f0, .int .u64 (xs.getD j z56).f1, .int .i64 (xs.getD j z56).f2].take f ++ [u] ++ [.int .i64 (xs.getD j z56).f0, .int .u64 (xs.getD j z56).f1, .int .i64 (xs.getD j z56).f2].drop (f + 1) = cellsOf x' := by
      rw [hx, cellsOf]
      have h3 : f = 0 ∨ f = 1 ∨ f = 2 := by omega
      rcases h3 with rfl | rfl | rfl <;> rfl
    rw [e]
    exact k56_mkM _ _ _ x'
  have h2 := Kd.R_seg h (j : Int) (by omega) (by omega) hcl hcell (seg := [u]) (j := f) (by show f + 1 ≤ 3; omega) hM2 (fun _ hk => hk.elim)
  rw [Int.toNat_natCast] at h2
  exact h2
end
/-- What the pokes' block holds. -/
def At (w : World) (b : Nat) (ok : Nat → Prop) (l : List S56) (g : Nat) (sv : Value) : Prop :=
  ok g ∧ b ≤ g ∧ g < w.heap.size ∧ w.heap[g]? = some (.cells #[sv] 51 (0, 0)) ∧ k56.R 56 w b (fun k => ok k ∧ k ≠ g) sv l ∧ 1 ≤ l.length ∧ l.length ≤ 64
def poke : St (List S56) where
  M := fun w b ok x v => ∃ g sv, v = .pointer (some ⟨g, 0, none⟩) ∧ At w b ok x g sv
  mono := fun h ⟨g, sv, e, h1, h2, h3, h4, h5, h6⟩ => ⟨g, sv, e, h _ h1, h2, h3, h4, Kd.R_mono h5 (fun k hk => ⟨h k hk.1, hk.2⟩), h6⟩
  move := fun h ⟨g, sv, e, h1, h2, h3, h4, h5, h6⟩ => ⟨g, sv, e, h1, h2, blk_lt ((h g h1).trans h4), (h g h1).trans h4, Kd.R_move h5 (fun k hk => h k hk.1), h6⟩
  bound := fun ⟨g, sv, e, h1, h2, h3, h4, h5, h6⟩ => ⟨g, sv, e, ⟨h1, h2, h3⟩, h2, h3, h4, Kd.R_mono (Kd.R_bound h5) (fun k hk => ⟨⟨hk.1.1, hk.2.1, hk.2.2.1⟩, hk.1.2⟩), h6⟩
section
variable {w w1 : World} {b : Nat} {ok : Nat → Prop} {l : List S56} {v sv : Value} {g : Nat}
theorem At.c0 (h : At w b ok l g sv) : w.cell? ⟨g, 0, none⟩ = some sv := blk_cell h.2.2.2.1 0
theorem At.row (h : At w b ok l g sv) : k56.R 56 w b (fun k => ok k ∧ k ≠ g) sv l := h.2.2.2.2.1
theorem At.toM (h : At w b ok l g sv) : poke.M w b ok l (.pointer (some ⟨g, 0, none⟩)) := ⟨g, sv, rfl, h⟩
theorem At.drewN (h : At w b ok l g sv) (n : Nat) : At (w.drewN n) b ok l g sv := ⟨h.1, h.2.1, h.2.2.1, h.2.2.2.1, Kd.R_drewN h.2.2.2.2.1 n, h.2.2.2.2.2⟩
theorem At.form (h : At w b ok l g sv) : ∃ g2 c, sv = .slice (some ⟨g2, 0, none⟩) l.length c ∧ ok g2 ∧ g2 ≠ g := by
  obtain ⟨g2, c, e, _⟩ := Kd.R_form h.row h.2.2.2.2.2.1
  subst e
  have := h.row.1 g2 rfl
  exact ⟨g2, c, rfl, this.1, this.2⟩
/-- A box's cell is written. -/
theorem At.put {g2 c j f : Nat} (h : At w b ok l g (.slice (some ⟨g2, 0, none⟩) l.length c)) (hj : j < l.length) (hf : f < 3) (u : Value) (x' : S56) (hx : cellsOf x' = (cellsOf (l.getD j z56)).set f u) :
    At (w.setCell ⟨g2, j * 3 + f, none⟩ u) b ok (l.set j x') g (.slice (some ⟨g2, 0, none⟩) (l.set j x').length c) := by
  have h2 := box_set h.row hj hf u x' hx
  have hne := (h.row.1 g2 rfl).2
  have hb := (Below.heap_setCell w ⟨g2, j * 3 + f, none⟩ u g (fun e => hne e.symm)).trans h.2.2.2.1
  exact ⟨h.1, h.2.1, blk_lt hb, by rw [List.length_set]; exact hb, by rw [List.length_set]; exact h2.1, by rw [List.length_set]; exact h.2.2.2.2.2.1, by rw [List.length_set]; exact h.2.2.2.2.2.2⟩
end
/-- Is there such a CPU? -/
def isv (l : List S56) (c : Int) : Bool := decide (0 ≤ c) && decide (c < (l.length : Int))
def mayv (l : List S56) (c what : Int) : Bool := isv l c && (decide (1 ≤ what) && decide (what ≤ 15))
set_option maxHeartbeats 1000000 in
set_option maxRecDepth 100000 in
theorem is_calls {w : World} {b : Nat} {ok : Nat → Prop} {l : List S56} {v : Value} (c : Int) (hM : poke.M w b ok l v) :
    Calls Try.prog 21 #[v, .int .i64 c] w fun e w' => e = .returned (.bool (isv l c)) ∧ w' = w := by
  obtain ⟨g, sv, rfl, hA⟩ := hM
  obtain ⟨g2, k, rfl, _⟩ := hA.form
  have h0 := hA.c0
  clear hA
  by_cases c1 : 0 ≤ c
  · have d1 : decide (0 ≤ c) = true := decide_eq_true c1
    have hv : isv l c = decide (c < (l.length : Int)) := by unfold isv; rw [d1]; rfl
    rw [hv]
    clear c1 hv
    go_enter Try.func21, Try.ntmps21
    go_wp2
    go_ret
    exact ⟨rfl, rfl⟩
  · have d1 : decide (0 ≤ c) = false := decide_eq_false c1
    have hv : isv l c = false := by unfold isv; rw [d1]; rfl
    rw [hv]
    clear c1 hv
    go_enter Try.func21, Try.ntmps21
    go_wp2
    go_ret
    exact ⟨rfl, rfl⟩

set_option maxHeartbeats 1000000 in
set_option maxRecDepth 100000 in
theorem may_calls {w : World} {b : Nat} {ok : Nat → Prop} {l : List S56} {v : Value} (c what : Int) (hM : poke.M w b ok l v) :
    Calls Try.prog 17 #[v, .int .i64 c, .int .i64 what] w fun e w' => e = .returned (.bool (mayv l c what)) ∧ w' = w := by
  have HM := Aside0.mk hM
  clear hM
  cases hi : isv l c with
  | false =>
    have hv : mayv l c what = false := by unfold mayv; rw [hi]; rfl
    rw [hv]
    have HI := Aside0.mk hi
    clear hi hv
    go_enter Try.func17, Try.ntmps17
    go_wp2_with (first | (go_at_call 21; (with_reducible refine (is_calls c HM.out).mono ?_); rintro e w3 ⟨rfl, rfl⟩; rw [HI.out]))
    go_ret
    exact ⟨rfl, rfl⟩
  | true =>
    have hv : mayv l c what = (decide (1 ≤ what) && decide (what ≤ 15)) := by unfold mayv; rw [hi]; rfl
    rw [hv]
    have HI := Aside0.mk hi
    clear hi hv
    by_cases c1 : 1 ≤ what
    · have d1 : decide (1 ≤ what) = true := decide_eq_true c1
      rw [d1, Bool.true_and]
      clear c1
      go_enter Try.func17, Try.ntmps17
      go_wp2_with (first | (go_at_call 21; (with_reducible refine (is_calls c HM.out).mono ?_); rintro e w3 ⟨rfl, rfl⟩; rw [HI.out]))
      go_ret
      exact ⟨rfl, rfl⟩
    · have d1 : decide (1 ≤ what) = false := decide_eq_false c1
      rw [d1, Bool.false_and]
      clear c1
      go_enter Try.func17, Try.ntmps17
      go_wp2_with (first | (go_at_call 21; (with_reducible refine (is_calls c HM.out).mono ?_); rintro e w3 ⟨rfl, rfl⟩; rw [HI.out]))
      go_ret
      exact ⟨rfl, rfl⟩
theorem isv_t {l : List S56} {c : Int} (h : isv l c = true) : ∃ j : Nat, c = (j : Int) ∧ j < l.length := by
  unfold isv at h
  rw [Bool.and_eq_true, decide_eq_true_eq, decide_eq_true_eq] at h
  exact ⟨c.toNat, by omega, by omega⟩

def seev (l : List S56) (c : Int) : Int := if isv l c = true then (l.getD c.toNat z56).f0 else 0
set_option maxHeartbeats 1000000 in
set_option maxRecDepth 100000 in
theorem see_calls {w : World} {b : Nat} {ok : Nat → Prop} {l : List S56} {v : Value} (c : Int) (hM : poke.M w b ok l v) :
    Calls Try.prog 16 #[v, .int .i64 c] w fun e w' => e = .returned (.int .i64 (seev l c)) ∧ w' = w := by
  have HM := Aside0.mk hM
  cases hi : isv l c with
  | false =>
    have hv : seev l c = 0 := if_neg (by rw [hi]; decide)
    rw [hv]
    have HI := Aside0.mk hi
    clear hi hv hM
    go_enter Try.func16, Try.ntmps16
    go_wp2_with (first | (go_at_call 21; (with_reducible refine (is_calls c HM.out).mono ?_); rintro e w3 ⟨rfl, rfl⟩; rw [HI.out]))
    go_ret
    exact ⟨rfl, rfl⟩
  | true =>
    have hv : seev l c = (l.getD c.toNat z56).f0 := if_pos hi
    rw [hv]
    have HI := Aside0.mk hi
    obtain ⟨j, rfl, hj⟩ := isv_t hi
    rw [Int.toNat_natCast]
    obtain ⟨g, sv, rfl, hA⟩ := hM
    obtain ⟨g2, k, rfl, _⟩ := hA.form
    have h0 := hA.c0
    obtain ⟨⟨q0, q1, q2⟩, _⟩ := box_get hA.row hj
    generalize l.getD j z56 = x at q0 q1 q2
    clear hi hv hA
    go_enter Try.func16, Try.ntmps16
    go_wp2_with (first | (go_at_call 21; (with_reducible refine (is_calls (j : Int) HM.out).mono ?_); rintro e w3 ⟨rfl, rfl⟩; rw [HI.out]))
    go_ret
    exact ⟨rfl, rfl⟩

def countv (l : List S56) (c : Int) : Int := if isv l c = true then (l.getD c.toNat z56).f2 else 0
set_option maxHeartbeats 1000000 in
set_option maxRecDepth 100000 in
theorem count_calls {w : World} {b : Nat} {ok : Nat → Prop} {l : List S56} {v : Value} (c : Int) (hM : poke.M w b ok l v) :
    Calls Try.prog 12 #[v, .int .i64 c] w fun e w' => e = .returned (.int .i64 (countv l c)) ∧ w' = w := by
  have HM := Aside0.mk hM
  cases hi : isv l c with
  | false =>
    have hv : countv l c = 0 := if_neg (by rw [hi]; decide)
    rw [hv]
    have HI := Aside0.mk hi
    clear hi hv hM
    go_enter Try.func12, Try.ntmps12
    go_wp2_with (first | (go_at_call 21; (with_reducible refine (is_calls c HM.out).mono ?_); rintro e w3 ⟨rfl, rfl⟩; rw [HI.out]))
    go_ret
    exact ⟨rfl, rfl⟩
  | true =>
    have hv : countv l c = (l.getD c.toNat z56).f2 := if_pos hi
    rw [hv]
    have HI := Aside0.mk hi
    obtain ⟨j, rfl, hj⟩ := isv_t hi
    rw [Int.toNat_natCast]
    obtain ⟨g, sv, rfl, hA⟩ := hM
    obtain ⟨g2, k, rfl, _⟩ := hA.form
    have h0 := hA.c0
    obtain ⟨⟨q0, q1, q2⟩, _⟩ := box_get hA.row hj
    generalize l.getD j z56 = x at q0 q1 q2
    clear hi hv hA
    go_enter Try.func12, Try.ntmps12
    go_wp2_with (first | (go_at_call 21; (with_reducible refine (is_calls (j : Int) HM.out).mono ?_); rintro e w3 ⟨rfl, rfl⟩; rw [HI.out]))
    go_ret
    exact ⟨rfl, rfl⟩

/-- Who has read has nothing left to read. -/
def readBox (x : S56) : S56 := ⟨0, 0, x.f2⟩
set_option maxHeartbeats 1000000 in
set_option maxRecDepth 100000 in
theorem read_bad {w : World} {b : Nat} {ok : Nat → Prop} {l : List S56} {v : Value} (c : Int) (hM : poke.M w b ok l v) (hi : isv l c = false) :
    Calls Try.prog 11 #[v, .int .i64 c] w fun e w' => e = .returned (.tuple #[.int .i64 0, .int .u64 0, .int .i64 1]) ∧ poke.M w' b ok l v ∧ Wrote w w' ok := by
  have HM := Aside0.mk hM
  have HI := Aside0.mk hi
  clear hi hM
  go_enter Try.func11, Try.ntmps11
  go_wp2_with (first | (go_at_call 21; (with_reducible refine (is_calls c HM.out).mono ?_); rintro e w3 ⟨rfl, rfl⟩; rw [HI.out]))
  go_ret3
  exact ⟨rfl, HM.out, Wrote.refl _ _⟩
set_option maxHeartbeats 1000000 in
set_option maxRecDepth 100000 in
theorem read_none {w : World} {b : Nat} {ok : Nat → Prop} {l : List S56} {v : Value} (j : Nat) (hM : poke.M w b ok l v) (hj : j < l.length) (hx : (l.getD j z56).f0 = 0) :
    Calls Try.prog 11 #[v, .int .i64 (j : Int)] w fun e w' => e = .returned (.tuple #[.int .i64 0, .int .u64 0, .int .i64 4]) ∧ poke.M w' b ok l v ∧ Wrote w w' ok := by
  have HM := Aside0.mk hM
  have HI := Aside0.mk (show isv l (j : Int) = true by unfold isv; rw [decide_eq_true (by omega), decide_eq_true (by omega)]; rfl)
  obtain ⟨g, sv, rfl, hA⟩ := hM
  obtain ⟨g2, k, rfl, _⟩ := hA.form
  have h0 := hA.c0
  obtain ⟨⟨q0, q1, q2⟩, _⟩ := box_get hA.row hj
  rw [hx] at q0
  clear hA
  go_enter Try.func11, Try.ntmps11
  go_wp2_with (first | (go_at_call 21; (with_reducible refine (is_calls (j : Int) HM.out).mono ?_); rintro e w3 ⟨rfl, rfl⟩; rw [HI.out]))
  go_ret3
  exact ⟨rfl, HM.out, Wrote.refl _ _⟩
set_option maxHeartbeats 1000000 in
set_option maxRecDepth 100000 in
theorem read_ok {w : World} {b : Nat} {ok : Nat → Prop} {l : List S56} {v : Value} (j : Nat) (hM : poke.M w b ok l v) (hj : j < l.length) (hx : (l.getD j z56).f0 ≠ 0) :
    Calls Try.prog 11 #[v, .int .i64 (j : Int)] w fun e w' => e = .returned (.tuple #[.int .i64 (l.getD j z56).f0, .int .u64 (l.getD j z56).f1, .int .i64 0]) ∧ poke.M w' b ok (l.set j (readBox (l.getD j z56))) v ∧ Wrote w w' ok := by
  have HM := Aside0.mk hM
  have HI := Aside0.mk (show isv l (j : Int) = true by unfold isv; rw [decide_eq_true (by omega), decide_eq_true (by omega)]; rfl)
  obtain ⟨g, sv, rfl, hA⟩ := hM
  obtain ⟨g2, k, rfl, hg2, hne⟩ := hA.form
  have h0 := hA.c0
  obtain ⟨⟨q0, q1, q2⟩, f0, f1, f2⟩ := box_get hA.row hj
  have HA := Aside0.mk hA
  have HRB := Aside0.mk (show readBox (l.getD j z56) = ⟨0, 0, (l.getD j z56).f2⟩ from rfl)
  generalize hxx : l.getD j z56 = x at *
  have d0 : (x.f0 == 0) = false := beq_eq_false_iff_ne.mpr hx
  clear hA hx
  go_enter Try.func11, Try.ntmps11
  go_wp2_with (first | (go_at_call 21; (with_reducible refine (is_calls (j : Int) HM.out).mono ?_); rintro e w3 ⟨rfl, rfl⟩; rw [HI.out]))
  go_quiet (fail)
  obtain ⟨w5, hw5⟩ : ∃ w5, w5 = w3.drewN nq := ⟨_, rfl⟩
  rw [← hw5]
  have hA5 : At w5 b ok l g (.slice (some ⟨g2, 0, none⟩) l.length k) := by rw [hw5]; exact HA.out.drewN nq
  have HW5 := Aside0.mk (show Wrote w3 w5 ok from by rw [hw5]; exact (Wrote.refl _ _).drewN nq)
  clear hw5 q0 q1 q2 f0 f1 f2 h0
  obtain ⟨⟨q0, q1, q2⟩, f0, f1, f2⟩ := box_get hA5.row hj
  rw [hxx] at q0 q1 q2
  have hp1 := hA5.put hj (f := 0) (by decide) (.int .i64 0) ⟨0, x.f1, x.f2⟩ (by rw [hxx]; rfl)
  have hgd : (l.set j ⟨0, x.f1, x.f2⟩).getD j z56 = ⟨0, x.f1, x.f2⟩ := by rw [List.getD_eq_getElem?_getD, List.getElem?_set_self hj]; rfl
  have hp2 := hp1.put (j := j) (f := 1) (by rw [List.length_set]; exact hj) (by decide) (.int .u64 0) ⟨0, 0, x.f2⟩ (by rw [hgd]; rfl)
  rw [List.set_set] at hp2
  have HP := Aside0.mk hp2
  clear hp1 hp2 hgd hA5
  go_wp2
  go_ret3
  exact ⟨rfl, HP.out.toM, (HW5.out.setCell (Or.inl hg2) _).setCell (Or.inl hg2) _⟩

/-- What one is told: the words together, by whom, how often rung. -/
def sendBox (x : S56) (what m' : Int) : S56 := ⟨Go.bits .or .i64 x.f0 what, m', if x.f0 = 0 then wrap64 (x.f2 + 1) else x.f2⟩
set_option maxHeartbeats 1000000 in
set_option maxRecDepth 100000 in
theorem send_bad {w : World} {b : Nat} {ok : Nat → Prop} {l : List S56} {v : Value} (c t what : Int) (hM : poke.M w b ok l v) (hi : mayv l c what = false ∨ isv l t = false) :
    Calls Try.prog 15 #[v, .int .i64 c, .int .i64 t, .int .i64 what] w fun e w' => e = .returned (.tuple #[.bool false, .int .i64 1]) ∧ poke.M w' b ok l v ∧ Wrote w w' ok := by
  have HM := Aside0.mk hM
  clear hM
  cases hm : mayv l c what with
  | false =>
    have HI := Aside0.mk hm
    clear hi hm
    go_enter Try.func15, Try.ntmps15
    go_wp2_with (first | (go_at_call 17; (with_reducible refine (may_calls c what HM.out).mono ?_); rintro e w3 ⟨rfl, rfl⟩; rw [HI.out]))
    go_ret2
    exact ⟨rfl, HM.out, Wrote.refl _ _⟩
  | true =>
    have HI := Aside0.mk hm
    have HJ := Aside0.mk (hi.resolve_left (by rw [hm]; decide))
    clear hi hm
    go_enter Try.func15, Try.ntmps15
    go_wp2_with (first | (go_at_call 17; (with_reducible refine (may_calls c what HM.out).mono ?_); rintro e w3 ⟨rfl, rfl⟩; rw [HI.out]) | (go_at_call 21; (with_reducible refine (is_calls t HM.out).mono ?_); rintro e w3 ⟨rfl, rfl⟩; rw [HJ.out]))
    go_ret2
    exact ⟨rfl, HM.out, Wrote.refl _ _⟩
set_option maxHeartbeats 2000000 in
set_option maxRecDepth 100000 in
theorem send_ok {w : World} {b : Nat} {ok : Nat → Prop} {l : List S56} {v : Value} (c : Int) (j : Nat) (what m' : Int) (hM : poke.M w b ok l v) (hm : mayv l c what = true) (hj : j < l.length) (hw : mask_Mask_With.f (l.getD j z56).f1 c = some m') :
    Calls Try.prog 15 #[v, .int .i64 c, .int .i64 (j : Int), .int .i64 what] w fun e w' => e = .returned (.tuple #[.bool ((l.getD j z56).f0 == 0), .int .i64 0]) ∧ poke.M w' b ok (l.set j (sendBox (l.getD j z56) what m')) v ∧ Wrote w w' ok := by
  have HM := Aside0.mk hM
  have HI := Aside0.mk hm
  have HJ := Aside0.mk (show isv l (j : Int) = true by unfold isv; rw [decide_eq_true (by omega), decide_eq_true (by omega)]; rfl)
  obtain ⟨g, sv, rfl, hA⟩ := hM
  obtain ⟨g2, k, rfl, hg2, hne⟩ := hA.form
  have h0 := hA.c0
  obtain ⟨⟨q0, q1, q2⟩, f0, f1, f2⟩ := box_get hA.row hj
  have HA := Aside0.mk hA
  have HWI := Aside0.mk hw
  generalize hxx : l.getD j z56 = x at q0 q1 q2 HWI
  clear hm hA hw
  have hset : ∀ y : S56, (l.set j y).getD j z56 = y := fun y => by rw [List.getD_eq_getElem?_getD, List.getElem?_set_self hj]; rfl
  have hlen : ∀ y : S56, j < (l.set j y).length := fun y => by rw [List.length_set]; exact hj
  by_cases hz : x.f0 = 0
  · have d0 : (x.f0 == 0) = true := beq_iff_eq.mpr hz
    have p1 := HA.out.put hj (f := 2) (by decide) (.int .i64 (wrap64 (x.f2 + 1))) ⟨x.f0, x.f1, wrap64 (x.f2 + 1)⟩ (by rw [hxx]; rfl)
    have p2 := p1.put (j := j) (f := 0) (hlen _) (by decide) (.int .i64 (Go.bits .or .i64 x.f0 what)) ⟨Go.bits .or .i64 x.f0 what, x.f1, wrap64 (x.f2 + 1)⟩ (by rw [hset]; rfl)
    rw [List.set_set] at p2
    have w2 := Aside0.mk (((Wrote.refl w ok).setCell (p := ⟨g2, j * 3 + 2, none⟩) (Or.inl hg2) (.int .i64 (wrap64 (x.f2 + 1)))).setCell (p := ⟨g2, j * 3 + 0, none⟩) (Or.inl hg2) (.int .i64 (Go.bits .or .i64 x.f0 what)))
    have HP1 := Aside0.mk p2
    have HSB := Aside0.mk (show sendBox x what m' = ⟨Go.bits .or .i64 x.f0 what, m', wrap64 (x.f2 + 1)⟩ by rw [sendBox, if_pos hz])
    clear p1 p2 hz
    rw [HSB.out]
    go_enter Try.func15, Try.ntmps15
    go_wp2_with (first | (go_at_call 17; (with_reducible refine (may_calls c what HM.out).mono ?_); rintro e w3 ⟨rfl, rfl⟩; rw [HI.out]) | (go_at_call 21; (with_reducible refine (is_calls (j : Int) HM.out).mono ?_); rintro e w3 ⟨rfl, rfl⟩; rw [HJ.out]) | (go_at_call 18; (with_reducible refine (mask_Mask_With.calls x.f1 c m' _ HWI.out).mono ?_); rintro e w5 ⟨rfl, hd5⟩; obtain ⟨nd5, hw5⟩ := hd5; have hA5 : At w5 b ok (l.set j ⟨Go.bits .or .i64 x.f0 what, x.f1, wrap64 (x.f2 + 1)⟩) g (.slice (some ⟨g2, 0, none⟩) (l.set j ⟨Go.bits .or .i64 x.f0 what, x.f1, wrap64 (x.f2 + 1)⟩).length k) := (by rw [hw5]; exact HP1.out.drewN nd5); have hq5 := box_get hA5.row (hlen _); have k1 := hq5.1.2.1; have k2 := hq5.2.2.1; rw [hset] at k1; have HA5 := Aside0.mk hA5; have HW5 := Aside0.mk (show Wrote _ w5 ok from by rw [hw5]; exact w2.out.drewN nd5); clear hA5 hq5 hw5))
    have p3 := HA5.out.put (j := j) (f := 1) (hlen _) (by decide) (.int .u64 m') ⟨Go.bits .or .i64 x.f0 what, m', wrap64 (x.f2 + 1)⟩ (by rw [hset]; rfl)
    rw [List.set_set] at p3
    go_ret2
    exact ⟨by rw [d0]; try rfl, p3.toM, HW5.out.setCell (Or.inl hg2) _⟩
  · have d0 : (x.f0 == 0) = false := beq_eq_false_iff_ne.mpr hz
    have p2 := HA.out.put (j := j) hj (f := 0) (by decide) (.int .i64 (Go.bits .or .i64 x.f0 what)) ⟨Go.bits .or .i64 x.f0 what, x.f1, x.f2⟩ (by rw [hxx]; rfl)
    have w2 := Aside0.mk ((Wrote.refl w ok).setCell (p := ⟨g2, j * 3 + 0, none⟩) (Or.inl hg2) (.int .i64 (Go.bits .or .i64 x.f0 what)))
    have HP1 := Aside0.mk p2
    have HSB := Aside0.mk (show sendBox x what m' = ⟨Go.bits .or .i64 x.f0 what, m', x.f2⟩ by rw [sendBox, if_neg hz])
    clear p2 hz
    rw [HSB.out]
    go_enter Try.func15, Try.ntmps15
    go_wp2_with (first | (go_at_call 17; (with_reducible refine (may_calls c what HM.out).mono ?_); rintro e w3 ⟨rfl, rfl⟩; rw [HI.out]) | (go_at_call 21; (with_reducible refine (is_calls (j : Int) HM.out).mono ?_); rintro e w3 ⟨rfl, rfl⟩; rw [HJ.out]) | (go_at_call 18; (with_reducible refine (mask_Mask_With.calls x.f1 c m' _ HWI.out).mono ?_); rintro e w5 ⟨rfl, hd5⟩; obtain ⟨nd5, hw5⟩ := hd5; have hA5 : At w5 b ok (l.set j ⟨Go.bits .or .i64 x.f0 what, x.f1, x.f2⟩) g (.slice (some ⟨g2, 0, none⟩) (l.set j ⟨Go.bits .or .i64 x.f0 what, x.f1, x.f2⟩).length k) := (by rw [hw5]; exact HP1.out.drewN nd5); have hq5 := box_get hA5.row (hlen _); have k1 := hq5.1.2.1; have k2 := hq5.2.2.1; rw [hset] at k1; have HA5 := Aside0.mk hA5; have HW5 := Aside0.mk (show Wrote _ w5 ok from by rw [hw5]; exact w2.out.drewN nd5); clear hA5 hq5 hw5))
    have p3 := HA5.out.put (j := j) (f := 1) (hlen _) (by decide) (.int .u64 m') ⟨Go.bits .or .i64 x.f0 what, m', x.f2⟩ (by rw [hset]; rfl)
    rw [List.set_set] at p3
    go_ret2
    exact ⟨by rw [d0]; try rfl, p3.toM, HW5.out.setCell (Or.inl hg2) _⟩
end Go.Proofs.Yteihnocbeaaokaa.Poke
