/- SemOne: whatever is done, at most one holds it, and who holds it does not wait (the walk; no condition). -/
import Derived.Test.YtnfpgdcnihbokaaAwakeS
namespace Go.Proofs.Ytnfpgdcnihbokaa.Sem
open Go.RowKit Go.Proofs.YtnfpgdcnihbokaaW.PrintWords Go.Proofs.YtnfpgdcnihbokaaW.PrintLast Go.Proofs.YtnfpgdcnihbokaaW.PrintMore Go.Proofs.Ytnfpgdcnihbokaa.St Go.Proofs.Ytnfpgdcnihbokaa.Q Go.Proofs.Ytnfpgdcnihbokaa.Fifo
set_option linter.unusedVariables false
set_option linter.unusedSimpArgs false
attribute [local go_sem] max2_int min2_int max_two min_two max_three min_three max_four min_four




theorem read_pair {w : World} {A : Option Addr} {l : List (Int × Int)} (h : (Kd.pair (Kd.int .i64) (Kd.int .i64)).C w A l.length l) {j : Nat} (hj : j < l.length) :
    ∃ ad, A = some ad ∧ w.cell? (ad.add (j * 2)) = some (.int .i64 (l.getD j (0, 0)).1) ∧ w.cell? ⟨(ad.add (j * 2)).block, (ad.add (j * 2)).off + 1, none⟩ = some (.int .i64 (l.getD j (0, 0)).2) := by
  obtain ⟨ad, c, e, _, hK, hc0⟩ := Kd.C_get h (0, 0) (j : Int) (by omega) (by omega)
  rw [Int.toNat_natCast] at hK hc0
  have hc : ∀ i u, c[i]? = some u → w.cell? (ad.add (j * 2 + i)) = some u := hc0
  obtain ⟨_, _, rfl, rfl, rfl⟩ := hK
  exact ⟨ad, e, hc 0 _ rfl, by rw [← add_field _ _ 1 (by omega)]; exact hc 1 _ rfl⟩
/-- At most one holds it; none of those that wait is there twice. -/
def Inv (h : Int) (d : Bool) (q : List Int) : Prop := -1 ≤ h ∧ q.Nodup ∧ h ∉ q ∧ (∀ x, x ∈ q → 0 ≤ x) ∧ (h = -1 → q = []) ∧ (d = true → h = -1)
theorem inv_ne {h : Int} {d : Bool} {q : List Int} (hI : Inv h d q) {n k : Nat} (hn : n < k) (hk : k < q.length) : ¬ q.getD n 0 = q.getD k 0 := by
  have h1 := List.pairwise_iff_getElem.1 hI.2.1 n k (by omega) hk hn
  rw [List.getD_eq_getElem?_getD, List.getD_eq_getElem?_getD, List.getElem?_eq_getElem hk, List.getElem?_eq_getElem (by omega : n < q.length)]
  exact h1
theorem inv_at {h : Int} {d : Bool} {q : List Int} (hI : Inv h d q) {k : Nat} (hk : k < q.length) : q.getD k 0 ≠ h ∧ aheadOf h q (q.getD k 0) = (k : Int) + 1 := by
  have hm : q.getD k 0 ∈ q := by rw [List.getD_eq_getElem?_getD, List.getElem?_eq_getElem hk]; exact List.getElem_mem hk
  have hne : q.getD k 0 ≠ h := fun e => hI.2.2.1 (e ▸ hm)
  refine ⟨hne, ?_⟩
  rw [ahead_in (by have := hI.2.2.2.1 _ hm; omega) (fun e => hne e.symm) hm, placeOf_in hm]
  have hi : q.idxOf (q.getD k 0) < q.length := List.idxOf_lt_length_of_mem hm
  have hg : q.getD (q.idxOf (q.getD k 0)) 0 = q.getD k 0 := by
    rw [List.getD_eq_getElem?_getD, List.getElem?_eq_getElem hi]
    exact List.getElem_idxOf hi
  have : q.idxOf (q.getD k 0) = k := by
    rcases Nat.lt_trichotomy (q.idxOf (q.getD k 0)) k with h1 | h1 | h1
    · exact absurd hg (inv_ne hI h1 hk)
    · exact h1
    · exact absurd hg.symm (inv_ne hI h1 hi)
  rw [this]
theorem inv_cases {h : Int} {d : Bool} {q : List Int} (hI : Inv h d q) : (h = -1 ∧ q = []) ∨ (decide (h < 0) = false ∧ d = false) := by
  by_cases c : h < 0
  · have h1 : h = -1 := by have := hI.1; omega
    exact Or.inl ⟨h1, hI.2.2.2.2.1 h1⟩
  · refine Or.inr ⟨decide_eq_false c, ?_⟩
    cases d with
    | false => rfl
    | true => have := hI.2.2.2.2.2 rfl; omega
theorem inv_tests {h : Int} {d : Bool} {q : List Int} (hI : Inv h d q) (hl : q.length ≤ 63) : (decide (h < 0) && decide (0 < q.length)) = false ∧ (d && decide (0 ≤ h)) = false ∧ decide (63 < q.length) = false := by
  refine ⟨?_, ?_, decide_eq_false (by omega)⟩
  · by_cases c : h < 0
    · have := hI.2.2.2.2.1 (by have := hI.1; omega)
      subst this
      simp
    · simp [c]
  · cases d with
    | false => rfl
    | true => have := hI.2.2.2.2.2 rfl; subst this; rfl
section
variable {w0 W : World} {c : Nat → Nat} {i : Nat} {most h : Int} {d : Bool} {q : List Int} {v : Value}
theorem inv_next (hI : Inv h d q) (h0 : 0 ≤ h) : Inv (nxt q) d q.tail ∧ Inv (nxt q) (nxt q == -1) q.tail := by
  have hd : d = false := by
    cases d with
    | false => rfl
    | true => have := hI.2.2.2.2.2 rfl; omega
  subst hd
  cases q with
  | nil => exact ⟨⟨by decide, by simp, by simp, fun x hx => (by cases hx), fun _ => rfl, fun hx => (by cases hx)⟩, ⟨by decide, by simp, by simp, fun x hx => (by cases hx), fun _ => rfl, fun _ => rfl⟩⟩
  | cons x t =>
    have hx := hI.2.2.2.1 x List.mem_cons_self
    have hn := List.nodup_cons.1 hI.2.1
    have e : (x == -1) = false := beq_eq_false_iff_ne.mpr (by omega)
    have a : Inv x false t := ⟨by omega, hn.2, hn.1, fun y hy => hI.2.2.2.1 y (List.mem_cons_of_mem _ hy), fun hh => by omega, fun hx => by cases hx⟩
    exact ⟨a, by show Inv x (x == -1) t; rw [e]; exact a⟩
theorem free_any (id : Int) (hI : Inv h d q) (hM : sem.M W w0.heap.size (fun k => c k = i) (most, h, d, q) v) :
    Calls Try.prog 13 #[v, .int .i64 id] W fun e w' => ∃ r, e = .returned r ∧ ∃ h' d' q' c', Inv h' d' q' ∧ sem.M w' w0.heap.size (fun k => c' k = i) (most, h', d', q') v ∧ Turned c c' i w0 W w' := by
  by_cases c1 : id < 0 ∨ h ≠ id
  · exact (toC hM (fun _ hk => Or.inl hk) (free_none id (St.mine (s := sem) hM) c1)).mono fun e w' ⟨he, c', h1, h2⟩ => ⟨_, he, _, _, _, c', hI, h1, h2⟩
  · have c2 : ¬ id < 0 := fun hh => c1 (Or.inl hh)
    have c3 : h = id := Classical.byContradiction (fun hh => c1 (Or.inr hh))
    exact (toC hM (fun _ hk => Or.inl hk) (free_ok id (St.mine (s := sem) hM) c2 c3)).mono fun e w' ⟨he, c', h1, h2⟩ => ⟨_, he, _, _, _, c', (inv_next hI (by omega)).1, h1, h2⟩
theorem throw_any (id : Int) (hI : Inv h d q) (hM : sem.M W w0.heap.size (fun k => c k = i) (most, h, d, q) v) :
    Calls Try.prog 12 #[v, .int .i64 id] W fun e w' => ∃ r, e = .returned r ∧ ∃ h' d' q' c', Inv h' d' q' ∧ sem.M w' w0.heap.size (fun k => c' k = i) (most, h', d', q') v ∧ Turned c c' i w0 W w' := by
  by_cases c1 : id < 0 ∨ h ≠ id
  · exact (toC hM (fun _ hk => Or.inl hk) (throw_none id (St.mine (s := sem) hM) c1)).mono fun e w' ⟨he, c', h1, h2⟩ => ⟨_, he, _, _, _, c', hI, h1, h2⟩
  · have c2 : ¬ id < 0 := fun hh => c1 (Or.inl hh)
    have c3 : h = id := Classical.byContradiction (fun hh => c1 (Or.inr hh))
    exact (toC hM (fun _ hk => Or.inl hk) (throw_ok id (St.mine (s := sem) hM) c2 c3)).mono fun e w' ⟨he, c', h1, h2⟩ => ⟨_, he, _, _, _, c', (inv_next hI (by omega)).2, h1, h2⟩
theorem ahead_cases (h : Int) (q : List Int) (id : Int) (c : ¬ id < 0) : 0 ≤ aheadOf h q id ∨ (aheadOf h q id = -1 ∧ ¬ h = id ∧ id ∉ q) := by
  by_cases c2 : h = id
  · exact Or.inl (by rw [ahead_held c c2]; omega)
  · by_cases c3 : id ∈ q
    · exact Or.inl (by rw [ahead_in c c2 c3, placeOf_in c3]; omega)
    · exact Or.inr ⟨ahead_out c c2 c3, c2, c3⟩
theorem ask_any (id : Int) (hI : Inv h d q) (hM : sem.M W w0.heap.size (fun k => c k = i) (most, h, d, q) v) :
    Calls Try.prog 9 #[v, .int .i64 id] W fun e w' => ∃ r, e = .returned r ∧ ∃ h' d' q' c', Inv h' d' q' ∧ sem.M w' w0.heap.size (fun k => c' k = i) (most, h', d', q') v ∧ Turned c c' i w0 W w' := by
  by_cases c1 : id < 0
  · exact (toC hM (fun _ hk => hk) (ask_neg id (St.mine (s := sem) hM) c1)).mono fun e w' ⟨he, c', h1, h2⟩ => ⟨_, he, _, _, _, c', hI, h1, h2⟩
  rcases ahead_cases h q id c1 with c2 | ⟨c2, c3, c4⟩
  · exact (toC hM (fun _ hk => hk) (ask_busy id (St.mine (s := sem) hM) c1 c2)).mono fun e w' ⟨he, c', h1, h2⟩ => ⟨_, he, _, _, _, c', hI, h1, h2⟩
  by_cases c5 : h = -1
  · have hq := hI.2.2.2.2.1 c5
    exact (toC hM (fun _ hk => hk) (ask_take id (St.mine (s := sem) hM) c1 c2 c5)).mono fun e w' ⟨he, c', h1, h2⟩ => ⟨_, he, _, _, _, c', ⟨by omega, hI.2.1, c4, hI.2.2.2.1, fun _ => hq, fun hx => by cases hx⟩, h1, h2⟩
  by_cases c6 : (q.length : Int) = 63
  · exact (toC hM (fun _ hk => hk) (ask_full id (St.mine (s := sem) hM) c1 c2 c5 c6)).mono fun e w' ⟨he, c', h1, h2⟩ => ⟨_, he, _, _, _, c', hI, h1, h2⟩
  · refine (toC hM (fun _ hk => hk) (ask_wait id (St.mine (s := sem) hM) c1 c2 c5 c6)).mono fun e w' ⟨he, c', h1, h2⟩ => ⟨_, he, _, _, _, c', ⟨hI.1, ?_, ?_, ?_, fun hh => absurd hh c5, hI.2.2.2.2.2⟩, h1, h2⟩
    · rw [List.nodup_append]
      exact ⟨hI.2.1, by simp, fun a ha b hb => by simp at hb; subst hb; exact fun e => c4 (e ▸ ha)⟩
    · rw [List.mem_append]
      rintro (hh | hh)
      · exact hI.2.2.1 hh
      · simp at hh; exact c3 hh
    · intro x hx
      rw [List.mem_append] at hx
      rcases hx with hx | hx
      · exact hI.2.2.2.1 x hx
      · simp at hx; omega
end
def RelO (w : World) (m : Nat) (vs i : Value) (wr : World) : Prop :=
  ∃ (j : Nat) (c : Nat → Nat) (h : Int) (d : Bool) (q : List Int), j ≤ m ∧ i = .int .i64 (j : Int) ∧ Inv h d q ∧ sem.M wr w.heap.size (fun k => c k = 0) (3, h, d, q) vs ∧ Below w.heap.size w wr
def RelI (w : World) (c : Nat → Nat) (h : Int) (d : Bool) (q : List Int) (vs vw i : Value) (wr : World) : Prop :=
  ∃ k : Nat, k ≤ q.length ∧ i = .int .i64 (k : Int) ∧ sem.M wr w.heap.size (fun k => c k = 0) (3, h, d, q) vs ∧ (Kd.int .i64).R 3 wr w.heap.size (fun _ => True) vw q ∧ Below w.heap.size w wr
def RelN (w : World) (c : Nat → Nat) (h : Int) (d : Bool) (q : List Int) (vs vw : Value) (k : Nat) (i : Value) (wr : World) : Prop :=
  ∃ n : Nat, n ≤ k ∧ i = .int .i64 (n : Int) ∧ sem.M wr w.heap.size (fun k => c k = 0) (3, h, d, q) vs ∧ (Kd.int .i64).R 3 wr w.heap.size (fun _ => True) vw q ∧ Below w.heap.size w wr
set_option maxHeartbeats 4000000 in
set_option maxRecDepth 100000 in
theorem one_walk (A : Option Addr) (cap : Nat) (l : List (Int × Int)) {good : Int × Int → Prop} {w : World} (hr : (Kd.pair (Kd.int .i64) (Kd.int .i64)).C w A l.length l) (hc : l.length ≤ cap) (hg : ∀ a ∈ l, good a) (_ : World) :
    Calls Try.prog 6 #[.slice A l.length cap] w fun e w' => e = .returned (.bool true) ∧ Below w.heap.size w w' := by
  have HC := Aside0.mk hr
  clear hr hg
  by_cases hl : l.length ≤ 150
  · have d1 : decide (150 < l.length) = false := decide_eq_false (by omega)
    go_enter Try.func6, Try.ntmps6
    go_wp2_with (first | (go_at_call 7; (with_reducible refine (awake_calls _).mono ?_); rintro e w1 ⟨rfl, hb1⟩; have HB1 := Aside0.mk hb1; clear hb1) | (go_at_call 8; (with_reducible refine (newC (w0 := w) (fun _ => 9) 0 3 (by decide) (by decide) HB1.out).mono ?_); rintro e w2 ⟨g2, rfl, c2, h2, t2⟩; have H2 := Aside0.mk h2; have HB2 := Aside0.mk (t2.far HB1.out); clear h2 t2))
    generalize hvs : (Value.pointer (some ⟨g2, 0, none⟩)) = vs at H2 ⊢
    go_loopw [5] (fun i wr => RelO w l.length vs i wr) (fun i _ => l.length - (intOf i).toNat)
    case atStart => exact ⟨0, c2, -1, false, [], Nat.zero_le _, rfl, ⟨by decide, by simp, by simp, fun x hx => (by cases hx), fun _ => rfl, fun hx => (by cases hx)⟩, H2.out, HB2.out⟩
    case round =>
      obtain ⟨j, c3, h, d, q, hj, rfl, hI, hS, hB⟩ := hrel
      have HS := Aside0.mk hS
      have HB := Aside0.mk hB
      have HI := Aside0.mk hI
      clear hS hB hI H2 HB1 HB2
      by_cases hlt : j < l.length
      · obtain ⟨ad, hA, hcell, hcell2⟩ := read_pair (Kd.C_below HC.out HB.out) hlt
        subst hA
        generalize l.getD j (0, 0) = x at hcell hcell2
        by_cases o0 : x.1 = 0
        · have q0 : (x.1 == 0) = true := beq_iff_eq.mpr o0
          go_wp2_with (first | (go_at_call 14; (with_reducible refine (waits_calls HS3.out).mono ?_); rintro e w5 ⟨v5, rfl, hR, hb⟩; obtain ⟨A5, k5, rfl⟩ := Kd.R_slice hR; have HR5 := Aside0.mk (Kd.R_mono (ok' := fun _ => True) (Kd.R_lower hR HB3.out.size) (fun _ _ => trivial)); have HS5 := Aside0.mk (St.below (s := sem) HS3.out hb); have HB5 := Aside0.mk (HB3.out.trans (hb.mono HB3.out.size)); clear hR hb) | (go_at_call 10; (with_reducible refine (holder_calls HS5.out).mono ?_); rintro e wz ⟨rfl, rfl⟩) | (go_at_call 15; (with_reducible refine (dead_calls HS5.out).mono ?_); rintro e wz ⟨rfl, rfl⟩) | (go_at_call 9; (with_reducible refine (ask_any x.2 HI.out HS.out).mono ?_); rintro e w3 ⟨r3, rfl, h', d', q', c4, hI', h3, t3⟩; have HI3 := Aside0.mk hI'; have HS3 := Aside0.mk h3; have HB3 := Aside0.mk (t3.far HB.out); have HL3 := Aside0.mk (sem_len h3); have HG3 := Aside0.mk (inv_tests hI' (sem_len h3)); have hcs := inv_cases hI'; have z3 := (inv_tests hI' (sem_len h3)).2.2; have z4 : (63 < (q'.length : Int)) = False := eq_false (by have := sem_len h3; omega); clear hI' h3 t3 HG3; rcases hcs with ⟨rfl, rfl⟩ | ⟨z1, rfl⟩))
          · clear z3 z4
            go_loopw [8] (fun i wr => RelI w c4 (-1) d' [] vs (.slice A5 0 k5) i wr) (fun i _ => 0 - (intOf i).toNat)
            case atStart => exact ⟨0, Nat.zero_le _, rfl, HS5.out, HR5.out, HB5.out⟩
            case round =>
              obtain ⟨k, hk, rfl, hS6, hR6, hB6⟩ := hrel
              clear HS5 HR5 HB5
              have HS6 := Aside0.mk hS6
              have HR6 := Aside0.mk hR6
              have HB6 := Aside0.mk hB6
              clear hS6 hR6 hB6
              have hk0 : k = 0 := Nat.le_zero.1 hk
              subst hk0
              go_wp2
              exact ⟨⟨j + 1, c4, -1, d', [], by omega, by go_num, HI3.out, HS6.out, HB6.out⟩, by simp [intOf]; omega⟩
          · clear z3 z4
            go_loopw [8] (fun i wr => RelI w c4 (-1) d' [] vs (.slice A5 0 k5) i wr) (fun i _ => 0 - (intOf i).toNat)
            case atStart => exact ⟨0, Nat.zero_le _, rfl, HS5.out, HR5.out, HB5.out⟩
            case round =>
              obtain ⟨k, hk, rfl, hS6, hR6, hB6⟩ := hrel
              clear HS5 HR5 HB5
              have HS6 := Aside0.mk hS6
              have HR6 := Aside0.mk hR6
              have HB6 := Aside0.mk hB6
              clear hS6 hR6 hB6
              have hk0 : k = 0 := Nat.le_zero.1 hk
              subst hk0
              go_wp2
              exact ⟨⟨j + 1, c4, -1, d', [], by omega, by go_num, HI3.out, HS6.out, HB6.out⟩, by simp [intOf]; omega⟩
          · clear z1 z3 z4
            go_loopw [8] (fun i wr => RelI w c4 h' false q' vs (.slice A5 q'.length k5) i wr) (fun i _ => q'.length - (intOf i).toNat)
            case atStart => exact ⟨0, Nat.zero_le _, rfl, HS5.out, HR5.out, HB5.out⟩
            case round =>
              obtain ⟨k, hk, rfl, hS6, hR6, hB6⟩ := hrel
              clear HS5 HR5 HB5
              have HS6 := Aside0.mk hS6
              have HR6 := Aside0.mk hR6
              have HB6 := Aside0.mk hB6
              clear hS6 hR6 hB6
              have hl3 := HL3.out
              by_cases hkl : k < q'.length
              · obtain ⟨ad6, hA6, hcell6⟩ := Mine.read_at (Kd.R_reads' HR6.out).2.2 hkl
                subst hA6
                have HX := Aside0.mk (inv_at HI3.out hkl)
                have hy : q'.getD k 0 = q'.getD k 0 := rfl
                generalize hx6 : q'.getD k 0 = y at hcell6 HX
                clear hy
                have HY := Aside0.mk hx6
                clear hx6
                have e1 : (y == h') = false := beq_eq_false_iff_ne.mpr HX.out.1
                have e2 : (((k : Int) + 1) != wrap64 ((k : Int) + 1)) = false := by rw [show wrap64 ((k : Int) + 1) = (k : Int) + 1 by have := HL3.out; unfold wrap64; omega]; simp
                have e3 : (((k : Int) + 1) != ((k : Int) + 1)) = false := by simp
                go_wp2_with (first | (go_at_call 11; (with_reducible refine (ahead_calls y HS6.out).mono ?_); rintro e w7 ⟨rfl, nd7, hw7⟩; rw [HX.out.2]; have HS7 := Aside0.mk (show sem.M w7 w.heap.size (fun k => c4 k = 0) (3, h', false, q') vs from by rw [hw7]; exact St.drewN (s := sem) HS6.out nd7); have HR7 := Aside0.mk (show (Kd.int .i64).R 3 w7 w.heap.size (fun _ => True) (.slice (some ad6) q'.length k5) q' from by rw [hw7]; exact Kd.R_drewN HR6.out nd7); have HB7 := Aside0.mk (show Below w.heap.size w w7 from by rw [hw7]; exact pw_below_drewN HB6.out nd7); clear hw7))
                clear e1 e2 e3 hcell6
                go_loopw [9] (fun i wr => RelN w c4 h' false q' vs (.slice (some ad6) q'.length k5) k i wr) (fun i _ => k - (intOf i).toNat)
                case atStart => exact ⟨0, Nat.zero_le _, rfl, HS7.out, HR7.out, HB7.out⟩
                case round =>
                  obtain ⟨n, hn, rfl, hS8, hR8, hB8⟩ := hrel
                  clear HS7 HR7 HB7
                  have HS8 := Aside0.mk hS8
                  have HR8 := Aside0.mk hR8
                  have HB8 := Aside0.mk hB8
                  clear hS8 hR8 hB8
                  by_cases hnk : n < k
                  · obtain ⟨ad8, hA8, hcell8⟩ := Mine.read_at (Kd.R_reads' HR8.out).2.2 hkl
                    obtain ⟨ad9, hA9, hcell9⟩ := Mine.read_at (Kd.R_reads' HR8.out).2.2 (Nat.lt_trans hnk hkl)
                    cases hA8
                    cases hA9
                    rw [HY.out] at hcell8
                    have hne : ¬ q'.getD n 0 = y := by rw [← HY.out]; exact inv_ne HI3.out hnk hkl
                    generalize q'.getD n 0 = x9 at hcell9 hne
                    have e1 : (x9 == y) = false := beq_eq_false_iff_ne.mpr hne
                    have g1 : (n : Int) < (q'.length : Int) := by omega
                    have g2 : (k : Int) < (q'.length : Int) := by omega
                    go_wp2
                    go_quiet (fail)
                    go_wp2
                    exact ⟨⟨n + 1, by omega, by go_num, St.drewN (s := sem) HS8.out _, Kd.R_drewN HR8.out _, pw_below_drewN HB8.out _⟩, by simp [intOf]; omega⟩
                  · go_wp2
                    exact ⟨⟨k + 1, by omega, by go_num, HS8.out, HR8.out, HB8.out⟩, by simp [intOf]; omega⟩
              · go_wp2
                exact ⟨⟨j + 1, c4, h', false, q', by omega, by go_num, HI3.out, HS6.out, HB6.out⟩, by simp [intOf]; omega⟩
        by_cases o1 : x.1 = 1
        · have q0 : (x.1 == 0) = false := beq_eq_false_iff_ne.mpr o0
          have q1 : (x.1 == 1) = true := beq_iff_eq.mpr o1
          go_wp2_with (first | (go_at_call 14; (with_reducible refine (waits_calls HS3.out).mono ?_); rintro e w5 ⟨v5, rfl, hR, hb⟩; obtain ⟨A5, k5, rfl⟩ := Kd.R_slice hR; have HR5 := Aside0.mk (Kd.R_mono (ok' := fun _ => True) (Kd.R_lower hR HB3.out.size) (fun _ _ => trivial)); have HS5 := Aside0.mk (St.below (s := sem) HS3.out hb); have HB5 := Aside0.mk (HB3.out.trans (hb.mono HB3.out.size)); clear hR hb) | (go_at_call 10; (with_reducible refine (holder_calls HS5.out).mono ?_); rintro e wz ⟨rfl, rfl⟩) | (go_at_call 15; (with_reducible refine (dead_calls HS5.out).mono ?_); rintro e wz ⟨rfl, rfl⟩) | (go_at_call 13; (with_reducible refine (free_any x.2 HI.out HS.out).mono ?_); rintro e w3 ⟨r3, rfl, h', d', q', c4, hI', h3, t3⟩; have HI3 := Aside0.mk hI'; have HS3 := Aside0.mk h3; have HB3 := Aside0.mk (t3.far HB.out); have HL3 := Aside0.mk (sem_len h3); have HG3 := Aside0.mk (inv_tests hI' (sem_len h3)); have hcs := inv_cases hI'; have z3 := (inv_tests hI' (sem_len h3)).2.2; have z4 : (63 < (q'.length : Int)) = False := eq_false (by have := sem_len h3; omega); clear hI' h3 t3 HG3; rcases hcs with ⟨rfl, rfl⟩ | ⟨z1, rfl⟩))
          · clear z3 z4
            go_loopw [8] (fun i wr => RelI w c4 (-1) d' [] vs (.slice A5 0 k5) i wr) (fun i _ => 0 - (intOf i).toNat)
            case atStart => exact ⟨0, Nat.zero_le _, rfl, HS5.out, HR5.out, HB5.out⟩
            case round =>
              obtain ⟨k, hk, rfl, hS6, hR6, hB6⟩ := hrel
              clear HS5 HR5 HB5
              have HS6 := Aside0.mk hS6
              have HR6 := Aside0.mk hR6
              have HB6 := Aside0.mk hB6
              clear hS6 hR6 hB6
              have hk0 : k = 0 := Nat.le_zero.1 hk
              subst hk0
              go_wp2
              exact ⟨⟨j + 1, c4, -1, d', [], by omega, by go_num, HI3.out, HS6.out, HB6.out⟩, by simp [intOf]; omega⟩
          · clear z3 z4
            go_loopw [8] (fun i wr => RelI w c4 (-1) d' [] vs (.slice A5 0 k5) i wr) (fun i _ => 0 - (intOf i).toNat)
            case atStart => exact ⟨0, Nat.zero_le _, rfl, HS5.out, HR5.out, HB5.out⟩
            case round =>
              obtain ⟨k, hk, rfl, hS6, hR6, hB6⟩ := hrel
              clear HS5 HR5 HB5
              have HS6 := Aside0.mk hS6
              have HR6 := Aside0.mk hR6
              have HB6 := Aside0.mk hB6
              clear hS6 hR6 hB6
              have hk0 : k = 0 := Nat.le_zero.1 hk
              subst hk0
              go_wp2
              exact ⟨⟨j + 1, c4, -1, d', [], by omega, by go_num, HI3.out, HS6.out, HB6.out⟩, by simp [intOf]; omega⟩
          · clear z1 z3 z4
            go_loopw [8] (fun i wr => RelI w c4 h' false q' vs (.slice A5 q'.length k5) i wr) (fun i _ => q'.length - (intOf i).toNat)
            case atStart => exact ⟨0, Nat.zero_le _, rfl, HS5.out, HR5.out, HB5.out⟩
            case round =>
              obtain ⟨k, hk, rfl, hS6, hR6, hB6⟩ := hrel
              clear HS5 HR5 HB5
              have HS6 := Aside0.mk hS6
              have HR6 := Aside0.mk hR6
              have HB6 := Aside0.mk hB6
              clear hS6 hR6 hB6
              have hl3 := HL3.out
              by_cases hkl : k < q'.length
              · obtain ⟨ad6, hA6, hcell6⟩ := Mine.read_at (Kd.R_reads' HR6.out).2.2 hkl
                subst hA6
                have HX := Aside0.mk (inv_at HI3.out hkl)
                have hy : q'.getD k 0 = q'.getD k 0 := rfl
                generalize hx6 : q'.getD k 0 = y at hcell6 HX
                clear hy
                have HY := Aside0.mk hx6
                clear hx6
                have e1 : (y == h') = false := beq_eq_false_iff_ne.mpr HX.out.1
                have e2 : (((k : Int) + 1) != wrap64 ((k : Int) + 1)) = false := by rw [show wrap64 ((k : Int) + 1) = (k : Int) + 1 by have := HL3.out; unfold wrap64; omega]; simp
                have e3 : (((k : Int) + 1) != ((k : Int) + 1)) = false := by simp
                go_wp2_with (first | (go_at_call 11; (with_reducible refine (ahead_calls y HS6.out).mono ?_); rintro e w7 ⟨rfl, nd7, hw7⟩; rw [HX.out.2]; have HS7 := Aside0.mk (show sem.M w7 w.heap.size (fun k => c4 k = 0) (3, h', false, q') vs from by rw [hw7]; exact St.drewN (s := sem) HS6.out nd7); have HR7 := Aside0.mk (show (Kd.int .i64).R 3 w7 w.heap.size (fun _ => True) (.slice (some ad6) q'.length k5) q' from by rw [hw7]; exact Kd.R_drewN HR6.out nd7); have HB7 := Aside0.mk (show Below w.heap.size w w7 from by rw [hw7]; exact pw_below_drewN HB6.out nd7); clear hw7))
                clear e1 e2 e3 hcell6
                go_loopw [9] (fun i wr => RelN w c4 h' false q' vs (.slice (some ad6) q'.length k5) k i wr) (fun i _ => k - (intOf i).toNat)
                case atStart => exact ⟨0, Nat.zero_le _, rfl, HS7.out, HR7.out, HB7.out⟩
                case round =>
                  obtain ⟨n, hn, rfl, hS8, hR8, hB8⟩ := hrel
                  clear HS7 HR7 HB7
                  have HS8 := Aside0.mk hS8
                  have HR8 := Aside0.mk hR8
                  have HB8 := Aside0.mk hB8
                  clear hS8 hR8 hB8
                  by_cases hnk : n < k
                  · obtain ⟨ad8, hA8, hcell8⟩ := Mine.read_at (Kd.R_reads' HR8.out).2.2 hkl
                    obtain ⟨ad9, hA9, hcell9⟩ := Mine.read_at (Kd.R_reads' HR8.out).2.2 (Nat.lt_trans hnk hkl)
                    cases hA8
                    cases hA9
                    rw [HY.out] at hcell8
                    have hne : ¬ q'.getD n 0 = y := by rw [← HY.out]; exact inv_ne HI3.out hnk hkl
                    generalize q'.getD n 0 = x9 at hcell9 hne
                    have e1 : (x9 == y) = false := beq_eq_false_iff_ne.mpr hne
                    have g1 : (n : Int) < (q'.length : Int) := by omega
                    have g2 : (k : Int) < (q'.length : Int) := by omega
                    go_wp2
                    go_quiet (fail)
                    go_wp2
                    exact ⟨⟨n + 1, by omega, by go_num, St.drewN (s := sem) HS8.out _, Kd.R_drewN HR8.out _, pw_below_drewN HB8.out _⟩, by simp [intOf]; omega⟩
                  · go_wp2
                    exact ⟨⟨k + 1, by omega, by go_num, HS8.out, HR8.out, HB8.out⟩, by simp [intOf]; omega⟩
              · go_wp2
                exact ⟨⟨j + 1, c4, h', false, q', by omega, by go_num, HI3.out, HS6.out, HB6.out⟩, by simp [intOf]; omega⟩
        have q0 : (x.1 == 0) = false := beq_eq_false_iff_ne.mpr o0
        have q1 : (x.1 == 1) = false := beq_eq_false_iff_ne.mpr o1
        go_wp2_with (first | (go_at_call 14; (with_reducible refine (waits_calls HS3.out).mono ?_); rintro e w5 ⟨v5, rfl, hR, hb⟩; obtain ⟨A5, k5, rfl⟩ := Kd.R_slice hR; have HR5 := Aside0.mk (Kd.R_mono (ok' := fun _ => True) (Kd.R_lower hR HB3.out.size) (fun _ _ => trivial)); have HS5 := Aside0.mk (St.below (s := sem) HS3.out hb); have HB5 := Aside0.mk (HB3.out.trans (hb.mono HB3.out.size)); clear hR hb) | (go_at_call 10; (with_reducible refine (holder_calls HS5.out).mono ?_); rintro e wz ⟨rfl, rfl⟩) | (go_at_call 15; (with_reducible refine (dead_calls HS5.out).mono ?_); rintro e wz ⟨rfl, rfl⟩) | (go_at_call 12; (with_reducible refine (throw_any x.2 HI.out HS.out).mono ?_); rintro e w3 ⟨r3, rfl, h', d', q', c4, hI', h3, t3⟩; have HI3 := Aside0.mk hI'; have HS3 := Aside0.mk h3; have HB3 := Aside0.mk (t3.far HB.out); have HL3 := Aside0.mk (sem_len h3); have HG3 := Aside0.mk (inv_tests hI' (sem_len h3)); have hcs := inv_cases hI'; have z3 := (inv_tests hI' (sem_len h3)).2.2; have z4 : (63 < (q'.length : Int)) = False := eq_false (by have := sem_len h3; omega); clear hI' h3 t3 HG3; rcases hcs with ⟨rfl, rfl⟩ | ⟨z1, rfl⟩))
        · clear z3 z4
          go_loopw [8] (fun i wr => RelI w c4 (-1) d' [] vs (.slice A5 0 k5) i wr) (fun i _ => 0 - (intOf i).toNat)
          case atStart => exact ⟨0, Nat.zero_le _, rfl, HS5.out, HR5.out, HB5.out⟩
          case round =>
            obtain ⟨k, hk, rfl, hS6, hR6, hB6⟩ := hrel
            clear HS5 HR5 HB5
            have HS6 := Aside0.mk hS6
            have HR6 := Aside0.mk hR6
            have HB6 := Aside0.mk hB6
            clear hS6 hR6 hB6
            have hk0 : k = 0 := Nat.le_zero.1 hk
            subst hk0
            go_wp2
            exact ⟨⟨j + 1, c4, -1, d', [], by omega, by go_num, HI3.out, HS6.out, HB6.out⟩, by simp [intOf]; omega⟩
        · clear z3 z4
          go_loopw [8] (fun i wr => RelI w c4 (-1) d' [] vs (.slice A5 0 k5) i wr) (fun i _ => 0 - (intOf i).toNat)
          case atStart => exact ⟨0, Nat.zero_le _, rfl, HS5.out, HR5.out, HB5.out⟩
          case round =>
            obtain ⟨k, hk, rfl, hS6, hR6, hB6⟩ := hrel
            clear HS5 HR5 HB5
            have HS6 := Aside0.mk hS6
            have HR6 := Aside0.mk hR6
            have HB6 := Aside0.mk hB6
            clear hS6 hR6 hB6
            have hk0 : k = 0 := Nat.le_zero.1 hk
            subst hk0
            go_wp2
            exact ⟨⟨j + 1, c4, -1, d', [], by omega, by go_num, HI3.out, HS6.out, HB6.out⟩, by simp [intOf]; omega⟩
        · clear z1 z3 z4
          go_loopw [8] (fun i wr => RelI w c4 h' false q' vs (.slice A5 q'.length k5) i wr) (fun i _ => q'.length - (intOf i).toNat)
          case atStart => exact ⟨0, Nat.zero_le _, rfl, HS5.out, HR5.out, HB5.out⟩
          case round =>
            obtain ⟨k, hk, rfl, hS6, hR6, hB6⟩ := hrel
            clear HS5 HR5 HB5
            have HS6 := Aside0.mk hS6
            have HR6 := Aside0.mk hR6
            have HB6 := Aside0.mk hB6
            clear hS6 hR6 hB6
            have hl3 := HL3.out
            by_cases hkl : k < q'.length
            · obtain ⟨ad6, hA6, hcell6⟩ := Mine.read_at (Kd.R_reads' HR6.out).2.2 hkl
              subst hA6
              have HX := Aside0.mk (inv_at HI3.out hkl)
              have hy : q'.getD k 0 = q'.getD k 0 := rfl
              generalize hx6 : q'.getD k 0 = y at hcell6 HX
              clear hy
              have HY := Aside0.mk hx6
              clear hx6
              have e1 : (y == h') = false := beq_eq_false_iff_ne.mpr HX.out.1
              have e2 : (((k : Int) + 1) != wrap64 ((k : Int) + 1)) = false := by rw [show wrap64 ((k : Int) + 1) = (k : Int) + 1 by have := HL3.out; unfold wrap64; omega]; simp
              have e3 : (((k : Int) + 1) != ((k : Int) + 1)) = false := by simp
              go_wp2_with (first | (go_at_call 11; (with_reducible refine (ahead_calls y HS6.out).mono ?_); rintro e w7 ⟨rfl, nd7, hw7⟩; rw [HX.out.2]; have HS7 := Aside0.mk (show sem.M w7 w.heap.size (fun k => c4 k = 0) (3, h', false, q') vs from by rw [hw7]; exact St.drewN (s := sem) HS6.out nd7); have HR7 := Aside0.mk (show (Kd.int .i64).R 3 w7 w.heap.size (fun _ => True) (.slice (some ad6) q'.length k5) q' from by rw [hw7]; exact Kd.R_drewN HR6.out nd7); have HB7 := Aside0.mk (show Below w.heap.size w w7 from by rw [hw7]; exact pw_below_drewN HB6.out nd7); clear hw7))
              clear e1 e2 e3 hcell6
              go_loopw [9] (fun i wr => RelN w c4 h' false q' vs (.slice (some ad6) q'.length k5) k i wr) (fun i _ => k - (intOf i).toNat)
              case atStart => exact ⟨0, Nat.zero_le _, rfl, HS7.out, HR7.out, HB7.out⟩
              case round =>
                obtain ⟨n, hn, rfl, hS8, hR8, hB8⟩ := hrel
                clear HS7 HR7 HB7
                have HS8 := Aside0.mk hS8
                have HR8 := Aside0.mk hR8
                have HB8 := Aside0.mk hB8
                clear hS8 hR8 hB8
                by_cases hnk : n < k
                · obtain ⟨ad8, hA8, hcell8⟩ := Mine.read_at (Kd.R_reads' HR8.out).2.2 hkl
                  obtain ⟨ad9, hA9, hcell9⟩ := Mine.read_at (Kd.R_reads' HR8.out).2.2 (Nat.lt_trans hnk hkl)
                  cases hA8
                  cases hA9
                  rw [HY.out] at hcell8
                  have hne : ¬ q'.getD n 0 = y := by rw [← HY.out]; exact inv_ne HI3.out hnk hkl
                  generalize q'.getD n 0 = x9 at hcell9 hne
                  have e1 : (x9 == y) = false := beq_eq_false_iff_ne.mpr hne
                  have g1 : (n : Int) < (q'.length : Int) := by omega
                  have g2 : (k : Int) < (q'.length : Int) := by omega
                  go_wp2
                  go_quiet (fail)
                  go_wp2
                  exact ⟨⟨n + 1, by omega, by go_num, St.drewN (s := sem) HS8.out _, Kd.R_drewN HR8.out _, pw_below_drewN HB8.out _⟩, by simp [intOf]; omega⟩
                · go_wp2
                  exact ⟨⟨k + 1, by omega, by go_num, HS8.out, HR8.out, HB8.out⟩, by simp [intOf]; omega⟩
            · go_wp2
              exact ⟨⟨j + 1, c4, h', false, q', by omega, by go_num, HI3.out, HS6.out, HB6.out⟩, by simp [intOf]; omega⟩
      · go_wp2
        go_ret
        exact ⟨rfl, HB.out⟩
  · have d1 : decide (150 < l.length) = true := decide_eq_true (by omega)
    go_enter Try.func6, Try.ntmps6
    go_wp2_with (first | (go_at_call 7; (with_reducible refine (awake_calls _).mono ?_); rintro e w1 ⟨rfl, hb1⟩; have HB1 := Aside0.mk hb1; clear hb1))
    go_ret
    exact ⟨rfl, HB1.out⟩
end Go.Proofs.Ytnfpgdcnihbokaa.Sem
