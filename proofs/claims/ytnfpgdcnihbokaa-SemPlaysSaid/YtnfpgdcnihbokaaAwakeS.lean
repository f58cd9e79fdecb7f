/- The chapter's own example (awake) answers true (no law is stated here; no condition). -/
import Derived.Test.YtnfpgdcnihbokaaSem1
namespace Go.Proofs.Ytnfpgdcnihbokaa.Sem
open Go.RowKit Go.Proofs.YtnfpgdcnihbokaaW.PrintWords Go.Proofs.YtnfpgdcnihbokaaW.PrintLast Go.Proofs.YtnfpgdcnihbokaaW.PrintMore Go.Proofs.Ytnfpgdcnihbokaa.St Go.Proofs.Ytnfpgdcnihbokaa.Q Go.Proofs.Ytnfpgdcnihbokaa.Fifo
set_option linter.unusedVariables false
set_option linter.unusedSimpArgs false
attribute [local go_sem] max2_int min2_int max_two min_two max_three min_three max_four min_four




set_option maxHeartbeats 1000000 in
set_option maxRecDepth 100000 in
theorem awake_calls (w : World) : Calls Try.prog 7 #[] w fun e w' => e = .returned (.bool true) ∧ Below w.heap.size w w' := by
  go_enter Try.func7, Try.ntmps7
  go_wp2_with (first | (go_at_call 8; (with_reducible refine (newC (w0 := w) (fun _ => 9) 0 5 (by decide) (by decide) (Below.refl _ _)).mono ?_); rintro e w2 ⟨g2, rfl, c2, h2, t2⟩; have Hs2 := Aside0.mk (show sem.M w2 w.heap.size (fun k => c2 k = 0) (5, -1, false, []) (Value.pointer (some ⟨g2, 0, none⟩)) from h2); have B2 := Aside0.mk (t2.far (Below.refl _ _)); clear h2 t2) | (go_at_call 9; (with_reducible refine (toC Hs2.out (fun _ hk => hk) (ask_take 1 (St.mine (s := sem) Hs2.out) (by decide +kernel) (by decide +kernel) rfl)).mono ?_); rintro e w3 ⟨rfl, c3, h3, t3⟩; have Hs3 := Aside0.mk (show sem.M w3 w.heap.size (fun k => c3 k = 0) (5, 1, false, []) (Value.pointer (some ⟨g2, 0, none⟩)) from h3); have B3 := Aside0.mk (t3.far B2.out); clear h3 t3) | (go_at_call 9; (with_reducible refine (toC Hs3.out (fun _ hk => hk) (ask_wait 2 (St.mine (s := sem) Hs3.out) (by decide +kernel) (by decide +kernel) (by decide +kernel) (by decide +kernel))).mono ?_); rintro e w4 ⟨rfl, c4, h4, t4⟩; have Hs4 := Aside0.mk (show sem.M w4 w.heap.size (fun k => c4 k = 0) (5, 1, false, [2]) (Value.pointer (some ⟨g2, 0, none⟩)) from h4); have B4 := Aside0.mk (t4.far B3.out); clear h4 t4) | (go_at_call 13; (with_reducible refine (toC Hs4.out (fun _ hk => Or.inl hk) (free_ok 1 (St.mine (s := sem) Hs4.out) (by decide +kernel) rfl)).mono ?_); rintro e w5 ⟨rfl, c5, h5, t5⟩; rw [show nxt ([2] : List Int) = 2 from rfl]; have Hs5 := Aside0.mk (show sem.M w5 w.heap.size (fun k => c5 k = 0) (5, 2, false, []) (Value.pointer (some ⟨g2, 0, none⟩)) from h5); have B5 := Aside0.mk (t5.far B4.out); clear h5 t5) | (go_at_call 10; (with_reducible refine (holder_calls Hs5.out).mono ?_); rintro e w6 ⟨rfl, rfl⟩) | (go_at_call 19; (with_reducible refine (most_calls Hs5.out).mono ?_); rintro e w7 ⟨rfl, rfl⟩))
  go_ret
  exact ⟨rfl, B5.out⟩

/-- Numbers from one on. -/
def seqI : Int → Nat → List Int
  | _, 0 => []
  | a, m + 1 => a :: seqI (a + 1) m
theorem seq_len : ∀ (m : Nat) (a : Int), (seqI a m).length = m
  | 0, _ => rfl
  | m + 1, a => by rw [seqI, List.length_cons, seq_len m]
theorem seq_mem : ∀ (m : Nat) (a x : Int), x ∈ seqI a m ↔ a ≤ x ∧ x < a + m
  | 0, a, x => ⟨fun h => (by cases h), fun h => by omega⟩
  | m + 1, a, x => by
    rw [seqI, List.mem_cons, seq_mem m]
    omega
theorem seq_snoc : ∀ (m : Nat) (a : Int), seqI a m ++ [a + m] = seqI a (m + 1)
  | 0, a => by simp [seqI]
  | m + 1, a => by
    have h := seq_snoc m (a + 1)
    rw [seqI, List.cons_append, show a + ((m + 1 : Nat) : Int) = a + 1 + (m : Int) by omega, h]
    rfl
end Go.Proofs.Ytnfpgdcnihbokaa.Sem
