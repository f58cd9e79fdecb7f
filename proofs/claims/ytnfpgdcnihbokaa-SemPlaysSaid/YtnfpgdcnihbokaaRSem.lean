/- The document's own sem: what it holds, what its Ask and its Free turn (no law is stated here; each says its conditions). -/
import Derived.Test.YtnfpgdcnihbokaaAwakeS
import Derived.Test.YtnfpgdcnihbokaaReg
import Derived.Test.YtnfpgdcnihbokaaQt
import Derived.Test.YtnfpgdcnihbokaaQx23
import Derived.Test.YtnfpgdcnihbokaaQx26
import Derived.Deep.DeepCutAuto
import Derived.Deep.CutBlock
namespace Go.Proofs.Ytnfpgdcnihbokaa.Sem
open Go.RowKit Go.Proofs.YtnfpgdcnihbokaaW.PrintWords Go.Proofs.YtnfpgdcnihbokaaW.PrintLast Go.Proofs.YtnfpgdcnihbokaaW.PrintMore Go.Proofs.Ytnfpgdcnihbokaa.St Go.Proofs.Ytnfpgdcnihbokaa.Q Go.Proofs.Ytnfpgdcnihbokaa.Fifo
set_option linter.unusedVariables false
set_option linter.unusedSimpArgs false
attribute [local go_sem] max2_int min2_int max_two min_two max_three min_three max_four min_four

/-- What the document's block holds: who holds it, who waits (a row that is only read), whether the last one was thrown out. -/
def RAt (w : World) (b : Nat) (ok : Nat → Prop) (x : Int × Bool × List Int) (g : Nat) (rv : Value) : Prop :=
  ok g ∧ b ≤ g ∧ g < w.heap.size ∧ w.heap[g]? = some (.cells #[.int .i64 7, .int .i64 x.1, rv, .bool x.2.1] 40 (0, 0)) ∧ (crow .i64).M w b (fun k => ok k ∧ k ≠ g) x.2.2 rv
def rsem : St (Int × Bool × List Int) where
  M := fun w b ok x v => ∃ g rv, v = .pointer (some ⟨g, 0, none⟩) ∧ RAt w b ok x g rv
  mono := fun h ⟨g, sv, e, h1, h2, h3, h4, h5⟩ => ⟨g, sv, e, h _ h1, h2, h3, h4, (crow .i64).mono (fun k hk => ⟨h k hk.1, hk.2⟩) h5⟩
  move := fun h ⟨g, sv, e, h1, h2, h3, h4, h5⟩ => ⟨g, sv, e, h1, h2, blk_lt ((h g h1).trans h4), (h g h1).trans h4, (crow .i64).move (fun k hk => h k hk.1) h5⟩
  bound := fun ⟨g, sv, e, h1, h2, h3, h4, h5⟩ => ⟨g, sv, e, ⟨h1, h2, h3⟩, h2, h3, h4, (crow .i64).mono (fun k hk => ⟨⟨hk.1.1, hk.2.1, hk.2.2⟩, hk.1.2⟩) ((crow .i64).bound h5)⟩
section
variable {w w1 : World} {b : Nat} {ok ok1 : Nat → Prop} {h h' : Int} {d d' : Bool} {q q' : List Int} {v : Value} {g : Nat} {rv rv' : Value}
theorem RAt.toM (hA : RAt w b ok (h, d, q) g rv) : rsem.M w b ok (h, d, q) (.pointer (some ⟨g, 0, none⟩)) := ⟨g, rv, rfl, hA⟩
theorem RAt.set1 (hA : RAt w b ok (h, d, q) g rv) (h' : Int) : RAt (w.setCell ⟨g, 1, none⟩ (.int .i64 h')) b ok (h', d, q) g rv := by
  have h9 := blk_put hA.2.2.2.1 1 (.int .i64 h') (cs' := #[.int .i64 7, .int .i64 h', rv, .bool d]) rfl
  exact ⟨hA.1, hA.2.1, blk_lt h9, h9, (crow .i64).mono (fun k hk => hk.1) ((crow .i64).move (fun k hk => Below.heap_setCell _ _ _ k hk.1.2) ((crow .i64).bound hA.2.2.2.2))⟩
theorem RAt.set3 (hA : RAt w b ok (h, d, q) g rv) (d' : Bool) : RAt (w.setCell ⟨g, 3, none⟩ (.bool d')) b ok (h, d', q) g rv := by
  have h9 := blk_put hA.2.2.2.1 3 (.bool d') (cs' := #[.int .i64 7, .int .i64 h, rv, .bool d']) rfl
  exact ⟨hA.1, hA.2.1, blk_lt h9, h9, (crow .i64).mono (fun k hk => hk.1) ((crow .i64).move (fun k hk => Below.heap_setCell _ _ _ k hk.1.2) ((crow .i64).bound hA.2.2.2.2))⟩
theorem RAt.set2 (hA : RAt w b ok (h, d, q) g rv) (hR : (crow .i64).M w b (fun k => ok k ∧ k ≠ g) q' rv') : RAt (w.setCell ⟨g, 2, none⟩ rv') b ok (h, d, q') g rv' := by
  have h9 := blk_put hA.2.2.2.1 2 rv' (cs' := #[.int .i64 7, .int .i64 h, rv', .bool d]) rfl
  exact ⟨hA.1, hA.2.1, blk_lt h9, h9, (crow .i64).mono (fun k hk => hk.1) ((crow .i64).move (fun k hk => Below.heap_setCell _ _ _ k hk.1.2) ((crow .i64).bound hR))⟩
theorem RAt.drewN (hA : RAt w b ok (h, d, q) g rv) (n : Nat) : RAt (w.drewN n) b ok (h, d, q) g rv := ⟨hA.1, hA.2.1, hA.2.2.1, hA.2.2.2.1, (crow .i64).move (w := w) (w1 := w.drewN n) (fun _ _ => rfl) hA.2.2.2.2⟩
/-- More blocks are made: it stands. -/
theorem RAt.far (hA : RAt w b ok (h, d, q) g rv) (hb : Below w.heap.size w w1) : RAt w1 b (more w ok) (h, d, q) g rv :=
  ⟨Or.inl hA.1, hA.2.1, blk_lt ((hb.block g hA.2.2.1).trans hA.2.2.2.1), (hb.block g hA.2.2.1).trans hA.2.2.2.1, (crow .i64).mono (fun k hk => ⟨Or.inl hk.1.1, hk.1.2⟩) ((crow .i64).move (fun k hk => hb.block k hk.2.2) ((crow .i64).bound hA.2.2.2.2))⟩
theorem RAt.more (hA : RAt w b ok (h, d, q) g rv) (W : World) : RAt w b (more W ok) (h, d, q) g rv := ⟨Or.inl hA.1, hA.2.1, hA.2.2.1, hA.2.2.2.1, (crow .i64).mono (fun k hk => ⟨Or.inl hk.1, hk.2⟩) hA.2.2.2.2⟩
end
theorem info_row : ∃ i : TypeInfo, Try.prog.info? 3 = some i ∧ i.size = 1 := by
  obtain ⟨i, h1, h2⟩ := Option.map_eq_some_iff.1 info_size
  exact ⟨i, h1, h2⟩
theorem in_l (l : List Int) (x : Int) (hm : l.length ≤ 100000) : ∀ (d j : Nat), l.length - j = d → j ≤ l.length → beadleref10_in.l0 (d + 1) l x (j : Int) = some (decide (x ∈ l.drop j)) := by
  intro d
  induction d with
  | zero =>
    intro j hd hj
    rw [beadleref10_in.l0.eq_2, if_neg (by omega), List.drop_eq_nil_of_le (by omega)]
    simp
  | succ d ih =>
    intro j hd hj
    have hlt : j < l.length := by omega
    rw [beadleref10_in.l0.eq_2, if_pos (by omega), if_pos (by omega)]
    have e0 : rd l (j : Int) = l.getD j 0 := by simp [rd]
    rw [e0, Mine.drop_at (Mine.getD_at (0 : Int) hlt)]
    by_cases c : l.getD j 0 = x
    · rw [if_pos c, decide_eq_true (by rw [c]; exact List.mem_cons_self)]
    · have hw : wrap64 ((j : Int) + 1) = ((j + 1 : Nat) : Int) := by unfold wrap64; omega
      rw [if_neg c, hw, ih (j + 1) (by omega) (by omega)]
      congr 1
      rw [decide_eq_decide, List.mem_cons]
      exact ⟨Or.inr, fun h => h.resolve_left (fun e => c e.symm)⟩
theorem in_f (l : List Int) (x : Int) (hm : l.length ≤ 100000) : beadleref10_in.f (l.length + 1) l x = some (decide (x ∈ l)) := by
  have h := in_l l x hm l.length 0 (by omega) (by omega)
  rwa [List.drop_zero] at h
theorem ints_l (l0 l1 : List Int) (hl : l0.length = l1.length) (hm : l0.length ≤ 100000) : ∀ (d j : Nat), l0.length - j = d → j ≤ l0.length → (∀ i, i < j → l0.getD i 0 = l1.getD i 0) → beadlelaw18_ints.l0 (d + 1) l0 l1 (j : Int) = some (decide (l0 = l1)) := by
  intro d
  induction d with
  | zero =>
    intro j hd hj he
    rw [beadlelaw18_ints.l0.eq_2, if_neg (by omega)]
    have : l0 = l1 := by
      apply List.ext_getElem hl
      intro i h1 h2
      have := he i (by omega)
      rwa [List.getD_eq_getElem?_getD, List.getD_eq_getElem?_getD, List.getElem?_eq_getElem h1, List.getElem?_eq_getElem h2] at this
    rw [decide_eq_true this]
  | succ d ih =>
    intro j hd hj he
    have hlt : j < l0.length := by omega
    rw [beadlelaw18_ints.l0.eq_2, if_pos (by omega)]
    rw [if_pos (by omega), if_pos (by omega)]
    have e0 : rd l0 (j : Int) = l0.getD j 0 := by simp [rd]
    have e1 : rd l1 (j : Int) = l1.getD j 0 := by simp [rd]
    rw [e0, e1]
    by_cases c : l0.getD j 0 = l1.getD j 0
    · have hw : wrap64 ((j : Int) + 1) = ((j + 1 : Nat) : Int) := by unfold wrap64; omega
      rw [if_pos c, hw, ih (j + 1) (by omega) (by omega) (fun i hi => by
        rcases Nat.lt_or_ge i j with h1 | h1
        · exact he i h1
        · rw [show i = j by omega]; exact c)]
    · rw [if_neg c, decide_eq_false (fun e => c (by rw [e]))]
theorem ints_f (l0 l1 : List Int) (hm : l0.length ≤ 100000) (hm1 : l1.length ≤ 100000) : beadlelaw18_ints.f (l0.length + 1) l0 l1 = some (decide (l0 = l1)) := by
  unfold beadlelaw18_ints.f
  by_cases h : l0.length = l1.length
  · rw [if_pos (by omega)]
    exact ints_l l0 l1 h hm l0.length 0 (by omega) (by omega) (fun i hi => by omega)
  · rw [if_neg (by omega), decide_eq_false (fun e => h (by rw [e]))]


set_option maxHeartbeats 1000000 in
set_option maxRecDepth 100000 in
theorem rask_neg {w : World} {b : Nat} {ok : Nat → Prop} {h : Int} {d : Bool} {q : List Int} {v : Value} (id : Int) (hM : rsem.M w b ok (h, d, q) v) (c : id < 0) :
    Calls Try.prog 16 #[v, .int .i64 id] w fun e w' => e = .returned (.tuple #[.bool false, .int .i64 1]) ∧ rsem.M w' b (more w ok) (h, d, q) v ∧ Wrote w w' ok := by
  obtain ⟨g, rv, rfl, hA⟩ := hM
  obtain ⟨A, cp, rfl, hcp, hC⟩ := crow_reads hA.2.2.2.2
  have h1 := blk_cell hA.2.2.2.1 1
  have h2 := blk_cell hA.2.2.2.1 2
  have h3 := blk_cell hA.2.2.2.1 3
  have f1 := blk_frozen hA.2.2.2.1 1
  have f2 := blk_frozen hA.2.2.2.1 2
  have f3 := blk_frozen hA.2.2.2.1 3
  have HA := Aside0.mk hA
  have HC := Aside0.mk hC
  have HP := Aside0.mk hcp
  clear hA hC hcp
  have d1 : decide (id < 0) = true := decide_eq_true c
  clear c
  go_enter Try.func16, Try.ntmps16
  go_wp2
  go_ret2
  exact ⟨rfl, (HA.out.more w).toM, Wrote.refl _ _⟩
set_option maxHeartbeats 1000000 in
set_option maxRecDepth 100000 in
theorem rask_held {w : World} {b : Nat} {ok : Nat → Prop} {h : Int} {d : Bool} {q : List Int} {v : Value} (id : Int) (hM : rsem.M w b ok (h, d, q) v) (c : ¬ id < 0) (c2 : h = id) :
    Calls Try.prog 16 #[v, .int .i64 id] w fun e w' => e = .returned (.tuple #[.bool false, .int .i64 5]) ∧ rsem.M w' b (more w ok) (h, d, q) v ∧ Wrote w w' ok := by
  obtain ⟨g, rv, rfl, hA⟩ := hM
  obtain ⟨A, cp, rfl, hcp, hC⟩ := crow_reads hA.2.2.2.2
  have h1 := blk_cell hA.2.2.2.1 1
  have h2 := blk_cell hA.2.2.2.1 2
  have h3 := blk_cell hA.2.2.2.1 3
  have f1 := blk_frozen hA.2.2.2.1 1
  have f2 := blk_frozen hA.2.2.2.1 2
  have f3 := blk_frozen hA.2.2.2.1 3
  have HA := Aside0.mk hA
  have HC := Aside0.mk hC
  have HP := Aside0.mk hcp
  clear hA hC hcp
  have d1 : decide (id < 0) = false := decide_eq_false c
  have d2 : (h == id) = true := beq_iff_eq.mpr c2
  clear c c2
  go_enter Try.func16, Try.ntmps16
  go_wp2
  go_ret2
  exact ⟨rfl, (HA.out.more w).toM, Wrote.refl _ _⟩
set_option maxHeartbeats 1000000 in
set_option maxRecDepth 100000 in
theorem rask_in {w : World} {b : Nat} {ok : Nat → Prop} {h : Int} {d : Bool} {q : List Int} {v : Value} (id : Int) (hM : rsem.M w b ok (h, d, q) v) (c : ¬ id < 0) (c2 : ¬ h = id) (c3 : id ∈ q) (hq : q.length ≤ 63) :
    Calls Try.prog 16 #[v, .int .i64 id] w fun e w' => e = .returned (.tuple #[.bool false, .int .i64 5]) ∧ rsem.M w' b (more w ok) (h, d, q) v ∧ Wrote w w' ok := by
  obtain ⟨g, rv, rfl, hA⟩ := hM
  obtain ⟨A, cp, rfl, hcp, hC⟩ := crow_reads hA.2.2.2.2
  have h1 := blk_cell hA.2.2.2.1 1
  have h2 := blk_cell hA.2.2.2.1 2
  have h3 := blk_cell hA.2.2.2.1 3
  have f1 := blk_frozen hA.2.2.2.1 1
  have f2 := blk_frozen hA.2.2.2.1 2
  have f3 := blk_frozen hA.2.2.2.1 3
  have HA := Aside0.mk hA
  have HC := Aside0.mk hC
  have HP := Aside0.mk hcp
  clear hA hC hcp
  have d1 : decide (id < 0) = false := decide_eq_false c
  have d2 : (h == id) = false := beq_eq_false_iff_ne.mpr c2
  have hl : q.length ≤ 100000 := by omega
  have HI := Aside0.mk (show beadleref10_in.f (q.length + 1) q id = some true from by rw [in_f q id hl, decide_eq_true c3])
  clear c c2 c3
  go_enter Try.func16, Try.ntmps16
  go_wp2_with (first | (go_at_call 25; (with_reducible refine (beadleref10_in.calls (q.length + 1) A cp q id true _ HC.out HP.out HI.out).mono ?_); rintro e w3 ⟨rfl, ⟨nd, rfl⟩⟩))
  go_ret2
  exact ⟨rfl, ((HA.out.more w).drewN nd).toM, (Wrote.refl w ok).drewN nd⟩
set_option maxHeartbeats 1000000 in
set_option maxRecDepth 100000 in
theorem rask_take {w : World} {b : Nat} {ok : Nat → Prop} {h : Int} {d : Bool} {q : List Int} {v : Value} (id : Int) (hM : rsem.M w b ok (h, d, q) v) (c : ¬ id < 0) (c2 : ¬ h = id) (c3 : id ∉ q) (hq : q.length ≤ 63) (c4 : h < 0) :
    Calls Try.prog 16 #[v, .int .i64 id] w fun e w' => e = .returned (.tuple #[.bool true, .int .i64 0]) ∧ rsem.M w' b (more w ok) (id, false, q) v ∧ Wrote w w' ok := by
  obtain ⟨g, rv, rfl, hA⟩ := hM
  obtain ⟨A, cp, rfl, hcp, hC⟩ := crow_reads hA.2.2.2.2
  have h1 := blk_cell hA.2.2.2.1 1
  have h2 := blk_cell hA.2.2.2.1 2
  have h3 := blk_cell hA.2.2.2.1 3
  have f1 := blk_frozen hA.2.2.2.1 1
  have f2 := blk_frozen hA.2.2.2.1 2
  have f3 := blk_frozen hA.2.2.2.1 3
  have HA := Aside0.mk hA
  have HC := Aside0.mk hC
  have HP := Aside0.mk hcp
  clear hA hC hcp
  have d1 : decide (id < 0) = false := decide_eq_false c
  have d2 : (h == id) = false := beq_eq_false_iff_ne.mpr c2
  have hl : q.length ≤ 100000 := by omega
  have HI := Aside0.mk (show beadleref10_in.f (q.length + 1) q id = some false from by rw [in_f q id hl, decide_eq_false c3])
  have d4 : decide (h < 0) = true := decide_eq_true c4
  clear c c2 c3 c4
  go_enter Try.func16, Try.ntmps16
  go_wp2_with (first | (go_at_call 25; (with_reducible refine (beadleref10_in.calls (q.length + 1) A cp q id false _ HC.out HP.out HI.out).mono ?_); rintro e w3 ⟨rfl, ⟨nd, rfl⟩⟩))
  go_ret2
  exact ⟨rfl, ((((HA.out.more w).drewN nd).set1 id).set3 false).toM, (((Wrote.refl w ok).drewN nd).setCell (Or.inl HA.out.1) _).setCell (Or.inl HA.out.1) _⟩
set_option maxHeartbeats 1000000 in
set_option maxRecDepth 100000 in
theorem rask_full {w : World} {b : Nat} {ok : Nat → Prop} {h : Int} {d : Bool} {q : List Int} {v : Value} (id : Int) (hM : rsem.M w b ok (h, d, q) v) (c : ¬ id < 0) (c2 : ¬ h = id) (c3 : id ∉ q) (hq : q.length ≤ 63) (c4 : ¬ h < 0) (c5 : 63 ≤ q.length) :
    Calls Try.prog 16 #[v, .int .i64 id] w fun e w' => e = .returned (.tuple #[.bool false, .int .i64 3]) ∧ rsem.M w' b (more w ok) (h, d, q) v ∧ Wrote w w' ok := by
  obtain ⟨g, rv, rfl, hA⟩ := hM
  obtain ⟨A, cp, rfl, hcp, hC⟩ := crow_reads hA.2.2.2.2
  have h1 := blk_cell hA.2.2.2.1 1
  have h2 := blk_cell hA.2.2.2.1 2
  have h3 := blk_cell hA.2.2.2.1 3
  have f1 := blk_frozen hA.2.2.2.1 1
  have f2 := blk_frozen hA.2.2.2.1 2
  have f3 := blk_frozen hA.2.2.2.1 3
  have HA := Aside0.mk hA
  have HC := Aside0.mk hC
  have HP := Aside0.mk hcp
  clear hA hC hcp
  have d1 : decide (id < 0) = false := decide_eq_false c
  have d2 : (h == id) = false := beq_eq_false_iff_ne.mpr c2
  have hl : q.length ≤ 100000 := by omega
  have HI := Aside0.mk (show beadleref10_in.f (q.length + 1) q id = some false from by rw [in_f q id hl, decide_eq_false c3])
  have d4 : decide (h < 0) = false := decide_eq_false c4
  have d5 : decide (63 ≤ q.length) = true := decide_eq_true c5
  have d6 : decide ((63 : Int) ≤ (q.length : Int)) = true := decide_eq_true (by omega)
  clear c c2 c3 c4
  go_enter Try.func16, Try.ntmps16
  go_wp2_with (first | (go_at_call 25; (with_reducible refine (beadleref10_in.calls (q.length + 1) A cp q id false _ HC.out HP.out HI.out).mono ?_); rintro e w3 ⟨rfl, ⟨nd, rfl⟩⟩))
  go_ret2
  exact ⟨rfl, ((HA.out.more w).drewN nd).toM, (Wrote.refl w ok).drewN nd⟩
set_option maxHeartbeats 1000000 in
set_option maxRecDepth 100000 in
theorem rask_wait {w : World} {b : Nat} {ok : Nat → Prop} {h : Int} {d : Bool} {q : List Int} {v : Value} (id : Int) (hM : rsem.M w b ok (h, d, q) v) (c : ¬ id < 0) (c2 : ¬ h = id) (c3 : id ∉ q) (c4 : ¬ h < 0) (c5 : q.length < 63) :
    Calls Try.prog 16 #[v, .int .i64 id] w fun e w' => e = .returned (.tuple #[.bool false, .int .i64 0]) ∧ rsem.M w' b (more w ok) (h, d, q ++ [id]) v ∧ Wrote w w' ok := by
  obtain ⟨g, rv, rfl, hA⟩ := hM
  obtain ⟨A, cp, rfl, hcp, hC⟩ := crow_reads hA.2.2.2.2
  have h1 := blk_cell hA.2.2.2.1 1
  have h2 := blk_cell hA.2.2.2.1 2
  have h3 := blk_cell hA.2.2.2.1 3
  have f1 := blk_frozen hA.2.2.2.1 1
  have f2 := blk_frozen hA.2.2.2.1 2
  have f3 := blk_frozen hA.2.2.2.1 3
  have HA := Aside0.mk hA
  have HC := Aside0.mk hC
  have HP := Aside0.mk hcp
  clear hA hC hcp
  have d1 : decide (id < 0) = false := decide_eq_false c
  have d2 : (h == id) = false := beq_eq_false_iff_ne.mpr c2
  have hl : q.length ≤ 100000 := by omega
  have HI := Aside0.mk (show beadleref10_in.f (q.length + 1) q id = some false from by rw [in_f q id hl, decide_eq_false c3])
  have d4 : decide (h < 0) = false := decide_eq_false c4
  have d5 : decide (63 ≤ q.length) = false := decide_eq_false (by omega)
  have d6 : decide ((63 : Int) ≤ (q.length : Int)) = false := decide_eq_false (by omega)
  clear c c2 c3 c4
  go_enter Try.func16, Try.ntmps16
  go_wp2_with (first | (go_at_call 25; (with_reducible refine (beadleref10_in.calls (q.length + 1) A cp q id false _ HC.out HP.out HI.out).mono ?_); rintro e w3 ⟨rfl, hd3⟩; have B3 := Aside0.mk (Drawn0.below hd3); clear hd3 h1 h2 h3 f1 f2 f3; have h1 := blk_cell ((B3.out.block g HA.out.2.2.1).trans HA.out.2.2.2.1) 1; have h2 := blk_cell ((B3.out.block g HA.out.2.2.1).trans HA.out.2.2.2.1) 2) | ((with_reducible refine gate_dst (N := 45) rfl ?_); refine lit_list (e := 3) (c := (fun _ => 9)) (w0 := w) (Kd.int .i64) 2 rfl (N := 45) rfl ([] : List Int) [] ?hr (Reps.none _ _) ?hs (by simp) ?_; (case hr => first | (go_simp; done) | (go_simp; rfl)); (case hs => exact Below.size B3.out); intro v6 w6 c6 h6 t6; have HN6 := Aside0.mk (show (row 3 (Kd.int .i64)).M w6 w.heap.size (fun k => c6 k = 2) ([] : List Int) v6 from h6); have B6 := Aside0.mk (t6.far B3.out); clear h6 t6; clear h1 h2; have h2 := blk_cell ((B6.out.block g HA.out.2.2.1).trans HA.out.2.2.2.1) 2; have f2 := blk_frozen ((B6.out.block g HA.out.2.2.1).trans HA.out.2.2.2.1) 2) | ((with_reducible refine gate_builtin (b := .append) (xs := #[.tmp 45, .tmp 49]) rfl ?_); refine app_list (e := 3) (c := c6) (w0 := w) (d := Kd.int .i64) (i := 2) rfl (.tmp 45) (.tmp 49) 34 (.int .i64 0) 8 rfl Try.underlying34 info_int rfl (by decide) (by decide) (flat_int _) v6 (([] : List Int)) (q) _ _ _ rfl rfl HN6.out (Kd.C_below HC.out B6.out) ?hs (by show (0 + q.length) * 8 ≤ _; omega) ?_; (case hs => exact Below.size B6.out); intro v7 w7 c7 h7 t7; have HN7 := Aside0.mk (show (row 3 (Kd.int .i64)).M w7 w.heap.size (fun k => c7 k = 2) (([] : List Int) ++ (q)) v7 from h7); have B7 := Aside0.mk (t7.far B6.out); clear h7 t7) | ((with_reducible refine gate_dst (N := 52) rfl ?_); refine lit_list (e := 3) (c := c7) (w0 := w) (Kd.int .i64) 3 rfl (N := 52) rfl ([id] : List Int) [.int .i64 id] ?hr (reps_nums .i64 _ _ _ [id]) ?hs (by simp) ?_; (case hr => first | (go_simp; done) | (go_simp; rfl)); (case hs => exact Below.size B7.out); intro v8 w8 c8 h8 t8; have HM8 := Aside0.mk (show (row 3 (Kd.int .i64)).M w8 w.heap.size (fun k => c8 k = 3) ([id] : List Int) v8 from h8); have HN8 := Aside0.mk (t8.keep _ (row 3 (Kd.int .i64)) 2 _ _ (by decide) HN7.out); have B8 := Aside0.mk (t8.far B7.out); clear h8 t8; obtain ⟨A8, k8, rfl, _, _⟩ := row_reads HM8.out) | ((with_reducible refine gate_builtin (b := .append) (xs := #[.tmp 50, .tmp 52]) rfl ?_); refine app_list (e := 3) (c := c8) (w0 := w) (d := Kd.int .i64) (i := 2) rfl (.tmp 50) (.tmp 52) 34 (.int .i64 0) 8 rfl Try.underlying34 info_int rfl (by decide) (by decide) (flat_int _) v7 ((([] : List Int) ++ (q))) ([id]) _ _ _ rfl rfl HN8.out (row_C HM8.out) ?hs (by rw [List.length_append]; show ((0 + q.length) + 1) * 8 ≤ _; omega) ?_; (case hs => exact Below.size B8.out); intro v9 w9 c9 h9 t9; rw [List.nil_append] at h9; have HN9 := Aside0.mk (show (row 3 (Kd.int .i64)).M w9 w.heap.size (fun k => c9 k = 2) (q ++ [id]) v9 from h9); have HM9 := Aside0.mk (t9.keep _ (row 3 (Kd.int .i64)) 3 _ _ (by decide) HM8.out); have B9 := Aside0.mk (t9.far B8.out); clear h9 t9; obtain ⟨A9, k9, rfl, _, _⟩ := row_reads HN9.out; clear h2 f2; have h2 := blk_cell ((B9.out.block g HA.out.2.2.1).trans HA.out.2.2.2.1) 2; have f2 := blk_frozen ((B9.out.block g HA.out.2.2.1).trans HA.out.2.2.2.1) 2))
  go_ret2
  have hR : (crow .i64).M w9 b (fun k => more w ok k ∧ k ≠ g) (q ++ [id]) (.slice A9 (q ++ [id]).length k9) := crow_of_R (e := 3) (Kd.R_lower (Kd.R_mono ((row 3 (Kd.int .i64)).bound HN9.out) (fun k hk => ⟨Or.inr hk.2.1, fun e => by have h1 := hk.2.1; rw [e] at h1; exact absurd HA.out.2.2.1 (by omega)⟩)) (by have h1 := HA.out.2.1; have h2 := HA.out.2.2.1; omega))
  rw [show (q ++ [id]).length = q.length + 1 by simp] at hR
  exact ⟨rfl, ((HA.out.far B9.out).set2 hR).toM, (Wrote.of_below B9.out ok).setCell (Or.inl HA.out.1) _⟩
set_option maxHeartbeats 1000000 in
set_option maxRecDepth 100000 in
theorem rfree_neg {w : World} {b : Nat} {ok : Nat → Prop} {h : Int} {d : Bool} {q : List Int} {v : Value} (id : Int) (hM : rsem.M w b ok (h, d, q) v) (c : id < 0) :
    Calls Try.prog 17 #[v, .int .i64 id] w fun e w' => e = .returned (.tuple #[.int .i64 0, .int .i64 4]) ∧ rsem.M w' b (more w ok) (h, d, q) v ∧ Wrote w w' ok := by
  obtain ⟨g, rv, rfl, hA⟩ := hM
  obtain ⟨A, cp, rfl, hcp, hC⟩ := crow_reads hA.2.2.2.2
  have h1 := blk_cell hA.2.2.2.1 1
  have h2 := blk_cell hA.2.2.2.1 2
  have h3 := blk_cell hA.2.2.2.1 3
  have f1 := blk_frozen hA.2.2.2.1 1
  have f2 := blk_frozen hA.2.2.2.1 2
  have f3 := blk_frozen hA.2.2.2.1 3
  have HA := Aside0.mk hA
  have HC := Aside0.mk hC
  have HP := Aside0.mk hcp
  clear hA hC hcp
  have d1 : decide (id < 0) = true := decide_eq_true c
  clear c
  go_enter Try.func17, Try.ntmps17
  go_wp2
  go_ret2
  exact ⟨rfl, (HA.out.more w).toM, Wrote.refl _ _⟩
set_option maxHeartbeats 1000000 in
set_option maxRecDepth 100000 in
theorem rfree_bad {w : World} {b : Nat} {ok : Nat → Prop} {h : Int} {d : Bool} {q : List Int} {v : Value} (id : Int) (hM : rsem.M w b ok (h, d, q) v) (c : ¬ id < 0) (c2 : ¬ h = id) :
    Calls Try.prog 17 #[v, .int .i64 id] w fun e w' => e = .returned (.tuple #[.int .i64 0, .int .i64 4]) ∧ rsem.M w' b (more w ok) (h, d, q) v ∧ Wrote w w' ok := by
  obtain ⟨g, rv, rfl, hA⟩ := hM
  obtain ⟨A, cp, rfl, hcp, hC⟩ := crow_reads hA.2.2.2.2
  have h1 := blk_cell hA.2.2.2.1 1
  have h2 := blk_cell hA.2.2.2.1 2
  have h3 := blk_cell hA.2.2.2.1 3
  have f1 := blk_frozen hA.2.2.2.1 1
  have f2 := blk_frozen hA.2.2.2.1 2
  have f3 := blk_frozen hA.2.2.2.1 3
  have HA := Aside0.mk hA
  have HC := Aside0.mk hC
  have HP := Aside0.mk hcp
  clear hA hC hcp
  have d1 : decide (id < 0) = false := decide_eq_false c
  have d2 : (h != id) = true := bne_iff_ne.mpr c2
  clear c c2
  go_enter Try.func17, Try.ntmps17
  go_wp2
  go_ret2
  exact ⟨rfl, (HA.out.more w).toM, Wrote.refl _ _⟩
set_option maxHeartbeats 1000000 in
set_option maxRecDepth 100000 in
theorem rfree_none {w : World} {b : Nat} {ok : Nat → Prop} {h : Int} {d : Bool} {v : Value} (id : Int) (hM : rsem.M w b ok (h, d, []) v) (c : ¬ id < 0) (c2 : h = id) :
    Calls Try.prog 17 #[v, .int .i64 id] w fun e w' => e = .returned (.tuple #[.int .i64 (-1), .int .i64 0]) ∧ rsem.M w' b (more w ok) (-1, d, []) v ∧ Wrote w w' ok := by
  obtain ⟨g, rv, rfl, hA⟩ := hM
  obtain ⟨A, cp, rfl, hcp, hC⟩ := crow_reads hA.2.2.2.2
  have h1 := blk_cell hA.2.2.2.1 1
  have h2 := blk_cell hA.2.2.2.1 2
  have h3 := blk_cell hA.2.2.2.1 3
  have f1 := blk_frozen hA.2.2.2.1 1
  have f2 := blk_frozen hA.2.2.2.1 2
  have f3 := blk_frozen hA.2.2.2.1 3
  have HA := Aside0.mk hA
  have HC := Aside0.mk hC
  have HP := Aside0.mk hcp
  clear hA hC hcp
  have d1 : decide (id < 0) = false := decide_eq_false c
  have d2 : (h != id) = false := bne_eq_false_iff_eq.mpr c2
  clear c c2
  go_enter Try.func17, Try.ntmps17
  go_wp2
  go_ret2
  exact ⟨rfl, ((HA.out.more w).set1 (-1)).toM, (Wrote.refl w ok).setCell (Or.inl HA.out.1) _⟩
set_option maxHeartbeats 1000000 in
set_option maxRecDepth 100000 in
theorem rfree_some {w : World} {b : Nat} {ok : Nat → Prop} {h : Int} {d : Bool} {x : Int} {t : List Int} {v : Value} (id : Int) (hM : rsem.M w b ok (h, d, x :: t) v) (c : ¬ id < 0) (c2 : h = id) :
    Calls Try.prog 17 #[v, .int .i64 id] w fun e w' => e = .returned (.tuple #[.int .i64 x, .int .i64 0]) ∧ rsem.M w' b (more w ok) (x, d, t) v ∧ Wrote w w' ok := by
  obtain ⟨g, rv, rfl, hA⟩ := hM
  obtain ⟨A, cp, rfl, hcp, hC⟩ := crow_reads hA.2.2.2.2
  have h1 := blk_cell hA.2.2.2.1 1
  have h2 := blk_cell hA.2.2.2.1 2
  have h3 := blk_cell hA.2.2.2.1 3
  have f1 := blk_frozen hA.2.2.2.1 1
  have f2 := blk_frozen hA.2.2.2.1 2
  have f3 := blk_frozen hA.2.2.2.1 3
  have HA := Aside0.mk hA
  have HC := Aside0.mk hC
  have HP := Aside0.mk hcp
  clear hA hC hcp
  have d1 : decide (id < 0) = false := decide_eq_false c
  have d2 : (h != id) = false := bne_eq_false_iff_eq.mpr c2
  clear c c2
  obtain ⟨a0, ha0, hc0⟩ := Mine.read_at HC.out (show 0 < (x :: t).length by simp)
  subst ha0
  have hc0' : w.cell? a0 = some (.int .i64 x) := crow_cell0 HA.out.2.2.2.2 (by simp)
  obtain ⟨A', hrun, hcr, hcc⟩ := crow_from (k := .i64) 34 3 (m := 1) Try.underlying34 info_row.choose_spec.1 info_row.choose_spec.2 (some a0) cp (x :: t) (by simp)
  rw [show ((1 : Nat) : Int) = 1 from rfl] at hrun
  have HCR := Aside0.mk hcr
  clear hcr hcc hc0
  go_enter Try.func17, Try.ntmps17
  go_wp2
  have A1 := Aside0.mk (HA.out.set1 (-1))
  have W1 := Aside0.mk ((Wrote.refl w ok).setCell (p := ⟨g, 1, none⟩) (Or.inl HA.out.1) (.int .i64 (-1)))
  clear h1 h2 h3 f1 f2 f3 hc0'
  generalize w.setCell ⟨g, 1, none⟩ (.int .i64 (-1)) = w1 at A1 W1 ⊢
  have hge : ((1 : Int) ≤ (t.length : Int) + 1) = True := eq_true (by omega)
  have h1 := blk_cell A1.out.2.2.2.1 1
  have h2 := blk_cell A1.out.2.2.2.1 2
  have f1 := blk_frozen A1.out.2.2.2.1 1
  have f2 := blk_frozen A1.out.2.2.2.1 2
  have hc0 : w1.cell? a0 = some (.int .i64 x) := crow_cell0 A1.out.2.2.2.2 (by simp)
  go_region
  have A2 := Aside0.mk ((A1.out.more w).set1 x)
  have W2 := Aside0.mk (W1.out.setCell (p := ⟨g, 1, none⟩) (Or.inl HA.out.1) (.int .i64 x))
  have hR := crow_drop (m := 1) A2.out.2.2.2.2 (by simp)
  have A3 := Aside0.mk ((A2.out.set2 hR).drewN 1)
  have W3 := Aside0.mk ((W2.out.setCell (p := ⟨g, 2, none⟩) (Or.inl HA.out.1) (.slice (if cp = 1 then some a0 else (some a0).map (·.add (1 * 1))) ((x :: t).length - 1) (cp - 1))).drewN 1)
  have k1 := blk_cell A3.out.2.2.2.1 1
  clear h1 h2 f1 f2 hc0 hR W1 W2
  change Exit.then _ _ _ _ (((w1.setCell ⟨g, 1, none⟩ (.int .i64 x)).setCell ⟨g, 2, none⟩ (.slice (if cp = 1 then some a0 else (some a0).map (·.add (1 * 1))) ((x :: t).length - 1) (cp - 1))).drewN 1)
  generalize ((w1.setCell ⟨g, 1, none⟩ (.int .i64 x)).setCell ⟨g, 2, none⟩ (.slice (if cp = 1 then some a0 else (some a0).map (·.add (1 * 1))) ((x :: t).length - 1) (cp - 1))).drewN 1 = w3 at A3 W3 k1 ⊢
  go_wp2
  all_goals (go_ret2; exact ⟨rfl, A3.out.toM, W3.out⟩)
end Go.Proofs.Ytnfpgdcnihbokaa.Sem
