/- Those that take turns (robin): what is held, and what its methods turn: New, Add, Drop, See, Take, Len (no law is stated here; each says its conditions). -/
import Derived.Test.YtmjmfkbdnhdafaaConcat
namespace Go.Proofs.Ytmjmfkbdnhdafaa.Robin
open Go.RowKit Go.Proofs.YtmjmfkbdnhdafaaW.PrintWords Go.Proofs.YtmjmfkbdnhdafaaW.PrintLast Go.Proofs.YtmjmfkbdnhdafaaW.PrintMore Go.Proofs.Ytmjmfkbdnhdafaa.St Go.Proofs.Ytmjmfkbdnhdafaa.Q Go.Proofs.Ytmjmfkbdnhdafaa.Fifo
set_option linter.unusedVariables false
set_option linter.unusedSimpArgs false
attribute [local go_sem] max2_int min2_int max_two min_two max_three min_three max_four min_four



def At (w : World) (b : Nat) (ok : Nat → Prop) (x : Int × List Int) (g : Nat) (pv : Value) : Prop :=
  ok g ∧ b ≤ g ∧ g < w.heap.size ∧ w.heap[g]? = some (.cells #[.int .i64 x.1, pv] 44 (0, 0)) ∧ fifo.M w b (fun k => ok k ∧ k ≠ g) (x.1, x.2) pv
def robin : St (Int × List Int) where
  M := fun w b ok x v => ∃ g pv, v = .pointer (some ⟨g, 0, none⟩) ∧ At w b ok x g pv
  mono := fun h ⟨g, sv, e, h1, h2, h3, h4, h5⟩ => ⟨g, sv, e, h _ h1, h2, h3, h4, fifo.mono (fun k hk => ⟨h k hk.1, hk.2⟩) h5⟩
  move := fun h ⟨g, sv, e, h1, h2, h3, h4, h5⟩ => ⟨g, sv, e, h1, h2, blk_lt ((h g h1).trans h4), (h g h1).trans h4, fifo.move (fun k hk => h k hk.1) h5⟩
  bound := fun ⟨g, sv, e, h1, h2, h3, h4, h5⟩ => ⟨g, sv, e, ⟨h1, h2, h3⟩, h2, h3, h4, fifo.mono (fun k hk => ⟨⟨hk.1.1, hk.2.1, hk.2.2⟩, hk.1.2⟩) (fifo.bound h5)⟩
section
variable {w w1 : World} {b : Nat} {ok ok1 : Nat → Prop} {room : Int} {l l' : List Int} {v : Value} {g : Nat} {pv : Value}
theorem At.c0 (hA : At w b ok (room, l) g pv) : w.cell? ⟨g, 0, none⟩ = some (.int .i64 room) := blk_cell hA.2.2.2.1 0
theorem At.c1 (hA : At w b ok (room, l) g pv) : w.cell? ⟨g, 1, none⟩ = some pv := blk_cell hA.2.2.2.1 1
theorem At.f1 (hA : At w b ok (room, l) g pv) : w.frozen? ⟨g, 1, none⟩ = false := blk_frozen hA.2.2.2.1 1
theorem At.fif (hA : At w b ok (room, l) g pv) : fifo.M w b (fun k => ok k ∧ k ≠ g) (room, l) pv := hA.2.2.2.2
theorem At.form (hA : At w b ok (room, l) g pv) : ∃ gf, pv = .pointer (some ⟨gf, 0, none⟩) := by obtain ⟨gf, _, e, _⟩ := hA.fif; exact ⟨gf, e⟩
theorem At.toM (hA : At w b ok (room, l) g pv) : robin.M w b ok (room, l) (.pointer (some ⟨g, 0, none⟩)) := ⟨g, pv, rfl, hA⟩
theorem At.turn (hA : At w b ok (room, l) g pv) (hok : ∀ k, ok k → ok1 k) (hb : w1.heap[g]? = w.heap[g]?) (hf : fifo.M w1 b (fun k => ok1 k ∧ k ≠ g) (room, l') pv) : At w1 b ok1 (room, l') g pv :=
  ⟨hok _ hA.1, hA.2.1, blk_lt (hb.trans hA.2.2.2.1), hb.trans hA.2.2.2.1, hf⟩
theorem At.drewN (hA : At w b ok (room, l) g pv) (n : Nat) : At (w.drewN n) b ok (room, l) g pv := hA.turn (fun _ hk => hk) rfl (fifo_drewN hA.fif n)
theorem At.more (hA : At w b ok (room, l) g pv) (W : World) : At w b (more W ok) (room, l) g pv := ⟨Or.inl hA.1, hA.2.1, hA.2.2.1, hA.2.2.2.1, fifo.mono (fun k hk => ⟨Or.inl hk.1, hk.2⟩) hA.fif⟩
/-- Behind a call on the fifo. -/
theorem At.after (hA : At w b ok (room, l) g pv) (hf : fifo.M w1 b (Fifo.more w (fun k => ok k ∧ k ≠ g)) (room, l') pv) (hW : Wrote w w1 (fun k => ok k ∧ k ≠ g)) : At w1 b (Fifo.more w ok) (room, l') g pv ∧ Wrote w w1 ok :=
  ⟨hA.turn (fun k hk => Or.inl hk) (hW.block g hA.2.2.1 (fun hk => hk.2 rfl)) (fifo.mono (fun k hk => hk.elim (fun h2 => ⟨Or.inl h2.1, h2.2⟩) (fun h2 => ⟨Or.inr h2, Nat.ne_of_gt (Nat.lt_of_lt_of_le hA.2.2.1 h2)⟩)) hf), hW.weaken (fun k hk => hk.1)⟩
theorem robin_len (hM : robin.M w b ok (room, l) v) : (l.length : Int) ≤ room ∧ l.length ≤ 256 ∧ 1 ≤ room ∧ room ≤ 256 := by
  obtain ⟨g, pv, _, hA⟩ := hM
  have h1 := fifo_len hA.fif
  obtain ⟨gf, sv, _, hB⟩ := hA.fif
  exact ⟨h1.1, h1.2, hB.2.2.2.2.2.1, hB.2.2.2.2.2.2.1⟩
end
/-- How many of n there are. -/
def heldN (n : Int) (l : List Int) : Nat := if n < 0 then 0 else if (l.length : Int) < n then l.length else n.toNat
theorem held_le (n : Int) (l : List Int) : heldN n l ≤ l.length := by unfold heldN; split; exact Nat.zero_le _; split <;> omega
set_option maxHeartbeats 1000000 in
set_option maxRecDepth 100000 in
theorem len_calls {w : World} {b : Nat} {ok : Nat → Prop} {room : Int} {l : List Int} {v : Value} (hM : robin.M w b ok (room, l) v) :
    Calls Try.prog 15 #[v] w fun e w' => e = .returned (.int .i64 (l.length : Int)) ∧ w' = w := by
  obtain ⟨g, pv, rfl, hA⟩ := hM
  have h0 := hA.c0
  have h1 := hA.c1
  have f1 := hA.f1
  have HF := Aside0.mk hA.fif
  obtain ⟨gf, hpv⟩ := hA.form
  subst hpv
  have HA := Aside0.mk hA
  clear hA
  go_enter Try.func15, Try.ntmps15
  go_wp2_with (first | (go_at_call 24; (with_reducible refine (Fifo.len_calls HF.out).mono ?_); rintro e w3 ⟨rfl, rfl⟩))
  go_ret
  exact ⟨rfl, rfl⟩

set_option maxHeartbeats 1000000 in
set_option maxRecDepth 100000 in
theorem held_calls {w : World} {b : Nat} {ok : Nat → Prop} {room : Int} {l : List Int} {v : Value} (n : Int) (hM : robin.M w b ok (room, l) v) :
    Calls Try.prog 20 #[v, .int .i64 n] w fun e w' => e = .returned (.int .i64 (heldN n l : Int)) ∧ w' = w := by
  obtain ⟨g, pv, rfl, hA⟩ := hM
  have h0 := hA.c0
  have h1 := hA.c1
  have f1 := hA.f1
  have HF := Aside0.mk hA.fif
  obtain ⟨gf, hpv⟩ := hA.form
  subst hpv
  have HA := Aside0.mk hA
  have HL := Aside0.mk (fifo_len hA.fif)
  obtain ⟨j, hj⟩ : ∃ j : Int, (if n < 0 then 0 else n) = j := ⟨_, rfl⟩
  have hm : (if (l.length : Int) < j then (l.length : Int) else j) = (heldN n l : Int) := by
    rw [← hj]
    unfold heldN
    split <;> split <;> (try split) <;> omega
  generalize heldN n l = h at hm
  clear hA
  go_enter Try.func20, Try.ntmps20
  go_wp2_with (first | (go_at_call 24; (with_reducible refine (Fifo.len_calls HF.out).mono ?_); rintro e w3 ⟨rfl, rfl⟩))
  go_ret
  exact ⟨rfl, rfl⟩

set_option maxHeartbeats 1000000 in
set_option maxRecDepth 100000 in
theorem see_calls {w : World} {b : Nat} {ok : Nat → Prop} {room : Int} {l : List Int} {v : Value} (n : Int) (hM : robin.M w b ok (room, l) v) :
    Calls Try.prog 12 #[v, .int .i64 n] w fun e w' => ∃ v1, e = .returned v1 ∧ (crow .i64).M w' w.heap.size (fun k => w.heap.size ≤ k) (l.take (heldN n l)) v1 ∧ Below w.heap.size w w' := by
  obtain ⟨g, pv, rfl, hA⟩ := hM
  have h0 := hA.c0
  have h1 := hA.c1
  have f1 := hA.f1
  have HF := Aside0.mk hA.fif
  obtain ⟨gf, hpv⟩ := hA.form
  subst hpv
  have HA := Aside0.mk hA
  have HH := Aside0.mk (held_le n l)
  have HM := Aside0.mk hA.toM
  clear hA
  go_enter Try.func12, Try.ntmps12
  go_wp2_with (first | (go_at_call 19; (with_reducible refine (all_calls HF.out).mono ?_); rintro e w3 ⟨v1, rfl, hO, hb⟩; obtain ⟨A1, c1, rfl⟩ := Kd.R_slice hO; have HO := Aside0.mk (crow_of_R hO); have HB := Aside0.mk hb; have HM3 := Aside0.mk (show robin.M w3 b ok (room, l) (.pointer (some ⟨g, 0, none⟩)) from robin.mono (fun _ hk => hk.1) (robin.move (fun k hk => hb.block k hk.2.2) (robin.bound HM.out))); clear hO hb; have hlc : (l.length : Nat) ≤ c1 := (Kd.C_max (crow_reads HO.out).choose_spec.choose_spec.2.2 |> fun _ => by obtain ⟨A', c', e1, e2, _⟩ := crow_reads HO.out; injection e1 with _ _ e3; omega)) | (go_at_call 20; (with_reducible refine (held_calls n HM3.out).mono ?_); rintro e w4 ⟨rfl, rfl⟩; have hh : (heldN n l : Nat) ≤ c1 := Nat.le_trans HH.out hlc; obtain ⟨h, hhv⟩ : ∃ h, heldN n l = h := ⟨_, rfl⟩; have HV := Aside0.mk hhv; rw [hhv] at hh ⊢; have hh2 : (h ≤ c1) = True := eq_true hh; clear hhv))
  go_ret
  exact ⟨_, rfl, by rw [HV.out]; exact crow_take HO.out (by rw [← HV.out]; exact HH.out), HB.out⟩

set_option maxHeartbeats 1000000 in
set_option maxRecDepth 100000 in
theorem add_neg {w : World} {b : Nat} {ok : Nat → Prop} {room : Int} {l : List Int} {v : Value} (id : Int) (hM : robin.M w b ok (room, l) v) (c : id < 0) :
    Calls Try.prog 9 #[v, .int .i64 id] w fun e w' => e = .returned (.int .i64 1) ∧ robin.M w' b (more w ok) (room, l) v ∧ Wrote w w' ok := by
  obtain ⟨g, pv, rfl, hA⟩ := hM
  have h0 := hA.c0
  have h1 := hA.c1
  have f1 := hA.f1
  have HF := Aside0.mk hA.fif
  obtain ⟨gf, hpv⟩ := hA.form
  subst hpv
  have HA := Aside0.mk hA
  have d1 : decide (id < 0) = true := decide_eq_true c
  clear c
  clear hA
  go_enter Try.func9, Try.ntmps9
  go_wp2
  go_ret
  exact ⟨rfl, (HA.out.more w).toM, Wrote.refl _ _⟩

set_option maxHeartbeats 1000000 in
set_option maxRecDepth 100000 in
theorem add_busy {w : World} {b : Nat} {ok : Nat → Prop} {room : Int} {l : List Int} {v : Value} (id : Int) (hM : robin.M w b ok (room, l) v) (c : ¬ id < 0) (c2 : id ∈ l) :
    Calls Try.prog 9 #[v, .int .i64 id] w fun e w' => e = .returned (.int .i64 5) ∧ robin.M w' b (more w ok) (room, l) v ∧ Wrote w w' ok := by
  obtain ⟨g, pv, rfl, hA⟩ := hM
  have h0 := hA.c0
  have h1 := hA.c1
  have f1 := hA.f1
  have HF := Aside0.mk hA.fif
  obtain ⟨gf, hpv⟩ := hA.form
  subst hpv
  have HA := Aside0.mk hA
  have d1 : decide (id < 0) = false := decide_eq_false c
  clear c
  have HP := Aside0.mk (placeOf_in c2)
  clear c2
  generalize l.idxOf id = p at HP
  clear hA
  go_enter Try.func9, Try.ntmps9
  go_wp2_with (first | (go_at_call 17; (with_reducible refine (place_calls id HF.out).mono ?_); rintro e w3 ⟨rfl, ⟨nd, rfl⟩⟩; rw [HP.out]))
  go_ret
  exact ⟨rfl, ((HA.out.drewN nd).more w).toM, (Wrote.refl _ _).drewN nd⟩

set_option maxHeartbeats 1000000 in
set_option maxRecDepth 100000 in
theorem add_full {w : World} {b : Nat} {ok : Nat → Prop} {room : Int} {l : List Int} {v : Value} (id : Int) (hM : robin.M w b ok (room, l) v) (c : ¬ id < 0) (c2 : id ∉ l) (c3 : (l.length : Int) = room) :
    Calls Try.prog 9 #[v, .int .i64 id] w fun e w' => e = .returned (.int .i64 3) ∧ robin.M w' b (more w ok) (room, l) v ∧ Wrote w w' ok := by
  obtain ⟨g, pv, rfl, hA⟩ := hM
  have h0 := hA.c0
  have h1 := hA.c1
  have f1 := hA.f1
  have HF := Aside0.mk hA.fif
  obtain ⟨gf, hpv⟩ := hA.form
  subst hpv
  have HA := Aside0.mk hA
  have d1 : decide (id < 0) = false := decide_eq_false c
  clear c
  have HP := Aside0.mk (placeOf_lt c2)
  have HD := Aside0.mk (decide_eq_false (show ¬ (l.length : Int) ≠ room from fun hn => hn c3))
  have HQ := Aside0.mk (putl_t (x := id) c3)
  clear c2 c3
  clear hA
  go_enter Try.func9, Try.ntmps9
  go_wp2_with (first | (go_at_call 17; (with_reducible refine (place_calls id HF.out).mono ?_); rintro e w3 ⟨rfl, ⟨nd, rfl⟩⟩; rw [HP.out]) | (go_at_call 18; (with_reducible refine (put_calls id (fifo_drewN HF.out nd)).mono ?_); rintro e w3 ⟨rfl, hF3, hW3⟩; rw [HD.out]; have HF3 := Aside0.mk hF3; have HW3 := Aside0.mk hW3; clear hF3 hW3))
  go_ret
  have hf := HF3.out
  rw [HQ.out] at hf
  have h3 := HA.out.after hf (show Wrote w _ _ from ((Wrote.refl w _).drewN nd).trans HW3.out (fun k hk => Or.inl hk))
  exact ⟨rfl, h3.1.toM, h3.2⟩

set_option maxHeartbeats 1000000 in
set_option maxRecDepth 100000 in
theorem add_ok {w : World} {b : Nat} {ok : Nat → Prop} {room : Int} {l : List Int} {v : Value} (id : Int) (hM : robin.M w b ok (room, l) v) (c : ¬ id < 0) (c2 : id ∉ l) (c3 : ¬ (l.length : Int) = room) :
    Calls Try.prog 9 #[v, .int .i64 id] w fun e w' => e = .returned (.int .i64 0) ∧ robin.M w' b (more w ok) (room, l ++ [id]) v ∧ Wrote w w' ok := by
  obtain ⟨g, pv, rfl, hA⟩ := hM
  have h0 := hA.c0
  have h1 := hA.c1
  have f1 := hA.f1
  have HF := Aside0.mk hA.fif
  obtain ⟨gf, hpv⟩ := hA.form
  subst hpv
  have HA := Aside0.mk hA
  have d1 : decide (id < 0) = false := decide_eq_false c
  clear c
  have HP := Aside0.mk (placeOf_lt c2)
  have HD := Aside0.mk (decide_eq_true (show (l.length : Int) ≠ room from c3))
  have HQ := Aside0.mk (putl_f (x := id) c3)
  clear c2 c3
  clear hA
  go_enter Try.func9, Try.ntmps9
  go_wp2_with (first | (go_at_call 17; (with_reducible refine (place_calls id HF.out).mono ?_); rintro e w3 ⟨rfl, ⟨nd, rfl⟩⟩; rw [HP.out]) | (go_at_call 18; (with_reducible refine (put_calls id (fifo_drewN HF.out nd)).mono ?_); rintro e w3 ⟨rfl, hF3, hW3⟩; rw [HD.out]; have HF3 := Aside0.mk hF3; have HW3 := Aside0.mk hW3; clear hF3 hW3))
  go_ret
  have hf := HF3.out
  rw [HQ.out] at hf
  have h3 := HA.out.after hf (show Wrote w _ _ from ((Wrote.refl w _).drewN nd).trans HW3.out (fun k hk => Or.inl hk))
  exact ⟨rfl, h3.1.toM, h3.2⟩

set_option maxHeartbeats 1000000 in
set_option maxRecDepth 100000 in
theorem drop_ok {w : World} {b : Nat} {ok : Nat → Prop} {room : Int} {l : List Int} {v : Value} (id : Int) (hM : robin.M w b ok (room, l) v) (c : id ∈ l) :
    Calls Try.prog 13 #[v, .int .i64 id] w fun e w' => e = .returned (.int .i64 0) ∧ robin.M w' b (more w ok) (room, l.erase id) v ∧ Wrote w w' ok := by
  obtain ⟨g, pv, rfl, hA⟩ := hM
  have h0 := hA.c0
  have h1 := hA.c1
  have f1 := hA.f1
  have HF := Aside0.mk hA.fif
  obtain ⟨gf, hpv⟩ := hA.form
  subst hpv
  have HA := Aside0.mk hA
  have HD := Aside0.mk (decide_eq_true c)
  clear c
  clear hA
  go_enter Try.func13, Try.ntmps13
  go_wp2_with (first | (go_at_call 22; (with_reducible refine (Fifo.drop_calls id HF.out).mono ?_); rintro e w3 ⟨rfl, hF3, hW3⟩; rw [HD.out]; have H3 := Aside0.mk (HA.out.after (fifo.mono (fun _ hk => Or.inl hk) hF3) hW3); clear hF3 hW3))
  go_ret
  exact ⟨rfl, H3.out.1.toM, H3.out.2⟩

set_option maxHeartbeats 1000000 in
set_option maxRecDepth 100000 in
theorem drop_none {w : World} {b : Nat} {ok : Nat → Prop} {room : Int} {l : List Int} {v : Value} (id : Int) (hM : robin.M w b ok (room, l) v) (c : id ∉ l) :
    Calls Try.prog 13 #[v, .int .i64 id] w fun e w' => e = .returned (.int .i64 2) ∧ robin.M w' b (more w ok) (room, l) v ∧ Wrote w w' ok := by
  obtain ⟨g, pv, rfl, hA⟩ := hM
  have h0 := hA.c0
  have h1 := hA.c1
  have f1 := hA.f1
  have HF := Aside0.mk hA.fif
  obtain ⟨gf, hpv⟩ := hA.form
  subst hpv
  have HA := Aside0.mk hA
  have HD := Aside0.mk (decide_eq_false c)
  have HE := Aside0.mk (List.erase_of_not_mem c)
  clear c
  clear hA
  go_enter Try.func13, Try.ntmps13
  go_wp2_with (first | (go_at_call 22; (with_reducible refine (Fifo.drop_calls id HF.out).mono ?_); rintro e w3 ⟨rfl, hF3, hW3⟩; rw [HD.out]; have H3 := Aside0.mk (HA.out.after (fifo.mono (fun _ hk => Or.inl hk) hF3) hW3); clear hF3 hW3))
  go_ret
  exact ⟨rfl, by rw [← HE.out]; exact H3.out.1.toM, H3.out.2⟩


/-- The first j ones, put last. -/
theorem rot_step {l : List Int} {j : Nat} (hj : j < l.length) : rot (l.drop j ++ l.take j) = l.drop (j + 1) ++ l.take (j + 1) := by
  rw [Mine.drop_at (Mine.getD_at (0 : Int) hj), Mine.take_at (Mine.getD_at (0 : Int) hj)]
  simp [rot]
def RelT (w0 : World) (c : Nat → Nat) (room : Int) (l : List Int) (h : Nat) (v vs : Value) (i : Value) (wr : World) : Prop :=
  ∃ (j : Nat) (c' : Nat → Nat), j ≤ h ∧ i = .int .i64 (j : Int) ∧ robin.M wr w0.heap.size (fun k => c' k = 0) (room, l.drop j ++ l.take j) v ∧ (crow .i64).M wr w0.heap.size (fun k => c' k = 1) (l.take h) vs ∧ Below w0.heap.size w0 wr
section
variable {w0 W : World} {c : Nat → Nat} {i : Nat} {room : Int} {l : List Int} {v : Value}
theorem robin_size (hM : robin.M W w0.heap.size (fun k => c k = i) (room, l) v) : w0.heap.size ≤ W.heap.size := by
  obtain ⟨g, sv, _, _, h2, h3, _⟩ := hM
  omega
theorem toC {x' : Int × List Int} {fn : Nat} {args : Array Value} {r : Value} (hM : robin.M W w0.heap.size (fun k => c k = i) (room, l) v)
    (hc : Calls Try.prog fn args W fun e w' => e = .returned r ∧ robin.M w' w0.heap.size (more W (mineOf c i w0)) x' v ∧ Wrote W w' (mineOf c i w0)) :
    Calls Try.prog fn args W fun e w' => e = .returned r ∧ ∃ c', robin.M w' w0.heap.size (fun k => c' k = i) x' v ∧ Turned c c' i w0 W w' :=
  hc.mono fun e w' ⟨he, h1, h2⟩ => ⟨he, turned h1 h2 (robin_size hM)⟩
theorem robin_lower {b b' : Nat} {ok : Nat → Prop} {x : Int × List Int} (h : robin.M W b ok x v) (hb : b' ≤ b) : robin.M W b' ok x v := by
  obtain ⟨g1, sv, e1, h1, h2, h3, h4, ⟨g2, sv2, e2, k1, k2, k3, k4, k5, k6⟩⟩ := h
  exact ⟨g1, sv, e1, h1, Nat.le_trans hb h2, h3, h4, ⟨g2, sv2, e2, k1, Nat.le_trans hb k2, k3, k4, Kd.R_lower k5 hb, k6⟩⟩
theorem crow_lower {k : IntKind} {b b' : Nat} {ok : Nat → Prop} {x : List Int} (h : (crow k).M W b ok x v) (hb : b' ≤ b) : (crow k).M W b' ok x v := by
  obtain ⟨A, c, h1, h2, h3, h4⟩ := h
  exact ⟨A, c, h1, h2, h3, fun a ha => ⟨(h4 a ha).1, Nat.le_trans hb (h4 a ha).2.1, (h4 a ha).2.2⟩⟩
end
set_option maxHeartbeats 1000000 in
set_option maxRecDepth 100000 in
theorem new_calls (n : Int) (w : World) :
    Calls Try.prog 8 #[.int .i64 n] w fun e w' => ∃ g : Nat, e = .returned (.pointer (some ⟨g, 0, none⟩)) ∧ robin.M w' w.heap.size (fun k => w.heap.size ≤ k) (clamp n, []) (.pointer (some ⟨g, 0, none⟩)) ∧ Below w.heap.size w w' := by
  have hu := Try.underlying44
  have HC := Aside0.mk (clamp_le n)
  have HCC := Aside0.mk (show clamp (clamp n) = clamp n by have h := clamp_le n; generalize clamp n = r at h; unfold clamp; rw [if_neg (by omega : ¬ r < 1), if_neg (by omega)])
  generalize hr : clamp n = r at HC HCC
  have hr1 : (if 256 < (if n < 1 then 1 else n) then 256 else (if n < 1 then 1 else n)) = r := hr
  obtain ⟨j, hj⟩ : ∃ j : Int, (if n < 1 then 1 else n) = j := ⟨_, rfl⟩
  rw [hj] at hr1
  clear hr
  go_enter Try.func8, Try.ntmps8
  go_wp2_with (first | (go_at_call 16; (with_reducible refine (Fifo.new_calls r w).mono ?_); rintro e w3 ⟨gf, rfl, hF, hb⟩; have HF := Aside0.mk (show fifo.M w3 w.heap.size (fun k => w.heap.size ≤ k) (r, []) (.pointer (some ⟨gf, 0, none⟩)) from by rw [HCC.out] at hF; exact hF); have HB := Aside0.mk hb; clear hF hb) | ((with_reducible refine gate_dst (N := 10) rfl ?_); refine box_event ?hg (N := 10) ?hd (cs := #[.int .i64 r, .pointer (some ⟨gf, 0, none⟩)]) (t := 44) ?hr ?_; (case hd => rfl); (case hg => rfl); (case hr => first | (go_simp; done) | (go_simp; rfl)); intro gb hg w4 hbox hb; have HG := Aside0.mk hg; have HX := Aside0.mk hbox; have HB4 := Aside0.mk hb; clear hg hbox hb))
  go_ret
  have hge : w.heap.size ≤ gb := by rw [HG.out]; exact HB.out.size
  refine ⟨gb, rfl, ⟨gb, _, rfl, hge, hge, blk_lt HX.out, HX.out, ?_⟩, HB.out.trans (HB4.out.mono HB.out.size)⟩
  exact fifo.mono (fun k hk => ⟨hk.1, fun e => by have h1 := hk.2.2; have h2 := HG.out; rw [e, h2] at h1; exact absurd h1 (Nat.lt_irrefl _)⟩) (fifo.move (fun k hk => HB4.out.block k hk.2.2) (fifo.bound HF.out))
theorem newC {w0 W : World} (c : Nat → Nat) (i : Nat) (n : Int) (hB : Below w0.heap.size w0 W) : Calls Try.prog 8 #[.int .i64 n] W fun e w' => ∃ g : Nat, e = .returned (.pointer (some ⟨g, 0, none⟩)) ∧ ∃ c', robin.M w' w0.heap.size (fun k => c' k = i) (clamp n, []) (.pointer (some ⟨g, 0, none⟩)) ∧ Turned c c' i w0 W w' :=
  (new_calls n W).mono fun e w' ⟨g, he, hM, hb⟩ => ⟨g, he, turned_new hM hb hB.size (fun h => robin_lower h hB.size)⟩
end Go.Proofs.Ytmjmfkbdnhdafaa.Robin
