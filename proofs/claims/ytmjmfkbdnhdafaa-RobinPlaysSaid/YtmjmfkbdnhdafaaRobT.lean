/- Robin's Take, told by colours: what else there is, is as it was (no law is stated here; it says its conditions). -/
import Derived.Test.YtmjmfkbdnhdafaaAwakeR
import Derived.Test.YtmjmfkbdnhdafaaRobM
namespace Go.Proofs.Ytmjmfkbdnhdafaa.Robin
open Go.RowKit Go.Proofs.YtmjmfkbdnhdafaaW.PrintWords Go.Proofs.YtmjmfkbdnhdafaaW.PrintLast Go.Proofs.YtmjmfkbdnhdafaaW.PrintMore Go.Proofs.Ytmjmfkbdnhdafaa.St Go.Proofs.Ytmjmfkbdnhdafaa.Q Go.Proofs.Ytmjmfkbdnhdafaa.Fifo
set_option linter.unusedVariables false
set_option linter.unusedSimpArgs false
attribute [local go_sem] max2_int min2_int max_two min_two max_three min_three max_four min_four

def RelT2 (w0 : World) (c : Nat → Nat) (W : World) (i p : Nat) (room : Int) (l : List Int) (h : Nat) (v vs : Value) (iv : Value) (wr : World) : Prop :=
  ∃ (j : Nat) (c' : Nat → Nat), j ≤ h ∧ iv = .int .i64 (j : Int) ∧ robin.M wr w0.heap.size (fun k => c' k = i) (room, l.drop j ++ l.take j) v ∧ (crow .i64).M wr w0.heap.size (fun k => c' k = p) (l.take h) vs ∧ TurnedL c c' [i, p] w0 W wr ∧ Below w0.heap.size w0 wr
set_option maxHeartbeats 2000000 in
set_option maxRecDepth 100000 in
theorem take_callsC {w0 W : World} {c : Nat → Nat} {i p : Nat} {room : Int} {l : List Int} {v : Value} (n : Int) (hM : robin.M W w0.heap.size (fun k => c k = i) (room, l) v) (hB : Below w0.heap.size w0 W) (hip : p ≠ i) :
    Calls Try.prog 14 #[v, .int .i64 n] W fun e w' => ∃ v1, e = .returned v1 ∧ ∃ c' : Nat → Nat, robin.M w' w0.heap.size (fun k => c' k = i) (room, l.drop (heldN n l) ++ l.take (heldN n l)) v ∧ (crow .i64).M w' w0.heap.size (fun k => c' k = p) (l.take (heldN n l)) v1 ∧ TurnedL c c' [i, p] w0 W w' := by
  have HM := Aside0.mk hM
  have HB0 := Aside0.mk hB
  have HIP := Aside0.mk hip
  have hh := held_le n l
  have hl := (robin_len hM).2.1
  generalize hn : heldN n l = h at hh
  have HN := Aside0.mk hn
  have HTL := Aside0.mk (show (l.take h).length = h by rw [List.length_take]; omega)
  clear hM hB hn hip
  go_enter Try.func14, Try.ntmps14
  go_wp2_with (first | (go_at_call 12; (with_reducible refine (see_calls n HM.out).mono ?_); rintro e w3 ⟨v1, rfl, hO, hb⟩; rw [HN.out] at hO; obtain ⟨A1, c1, rfl, _⟩ := crow_reads hO; rw [HTL.out] at hO ⊢; obtain ⟨c3, k3, t3⟩ := turned_new (s := crow .i64) (w0 := w0) (c := c) (i := p) hO hb HB0.out.size (fun hh => crow_lower hh HB0.out.size); have HC3 := Aside0.mk k3; have HM3 := Aside0.mk (t3.keep _ robin i _ _ (fun e => HIP.out e.symm) HM.out); have HB3 := Aside0.mk (t3.far HB0.out); have HT3 := Aside0.mk ((TurnedL.refl c [i, p] w0 W).step t3 (by simp)); clear k3 t3 hO hb))
  go_loopw [11] (fun iv wr => RelT2 w0 c W i p room l h v (.slice A1 h c1) iv wr) (fun iv _ => h - (intOf iv).toNat)
  case atStart => exact ⟨0, c3, Nat.zero_le _, rfl, by simpa using HM3.out, HC3.out, HT3.out, HB3.out⟩
  case round =>
    obtain ⟨j, c4, hj, rfl, hM4, hC4, hT4, hB4⟩ := hrel
    clear HM3 HC3 HB3 HT3
    have HM4 := Aside0.mk hM4
    have HC4 := Aside0.mk hC4
    have HB4 := Aside0.mk hB4
    have HT4 := Aside0.mk hT4
    clear hM4 hC4 hB4 hT4
    by_cases hlt : j < h
    · obtain ⟨g, hv⟩ : ∃ g, v = .pointer (some ⟨g, 0, none⟩) := by obtain ⟨g, pv, e, _⟩ := HM4.out; exact ⟨g, e⟩
      subst hv
      obtain ⟨pv4, hA4⟩ := robin_at HM4.out
      obtain ⟨gf4, hpv⟩ := hA4.form
      subst hpv
      have k1 := hA4.c1
      have HA4 := Aside0.mk hA4
      have HR4 := Aside0.mk (rot_step (l := l) (j := j) (by omega))
      clear hA4
      go_wp2_with (first | (go_at_call 23; (with_reducible refine (robin_turn HM4.out HA4.out).mono ?_); rintro e w5 ⟨r5, rfl, c5, k5, t5⟩; rw [HR4.out] at k5; have HM5 := Aside0.mk k5; have HC5 := Aside0.mk (t5.keep _ (crow .i64) p _ _ HIP.out HC4.out); have HB5 := Aside0.mk (t5.far HB4.out); have HT5 := Aside0.mk (HT4.out.step t5 (by simp)); clear k5 t5))
      go_roundw
      case rel => exact ⟨j + 1, c5, by omega, by go_num, HM5.out, HC5.out, HT5.out, HB5.out⟩
      case measure => simp [intOf]; omega
    · have hje : j = h := by omega
      subst hje
      go_wp2
      go_ret
      exact ⟨_, rfl, c4, HM4.out, HC4.out, HT4.out⟩
end Go.Proofs.Ytmjmfkbdnhdafaa.Robin
