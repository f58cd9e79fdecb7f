/- FifoOrder: what is put in comes out in its order; turned round wholly it is as it was (the walk; no condition). -/
import Derived.Test.YtfkjcimbpijfcaaAwake
namespace Go.Proofs.Ytfkjcimbpijfcaa.Fifo
open Go.RowKit Go.Proofs.YtfkjcimbpijfcaaW.PrintWords Go.Proofs.YtfkjcimbpijfcaaW.PrintLast Go.Proofs.YtfkjcimbpijfcaaW.PrintMore Go.Proofs.Ytfkjcimbpijfcaa.St Go.Proofs.Ytfkjcimbpijfcaa.Q
set_option linter.unusedVariables false
set_option linter.unusedSimpArgs false
attribute [local go_sem] max2_int min2_int max_two min_two max_three min_three max_four min_four




theorem rot_at {l : List Int} {j : Nat} (hj : j < l.length) : rot (l.drop j ++ l.take j) = l.drop (j + 1) ++ l.take (j + 1) := by
  rw [Mine.drop_at (Mine.getD_at (0 : Int) hj), Mine.take_at (Mine.getD_at (0 : Int) hj)]
  simp [rot]
theorem front_at {l : List Int} {j : Nat} (hj : j < l.length) : front (l.drop j) = l.getD j 0 ∧ some_ (l.drop j) = true ∧ (l.drop j).tail = l.drop (j + 1) := by
  rw [Mine.drop_at (Mine.getD_at (0 : Int) hj)]
  exact ⟨rfl, decide_eq_true (by simp), rfl⟩
theorem some_at {l : List Int} {j : Nat} (hj : j < l.length) : some_ (l.drop j ++ l.take j) = true := decide_eq_true (by simp; omega)
def RelA (w : World) (l : List Int) (v : Value) (i : Value) (wr : World) : Prop := ∃ j : Nat, j ≤ l.length ∧ i = .int .i64 j ∧ Own w wr 256 (l.take j) v
def RelB (w : World) (l : List Int) (v : Value) (i : Value) (wr : World) : Prop := ∃ j : Nat, j ≤ l.length ∧ i = .int .i64 j ∧ Own w wr 256 (l.drop j ++ l.take j) v
def RelC (w : World) (l : List Int) (v : Value) (i : Value) (wr : World) : Prop := ∃ j : Nat, j ≤ l.length ∧ i = .int .i64 j ∧ Own w wr 256 (l.drop j) v
set_option maxHeartbeats 1000000 in
set_option maxRecDepth 100000 in
theorem order_walk (A : Option Addr) (cap : Nat) (l : List Int) {w : World} (hr : (Kd.int .i64).C w A l.length l) (hc : l.length ≤ cap) (hg : ∀ a ∈ l, (Lit.int .i64 a).wf = true) (_ : World) :
    Calls Try.prog 3 #[.slice A l.length cap] w fun e w' => e = .returned (.bool true) ∧ Below w.heap.size w w' := by
  have HC := Aside0.mk hr
  clear hr hg
  by_cases hl : l.length ≤ 200
  · have hd : decide (200 < l.length) = false := decide_eq_false (by omega)
    have HL := Aside0.mk hl
    go_enter Try.func3, Try.ntmps3
    go_wp2_with (first | (go_at_call 7; (with_reducible refine (awake_calls _).mono ?_); rintro e w1 ⟨rfl, hb1⟩; have HB1 := Aside0.mk hb1; clear hb1) | (go_at_call 8; (with_reducible refine (new1 (w0 := w) 256 HB1.out).mono ?_); rintro e w2 ⟨g, rfl, h2⟩; rw [show clamp 256 = 256 from rfl] at h2; have H2 := Aside0.mk h2; clear h2))
    generalize hv : (Value.pointer (some ⟨g, 0, none⟩)) = v at H2 ⊢
    go_loopw [4] (fun i wr => RelA w l v i wr) (fun i _ => l.length - (intOf i).toNat)
    case atStart => exact ⟨0, Nat.zero_le _, rfl, H2.out⟩
    case round =>
      obtain ⟨j, hj, rfl, hO⟩ := hrel
      have HO := Aside0.mk hO
      clear hO H2
      by_cases hlt : j < l.length
      · obtain ⟨ad, hA, hcell⟩ := Mine.read_at (Kd.C_below HC.out HO.out.far) hlt
        subst hA
        have HP := Aside0.mk (putl_f (room := 256) (l := l.take j) (x := l.getD j 0) (by rw [List.length_take]; omega))
        have HT := Aside0.mk (Mine.take_at (Mine.getD_at (0 : Int) hlt))
        have HD := Aside0.mk (decide_eq_true (show ((l.take j).length : Int) ≠ 256 by rw [List.length_take]; omega))
        generalize l.getD j 0 = x at hcell HP HT
        go_wp2_with (first | (go_at_call 9; (with_reducible refine (put1 x HO.out).mono ?_); rintro e w3 ⟨rfl, h3⟩; rw [HD.out]; have H3 := Aside0.mk h3; clear h3))
        go_roundw
        case rel => exact ⟨j + 1, by omega, by go_num, by rw [HT.out, ← HP.out]; exact H3.out⟩
        case measure => simp [intOf]; omega
      · have hje : j = l.length := by omega
        subst hje
        have HO2 := Aside0.mk (show Own w wr 256 l v by have := HO.out; rwa [List.take_length] at this)
        clear HO hlt hj
        go_wp2
        obtain ⟨wo, rfl⟩ : ∃ wo : World, wo = wr := ⟨_, rfl⟩
        go_loopw [5] (fun i wr => RelB w l v i wr) (fun i _ => l.length - (intOf i).toNat)
        case atStart => exact ⟨0, Nat.zero_le _, rfl, by simpa using HO2.out⟩
        case round =>
          obtain ⟨j, hj, rfl, hO⟩ := hrel
          have HO := Aside0.mk hO
          clear hO HO2
          by_cases hlt : j < l.length
          · have HS := Aside0.mk (some_at hlt)
            have HT := Aside0.mk (rot_at hlt)
            go_wp2_with (first | (go_at_call 10; (with_reducible refine (turn1 HO.out).mono ?_); rintro e w3 ⟨rfl, h3⟩; rw [HS.out]; have H3 := Aside0.mk h3; clear h3))
            go_roundw
            case rel => exact ⟨j + 1, by omega, by go_num, by rw [← HT.out]; exact H3.out⟩
            case measure => simp [intOf]; omega
          · have hje : j = l.length := by omega
            subst hje
            have HO2 := Aside0.mk (show Own w wr 256 l v by have := HO.out; rwa [List.take_length, List.drop_length, List.nil_append] at this)
            clear HO hlt hj
            go_wp2
            obtain ⟨wo, rfl⟩ : ∃ wo : World, wo = wr := ⟨_, rfl⟩
            go_loopw [6] (fun i wr => RelC w l v i wr) (fun i _ => l.length - (intOf i).toNat)
            case atStart => exact ⟨0, Nat.zero_le _, rfl, by simpa using HO2.out⟩
            case round =>
              obtain ⟨j, hj, rfl, hO⟩ := hrel
              have HO := Aside0.mk hO
              clear hO HO2
              by_cases hlt : j < l.length
              · have HF := Aside0.mk (front_at hlt)
                generalize hx : l.getD j 0 = x at HF
                have hne : (x != x) = false := by simp
                go_wp2_with (first | (go_at_call 11; (with_reducible refine (get1 HO.out).mono ?_); rintro e w3 ⟨rfl, h3⟩; rw [HF.out.1, HF.out.2.1]; have H3 := Aside0.mk (show Own w w3 256 (l.drop (j + 1)) v by have := h3; rwa [HF.out.2.2] at this); clear h3; obtain ⟨ad, hA, hcell⟩ := Mine.read_at (Kd.C_below HC.out H3.out.far) hlt; rw [hx] at hcell; subst hA))
                go_roundw
                case rel => exact ⟨j + 1, by omega, by go_num, H3.out⟩
                case measure => simp [intOf]; omega
              · have hje : j = l.length := by omega
                subst hje
                have HO2 := Aside0.mk (show Own w wr 256 [] v by have := HO.out; rwa [List.drop_length] at this)
                clear HO hlt hj
                go_wp2_with (first | (go_at_call 12; (with_reducible refine (len_calls HO2.out.st).mono ?_); rintro e w3 ⟨rfl, rfl⟩))
                go_ret
                exact ⟨rfl, HO2.out.far⟩
  · have hd : decide (200 < l.length) = true := decide_eq_true (by omega)
    go_enter Try.func3, Try.ntmps3
    go_wp2_with (first | (go_at_call 7; (with_reducible refine (awake_calls _).mono ?_); rintro e w1 ⟨rfl, hb1⟩; have HB1 := Aside0.mk hb1; clear hb1))
    go_ret
    exact ⟨rfl, HB1.out⟩
end Go.Proofs.Ytfkjcimbpijfcaa.Fifo
