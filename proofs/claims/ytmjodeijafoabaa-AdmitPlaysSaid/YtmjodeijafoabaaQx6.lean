-- Written by myprint.py: the kit's print program with patches of this session; Lean checks it.
import Derived.Test.YtmjodeijafoabaaQx0
import Derived.Test.YtmjodeijafoabaaQx3
namespace Go.Proofs.Ytmjodeijafoabaa.Q
open Go.RowKit Go.Proofs.YtmjodeijafoabaaW.PrintWords Go.Proofs.YtmjodeijafoabaaW.PrintLast Go.Proofs.YtmjodeijafoabaaW.PrintMore
attribute [local go_sem] max2_int min2_int max_two min_two max_three min_three max_four min_four   -- for this text's walks alone
set_option linter.unusedVariables false
set_option linter.unusedSimpArgs false

/-! ### win_may: function 32 -/
set_option maxHeartbeats 1000000 in
set_option maxRecDepth 100000 in
theorem win_may.odd_calls (a b : Int) (r : Bool) (w : World) (h : win_Good.f a b = some r) : Calls Try.prog 38 #[.agg #[.int .i64 a, .int .i64 b]] w fun e w' => e = .returned (.bool (!r)) ∧ Below w.heap.size w w' := by
  have H := Aside0.mk h
  clear h
  go_enter Try.func38, Try.ntmps38
  go_wp2_with (first | (go_at_call 22; (with_reducible refine (win_Good.calls a b r _ H.out).mono ?_); rintro e w1 ⟨rfl, hb1⟩; have HB := Aside0.mk hb1; clear hb1))
  go_ret
  exact ⟨rfl, by first | exact HB.out | exact (below_alloc (Below.refl _ _) _).trans (HB.out.mono (by simp))⟩
/-- May such a pair be? -/
def win_may.okp (x : S24) : Bool := decide (1 ≤ x.f1 ∧ x.f1 ≤ 2147483648 ∧ 1 ≤ x.f0 ∧ x.f0 ≤ x.f1)
theorem win_may.okp_f (a b : Int) : win_Good.f a b = some (win_may.okp ⟨a, b⟩) := by
  unfold win_Good.f win_may.okp
  by_cases h1 : b ≥ 1
  · by_cases h2 : b ≤ 2147483648
    · by_cases h3 : a ≥ 1
      · rw [if_pos h1, if_pos h2, if_pos h3]
        congr 1
        rw [Bool.eq_iff_iff]
        simp
        omega
      · rw [if_pos h1, if_pos h2, if_neg h3, decide_eq_false (by simp; omega)]
    · rw [if_pos h1, if_neg h2, decide_eq_false (by simp; omega)]
  · rw [if_neg h1, decide_eq_false (by simp; omega)]
def win_may.IxAt (w : World) (l : List S24) (i : Value) (wr : World) : Prop := ∃ j : Nat, j ≤ l.length ∧ i = .int .i64 j ∧ (∀ k, k < j → win_may.okp (l.getD k z24) = true) ∧ Below w.heap.size w wr
def win_may.IxPost (w : World) (l : List S24) (e : Ending) (w' : World) : Prop := ∃ r : Int, e = .returned (.int .i64 r) ∧ decide (0 ≤ r) = !(l.all win_may.okp) ∧ Below w.heap.size w w'
theorem win_may.all_get {l : List S24} (h : ∀ k, k < l.length → win_may.okp (l.getD k z24) = true) : l.all win_may.okp = true := by
  rw [List.all_eq_true]
  intro x hx
  obtain ⟨k, hk⟩ := List.getElem?_of_mem hx
  have hl := (List.getElem?_eq_some_iff.1 hk).1
  have := h k hl
  rw [List.getD_eq_getElem?_getD, hk] at this
  exact this
theorem win_may.all_not {l : List S24} {k : Nat} (hl : k < l.length) (h : win_may.okp (l.getD k z24) = false) : l.all win_may.okp = false := by
  rw [List.all_eq_false]
  exact ⟨_, List.mem_of_getElem? (Mine.getD_at z24 hl), by rw [h]; simp⟩
set_option maxHeartbeats 1000000 in
set_option maxRecDepth 100000 in
theorem win_may.index_calls (A : Option Addr) (c : Nat) (l : List S24) (w : World) (hr : Kd.C k24 w A l.length l) (hc : l.length ≤ c) (hl : l.length ≤ 64) :
    Calls Try.prog 43 #[.slice A l.length c, .func (.func 38) #[] #[]] w (win_may.IxPost w l) := by
  have HC := Aside0.mk hr
  clear hr
  go_enter Try.func43, Try.ntmps43
  go_wp2
  go_loopw [8] (fun i wr => win_may.IxAt w l i wr) (fun i _ => l.length - (intOf i).toNat)
  case atStart => exact ⟨0, Nat.zero_le _, rfl, fun k hk => by omega, Below.refl _ _⟩
  case round =>
    obtain ⟨j, hj, rfl, hall, hB⟩ := hrel
    have HA := Aside0.mk hall
    have HB := Aside0.mk hB
    clear hall hB
    by_cases hlt : j < l.length
    · obtain ⟨ad, hA, h0, h1⟩ := at_T24 (Kd.C_below HC.out HB.out) (j : Int) (by omega) (by omega)
      subst hA
      have hx : rd_T24 l (j : Int) = l.getD j z24 := by simp [rd_T24]
      rw [hx] at h0 h1
      rw [Int.toNat_natCast] at h0 h1
      have HG := Aside0.mk (win_may.okp_f (l.getD j z24).f0 (l.getD j z24).f1)
      have hok : win_may.okp ⟨(l.getD j z24).f0, (l.getD j z24).f1⟩ = win_may.okp (l.getD j z24) := rfl
      rw [hok] at HG
      clear hok hx
      generalize hxx : l.getD j z24 = x at *
      have HX := Aside0.mk hxx
      clear hxx
      cases hb : win_may.okp x with
      | true =>
        rw [hb] at HG
        have HB1 := Aside0.mk hb
        clear hb
        go_wp2_with (first | (go_at_call 38; (with_reducible refine (win_may.odd_calls _ _ true _ HG.out).mono ?_); rintro e w1 ⟨rfl, hb1⟩; have HB2 := Aside0.mk (HB.out.trans (hb1.mono HB.out.size)); clear hb1))
        go_roundw
        case rel => exact ⟨j + 1, by omega, by go_num, fun k hk => by
          rcases Nat.lt_or_ge k j with h | h
          · exact HA.out k h
          · rw [show k = j by omega, HX.out]; exact HB1.out, HB2.out⟩
        case measure => simp [intOf]; omega
      | false =>
        rw [hb] at HG
        have HB1 := Aside0.mk hb
        clear hb
        go_wp2_with (first | (go_at_call 38; (with_reducible refine (win_may.odd_calls _ _ false _ HG.out).mono ?_); rintro e w1 ⟨rfl, hb1⟩; have HB2 := Aside0.mk (HB.out.trans (hb1.mono HB.out.size)); clear hb1))
        go_ret
        exact ⟨j, rfl, by rw [win_may.all_not hlt (by rw [HX.out]; exact HB1.out)]; simp, HB2.out⟩
    · have hje : j = l.length := by omega
      subst hje
      go_wp2
      go_ret
      exact ⟨-1, rfl, by rw [win_may.all_get HA.out]; rfl, HB.out⟩
set_option maxHeartbeats 1000000 in
set_option maxRecDepth 100000 in
theorem win_may.contains_calls (A : Option Addr) (c : Nat) (l : List S24) (w : World) (hr : Kd.C k24 w A l.length l) (hc : l.length ≤ c) (hl : l.length ≤ 64) :
    Calls Try.prog 39 #[.slice A l.length c, .func (.func 38) #[] #[]] w fun e w' => e = .returned (.bool (!(l.all win_may.okp))) ∧ Below w.heap.size w w' := by
  have HC := Aside0.mk hr
  clear hr
  go_enter Try.func39, Try.ntmps39
  go_wp2_with (first | (go_at_call 43; (with_reducible refine (win_may.index_calls A c l _ HC.out hc hl).mono ?_); rintro e w1 ⟨r, rfl, hr, hb⟩; have HR := Aside0.mk hr; have HB := Aside0.mk hb; clear hr hb))
  go_ret
  exact ⟨Mine.ret_bool HR.out, HB.out⟩
/-- May so many CPUs, and these pairs, be asked of? -/
def win_may.f (a0 : Int) (l1 : List S24) : Option Bool := some (decide (1 ≤ a0) && decide (a0 ≤ 64) && decide (l1.length ≤ 64) && l1.all win_may.okp)
set_option maxHeartbeats 1000000 in
set_option maxRecDepth 100000 in
theorem win_may.calls (a0 : Int) (A1 : Option Addr) (c1 : Nat) (l1 : List S24) (r : Bool) (w : World) (hr1 : Kd.C k24 w A1 l1.length l1) (hc1 : l1.length ≤ c1) (h : win_may.f a0 l1 = some r) :
    Calls Try.prog 32 #[.int .i64 a0, .slice A1 l1.length c1] w fun e w' => e = .returned (.bool r) ∧ Below w.heap.size w w' := by
  have HR := Aside0.mk (Option.some.inj h)
  have HC := Aside0.mk hr1
  clear h hr1
  by_cases h1 : 1 ≤ a0
  · by_cases h2 : a0 ≤ 64
    · by_cases h3 : l1.length ≤ 64
      · have hres := Aside0.mk (show (l1.all win_may.okp) = r by have := HR.out; simpa [h1, h2, h3] using this)
        go_enter Try.func32, Try.ntmps32
        go_wp2_with (first | (go_at_call 39; (with_reducible refine (win_may.contains_calls A1 c1 l1 _ HC.out hc1 h3).mono ?_); rintro e w1 ⟨rfl, hb⟩; have HB := Aside0.mk hb; clear hb))
        go_ret
        exact ⟨Mine.ret_bool (by rw [← hres.out]), HB.out⟩
      · have hres := Aside0.mk (show false = r by have := HR.out; simpa [h1, h2, h3] using this)
        have d3 : decide (l1.length ≤ 64) = false := by simpa using h3
        have d4 : decide ((l1.length : Int) ≤ 64) = false := decide_eq_false (by omega)
        go_enter Try.func32, Try.ntmps32
        go_wp2
        go_ret
        exact ⟨Mine.ret_bool hres.out, Below.refl _ _⟩
    · have hres := Aside0.mk (show false = r by have := HR.out; simpa [h1, h2] using this)
      have d2 : decide (a0 ≤ 64) = false := by simpa using h2
      go_enter Try.func32, Try.ntmps32
      go_wp2
      go_ret
      exact ⟨Mine.ret_bool hres.out, Below.refl _ _⟩
  · have hres := Aside0.mk (show false = r by have := HR.out; simpa [h1] using this)
    have d1 : decide (1 ≤ a0) = false := by simpa using h1
    go_enter Try.func32, Try.ntmps32
    go_wp2
    go_ret
    exact ⟨Mine.ret_bool hres.out, Below.refl _ _⟩

end Go.Proofs.Ytmjodeijafoabaa.Q
