-- Written by myprint.py: the kit's print program with patches of this session; Lean checks it.
import Derived.Test.YtmjmfkbdnhdafaaQx0
namespace Go.Proofs.Ytmjmfkbdnhdafaa.Q
open Go.RowKit Go.Proofs.YtmjmfkbdnhdafaaW.PrintWords Go.Proofs.YtmjmfkbdnhdafaaW.PrintLast Go.Proofs.YtmjmfkbdnhdafaaW.PrintMore
attribute [local go_sem] max2_int min2_int max_two min_two max_three min_three max_four min_four   -- for this text's walks alone
set_option linter.unusedVariables false
set_option linter.unusedSimpArgs false

/-! ### slices_Clone_int_int: function 26 -/
theorem slices_Clone_int_int.info : (Try.prog.info? 3).map (fun i => (i.zero, i.size, i.bytes)) = some (some (.int .i64 0), 1, 8) := by kernel_rfl
theorem slices_Clone_int_int.lit (w : World) (e : Nat) : (Kd.int .i64).R e (w.alloc (.cells #[] e)) w.heap.size (fun _ => True) (.slice (some ⟨w.heap.size, 0, none⟩) 0 0) [] := by
  refine ⟨fun _ _ => trivial, [], ?_, Reps.none _ _⟩
  have h2 := World.ownsRow_lit (base := w.heap.size) (e := e) (size := 1) w #[] 0 (Nat.le_refl _) (by simp [maxLen]) (by simp)
  show (w.alloc (.cells #[] e)).ownsRow w.heap.size e 1 _ _ _
  simpa using h2
/-- A copy of a row: the same numbers. -/
def slices_Clone_int_int.f (l0 : List Int) : Option (List Int) := if l0.length ≤ 17592186044416 then some l0 else none
set_option maxHeartbeats 1000000 in
set_option maxRecDepth 100000 in
theorem slices_Clone_int_int.calls (A0 : Option Addr) (c0 : Nat) (l0 : List Int) (r : List Int) (w : World) (hr0 : Kd.C (Kd.int .i64) w A0 l0.length l0) (hc0 : l0.length ≤ c0) (h : slices_Clone_int_int.f l0 = some r) :
    Calls Try.prog 26 #[.slice A0 l0.length c0] w fun e w' => ∃ v0_ : Value, e = .returned (v0_) ∧ Kd.R (Kd.int .i64) 3 w' w.heap.size (fun _ => True) v0_ r ∧ Below w.heap.size w w' := by
  unfold slices_Clone_int_int.f at h
  by_cases hl : l0.length ≤ 17592186044416
  · rw [if_pos hl] at h
    obtain rfl := Option.some.inj h
    clear h
    cases A0 with
    | none =>
      have h0 : l0 = [] := by
        apply Classical.byContradiction
        intro hne
        obtain ⟨ad, e, _⟩ := hr0.2.2 (by cases l0 with | nil => exact absurd rfl hne | cons x xs => simp)
        cases e
      subst h0
      clear hr0 hc0 hl
      have he := fun w => Lib.run_eql_slice_nil (P := Try.prog) w 28 3 none 0 c0 0 0 Try.underlying28
      simp only [Option.isNone_none] at he
      go_enter Try.func26, Try.ntmps26
      go_wp2
      go_ret
      exact ⟨_, rfl, Kd.R_nil _ _ _ _ _, Below.refl _ _⟩
    | some a =>
      have he := fun w => Lib.run_eql_slice_nil (P := Try.prog) w 28 3 (some a) l0.length c0 0 0 Try.underlying28
      simp only [Option.isNone_some] at he
      have HC := Aside0.mk hr0
      clear hr0
      go_enter Try.func26, Try.ntmps26
      go_wp2_with (first | ((with_reducible refine gate_builtin (b := .append) (xs := #[.tmp 5, .tmp 6]) rfl ?_); at_builtin; refine Kd.R_append_row (Value.int .i64) (0 : Int) (h1 := fun _ => rfl) (w0 := w) w.heap.size rfl (.tmp 5) (.tmp 6) 28 3 (.int .i64 0) 8 rfl Try.underlying28 slices_Clone_int_int.info rfl (by decide) (.slice (some ⟨w.heap.size, 0, none⟩) 0 0) [] l0 (some a) l0.length c0 (fun _ => True) rfl rfl (fun _ _ => trivial) (slices_Clone_int_int.lit w 3) (Kd.C_alloc HC.out _) (below_alloc (Below.refl _ _) _) (by simp) (by simp; omega) ?_; intro v1 w1 HO HB HG HAT; have HO' := Aside0.mk HO; have HB' := Aside0.mk HB; clear HO HB HAT))
      go_ret
      exact ⟨_, rfl, by have := HO'.out; rw [List.nil_append] at this; exact this, HB'.out⟩
  · rw [if_neg hl] at h
    cases h

end Go.Proofs.Ytmjmfkbdnhdafaa.Q
