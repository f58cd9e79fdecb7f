-- Written by myprint.py: the kit's print program with patches of this session; Lean checks it.
import Derived.Test.YtjeflmdfnfgacaaQx0
import Derived.Test.YtjeflmdfnfgacaaQx6
namespace Go.Proofs.Ytjeflmdfnfgacaa.Q
open Go.RowKit Go.Proofs.YtjeflmdfnfgacaaW.PrintWords Go.Proofs.YtjeflmdfnfgacaaW.PrintLast Go.Proofs.YtjeflmdfnfgacaaW.PrintMore
attribute [local go_sem] max2_int min2_int max_two min_two max_three min_three max_four min_four   -- for this text's walks alone
set_option linter.unusedVariables false
set_option linter.unusedSimpArgs false

/-! ### mask_Mask_Without: function 23 -/
def mask_Mask_Without.f (a0 : Int) (a1 : Int) : Option (Int) := (mask_bit.f a1).bind fun t108 => (some (Go.bits .andNot .u64 a0 t108))
set_option maxHeartbeats 8000000 in
set_option maxRecDepth 100000 in
theorem mask_Mask_Without.calls (a0 : Int) (a1 : Int) (r : Int) (w : World) (h : mask_Mask_Without.f a0 a1 = some r) :
    Calls Try.prog 23 #[.int .u64 a0, .int .i64 a1] w fun e w' => e = .returned (.int .u64 r) ∧ Drawn0 w w' := by
  have H : ((mask_bit.f a1).bind fun t108 => (some (Go.bits .andNot .u64 a0 t108))) = some r := h
  clear h
  replace H := Option.bind_eq_some_iff.mp H
  obtain ⟨t108, A30, H⟩ := H
  replace H : (some (Go.bits .andNot .u64 a0 t108)) = some r := H
  have A3 := Aside0.mk A30
  clear A30
  obtain rfl := Option.some.inj H
  go_enter Try.func23, Try.ntmps23
  go_wp2_with (first | ((with_reducible refine gate_callee (f := 28) rfl ?_); refine goesL_ (some 7) rfl rfl Try.func28 (by kernel_rfl) rfl #[.int .i64 a1] rfl (by (try simp only [List.map_toArray, List.map_cons, List.map_nil]); first | done | rfl | (simp only [List.length_drop, List.length_take]; rfl)) ?_; (with_reducible refine (mask_bit.calls a1 t108 _ A3.out).mono ?_); rintro e w' ⟨rfl, ⟨nd, rfl⟩⟩; refine ⟨_, rfl, ?_⟩))
  go_ret
  exact ⟨by first | rfl | (simp; done) | (simp [*]; done), by repeat (first | exact Drawn0.refl _ | apply Drawn0.step)⟩

end Go.Proofs.Ytjeflmdfnfgacaa.Q
