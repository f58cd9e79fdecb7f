/- The law WinUse of the program holds: whatever its arguments, the call returns true and each argument reads as it did. No condition of our own. -/
import Derived.Test.YtikpnpmhkllbpaaRows
import Derived.Test.YtikpnpmhkllbpaaOpen
import Derived.Test.YtikpnpmhkllbpaaPureWinUse
import Derived.Test.YtikpnpmhkllbpaaQx36
import Derived.WalkKit
import Derived.ProofKit
import Derived.OpenShut
import Derived.ShutString
import Derived.ChangeOld
import Derived.Below
import Derived.SizedLaws
import Derived.Carry
namespace Go.Proofs.Ytikpnpmhkllbpaa.winUse
open Go.ChangeShapes Go.WideShapes Go.ChangeAt Go.RowKit Go.Proofs.Ytikpnpmhkllbpaa.Open Go.Proofs.YtikpnpmhkllbpaaW.PrintWords
set_option linter.unusedVariables false
set_option linter.unusedSimpArgs false
theorem own : ownKnob Try.prog.godebug = none := by kernel_rfl
theorem laidOut : laidOutB Try.prog = true := by kernel_rfl
def goodS35 (x : Q.S35) : Prop := (Lit.int .i64 x.f0).wf = true ∧ (Lit.int .i64 x.f1).wf = true
theorem opensS35 : Opens Try.prog 35 Q.k35 goodS35 := by
  intro H enc w base spare held n cs x h
  obtain ⟨xs, n', rfl, rfl, hl, hxl, hf⟩ := DataW.trod_struct Try.underlying35 h
  have hl' : cs.length = 2 := hl
  match cs, hl' with
  | [c0, c1], _ =>
    have h0 := (hf 0 _ rfl).trans (List.getElem?_eq_getElem (by rw [hxl]; decide))
    obtain ⟨a0, k0, g0⟩ := (opens_int Try.underlying2) enc w base spare held n' [c0] _ h0
    have h1 := (hf 1 _ rfl).trans (List.getElem?_eq_getElem (by rw [hxl]; decide))
    obtain ⟨a1, k1, g1⟩ := (opens_int Try.underlying2) enc w base spare held n' [c1] _ h1
    exact ⟨⟨a0, a1⟩, ⟨[c0], [c1], rfl, k0, k1⟩, ⟨g0, g1⟩⟩
set_option maxRecDepth 100000 in
theorem lifted (os : Os) (started : os.Started) (H : Type) (enc : TypeId × Value → H) :
    ReturnsInHanded {} Try.checked os 8 .any (Rows.winUseSpec.pre6 enc Try.prog Try.f8 Rows.winUseRow.domain false) (Rows.winUseSpec.post enc Try.prog Try.f8 false true false false) := by
  refine returnsInHanded_of_change_sized (C := Try.checked) own started (by kernel_rfl) Try.func8
    (ChangeSpec.witness6 (enc := enc) (C := Try.checked) false ⟨#[], #[.slice none 0 0], []⟩ 8 (by kernel_rfl) (by kernel_rfl) (by kernel_rfl) (by kernel_rfl)) ?_
  intro W base args ds gs before hval0 hW hcnd hsz0 _
  have hsz : (DataW.weightsEach Try.prog (Try.f8.params.toList ++ Rows.winUseSpec.plain.varTypes Try.prog) (ds ++ gs)).all (· ≤ reachBytes) = true := hsz0
  have hval : ∀ (j : Nat) t v, Try.f8.params[j]? = some t → args[j]? = some v → Value.okWide Try.prog W .any base t v := hval0
  have hW' := hW
  obtain ⟨p, q, hA0, hV, rfl, hfz, hnd⟩ := hW
  have hA : DataW.TrodAll enc Try.prog W 0 (fun _ => true) true Try.f8.params.toList args.toList ds p := hA0
  rw [Try.params8] at hA hval hsz
  obtain ⟨v0, vs0, d0, ds0, p0, q0, hargs, rfl, rfl, h0, r0⟩ := trodAll_cons hA
  obtain ⟨rfl, rfl, rfl⟩ := trodAll_nil r0
  obtain rfl : args = #[v0] := by cases args; simp_all
  obtain ⟨rfl, rfl⟩ := trodVars_none hV
  have k0 := h0
  have lt0 := open_lt h0
  obtain ⟨A0, len0, cap0, rfl⟩ := okWide_slice Try.underlying22 (hval 0 22 v0 rfl rfl)
  obtain ⟨l0, rfl, hr0, hc0, hg0⟩ := open_row (d := Q.k35) Try.underlying22 (by kernel_rfl) opensS35 h0
  clear hA0 hval0 hsz0 hsz
  obtain ⟨kk, hk⟩ := Pure.WinUse l0
  refine (Q.beadlelaw13_WinUse.calls kk A0 cap0 l0 true W hr0 hc0 hk).mono fun e W' ⟨he, bel0⟩ => ?_
  have bel : Below W.heap.size W W' := by first | exact bel0 | exact bel0.below
  subst he
  exact ⟨_, rfl, _, _, _, [], _, [], hW', trodAll_mk1 (shut_bool Try.underlying4 _), (trodAll_cons_mk (Below.trod laidOut (by kernel_rfl) (of_decide_eq_true (by kernel_rfl)) k0 bel lt0) trodAll_mk0), rfl, bel.frame _, fun h => by cases h⟩
theorem over : Rows.winUseRow.holds Try.pinned (OpenSpec.ofChange Rows.winUseSpec) :=
  OpenClaim.holds_of_wide 8 Try.f8 rfl rfl rfl rfl rfl rfl rfl ⟨rfl, rfl, rfl, rfl, rfl⟩ rfl rfl rfl rfl rfl (by kernel_rfl) Try.func8 (by kernel_rfl)
    (of_decide_eq_true (by kernel_rfl)) (by unfold Func.isWrapper; first | (rw [if_pos (by decide +kernel)]; kernel_rfl) | (rw [if_neg (by decide +kernel)]; exact ⟨rfl, rfl⟩))
    (fun os started H enc _ => lifted os started H enc)
theorem proved : Rows.WinUseSaid := over
#print axioms proved
end Go.Proofs.Ytikpnpmhkllbpaa.winUse
namespace Go.Proofs.Ytikpnpmhkllbpaa
/-- The row, under a short name, for the claim. -/
theorem winUse_holds : Rows.WinUseSaid := winUse.proved
end Go.Proofs.Ytikpnpmhkllbpaa
