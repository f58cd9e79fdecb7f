/- The law SemPlays of the program holds: whatever its arguments, the call returns true and each argument reads as it did. No condition of our own. -/
import Derived.Test.YtnfpgdcnihbokaaRows
import Derived.Test.YtnfpgdcnihbokaaOpen
import Derived.Test.YtnfpgdcnihbokaaPlaysS
import Derived.WalkKit
import Derived.ProofKit
import Derived.OpenShut
import Derived.ShutString
import Derived.ChangeOld
import Derived.Below
import Derived.SizedLaws
import Derived.Carry
namespace Go.Proofs.Ytnfpgdcnihbokaa.semPlays
open Go.ChangeShapes Go.WideShapes Go.ChangeAt Go.RowKit Go.Proofs.Ytnfpgdcnihbokaa.Open Go.Proofs.YtnfpgdcnihbokaaW.PrintWords
set_option linter.unusedVariables false
set_option linter.unusedSimpArgs false
theorem own : ownKnob Try.prog.godebug = none := by kernel_rfl
theorem laidOut : laidOutB Try.prog = true := by kernel_rfl
def good42 (x : (Int × Int)) : Prop := (Lit.int .i64 x.1).wf = true ∧ (Lit.int .i64 x.2).wf = true
theorem opens42 : Opens Try.prog 42 (Kd.pair (Kd.int .i64) (Kd.int .i64)) good42 := by
  intro H enc w base spare held n cs x h
  obtain ⟨xs, n', rfl, rfl, hl, hxl, hf⟩ := DataW.trod_struct Try.underlying42 h
  have hl' : cs.length = 2 := hl
  match cs, hl' with
  | [c0, c1], _ =>
    have h0 := (hf 0 _ rfl).trans (List.getElem?_eq_getElem (by rw [hxl]; decide))
    obtain ⟨a0, k0, g0⟩ := (opens_int Try.underlying3) enc w base spare held n' [c0] _ h0
    have h1 := (hf 1 _ rfl).trans (List.getElem?_eq_getElem (by rw [hxl]; decide))
    obtain ⟨a1, k1, g1⟩ := (opens_int Try.underlying3) enc w base spare held n' [c1] _ h1
    exact ⟨(a0, a1), ⟨[c0], [c1], rfl, k0, k1⟩, ⟨g0, g1⟩⟩
theorem cells42 {w : World} {x : (Int × Int)} {cs : List Value} (h : ((Kd.pair (Kd.int .i64) (Kd.int .i64))).K w x cs) : cs = [Value.int .i64 x.1, Value.int .i64 x.2] := by
  obtain ⟨_, _, rfl, rfl, rfl⟩ := h
  rfl
set_option maxRecDepth 100000 in
theorem lifted (os : Os) (started : os.Started) (H : Type) (enc : TypeId × Value → H) :
    ReturnsInHanded {} Try.checked os 5 .any (Rows.semPlaysSpec.pre6 enc Try.prog Try.f5 Rows.semPlaysRow.domain false) (Rows.semPlaysSpec.post enc Try.prog Try.f5 false true false false) := by
  refine returnsInHanded_of_change_sized (C := Try.checked) own started (by kernel_rfl) Try.func5
    (ChangeSpec.witness6 (enc := enc) (C := Try.checked) false ⟨#[], #[.slice none 0 0], []⟩ 8 (by kernel_rfl) (by kernel_rfl) (by kernel_rfl) (by kernel_rfl)) ?_
  intro W base args ds gs before hval0 hW hcnd hsz0 _
  have hsz : (DataW.weightsEach Try.prog (Try.f5.params.toList ++ Rows.semPlaysSpec.plain.varTypes Try.prog) (ds ++ gs)).all (· ≤ reachBytes) = true := hsz0
  have hval : ∀ (j : Nat) t v, Try.f5.params[j]? = some t → args[j]? = some v → Value.okWide Try.prog W .any base t v := hval0
  have hW' := hW
  obtain ⟨p, q, hA0, hV, rfl, hfz, hnd⟩ := hW
  have hA : DataW.TrodAll enc Try.prog W 0 (fun _ => true) true Try.f5.params.toList args.toList ds p := hA0
  rw [Try.params5] at hA hval hsz
  obtain ⟨v0, vs0, d0, ds0, p0, q0, hargs, rfl, rfl, h0, r0⟩ := trodAll_cons hA
  obtain ⟨rfl, rfl, rfl⟩ := trodAll_nil r0
  obtain rfl : args = #[v0] := by cases args; simp_all
  obtain ⟨rfl, rfl⟩ := trodVars_none hV
  have k0 := h0
  have lt0 := open_lt h0
  obtain ⟨A0, len0, cap0, rfl⟩ := okWide_slice Try.underlying37 (hval 0 37 v0 rfl rfl)
  obtain ⟨l0, rfl, hr0, hc0, hg0⟩ := open_row (d := (Kd.pair (Kd.int .i64) (Kd.int .i64))) Try.underlying37 (by kernel_rfl) opens42 h0
  clear hA0 hval0 hsz0 hsz
  refine (Sem.plays_walk A0 cap0 l0 hr0 hc0 hg0 W).mono fun e W' ⟨he, bel0⟩ => ?_
  have bel : Below W.heap.size W W' := by first | exact bel0 | exact bel0.below
  subst he
  exact ⟨_, rfl, _, _, _, [], _, [], hW', trodAll_mk1 (shut_bool Try.underlying4 _), (trodAll_cons_mk (Below.trod laidOut (by kernel_rfl) (of_decide_eq_true (by kernel_rfl)) k0 bel lt0) trodAll_mk0), rfl, bel.frame _, fun h => by cases h⟩
theorem over : Rows.semPlaysRow.holds Try.pinned (OpenSpec.ofChange Rows.semPlaysSpec) :=
  OpenClaim.holds_of_wide 5 Try.f5 rfl rfl rfl rfl rfl rfl rfl ⟨rfl, rfl, rfl, rfl, rfl⟩ rfl rfl rfl rfl rfl (by kernel_rfl) Try.func5 (by kernel_rfl)
    (of_decide_eq_true (by kernel_rfl)) (by unfold Func.isWrapper; first | (rw [if_pos (by decide +kernel)]; kernel_rfl) | (rw [if_neg (by decide +kernel)]; exact ⟨rfl, rfl⟩))
    (fun os started H enc _ => lifted os started H enc)
theorem proved : Rows.SemPlaysSaid := over
#print axioms proved
end Go.Proofs.Ytnfpgdcnihbokaa.semPlays
namespace Go.Proofs.Ytnfpgdcnihbokaa
/-- The row, under a short name, for the claim. -/
theorem semPlays_holds : Rows.SemPlaysSaid := semPlays.proved
end Go.Proofs.Ytnfpgdcnihbokaa
