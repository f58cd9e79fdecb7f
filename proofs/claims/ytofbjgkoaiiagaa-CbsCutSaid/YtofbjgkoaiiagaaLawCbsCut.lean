/- The law CbsCut of the program holds: whatever its arguments, the call returns true and each argument reads as it did. No condition of our own. -/
import Derived.Test.YtofbjgkoaiiagaaRows
import Derived.Test.YtofbjgkoaiiagaaOpen
import Derived.Test.YtofbjgkoaiiagaaQx13
import Derived.Test.YtofbjgkoaiiagaaPureCbsCut
import Derived.WalkKit
import Derived.ProofKit
import Derived.OpenShut
import Derived.ShutString
import Derived.ChangeOld
import Derived.Below
import Derived.SizedLaws
import Derived.Carry
namespace Go.Proofs.Ytofbjgkoaiiagaa.cbsCut
open Go.ChangeShapes Go.WideShapes Go.ChangeAt Go.RowKit Go.Proofs.Ytofbjgkoaiiagaa.Open Go.Proofs.YtofbjgkoaiiagaaW.PrintWords
set_option linter.unusedVariables false
set_option linter.unusedSimpArgs false
theorem own : ownKnob Try.prog.godebug = none := by kernel_rfl
theorem laidOut : laidOutB Try.prog = true := by kernel_rfl
def good23 (x : (Int × Int × Int × Int × Int)) : Prop := (Lit.int .i64 x.1).wf = true ∧ (Lit.int .i64 x.2.1).wf = true ∧ (Lit.int .i64 x.2.2.1).wf = true ∧ (Lit.int .i64 x.2.2.2.1).wf = true ∧ (Lit.int .i64 x.2.2.2.2).wf = true
theorem opens23 : Opens Try.prog 23 (Kd.pair (Kd.int .i64) (Kd.pair (Kd.int .i64) (Kd.pair (Kd.int .i64) (Kd.pair (Kd.int .i64) (Kd.int .i64))))) good23 := by
  intro H enc w base spare held n cs x h
  obtain ⟨xs, n', rfl, rfl, hl, hxl, hf⟩ := DataW.trod_struct Try.underlying23 h
  have hl' : cs.length = 5 := hl
  match cs, hl' with
  | [c0, c1, c2, c3, c4], _ =>
    have h0 := (hf 0 _ rfl).trans (List.getElem?_eq_getElem (by rw [hxl]; decide))
    obtain ⟨a0, k0, g0⟩ := (opens_int Try.underlying2) enc w base spare held n' [c0] _ h0
    have h1 := (hf 1 _ rfl).trans (List.getElem?_eq_getElem (by rw [hxl]; decide))
    obtain ⟨a1, k1, g1⟩ := (opens_int Try.underlying2) enc w base spare held n' [c1] _ h1
    have h2 := (hf 2 _ rfl).trans (List.getElem?_eq_getElem (by rw [hxl]; decide))
    obtain ⟨a2, k2, g2⟩ := (opens_int Try.underlying2) enc w base spare held n' [c2] _ h2
    have h3 := (hf 3 _ rfl).trans (List.getElem?_eq_getElem (by rw [hxl]; decide))
    obtain ⟨a3, k3, g3⟩ := (opens_int Try.underlying2) enc w base spare held n' [c3] _ h3
    have h4 := (hf 4 _ rfl).trans (List.getElem?_eq_getElem (by rw [hxl]; decide))
    obtain ⟨a4, k4, g4⟩ := (opens_int Try.underlying3) enc w base spare held n' [c4] _ h4
    exact ⟨(a0, a1, a2, a3, a4), ⟨[c0], [c1, c2, c3, c4], rfl, k0, ⟨[c1], [c2, c3, c4], rfl, k1, ⟨[c2], [c3, c4], rfl, k2, ⟨[c3], [c4], rfl, k3, k4⟩⟩⟩⟩, ⟨g0, g1, g2, g3, g4⟩⟩
theorem cells23 {w : World} {x : (Int × Int × Int × Int × Int)} {cs : List Value} (h : ((Kd.pair (Kd.int .i64) (Kd.pair (Kd.int .i64) (Kd.pair (Kd.int .i64) (Kd.pair (Kd.int .i64) (Kd.int .i64)))))).K w x cs) : cs = [Value.int .i64 x.1, Value.int .i64 x.2.1, Value.int .i64 x.2.2.1, Value.int .i64 x.2.2.2.1, Value.int .i64 x.2.2.2.2] := by
  obtain ⟨_, _, rfl, rfl, ⟨_, _, rfl, rfl, ⟨_, _, rfl, rfl, ⟨_, _, rfl, rfl, rfl⟩⟩⟩⟩ := h
  rfl
set_option maxRecDepth 100000 in
theorem lifted (os : Os) (started : os.Started) (H : Type) (enc : TypeId × Value → H) :
    ReturnsInHanded {} Try.checked os 3 .any (Rows.cbsCutSpec.pre6 enc Try.prog Try.f3 Rows.cbsCutRow.domain false) (Rows.cbsCutSpec.post enc Try.prog Try.f3 false true false false) := by
  refine returnsInHanded_of_change_sized (C := Try.checked) own started (by kernel_rfl) Try.func3
    (ChangeSpec.witness6 (enc := enc) (C := Try.checked) false ⟨#[], #[.agg #[.int .i64 0, .int .i64 0, .int .i64 0, .int .i64 0, .int .i64 0], .int .i64 0], []⟩ 8 (by kernel_rfl) (by kernel_rfl) (by kernel_rfl) (by kernel_rfl)) ?_
  intro W base args ds gs before hval0 hW hcnd hsz0 _
  have hsz : (DataW.weightsEach Try.prog (Try.f3.params.toList ++ Rows.cbsCutSpec.plain.varTypes Try.prog) (ds ++ gs)).all (· ≤ reachBytes) = true := hsz0
  have hval : ∀ (j : Nat) t v, Try.f3.params[j]? = some t → args[j]? = some v → Value.okWide Try.prog W .any base t v := hval0
  have hW' := hW
  obtain ⟨p, q, hA0, hV, rfl, hfz, hnd⟩ := hW
  have hA : DataW.TrodAll enc Try.prog W 0 (fun _ => true) true Try.f3.params.toList args.toList ds p := hA0
  rw [Try.params3] at hA hval hsz
  obtain ⟨v0, vs0, d0, ds0, p0, q0, hargs, rfl, rfl, h0, r0⟩ := trodAll_cons hA
  obtain ⟨v1, vs1, d1, ds1, p1, q1, rfl, rfl, rfl, h1, r1⟩ := trodAll_cons r0
  obtain ⟨rfl, rfl, rfl⟩ := trodAll_nil r1
  obtain rfl : args = #[v0, v1] := by cases args; simp_all
  obtain ⟨rfl, rfl⟩ := trodVars_none hV
  have k0 := h0
  have lt0 := open_lt h0
  obtain ⟨cs0, rfl, _⟩ := okWide_struct Try.underlying23 (hval 0 23 v0 rfl rfl)
  obtain ⟨b0, hb0, hg0⟩ := open_struct opens23 h0
  obtain ⟨cl0⟩ := cs0
  obtain rfl := cells23 hb0
  obtain ⟨a1, rfl, rfl, rfl, w1⟩ := open_int Try.underlying2 (hval 1 2 v1 rfl rfl) h1
  clear hA0 hval0 hsz0 hsz
  obtain ⟨kk, hk⟩ := Pure.CbsCut b0.1 b0.2.1 b0.2.2.1 b0.2.2.2.1 b0.2.2.2.2 a1 hg0 w1
  refine (Q.beadlelaw12_CbsCut.calls kk b0.1 b0.2.1 b0.2.2.1 b0.2.2.2.1 b0.2.2.2.2 a1 true W hk).mono fun e W' ⟨he, bel0⟩ => ?_
  have bel : Below W.heap.size W W' := by first | exact bel0 | exact bel0.below
  subst he
  exact ⟨_, rfl, _, _, _, [], _, [], hW', trodAll_mk1 (shut_bool Try.underlying4 _), (trodAll_cons_mk (Below.trod laidOut (by kernel_rfl) (of_decide_eq_true (by kernel_rfl)) k0 bel lt0) (trodAll_cons_mk (shut_int Try.underlying2 w1) trodAll_mk0)), rfl, bel.frame _, fun h => by cases h⟩
theorem over : Rows.cbsCutRow.holds Try.pinned (OpenSpec.ofChange Rows.cbsCutSpec) :=
  OpenClaim.holds_of_wide 3 Try.f3 rfl rfl rfl rfl rfl rfl rfl ⟨rfl, rfl, rfl, rfl, rfl⟩ rfl rfl rfl rfl rfl (by kernel_rfl) Try.func3 (by kernel_rfl)
    (of_decide_eq_true (by kernel_rfl)) (by unfold Func.isWrapper; first | (rw [if_pos (by decide +kernel)]; kernel_rfl) | (rw [if_neg (by decide +kernel)]; exact ⟨rfl, rfl⟩))
    (fun os started H enc _ => lifted os started H enc)
theorem proved : Rows.CbsCutSaid := over
#print axioms proved
end Go.Proofs.Ytofbjgkoaiiagaa.cbsCut
namespace Go.Proofs.Ytofbjgkoaiiagaa
/-- The row, under a short name, for the claim. -/
theorem cbsCut_holds : Rows.CbsCutSaid := cbsCut.proved
end Go.Proofs.Ytofbjgkoaiiagaa
