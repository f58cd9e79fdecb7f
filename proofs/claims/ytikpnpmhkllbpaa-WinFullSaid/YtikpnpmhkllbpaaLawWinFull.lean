/- The law WinFull of the program holds: whatever its arguments, the call returns true and each argument reads as it did. No condition of our own. -/
import Derived.Test.YtikpnpmhkllbpaaRows
import Derived.Test.YtikpnpmhkllbpaaOpen
import Derived.Test.YtikpnpmhkllbpaaPureWinFull
import Derived.Test.YtikpnpmhkllbpaaQx37
import Derived.WalkKit
import Derived.ProofKit
import Derived.OpenShut
import Derived.ShutString
import Derived.ChangeOld
import Derived.Below
import Derived.SizedLaws
import Derived.Carry
namespace Go.Proofs.Ytikpnpmhkllbpaa.winFull
open Go.ChangeShapes Go.WideShapes Go.ChangeAt Go.RowKit Go.Proofs.Ytikpnpmhkllbpaa.Open Go.Proofs.YtikpnpmhkllbpaaW.PrintWords
set_option linter.unusedVariables false
set_option linter.unusedSimpArgs false
theorem own : ownKnob Try.prog.godebug = none := by kernel_rfl
theorem laidOut : laidOutB Try.prog = true := by kernel_rfl
def good35 (x : (Int × Int)) : Prop := (Lit.int .i64 x.1).wf = true ∧ (Lit.int .i64 x.2).wf = true
theorem opens35 : Opens Try.prog 35 (Kd.pair (Kd.int .i64) (Kd.int .i64)) good35 := by
  intro H enc w base spare held n cs x h
  obtain ⟨xs, n', rfl, rfl, hl, hxl, hf⟩ := DataW.trod_struct Try.underlying35 h
  have hl' : cs.length = 2 := hl
  match cs, hl' with
  | [c0, c1], _ =>
    have h0 := (hf 0 _ rfl).trans (List.getElem?_eq_getElem (by rw [hxl]; decide))
    obtain ⟨a0, k0, g0⟩ := (opens_int Try.underlying2) enc w base spare held n' [c0] _ h0
    have h1 := (hf 1 _ rfl).trans (List.getElem?_eq_getElem (by rw [hxl]; decide))
    obtain ⟨a1, k1, g1⟩ := (opens_int Try.underlying2) enc w base spare held n' [c1] _ h1
    exact ⟨(a0, a1), ⟨[c0], [c1], rfl, k0, k1⟩, ⟨g0, g1⟩⟩
theorem cells35 {w : World} {x : (Int × Int)} {cs : List Value} (h : ((Kd.pair (Kd.int .i64) (Kd.int .i64))).K w x cs) : cs = [Value.int .i64 x.1, Value.int .i64 x.2] := by
  obtain ⟨_, _, rfl, rfl, rfl⟩ := h
  rfl
set_option maxRecDepth 100000 in
theorem lifted (os : Os) (started : os.Started) (H : Type) (enc : TypeId × Value → H) :
    ReturnsInHanded {} Try.checked os 9 .any (Rows.winFullSpec.pre6 enc Try.prog Try.f9 Rows.winFullRow.domain false) (Rows.winFullSpec.post enc Try.prog Try.f9 false true false false) := by
  refine returnsInHanded_of_change_sized (C := Try.checked) own started (by kernel_rfl) Try.func9
    (ChangeSpec.witness6 (enc := enc) (C := Try.checked) false ⟨#[], #[.int .i64 0, .int .i64 0, .agg #[.int .i64 0, .int .i64 0]], []⟩ 8 (by kernel_rfl) (by kernel_rfl) (by kernel_rfl) (by kernel_rfl)) ?_
  intro W base args ds gs before hval0 hW hcnd hsz0 _
  have hsz : (DataW.weightsEach Try.prog (Try.f9.params.toList ++ Rows.winFullSpec.plain.varTypes Try.prog) (ds ++ gs)).all (· ≤ reachBytes) = true := hsz0
  have hval : ∀ (j : Nat) t v, Try.f9.params[j]? = some t → args[j]? = some v → Value.okWide Try.prog W .any base t v := hval0
  have hW' := hW
  obtain ⟨p, q, hA0, hV, rfl, hfz, hnd⟩ := hW
  have hA : DataW.TrodAll enc Try.prog W 0 (fun _ => true) true Try.f9.params.toList args.toList ds p := hA0
  rw [Try.params9] at hA hval hsz
  obtain ⟨v0, vs0, d0, ds0, p0, q0, hargs, rfl, rfl, h0, r0⟩ := trodAll_cons hA
  obtain ⟨v1, vs1, d1, ds1, p1, q1, rfl, rfl, rfl, h1, r1⟩ := trodAll_cons r0
  obtain ⟨v2, vs2, d2, ds2, p2, q2, rfl, rfl, rfl, h2, r2⟩ := trodAll_cons r1
  obtain ⟨rfl, rfl, rfl⟩ := trodAll_nil r2
  obtain rfl : args = #[v0, v1, v2] := by cases args; simp_all
  obtain ⟨rfl, rfl⟩ := trodVars_none hV
  obtain ⟨a0, rfl, rfl, rfl, w0⟩ := open_int Try.underlying3 (hval 0 3 v0 rfl rfl) h0
  obtain ⟨a1, rfl, rfl, rfl, w1⟩ := open_int Try.underlying2 (hval 1 2 v1 rfl rfl) h1
  have k2 := h2
  have lt2 := open_lt h2
  obtain ⟨cs2, rfl, _⟩ := okWide_struct Try.underlying35 (hval 2 35 v2 rfl rfl)
  obtain ⟨b2, hb2, hg2⟩ := open_struct opens35 h2
  obtain ⟨cl2⟩ := cs2
  obtain rfl := cells35 hb2
  clear hA0 hval0 hsz0 hsz
  obtain ⟨kk, hk⟩ := Pure.WinFull a0 a1 b2.1 b2.2 w0 w1 hg2
  refine (Q.beadlelaw13_WinFull.calls kk a0 a1 b2.1 b2.2 true W hk).mono fun e W' ⟨he, bel0⟩ => ?_
  have bel : Below W.heap.size W W' := by first | exact bel0 | exact bel0.below
  subst he
  exact ⟨_, rfl, _, _, _, [], _, [], hW', trodAll_mk1 (shut_bool Try.underlying4 _), (trodAll_cons_mk (shut_int Try.underlying3 w0) (trodAll_cons_mk (shut_int Try.underlying2 w1) (trodAll_cons_mk (Below.trod laidOut (by kernel_rfl) (of_decide_eq_true (by kernel_rfl)) k2 bel lt2) trodAll_mk0))), rfl, bel.frame _, fun h => by cases h⟩
theorem over : Rows.winFullRow.holds Try.pinned (OpenSpec.ofChange Rows.winFullSpec) :=
  OpenClaim.holds_of_wide 9 Try.f9 rfl rfl rfl rfl rfl rfl rfl ⟨rfl, rfl, rfl, rfl, rfl⟩ rfl rfl rfl rfl rfl (by kernel_rfl) Try.func9 (by kernel_rfl)
    (of_decide_eq_true (by kernel_rfl)) (by unfold Func.isWrapper; first | (rw [if_pos (by decide +kernel)]; kernel_rfl) | (rw [if_neg (by decide +kernel)]; exact ⟨rfl, rfl⟩))
    (fun os started H enc _ => lifted os started H enc)
theorem proved : Rows.WinFullSaid := over
#print axioms proved
end Go.Proofs.Ytikpnpmhkllbpaa.winFull
namespace Go.Proofs.Ytikpnpmhkllbpaa
/-- The row, under a short name, for the claim. -/
theorem winFull_holds : Rows.WinFullSaid := winFull.proved
end Go.Proofs.Ytikpnpmhkllbpaa
