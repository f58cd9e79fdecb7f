/- The law AlarmRegisters of the program holds: whatever its arguments, the call returns true and each argument reads as it did. No condition of our own. -/
import Derived.Test.YtdmoembbgcoeaaaRows
import Derived.Test.YtdmoembbgcoeaaaOpen
import Derived.Test.YtdmoembbgcoeaaaAlR
import Derived.WalkKit
import Derived.ProofKit
import Derived.OpenShut
import Derived.ShutString
import Derived.ChangeOld
import Derived.Below
import Derived.SizedLaws
import Derived.Carry
namespace Go.Proofs.Ytdmoembbgcoeaaa.alarmRegisters
open Go.ChangeShapes Go.WideShapes Go.ChangeAt Go.RowKit Go.Proofs.Ytdmoembbgcoeaaa.Open Go.Proofs.YtdmoembbgcoeaaaW.PrintWords
set_option linter.unusedVariables false
set_option linter.unusedSimpArgs false
theorem own : ownKnob Try.prog.godebug = none := by kernel_rfl
theorem laidOut : laidOutB Try.prog = true := by kernel_rfl
def good38 (x : (Int × Int × Int × Int × Int)) : Prop := (Lit.int .i64 x.1).wf = true ∧ (Lit.int .i64 x.2.1).wf = true ∧ (Lit.int .i64 x.2.2.1).wf = true ∧ (Lit.int .i64 x.2.2.2.1).wf = true ∧ (Lit.int .i64 x.2.2.2.2).wf = true
set_option maxRecDepth 100000 in
theorem opens38 : Opens Try.prog 38 (Kd.pair (Kd.int .i64) (Kd.pair (Kd.int .i64) (Kd.pair (Kd.int .i64) (Kd.pair (Kd.int .i64) (Kd.int .i64))))) good38 := by
  intro H enc w base spare held n cs x h
  obtain ⟨xs, n', rfl, rfl, hl, hxl, hf⟩ := DataW.trod_struct Try.underlying38 h
  have hl' : cs.length = 5 := hl
  match cs, hl' with
  | [c0, c1, c2, c3, c4], _ =>
    have h0 := (hf 0 _ rfl).trans (List.getElem?_eq_getElem (by rw [hxl]; decide))
    obtain ⟨a0, k0, g0⟩ := (opens_int Try.underlying3) enc w base spare held n' [c0] _ h0
    have h1 := (hf 1 _ rfl).trans (List.getElem?_eq_getElem (by rw [hxl]; decide))
    obtain ⟨a1, k1, g1⟩ := (opens_int Try.underlying3) enc w base spare held n' [c1] _ h1
    have h2 := (hf 2 _ rfl).trans (List.getElem?_eq_getElem (by rw [hxl]; decide))
    obtain ⟨a2, k2, g2⟩ := (opens_int Try.underlying3) enc w base spare held n' [c2] _ h2
    have h3 := (hf 3 _ rfl).trans (List.getElem?_eq_getElem (by rw [hxl]; decide))
    obtain ⟨a3, k3, g3⟩ := (opens_int Try.underlying3) enc w base spare held n' [c3] _ h3
    have h4 := (hf 4 _ rfl).trans (List.getElem?_eq_getElem (by rw [hxl]; decide))
    obtain ⟨a4, k4, g4⟩ := (opens_int Try.underlying2) enc w base spare held n' [c4] _ h4
    exact ⟨(a0, a1, a2, a3, a4), ⟨[c0], [c1, c2, c3, c4], rfl, k0, ⟨[c1], [c2, c3, c4], rfl, k1, ⟨[c2], [c3, c4], rfl, k2, ⟨[c3], [c4], rfl, k3, k4⟩⟩⟩⟩, ⟨g0, g1, g2, g3, g4⟩⟩
theorem cells38 {w : World} {x : (Int × Int × Int × Int × Int)} {cs : List Value} (h : ((Kd.pair (Kd.int .i64) (Kd.pair (Kd.int .i64) (Kd.pair (Kd.int .i64) (Kd.pair (Kd.int .i64) (Kd.int .i64)))))).K w x cs) : cs = [Value.int .i64 x.1, Value.int .i64 x.2.1, Value.int .i64 x.2.2.1, Value.int .i64 x.2.2.2.1, Value.int .i64 x.2.2.2.2] := by
  obtain ⟨_, _, rfl, rfl, ⟨_, _, rfl, rfl, ⟨_, _, rfl, rfl, ⟨_, _, rfl, rfl, rfl⟩⟩⟩⟩ := h
  rfl
set_option maxRecDepth 100000 in
theorem lifted (os : Os) (started : os.Started) (H : Type) (enc : TypeId × Value → H) :
    ReturnsInHanded {} Try.checked os 4 .any (Rows.alarmRegistersSpec.pre6 enc Try.prog Try.f4 Rows.alarmRegistersRow.domain false) (Rows.alarmRegistersSpec.post enc Try.prog Try.f4 false true false false) := by
  refine returnsInHanded_of_change_sized (C := Try.checked) own started (by kernel_rfl) Try.func4
    (ChangeSpec.witness6 (enc := enc) (C := Try.checked) false ⟨#[], #[.int .i64 0, .slice none 0 0], []⟩ 8 (by kernel_rfl) (by kernel_rfl) (by kernel_rfl) (by kernel_rfl)) ?_
  intro W base args ds gs before hval0 hW hcnd hsz0 _
  have hsz : (DataW.weightsEach Try.prog (Try.f4.params.toList ++ Rows.alarmRegistersSpec.plain.varTypes Try.prog) (ds ++ gs)).all (· ≤ reachBytes) = true := hsz0
  have hval : ∀ (j : Nat) t v, Try.f4.params[j]? = some t → args[j]? = some v → Value.okWide Try.prog W .any base t v := hval0
  have hW' := hW
  obtain ⟨p, q, hA0, hV, rfl, hfz, hnd⟩ := hW
  have hA : DataW.TrodAll enc Try.prog W 0 (fun _ => true) true Try.f4.params.toList args.toList ds p := hA0
  rw [Try.params4] at hA hval hsz
  obtain ⟨v0, vs0, d0, ds0, p0, q0, hargs, rfl, rfl, h0, r0⟩ := trodAll_cons hA
  obtain ⟨v1, vs1, d1, ds1, p1, q1, rfl, rfl, rfl, h1, r1⟩ := trodAll_cons r0
  obtain ⟨rfl, rfl, rfl⟩ := trodAll_nil r1
  obtain rfl : args = #[v0, v1] := by cases args; simp_all
  obtain ⟨rfl, rfl⟩ := trodVars_none hV
  obtain ⟨a0, rfl, rfl, rfl, w0⟩ := open_int Try.underlying3 (hval 0 3 v0 rfl rfl) h0
  have k1 := h1
  have lt1 := open_lt h1
  obtain ⟨A1, len1, cap1, rfl⟩ := okWide_slice Try.underlying36 (hval 1 36 v1 rfl rfl)
  obtain ⟨l1, rfl, hr1, hc1, hg1⟩ := open_row (d := (Kd.pair (Kd.int .i64) (Kd.pair (Kd.int .i64) (Kd.pair (Kd.int .i64) (Kd.pair (Kd.int .i64) (Kd.int .i64)))))) Try.underlying36 (by kernel_rfl) opens38 h1
  clear hA0 hval0 hsz0 hsz
  refine (Alarm.registers_walk a0 w0 A1 cap1 l1 hr1 hc1 hg1 W).mono fun e W' ⟨he, bel0⟩ => ?_
  have bel : Below W.heap.size W W' := by first | exact bel0 | exact bel0.below
  subst he
  exact ⟨_, rfl, _, _, _, [], _, [], hW', trodAll_mk1 (shut_bool Try.underlying4 _), (trodAll_cons_mk (shut_int Try.underlying3 w0) (trodAll_cons_mk (Below.trod laidOut (by kernel_rfl) (of_decide_eq_true (by kernel_rfl)) k1 bel lt1) trodAll_mk0)), rfl, bel.frame _, fun h => by cases h⟩
theorem over : Rows.alarmRegistersRow.holds Try.pinned (OpenSpec.ofChange Rows.alarmRegistersSpec) :=
  OpenClaim.holds_of_wide 4 Try.f4 rfl rfl rfl rfl rfl rfl rfl ⟨rfl, rfl, rfl, rfl, rfl⟩ rfl rfl rfl rfl rfl (by kernel_rfl) Try.func4 (by kernel_rfl)
    (of_decide_eq_true (by kernel_rfl)) (by unfold Func.isWrapper; first | (rw [if_pos (by decide +kernel)]; kernel_rfl) | (rw [if_neg (by decide +kernel)]; exact ⟨rfl, rfl⟩))
    (fun os started H enc _ => lifted os started H enc)
theorem proved : Rows.AlarmRegistersSaid := over
#print axioms proved
end Go.Proofs.Ytdmoembbgcoeaaa.alarmRegisters
namespace Go.Proofs.Ytdmoembbgcoeaaa
/-- The row, under a short name, for the claim. -/
theorem alarmRegisters_holds : Rows.AlarmRegistersSaid := alarmRegisters.proved
end Go.Proofs.Ytdmoembbgcoeaaa
