/- What slices.Delete of one element turns, at a row of one's own (no law is stated here; each says its conditions). -/
import Derived.Test.YtmjmfkbdnhdafaaFifo1
import Derived.StillTailTactics
namespace Go.Proofs.Ytmjmfkbdnhdafaa.Fifo
open Go.RowKit Go.Proofs.YtmjmfkbdnhdafaaW.PrintWords Go.Proofs.YtmjmfkbdnhdafaaW.PrintLast Go.Proofs.YtmjmfkbdnhdafaaW.PrintMore Go.Proofs.Ytmjmfkbdnhdafaa.St Go.Proofs.Ytmjmfkbdnhdafaa.Q
set_option linter.unusedVariables false
set_option linter.unusedSimpArgs false
attribute [local go_sem] max2_int min2_int max_two min_two max_three min_three max_four min_four

/-- 'clear' of what lies behind a row's length. -/
theorem row_clear {W : World} {b g m n c : Nat} {ok : Nat → Prop} {l : List Int} (h : (Kd.int .i64).R 3 W b ok (.slice (some ⟨g, 0, none⟩) m c) l) (hm : m < n) (hn : n ≤ c) :
    (∀ ty : TypeId, (Builtin.clear_ #[28] ty #[.slice (some ⟨g, m, none⟩) (n - m) (c - m)]).run Try.prog W = .ok (.tuple #[]) (W.setCells g m (List.replicate (n - m) (.int .i64 0)))) ∧
    (Kd.int .i64).R 3 (W.setCells g m (List.replicate (n - m) (.int .i64 0))) b ok (.slice (some ⟨g, 0, none⟩) m c) l ∧ W.grownBy (W.setCells g m (List.replicate (n - m) (.int .i64 0))) (some g) := by
  have hT := row_tail h (List.replicate (n - m) (.int .i64 0)) (by rw [List.length_replicate]; show m * 1 + _ ≤ c * 1; omega)
  rw [show m * (Kd.int .i64).sz = m from Nat.mul_one _, List.length_replicate] at hT
  exact ⟨fun ty => Lib.run_clear_slice W 28 3 ty (.int .i64 0) Try.underlying28 (fun _ => by kernel_rfl) rfl rfl g m _ _ (by omega) (fun j hj => (hT.2.2 j hj).1) (fun j hj => (hT.2.2 j hj).2), hT.1, hT.2.1⟩

set_option maxHeartbeats 1000000 in
set_option maxRecDepth 100000 in
theorem delete_calls {w : World} {b : Nat} {ok : Nat → Prop} {l : List Int} {g n c : Nat} (i : Nat) (hR : (Kd.int .i64).R 3 w b ok (.slice (some ⟨g, 0, none⟩) n c) l) (hb : b ≤ w.heap.size) (hi : i < n) :
    Calls Try.prog 28 #[.slice (some ⟨g, 0, none⟩) n c, .int .i64 (i : Int), .int .i64 ((i : Int) + 1)] w fun e w' => e = .returned (.slice (some ⟨g, 0, none⟩) (n - 1) c) ∧ (Kd.int .i64).R 3 w' b ok (.slice (some ⟨g, 0, none⟩) (n - 1) c) (l.eraseIdx i) ∧ Wrote w w' ok := by
  obtain ⟨hn, hnc, hC⟩ := Kd.R_reads' hR
  subst hn
  have hmax : l.length ≤ 9223372036854775807 := by have := Kd.C_max hC; omega
  have HR := Aside0.mk hR
  have q1 : ((i : Int) == (i : Int) + 1) = false := beq_eq_false_iff_ne.mpr (by omega)
  have e1 : (i ≤ c) = True := eq_true (by omega)
  have e2 : (0 ≤ (i : Int) + 1 ∧ (i : Int) + 1 ≤ (l.length : Int)) = True := eq_true ⟨by omega, by omega⟩
  have e3 : (l.length ≤ c) = True := eq_true (by omega)
  clear hR hC
  go_enter Try.func28, Try.ntmps28
  go_wp2
  go_still_tail 6, (by kernel_rfl)
  change wpList _ _ _ _ _ w.drew
  have HW := Aside0.mk (Kd.R_drew HR.out)
  have HB := Aside0.mk (below_drew (Below.refl b w))
  have HV := Aside0.mk ((Wrote.refl w ok).drew)
  generalize w.drew = w2 at HW HB HV ⊢
  go_wp2_with (first | ((with_reducible refine gate_builtin (b := .append) (xs := #[.tmp 22, .tmp 25]) rfl ?_); at_builtin; refine Kd.R_delete (Kd.int .i64) (w0 := w) b rfl (.tmp 22) (.tmp 25) 28 3 rfl Try.underlying28 info_size (g := g) (n := l.length) (c := c) (k := i) (m := l.length - (i + 1)) (c2 := c - (i + 1)) (A := if c = i + 1 then some ⟨g, 0, none⟩ else some ⟨g, i + 1, none⟩) rfl rfl (by rw [show (i + 1) * (Kd.int .i64).sz = i + 1 from Nat.mul_one _]; simp [Addr.add]) rfl HW.out hi HB.out (Nat.le_trans hb HB.out.size) ?_; intro w3 hO hB3 hG; have HO := Aside0.mk hO; have HB3 := Aside0.mk hB3; have HG := Aside0.mk hG; obtain ⟨hcl, hT1, hT2⟩ := row_clear HO.out (n := l.length) (by omega) hnc; have HT1 := Aside0.mk hT1; have HT2 := Aside0.mk hT2; clear hT1 hT2 hO hB3 hG))
  · subst h
    go_ret
    exact ⟨rfl, HT1.out, (HV.out.grown HG.out (fun k hk => by cases hk; exact Or.inl (HR.out.1 g rfl))).grown HT2.out (fun k hk => by cases hk; exact Or.inl (HR.out.1 g rfl))⟩
  · go_ret
    exact ⟨rfl, HT1.out, (HV.out.grown HG.out (fun k hk => by cases hk; exact Or.inl (HR.out.1 g rfl))).grown HT2.out (fun k hk => by cases hk; exact Or.inl (HR.out.1 g rfl))⟩
end Go.Proofs.Ytmjmfkbdnhdafaa.Fifo
