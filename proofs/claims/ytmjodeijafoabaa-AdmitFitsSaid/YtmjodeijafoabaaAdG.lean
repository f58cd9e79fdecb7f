/- Admit: one entry taken out of a row (no law is stated here; each says its conditions). -/
import Derived.Test.YtmjodeijafoabaaAdE
namespace Go.Proofs.Ytmjodeijafoabaa.Admit
open Go.RowKit Go.Proofs.YtmjodeijafoabaaW.PrintWords Go.Proofs.YtmjodeijafoabaaW.PrintLast Go.Proofs.YtmjodeijafoabaaW.PrintMore Go.Proofs.Ytmjodeijafoabaa.St Go.Proofs.Ytmjodeijafoabaa.Q Go.Proofs.Ytmjodeijafoabaa.Pure
set_option linter.unusedVariables false
set_option linter.unusedSimpArgs false
attribute [local go_sem] max2_int min2_int max_two min_two max_three min_three max_four min_four

theorem info_size37 : (Try.prog.info? 37).map (·.size) = some k37.sz := by kernel_rfl
/-- 'clear' of one entry. -/
theorem run_clear4 (w : World) (ty : TypeId) (b o c : Nat) (hc : ∀ j, j < 4 → (w.cell? ⟨b, o + j, none⟩).isSome = true) (hf : ∀ j, j < 4 → w.frozen? ⟨b, o + j, none⟩ = false) :
    (Builtin.clear_ #[34] ty #[.slice (some ⟨b, o, none⟩) 1 c]).run Try.prog w = .ok (.tuple #[]) (w.setCells b o (List.replicate 4 (.int .i64 0))) := by
  have hv : ∀ w, (zeroValue 37).run Try.prog w = .ok (.agg #[.int .i64 0, .int .i64 0, .int .i64 0, .int .i64 0]) w := fun _ => by kernel_rfl
  have hzc : (Builtin.zeroCells (Value.agg #[.int .i64 0, .int .i64 0, .int .i64 0, .int .i64 0]).cells 1).toList = [Value.int .i64 0, .int .i64 0, .int .i64 0, .int .i64 0] := by kernel_rfl
  have hst := run_storeCells_cells (P := Try.prog) b o [Value.int .i64 0, .int .i64 0, .int .i64 0, .int .i64 0] 0 w (by simpa using hc) (by simpa using hf) (by intro v hv'; simp at hv'; subst hv'; rfl)
  simp only [Nat.add_zero] at hst
  show _ = Result.ok (Value.tuple #[]) (w.setCells b o [Value.int .i64 0, .int .i64 0, .int .i64 0, .int .i64 0])
  simp [Builtin.clear_, run_underlying Try.underlying34, hv, hzc, hst]
theorem row_clear4 {W : World} {b g m n c : Nat} {ok : Nat → Prop} {l : List S37} (h : k37.R 37 W b ok (.slice (some ⟨g, 0, none⟩) m c) l) (hm : m + 1 = n) (hn : n ≤ c) :
    (∀ ty : TypeId, (Builtin.clear_ #[34] ty #[.slice (some ⟨g, m * 4, none⟩) (n - m) (c - m)]).run Try.prog W = .ok (.tuple #[]) (W.setCells g (m * 4) (List.replicate 4 (.int .i64 0)))) ∧
    k37.R 37 (W.setCells g (m * 4) (List.replicate 4 (.int .i64 0))) b ok (.slice (some ⟨g, 0, none⟩) m c) l ∧ W.grownBy (W.setCells g (m * 4) (List.replicate 4 (.int .i64 0))) (some g) := by
  have hT := row_tail h (List.replicate 4 (.int .i64 0)) (by rw [List.length_replicate]; show m * 4 + 4 ≤ c * 4; omega)
  rw [show m * k37.sz = m * 4 from rfl, List.length_replicate] at hT
  exact ⟨fun ty => by rw [show n - m = 1 by omega]; exact run_clear4 W ty g _ _ (fun j hj => (hT.2.2 j hj).1) (fun j hj => (hT.2.2 j hj).2), hT.1, hT.2.1⟩
set_option maxHeartbeats 1000000 in
set_option maxRecDepth 100000 in
theorem delete_calls {w : World} {b : Nat} {ok : Nat → Prop} {l : List S37} {g n c : Nat} (i : Nat) (hR : k37.R 37 w b ok (.slice (some ⟨g, 0, none⟩) n c) l) (hb : b ≤ w.heap.size) (hi : i < n) :
    Calls Try.prog 24 #[.slice (some ⟨g, 0, none⟩) n c, .int .i64 (i : Int), .int .i64 ((i : Int) + 1)] w fun e w' => e = .returned (.slice (some ⟨g, 0, none⟩) (n - 1) c) ∧ k37.R 37 w' b ok (.slice (some ⟨g, 0, none⟩) (n - 1) c) (l.eraseIdx i) ∧ Wrote w w' ok := by
  obtain ⟨hn, hnc, hC⟩ := Kd.R_reads' hR
  subst hn
  have hmax : l.length ≤ 9223372036854775807 := by have := Kd.C_max hC; omega
  have HR := Aside0.mk hR
  have q1 : ((i : Int) == (i : Int) + 1) = false := beq_eq_false_iff_ne.mpr (by omega)
  have e1 : (i ≤ c) = True := eq_true (by omega)
  have e2 : (0 ≤ (i : Int) + 1 ∧ (i : Int) + 1 ≤ (l.length : Int)) = True := eq_true ⟨by omega, by omega⟩
  have e3 : (l.length ≤ c) = True := eq_true (by omega)
  clear hR hC
  go_enter Try.func24, Try.ntmps24
  go_wp2
  go_still_tail 6, (by kernel_rfl)
  change wpList _ _ _ _ _ w.drew
  have HW := Aside0.mk (Kd.R_drew HR.out)
  have HB := Aside0.mk (below_drew (Below.refl b w))
  have HV := Aside0.mk ((Wrote.refl w ok).drew)
  generalize w.drew = w2 at HW HB HV ⊢
  go_wp2_with (first | ((with_reducible refine gate_builtin (b := .append) (xs := #[.tmp 22, .tmp 25]) rfl ?_); at_builtin; refine Kd.R_delete k37 (w0 := w) b rfl (.tmp 22) (.tmp 25) 34 37 rfl Try.underlying34 info_size37 (g := g) (n := l.length) (c := c) (k := i) (m := l.length - (i + 1)) (c2 := c - (i + 1)) (A := if c = i + 1 then some ⟨g, 0, none⟩ else some ⟨g, (i + 1) * 4, none⟩) rfl rfl (by rw [show (i + 1) * k37.sz = (i + 1) * 4 from rfl]; simp [Addr.add]) rfl HW.out hi HB.out (Nat.le_trans hb HB.out.size) ?_; intro w3 hO hB3 hG; have HO := Aside0.mk hO; have HB3 := Aside0.mk hB3; have HG := Aside0.mk hG; obtain ⟨hcl, hT1, hT2⟩ := row_clear4 HO.out (n := l.length) (by omega) hnc; have HT1 := Aside0.mk hT1; have HT2 := Aside0.mk hT2; clear hT1 hT2 hO hB3 hG))
  · subst h
    go_ret
    exact ⟨rfl, HT1.out, (HV.out.grown HG.out (fun k hk => by cases hk; exact Or.inl (HR.out.1 g rfl))).grown HT2.out (fun k hk => by cases hk; exact Or.inl (HR.out.1 g rfl))⟩
  · go_ret
    exact ⟨rfl, HT1.out, (HV.out.grown HG.out (fun k hk => by cases hk; exact Or.inl (HR.out.1 g rfl))).grown HT2.out (fun k hk => by cases hk; exact Or.inl (HR.out.1 g rfl))⟩
theorem delete_C {w0 W : World} {c : Nat → Nat} {i g k : Nat} {l : List S37} (j : Nat) (h : (row 37 k37).M W w0.heap.size (fun k => c k = i) l (.slice (some ⟨g, 0, none⟩) l.length k)) (hj : j < l.length) (hs : w0.heap.size ≤ W.heap.size) :
    Calls Try.prog 24 #[.slice (some ⟨g, 0, none⟩) l.length k, .int .i64 (j : Int), .int .i64 ((j : Int) + 1)] W fun e w' => e = .returned (.slice (some ⟨g, 0, none⟩) (l.length - 1) k) ∧ ∃ c', (row 37 k37).M w' w0.heap.size (fun k => c' k = i) (l.eraseIdx j) (.slice (some ⟨g, 0, none⟩) (l.length - 1) k) ∧ Turned c c' i w0 W w' :=
  (delete_calls j (St.mine (s := row 37 k37) h) hs hj).mono (fun e w' ⟨he, h1, h2⟩ => ⟨he, turned (s := row 37 k37) (Kd.R_mono h1 (fun k hk => Or.inl hk)) h2 hs⟩)
end Go.Proofs.Ytmjodeijafoabaa.Admit
