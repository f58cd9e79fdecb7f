/- The heap's method All where it holds one (no law is stated here; each says its conditions). -/
import Derived.Test.YtkpjijbkiambiaaHeap9
namespace Go.Proofs.Ytkpjijbkiambiaa.Heap
open Go.RowKit Go.Proofs.YtkpjijbkiambiaaW.PrintWords Go.Proofs.YtkpjijbkiambiaaW.PrintLast Go.Proofs.YtkpjijbkiambiaaW.PrintMore Go.Proofs.Ytkpjijbkiambiaa.St Go.Proofs.Ytkpjijbkiambiaa.Q
set_option linter.unusedVariables false
set_option linter.unusedSimpArgs false
attribute [local go_sem] max2_int min2_int max_two min_two max_three min_three max_four min_four

theorem lit_KI (w : World) (e : Nat) : KI.R e (w.alloc (.cells #[] e)) w.heap.size (fun _ => True) (.slice (some ⟨w.heap.size, 0, none⟩) 0 0) [] := by
  refine ⟨fun _ _ => trivial, [], ?_, Reps.none _ _⟩
  have h2 := World.ownsRow_lit (base := w.heap.size) (e := e) (size := 2) w #[] 0 (Nat.le_refl _) (by simp [maxLen]) (by simp)
  show (w.alloc (.cells #[] e)).ownsRow w.heap.size e 2 _ _ _
  simpa using h2
set_option maxHeartbeats 1000000 in
set_option maxRecDepth 100000 in
theorem clone_calls {w : World} {a : Addr} {c0 : Nat} {l : List (Int × Int)} (hr : KI.C w (some a) l.length l) (hc : l.length ≤ c0) (hl : l.length ≤ 2000) :
    Calls Try.prog 24 #[.slice (some a) l.length c0] w fun e w' => ∃ v0 : Value, e = .returned v0 ∧ KI.R 32 w' w.heap.size (fun _ => True) v0 l ∧ Below w.heap.size w w' := by
  have he := fun w => Lib.run_eql_slice_nil (P := Try.prog) w 39 32 (some a) l.length c0 0 0 Try.underlying39
  simp only [Option.isNone_some] at he
  have HC := Aside0.mk hr
  have HL := Aside0.mk hl
  clear hr
  go_enter Try.func24, Try.ntmps24
  go_wp2_with (first | ((with_reducible refine gate_builtin (b := .append) (xs := #[.tmp 5, .tmp 6]) rfl ?_); at_builtin; refine Kd.R_append_rows KI (Rr := KI.K (w.alloc (.cells #[] 32))) (w0 := w) w.heap.size rfl (.tmp 5) (.tmp 6) 39 32 (.agg #[.int .i64 0, .int .i64 0]) 16 rfl Try.underlying39 info_item rfl (by decide) (by decide) (.slice (some ⟨w.heap.size, 0, none⟩) 0 0) [] l (some a) l.length c0 (fun _ => True) (fun _ => False) rfl rfl (lit_KI w 32) (Kd.C_alloc HC.out _) (fun x cs h => flat_item _ _ x cs h) (fun _ h => h.elim) (fun _ _ => trivial) (below_alloc (Below.refl _ _) _) (by simp) (by have := HL.out; simp; omega) ?_; intro v1 w1 HO HB HG HAT; have HO' := Aside0.mk HO; have HB' := Aside0.mk HB; clear HO HB HG HAT))
  go_ret
  exact ⟨_, rfl, by have := HO'.out; rw [List.nil_append] at this; exact this, HB'.out⟩
set_option maxHeartbeats 1000000 in
set_option maxRecDepth 100000 in
theorem ins_one (a : Addr) (c : Nat) (fv : Value) (w : World) :
    Calls Try.prog 36 #[.slice (some a) 1 c, .int .i64 0, .int .i64 1, fv] w fun e w' => e = .returned (.tuple #[]) ∧ Below w.heap.size w w' := by
  go_enter Try.func36, Try.ntmps36
  go_wp2
  obtain ⟨wo, hwo⟩ : ∃ wo : World, wo = w := ⟨_, rfl⟩
  go_loopw [8] (fun i wr => wr = w ∧ i = .int .i64 1) (fun _ _ => 0)
  case atStart => exact ⟨rfl, rfl⟩
  case round =>
    obtain ⟨rfl, rfl⟩ := hrel
    go_wp2
    go_end0
    exact ⟨rfl, Below.refl _ _⟩
set_option maxHeartbeats 1000000 in
set_option maxRecDepth 100000 in
theorem pdq_one (a : Addr) (c : Nat) (fv : Value) (w : World) :
    Calls Try.prog 30 #[.slice (some a) 1 c, .int .i64 0, .int .i64 1, .int .i64 1, fv] w fun e w' => e = .returned (.tuple #[]) ∧ Below w.heap.size w w' := by
  go_enter Try.func30, Try.ntmps30
  go_wp2
  go_loopw [1, 2, 3] (fun i j k wr => wr = w ∧ i = .int .i64 0 ∧ j = .int .i64 1 ∧ k = .int .i64 1) (fun _ _ _ _ => 0)
  case atStart => exact ⟨rfl, rfl, rfl, rfl⟩
  case round =>
    obtain ⟨rfl, rfl, rfl, rfl⟩ := hrel
    go_wp2_with (first | (go_at_call 36; (with_reducible refine (ins_one a c fv wr).mono ?_); rintro e w3 ⟨rfl, hb3⟩))
    refine bodyPost_ret (results_none rfl _ _ _) rfl ?_
    exact ⟨rfl, hb3⟩
set_option maxHeartbeats 1000000 in
set_option maxRecDepth 100000 in
theorem len64_one (w : World) : Calls Try.prog 45 #[.int .u64 1] w fun e w' => e = .returned (.int .i64 1) ∧ Below w.heap.size w w' := by
  go_enter Try.func45, Try.ntmps45
  go_wp2
  go_ret
  refine ⟨?_, Below.refl _ _⟩
  kernel_rfl
set_option maxHeartbeats 1000000 in
set_option maxRecDepth 100000 in
theorem len_one (w : World) : Calls Try.prog 31 #[.int .u64 1] w fun e w' => e = .returned (.int .i64 1) ∧ Below w.heap.size w w' := by
  go_enter Try.func31, Try.ntmps31
  go_wp2_with (first | (go_at_call 45; (with_reducible refine (len64_one _).mono ?_); rintro e w3 ⟨rfl, hb3⟩))
  go_ret
  exact ⟨rfl, hb3⟩
set_option maxHeartbeats 1000000 in
set_option maxRecDepth 100000 in
theorem sort_one (a : Addr) (c : Nat) (fv : Value) (w : World) :
    Calls Try.prog 25 #[.slice (some a) 1 c, fv] w fun e w' => e = .returned (.tuple #[]) ∧ Below w.heap.size w w' := by
  go_enter Try.func25, Try.ntmps25
  go_wp2_with (first | (go_at_call 31; (with_reducible refine (len_one _).mono ?_); rintro e w3 ⟨rfl, hb3⟩; have H3 := Aside0.mk hb3; clear hb3) | (go_at_call 30; (with_reducible refine (pdq_one a c fv _).mono ?_); rintro e w4 ⟨rfl, hb4⟩; have H4 := Aside0.mk hb4; clear hb4))
  go_end0
  exact ⟨rfl, H3.out.trans (H4.out.mono H3.out.size)⟩
set_option maxHeartbeats 1000000 in
set_option maxRecDepth 100000 in
theorem all_one {w : World} {b : Nat} {ok : Nat → Prop} {x : H} {v : Value} {y : Int × Int} (hM : heap.M w b ok x v) (hl : x.l = [y]) :
    Calls Try.prog 15 #[v] w fun e w' => ∃ (a : Addr) (c : Nat), e = .returned (.slice (some a) 1 c) ∧ KI.R 32 w' w.heap.size (fun _ => True) (.slice (some a) 1 c) [y] ∧ Below w.heap.size w w' := by
  obtain ⟨g, sv, bm, rfl, hA⟩ := hM
  obtain ⟨A, c2, rfl⟩ := Kd.R_slice hA.row
  have hc2 := hA.c2
  have hrr := Kd.R_reads' hA.row
  have hlen : x.l.length = 1 := by rw [hl]; rfl
  have h3 := hrr.2.2
  rw [hlen, hl] at h3
  obtain ⟨a, _, e, _⟩ := Kd.C_get h3 (0, 0) 0 (by omega) (by show (0 : Int) < ((1 : Nat) : Int); omega)
  subst e
  have HC := Aside0.mk (show KI.C w (some a) ([y] : List (Int × Int)).length [y] from h3)
  have HK := Aside0.mk (show ([y] : List (Int × Int)).length ≤ c2 from by have := hrr.2.1; rw [hlen] at this; exact this)
  rw [hlen] at hc2
  have HCL := Aside0.mk (show Calls Try.prog 24 #[.slice (some a) 1 c2] w fun e w' => ∃ (a0 : Addr) (c0 : Nat), e = .returned (.slice (some a0) 1 c0) ∧ KI.R 32 w' w.heap.size (fun _ => True) (.slice (some a0) 1 c0) [y] ∧ Below w.heap.size w w' from
    (clone_calls HC.out HK.out (show (1 : Nat) ≤ 2000 by decide)).mono (fun e w' ⟨v0, h1, h2, h3⟩ => by
      obtain ⟨A3, c3, e2⟩ := Kd.R_slice h2
      subst e2
      have hq := (Kd.R_reads' h2).2.2
      obtain ⟨a3, _, e3, _⟩ := Kd.C_get hq (0, 0) 0 (by omega) (by show (0 : Int) < ((1 : Nat) : Int); omega)
      subst e3
      exact ⟨a3, c3, h1, h2, h3⟩))
  clear hA hrr hlen h3
  go_enter Try.func15, Try.ntmps15
  go_wp2_with (first | (go_at_call 24; (with_reducible refine HCL.out.mono ?_); rintro e w3 ⟨a3, c3, rfl, hC3, hb3⟩; have HC3 := Aside0.mk hC3; have HB3 := Aside0.mk hb3; clear hC3 hb3) | (go_at_call 25; (with_reducible refine (sort_one a3 c3 _ w3).mono ?_); rintro e w4 ⟨rfl, hb4⟩; have HB4 := Aside0.mk hb4; clear hb4))
  go_ret
  exact ⟨_, _, rfl, Kd.R_below HC3.out HB4.out, HB3.out.trans (HB4.out.mono HB3.out.size)⟩
end Go.Proofs.Ytkpjijbkiambiaa.Heap
