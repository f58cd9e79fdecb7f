/- WinSays: any pairs, any CPUs: who fits, how much each may take, as the document says (the walk; no condition). -/
import Derived.Test.YtikpnpmhkllbpaaPureWinSays
import Derived.Test.YtikpnpmhkllbpaaQt
namespace Go.Proofs.Ytikpnpmhkllbpaa.Win
open Go.RowKit Go.Proofs.YtikpnpmhkllbpaaW.PrintWords Go.Proofs.YtikpnpmhkllbpaaW.PrintLast Go.Proofs.YtikpnpmhkllbpaaW.PrintMore Go.Proofs.Ytikpnpmhkllbpaa.St Go.Proofs.Ytikpnpmhkllbpaa.Q Go.Proofs.Ytikpnpmhkllbpaa.Pure
set_option linter.unusedVariables false
set_option linter.unusedSimpArgs false
attribute [local go_sem] max2_int min2_int max_two min_two max_three min_three max_four min_four

def RelS (w2 : World) (m : Nat) (i : Value) (wr : World) : Prop := ∃ j : Nat, j ≤ m ∧ i = .int .i64 (j : Int) ∧ Below w2.heap.size w2 wr
def mk35 (x : Int × Int) : S35 := ⟨x.1, x.2⟩
/-- A row of pairs, read as a row of the program's own. -/
theorem C_mk35 {w : World} {A : Option Addr} {m : Nat} {l : List (Int × Int)} (h : (Kd.pair (Kd.int .i64) (Kd.int .i64)).C w A m l) : Kd.C k35 w A m (l.map mk35) := by
  refine ⟨by rw [List.length_map]; exact h.1, h.2.1, fun hp => ?_⟩
  obtain ⟨ad, hA, hr⟩ := h.2.2 hp
  refine ⟨ad, hA, fun j p hj => ?_⟩
  rw [List.getElem?_map] at hj
  obtain ⟨x, hx, rfl⟩ := Option.map_eq_some_iff.1 hj
  exact hr j x hx
theorem cells35 {w : World} {A : Option Addr} {l : List S35} (h : Kd.C k35 w A l.length l) {j : Nat} (hj : j < l.length) :
    ∃ ad, A = some ad ∧ w.cell? (ad.add (j * 2)) = some (.int .i64 (l.getD j z35).f0) ∧ w.cell? ⟨(ad.add (j * 2)).block, (ad.add (j * 2)).off + 1, none⟩ = some (.int .i64 (l.getD j z35).f1) := by
  obtain ⟨ad, hA, h0, h1⟩ := at_T35 h (j : Int) (by omega) (by omega)
  have hx : rd_T35 l (j : Int) = l.getD j z35 := by simp [rd_T35]
  rw [hx, Int.toNat_natCast] at h0 h1
  exact ⟨ad, hA, h0, h1⟩
theorem cells37 {w : World} {A : Option Addr} {l : List S35} (h : Kd.C k37 w A (l.map cv).length (l.map cv)) {j : Nat} (hj : j < l.length) :
    ∃ ad, A = some ad ∧ w.cell? (ad.add (j * 2)) = some (.int .i64 (l.getD j z35).f0) ∧ w.cell? ⟨(ad.add (j * 2)).block, (ad.add (j * 2)).off + 1, none⟩ = some (.int .i64 (l.getD j z35).f1) := by
  obtain ⟨ad, hA, h0, h1⟩ := at_T37 h (j : Int) (by omega) (by rw [List.length_map]; omega)
  rw [rdT37 l j hj, Int.toNat_natCast] at h0 h1
  exact ⟨ad, hA, h0, h1⟩
set_option maxHeartbeats 4000000 in
set_option maxRecDepth 100000 in
theorem says_walk (m : Int) (_ : (Lit.int .i64 m).wf = true) (A : Option Addr) (cap : Nat) (l : List S35) {good : S35 → Prop} {w : World} (hr : Kd.C k35 w A l.length l) (hc : l.length ≤ cap) (hg : ∀ a ∈ l, good a) (k : Int) (_ : (Lit.int .i64 k).wf = true) (n : Int) (_ : (Lit.int .i64 n).wf = true) (_ : World) :
    Calls Try.prog 3 #[.int .i64 m, .slice A l.length cap, .int .i64 k, .int .i64 n] w fun e w' => e = .returned (.bool true) ∧ Below w.heap.size w w' := by
  have HC := Aside0.mk hr
  clear hr hg
  by_cases hl : l.length ≤ 70
  · have d1 : decide (70 < l.length) = false := decide_eq_false (by omega)
    obtain ⟨l2, hl2⟩ : ∃ l2, l.map cv = l2 := ⟨_, rfl⟩
    have HO := Aside0.mk (show beadlelaw13_own.f (l.length + 1) l = some l2 from by rw [← hl2]; exact own_f l (by omega))
    obtain ⟨a, ea, h1, h2⟩ := one_same (m := m) k hl
    rw [hl2] at h2
    have H1 := Aside0.mk h1
    have H2 := Aside0.mk h2
    clear h1 h2
    obtain ⟨b, eb, h1, h2⟩ := all_same (m := m) hl
    rw [hl2] at h2
    have H3 := Aside0.mk h1
    have H4 := Aside0.mk h2
    have HLE := Aside0.mk hl2
    clear h1 h2 hl2
    have n1 : (a != a) = false := by simp
    have n2 : (ea != ea) = false := by simp
    have n3 : (b != b) = false := by simp
    have n4 : (eb != eb) = false := by simp
    have HK := Aside0.mk (awake_k (k := 10) (by omega))
    go_enter Try.func3, Try.ntmps3
    go_wp2_with (first | (go_at_call 10; (with_reducible refine (beadlelaw13_awake.calls 10 true _ HK.out).mono ?_); rintro e w1 ⟨rfl, hb1⟩; have HB1 := Aside0.mk hb1; clear hb1) | (go_at_call 11; (with_reducible refine (beadlelaw13_own.calls (l.length + 1) A cap l l2 _ (Kd.C_below HC.out HB1.out) hc HO.out).mono ?_); rintro e w2 ⟨v2, rfl, hR, hb⟩; obtain ⟨A2, k2, rfl⟩ := Kd.R_slice hR; have HR2 := Aside0.mk (Kd.R_reads' hR).2.2; have HL2 := Aside0.mk (Kd.R_reads' hR).2.1; have HB2 := Aside0.mk (HB1.out.trans (hb.mono HB1.out.size)); have HB22 := Aside0.mk (Below.refl w2.heap.size w2); clear hR hb) | (go_at_call 12; (with_reducible refine (win_One.calls 200 m A cap l k a ea _ (Kd.C_below HC.out HB2.out) hc H1.out).mono ?_); rintro e w3 ⟨rfl, hb⟩; have HB3 := Aside0.mk (HB2.out.trans (hb.mono HB2.out.size)); have HB23 := Aside0.mk (HB22.out.trans (hb.mono HB22.out.size)); clear hb HB22) | (go_at_call 13; (with_reducible refine (beadleref10_One.calls 200 m A2 k2 l2 k a ea _ (Kd.C_below HR2.out HB23.out) HL2.out H2.out).mono ?_); rintro e w4 ⟨rfl, hb⟩; have HB4 := Aside0.mk (HB3.out.trans (hb.mono HB3.out.size)); have HB24 := Aside0.mk (HB23.out.trans (hb.mono HB23.out.size)); clear hb HB23) | (go_at_call 14; (with_reducible refine (win_All.calls 200 m A cap l b eb _ (Kd.C_below HC.out HB4.out) hc H3.out).mono ?_); rintro e w5 ⟨rfl, hb⟩; have HB5 := Aside0.mk (HB4.out.trans (hb.mono HB4.out.size)); have HB25 := Aside0.mk (HB24.out.trans (hb.mono HB24.out.size)); clear hb HB24) | (go_at_call 15; (with_reducible refine (beadleref10_All.calls 200 m A2 k2 l2 b eb _ (Kd.C_below HR2.out HB25.out) HL2.out H4.out).mono ?_); rintro e w6 ⟨rfl, hb⟩; have HB6 := Aside0.mk (HB5.out.trans (hb.mono HB5.out.size)); have HB26 := Aside0.mk (HB25.out.trans (hb.mono HB25.out.size)); clear hb HB25))
    clear n1 n2 n3 n4
    have HRB := Aside0.mk (show Kd.C k37 w6 A2 (l.map cv).length (l.map cv) from by rw [HLE.out]; exact Kd.C_below HR2.out HB26.out)
    have HCB := Aside0.mk (show Kd.C k35 w6 A l.length l from Kd.C_below HC.out HB6.out)
    clear HB26
    obtain ⟨wo, hwo⟩ : ∃ wo : World, wo = w6 := ⟨_, rfl⟩
    go_loopw [18] (fun i wr => RelS w6 l.length i wr) (fun i _ => l.length - (intOf i).toNat)
    case atStart => exact ⟨0, Nat.zero_le _, rfl, Below.refl _ _⟩
    case round =>
      obtain ⟨j, hj, rfl, hB⟩ := hrel
      have HB := Aside0.mk hB
      clear hB
      by_cases hlt : j + 1 < l.length
      · have hj0 : j < l.length := by omega
        obtain ⟨q, hq⟩ : ∃ q : Nat, q = j + 1 := ⟨_, rfl⟩
        have hlq : q < l.length := by omega
        have hlt2 : q < l2.length := by rw [← HLE.out, List.length_map]; omega
        have hlt3 : j < l2.length := by omega
        have b1 : (0 ≤ (q : Int) ∧ (q : Int) < (l.length : Int)) = True := eq_true (by omega)
        have b2 : (0 ≤ (q : Int) ∧ (q : Int) < (l2.length : Int)) = True := eq_true (by omega)
        have b3 : (0 ≤ (j : Int) ∧ (j : Int) < (l.length : Int)) = True := eq_true (by omega)
        have b4 : (0 ≤ (j : Int) ∧ (j : Int) < (l2.length : Int)) = True := eq_true (by omega)
        have hwr : wrap64 ((j : Int) + 1) = (q : Int) := by unfold wrap64; omega
        clear hq
        obtain ⟨ad, hA, _⟩ := cells35 HCB.out hj0
        subst hA
        obtain ⟨ae, hA, _⟩ := cells37 HRB.out hj0
        subst hA
        have HX := Aside0.mk (show ∀ W : World, Below w6.heap.size w6 W → W.cell? (ad.add (j * 2)) = some (.int .i64 (l.getD j z35).f0) ∧ W.cell? ⟨(ad.add (j * 2)).block, (ad.add (j * 2)).off + 1, none⟩ = some (.int .i64 (l.getD j z35).f1) from fun W hb => by obtain ⟨q, e, h⟩ := cells35 (Kd.C_below HCB.out hb) hj0; cases e; exact h)
        have HX1 := Aside0.mk (show ∀ W : World, Below w6.heap.size w6 W → W.cell? (ad.add (q * 2)) = some (.int .i64 (l.getD q z35).f0) ∧ W.cell? ⟨(ad.add (q * 2)).block, (ad.add (q * 2)).off + 1, none⟩ = some (.int .i64 (l.getD q z35).f1) from fun W hb => by obtain ⟨q, e, h⟩ := cells35 (Kd.C_below HCB.out hb) hlq; cases e; exact h)
        have HY := Aside0.mk (show ∀ W : World, Below w6.heap.size w6 W → W.cell? (ae.add (j * 2)) = some (.int .i64 (l.getD j z35).f0) ∧ W.cell? ⟨(ae.add (j * 2)).block, (ae.add (j * 2)).off + 1, none⟩ = some (.int .i64 (l.getD j z35).f1) from fun W hb => by obtain ⟨q, e, h⟩ := cells37 (Kd.C_below HRB.out hb) hj0; cases e; exact h)
        have HY1 := Aside0.mk (show ∀ W : World, Below w6.heap.size w6 W → W.cell? (ae.add (q * 2)) = some (.int .i64 (l.getD q z35).f0) ∧ W.cell? ⟨(ae.add (q * 2)).block, (ae.add (q * 2)).off + 1, none⟩ = some (.int .i64 (l.getD q z35).f1) from fun W hb => by obtain ⟨q, e, h⟩ := cells37 (Kd.C_below HRB.out hb) hlq; cases e; exact h)
        obtain ⟨p, is1, h1, h2⟩ := work_same (l.getD j z35).f0 (l.getD j z35).f1 n
        have W1 := Aside0.mk h1
        have W2 := Aside0.mk h2
        clear h1 h2
        obtain ⟨r, is3, h1, h2⟩ := takes_same (l.getD j z35) (l.getD q z35)
        have T1 := Aside0.mk h1
        have T2 := Aside0.mk h2
        clear h1 h2
        obtain ⟨gd, h1, h2⟩ := good_same (l.getD j z35).f0 (l.getD j z35).f1
        have G1 := Aside0.mk h1
        have G2 := Aside0.mk h2
        clear h1 h2
        generalize l.getD j z35 = x at HX HY W1 W2 T1 T2 G1 G2
        generalize l.getD q z35 = y at HX1 HY1 T1 T2
        obtain ⟨x0, x1⟩ := x
        obtain ⟨y0, y1⟩ := y
        have hX : ∀ W : World, Below w6.heap.size w6 W → W.cell? (ad.add (j * 2)) = some (.int .i64 x0) ∧ W.cell? ⟨(ad.add (j * 2)).block, (ad.add (j * 2)).off + 1, none⟩ = some (.int .i64 x1) := HX.out
        have hX1 : ∀ W : World, Below w6.heap.size w6 W → W.cell? (ad.add (q * 2)) = some (.int .i64 y0) ∧ W.cell? ⟨(ad.add (q * 2)).block, (ad.add (q * 2)).off + 1, none⟩ = some (.int .i64 y1) := HX1.out
        have hY : ∀ W : World, Below w6.heap.size w6 W → W.cell? (ae.add (j * 2)) = some (.int .i64 x0) ∧ W.cell? ⟨(ae.add (j * 2)).block, (ae.add (j * 2)).off + 1, none⟩ = some (.int .i64 x1) := HY.out
        have hY1 : ∀ W : World, Below w6.heap.size w6 W → W.cell? (ae.add (q * 2)) = some (.int .i64 y0) ∧ W.cell? ⟨(ae.add (q * 2)).block, (ae.add (q * 2)).off + 1, none⟩ = some (.int .i64 y1) := HY1.out
        have HX := Aside0.mk hX
        have HX1 := Aside0.mk hX1
        have HY := Aside0.mk hY
        have HY1 := Aside0.mk hY1
        clear hX hX1 hY hY1
        obtain ⟨c0, c1⟩ := HX.out _ HB.out
        obtain ⟨c2, c3⟩ := HY.out _ HB.out
        go_upto_region 17 with (first | (go_at_call 16; (with_reducible refine (win_Work.calls x0 x1 n p is1 _ W1.out).mono ?_); rintro e w7 ⟨rfl, hb⟩; have HB7 := Aside0.mk (HB.out.trans (hb.mono HB.out.size)); clear hb c0 c1 c2 c3; obtain ⟨c2, c3⟩ := HY.out _ HB7.out) | (go_at_call 17; (with_reducible refine (beadleref10_Work.calls 10 x0 x1 n p is1 _ W2.out).mono ?_); rintro e w8 ⟨rfl, hb⟩; have HB8 := Aside0.mk (HB7.out.trans (hb.mono HB7.out.size)); clear hb c2 c3))
        refine q_start (by kernel_rfl) (by kernel_rfl) (fun w' => Below w8.heap.size w8 w') (below_drew (Below.refl _ _)) ?_
        refine q_op (v := ?_) (a' := ?_) ?hw1 ?_ ?_ ?_
        case hw1 => rfl
        rotate_left
        rotate_left
        · intro w' hC_
          go_simp
          with_reducible rfl
        · show Act.put _ (some 104) _ = _
          simp only [Act.put, List.setIfInBounds_toArray, List.set_cons_zero, List.set_cons_succ, i64_w, i32_w]
          rfl
        refine q_op (v := ?_) (a' := ?_) ?hw1 ?_ ?_ ?_
        case hw1 => rfl
        rotate_left
        rotate_left
        · intro w' hC_
          go_simp
          with_reducible rfl
        · show Act.put _ (some 105) _ = _
          simp only [Act.put, List.setIfInBounds_toArray, List.set_cons_zero, List.set_cons_succ, i64_w, i32_w]
          rfl
        refine q_op (v := ?_) (a' := ?_) ?hw1 ?_ ?_ ?_
        case hw1 => rfl
        rotate_left
        rotate_left
        · intro w' hC_
          go_simp
          with_reducible rfl
        · show Act.put _ (some 106) _ = _
          simp only [Act.put, List.setIfInBounds_toArray, List.set_cons_zero, List.set_cons_succ, i64_w, i32_w]
          rfl
        refine q_op (v := ?_) (a' := ?_) ?hw1 ?_ ?_ ?_
        case hw1 => rfl
        rotate_left
        rotate_left
        · intro w' hC_
          obtain ⟨z0, z1⟩ := HX.out _ (HB8.out.trans (hC_.mono HB8.out.size))
          go_simp
          with_reducible rfl
        · show Act.put _ (some 107) _ = _
          simp only [Act.put, List.setIfInBounds_toArray, List.set_cons_zero, List.set_cons_succ, i64_w, i32_w]
          rfl
        refine q_op (v := ?_) (a' := ?_) ?hw1 ?_ ?_ ?_
        case hw1 => rfl
        rotate_left
        rotate_left
        · intro w' hC_
          go_simp
          with_reducible rfl
        · show Act.put _ (some 108) _ = _
          simp only [Act.put, List.setIfInBounds_toArray, List.set_cons_zero, List.set_cons_succ, i64_w, i32_w]
          rfl
        refine q_op (v := ?_) (a' := ?_) ?hw1 ?_ ?_ ?_
        case hw1 => rfl
        rotate_left
        rotate_left
        · intro w' hC_
          go_simp
          with_reducible rfl
        · show Act.put _ (some 109) _ = _
          simp only [Act.put, List.setIfInBounds_toArray, List.set_cons_zero, List.set_cons_succ, i64_w, i32_w]
          rfl
        refine q_op (v := ?_) (a' := ?_) ?hw1 ?_ ?_ ?_
        case hw1 => rfl
        rotate_left
        rotate_left
        · intro w' hC_
          go_simp
          with_reducible rfl
        · show Act.put _ (some 110) _ = _
          simp only [Act.put, List.setIfInBounds_toArray, List.set_cons_zero, List.set_cons_succ, i64_w, i32_w]
          rfl
        refine q_op (v := ?_) (a' := ?_) ?hw1 ?_ ?_ ?_
        case hw1 => rfl
        rotate_left
        rotate_left
        · intro w' hC_
          go_simp
          with_reducible rfl
        · show Act.put _ (some 111) _ = _
          simp only [Act.put, List.setIfInBounds_toArray, List.set_cons_zero, List.set_cons_succ, i64_w, i32_w]
          rfl
        refine q_op (v := ?_) (a' := ?_) ?hw1 ?_ ?_ ?_
        case hw1 => rfl
        rotate_left
        rotate_left
        · intro w' hC_
          obtain ⟨z0, z1⟩ := HX1.out _ (HB8.out.trans (hC_.mono HB8.out.size))
          go_simp
          with_reducible rfl
        · show Act.put _ (some 112) _ = _
          simp only [Act.put, List.setIfInBounds_toArray, List.set_cons_zero, List.set_cons_succ, i64_w, i32_w]
          rfl
        refine q_call (a' := ?_) Try.func18 (by kernel_rfl) rfl #[.agg #[.int .i64 x0, .int .i64 x1], .agg #[.int .i64 y0, .int .i64 y1]] ?hw1 rfl ?hx1 (.tuple #[.int .i64 r, .bool is3]) ?_ ?_ ?_
        case hw1 => rfl
        case hx1 => (try simp only [List.map_toArray, List.map_cons, List.map_nil]); first | done | rfl
        rotate_left
        · intro w' hC_
          exact (win_Takes.calls x0 x1 y0 y1 r is3 _ T1.out).mono (by rintro e w'' ⟨rfl, hq⟩; exact ⟨rfl, hC_.trans (hq.mono hC_.size)⟩)
        · show Act.put _ (some 113) _ = _
          simp only [Act.put, List.setIfInBounds_toArray, List.set_cons_zero, List.set_cons_succ, i64_w, i32_w]
          rfl
        refine q_op (v := ?_) (a' := ?_) ?hw1 ?_ ?_ ?_
        case hw1 => rfl
        rotate_left
        rotate_left
        · intro w' hC_
          go_simp
          with_reducible rfl
        · show Act.put _ (some 103) _ = _
          simp only [Act.put, List.setIfInBounds_toArray, List.set_cons_zero, List.set_cons_succ, i64_w, i32_w]
          rfl
        refine q_op (v := ?_) (a' := ?_) ?hw1 ?_ ?_ ?_
        case hw1 => rfl
        rotate_left
        rotate_left
        · intro w' hC_
          go_simp
          with_reducible rfl
        · show Act.put _ (some 114) _ = _
          simp only [Act.put, List.setIfInBounds_toArray, List.set_cons_zero, List.set_cons_succ, i64_w, i32_w]
          rfl
        refine q_op (v := ?_) (a' := ?_) ?hw1 ?_ ?_ ?_
        case hw1 => rfl
        rotate_left
        rotate_left
        · intro w' hC_
          go_simp
          with_reducible rfl
        · show Act.put _ (some 115) _ = _
          simp only [Act.put, List.setIfInBounds_toArray, List.set_cons_zero, List.set_cons_succ, i64_w, i32_w]
          rfl
        refine q_op (v := ?_) (a' := ?_) ?hw1 ?_ ?_ ?_
        case hw1 => rfl
        rotate_left
        rotate_left
        · intro w' hC_
          go_simp
          with_reducible rfl
        · show Act.put _ (some 23) _ = _
          simp only [Act.put, List.setIfInBounds_toArray, List.set_cons_zero, List.set_cons_succ, i64_w, i32_w]
          rfl
        refine q_op (v := ?_) (a' := ?_) ?hw1 ?_ ?_ ?_
        case hw1 => rfl
        rotate_left
        rotate_left
        · intro w' hC_
          go_simp
          with_reducible rfl
        · show Act.put _ (some 24) _ = _
          simp only [Act.put, List.setIfInBounds_toArray, List.set_cons_zero, List.set_cons_succ, i64_w, i32_w]
          rfl
        refine q_nil ?_
        intro w9 hC_
        have HB9 := Aside0.mk (HB8.out.trans (hC_.mono HB8.out.size))
        clear hC_
        go_upto_region 18 with (fail)
        refine q_start (by kernel_rfl) (by kernel_rfl) (fun w' => Below w9.heap.size w9 w') (below_drew (Below.refl _ _)) ?_
        refine q_op (v := ?_) (a' := ?_) ?hw2 ?_ ?_ ?_
        case hw2 => rfl
        rotate_left
        rotate_left
        · intro w' hC_
          go_simp
          with_reducible rfl
        · show Act.put _ (some 117) _ = _
          simp only [Act.put, List.setIfInBounds_toArray, List.set_cons_zero, List.set_cons_succ, i64_w, i32_w]
          rfl
        refine q_op (v := ?_) (a' := ?_) ?hw2 ?_ ?_ ?_
        case hw2 => rfl
        rotate_left
        rotate_left
        · intro w' hC_
          go_simp
          with_reducible rfl
        · show Act.put _ (some 118) _ = _
          simp only [Act.put, List.setIfInBounds_toArray, List.set_cons_zero, List.set_cons_succ, i64_w, i32_w]
          rfl
        refine q_op (v := ?_) (a' := ?_) ?hw2 ?_ ?_ ?_
        case hw2 => rfl
        rotate_left
        rotate_left
        · intro w' hC_
          go_simp
          with_reducible rfl
        · show Act.put _ (some 119) _ = _
          simp only [Act.put, List.setIfInBounds_toArray, List.set_cons_zero, List.set_cons_succ, i64_w, i32_w]
          rfl
        refine q_op (v := ?_) (a' := ?_) ?hw2 ?_ ?_ ?_
        case hw2 => rfl
        rotate_left
        rotate_left
        · intro w' hC_
          obtain ⟨z0, z1⟩ := HY.out _ (HB9.out.trans (hC_.mono HB9.out.size))
          go_simp
          with_reducible rfl
        · show Act.put _ (some 120) _ = _
          simp only [Act.put, List.setIfInBounds_toArray, List.set_cons_zero, List.set_cons_succ, i64_w, i32_w]
          rfl
        refine q_op (v := ?_) (a' := ?_) ?hw2 ?_ ?_ ?_
        case hw2 => rfl
        rotate_left
        rotate_left
        · intro w' hC_
          go_simp
          with_reducible rfl
        · show Act.put _ (some 121) _ = _
          simp only [Act.put, List.setIfInBounds_toArray, List.set_cons_zero, List.set_cons_succ, i64_w, i32_w]
          rfl
        refine q_op (v := ?_) (a' := ?_) ?hw2 ?_ ?_ ?_
        case hw2 => rfl
        rotate_left
        rotate_left
        · intro w' hC_
          go_simp
          with_reducible rfl
        · show Act.put _ (some 122) _ = _
          simp only [Act.put, List.setIfInBounds_toArray, List.set_cons_zero, List.set_cons_succ, i64_w, i32_w]
          rfl
        refine q_op (v := ?_) (a' := ?_) ?hw2 ?_ ?_ ?_
        case hw2 => rfl
        rotate_left
        rotate_left
        · intro w' hC_
          go_simp
          with_reducible rfl
        · show Act.put _ (some 123) _ = _
          simp only [Act.put, List.setIfInBounds_toArray, List.set_cons_zero, List.set_cons_succ, i64_w, i32_w]
          rfl
        refine q_op (v := ?_) (a' := ?_) ?hw2 ?_ ?_ ?_
        case hw2 => rfl
        rotate_left
        rotate_left
        · intro w' hC_
          go_simp
          with_reducible rfl
        · show Act.put _ (some 124) _ = _
          simp only [Act.put, List.setIfInBounds_toArray, List.set_cons_zero, List.set_cons_succ, i64_w, i32_w]
          rfl
        refine q_op (v := ?_) (a' := ?_) ?hw2 ?_ ?_ ?_
        case hw2 => rfl
        rotate_left
        rotate_left
        · intro w' hC_
          obtain ⟨z0, z1⟩ := HY1.out _ (HB9.out.trans (hC_.mono HB9.out.size))
          go_simp
          with_reducible rfl
        · show Act.put _ (some 125) _ = _
          simp only [Act.put, List.setIfInBounds_toArray, List.set_cons_zero, List.set_cons_succ, i64_w, i32_w]
          rfl
        refine q_call (a' := ?_) Try.func19 (by kernel_rfl) rfl #[.agg #[.int .i64 x0, .int .i64 x1], .agg #[.int .i64 y0, .int .i64 y1]] ?hw2 rfl ?hx2 (.tuple #[.int .i64 r, .bool is3]) ?_ ?_ ?_
        case hw2 => rfl
        case hx2 => (try simp only [List.map_toArray, List.map_cons, List.map_nil]); first | done | rfl
        rotate_left
        · intro w' hC_
          exact (beadleref10_Takes.calls 10 x0 x1 y0 y1 r is3 _ T2.out).mono (by rintro e w'' ⟨rfl, hq⟩; exact ⟨rfl, hC_.trans (hq.mono hC_.size)⟩)
        · show Act.put _ (some 126) _ = _
          simp only [Act.put, List.setIfInBounds_toArray, List.set_cons_zero, List.set_cons_succ, i64_w, i32_w]
          rfl
        refine q_op (v := ?_) (a' := ?_) ?hw2 ?_ ?_ ?_
        case hw2 => rfl
        rotate_left
        rotate_left
        · intro w' hC_
          go_simp
          with_reducible rfl
        · show Act.put _ (some 116) _ = _
          simp only [Act.put, List.setIfInBounds_toArray, List.set_cons_zero, List.set_cons_succ, i64_w, i32_w]
          rfl
        refine q_op (v := ?_) (a' := ?_) ?hw2 ?_ ?_ ?_
        case hw2 => rfl
        rotate_left
        rotate_left
        · intro w' hC_
          go_simp
          with_reducible rfl
        · show Act.put _ (some 127) _ = _
          simp only [Act.put, List.setIfInBounds_toArray, List.set_cons_zero, List.set_cons_succ, i64_w, i32_w]
          rfl
        refine q_op (v := ?_) (a' := ?_) ?hw2 ?_ ?_ ?_
        case hw2 => rfl
        rotate_left
        rotate_left
        · intro w' hC_
          go_simp
          with_reducible rfl
        · show Act.put _ (some 128) _ = _
          simp only [Act.put, List.setIfInBounds_toArray, List.set_cons_zero, List.set_cons_succ, i64_w, i32_w]
          rfl
        refine q_op (v := ?_) (a' := ?_) ?hw2 ?_ ?_ ?_
        case hw2 => rfl
        rotate_left
        rotate_left
        · intro w' hC_
          go_simp
          with_reducible rfl
        · show Act.put _ (some 25) _ = _
          simp only [Act.put, List.setIfInBounds_toArray, List.set_cons_zero, List.set_cons_succ, i64_w, i32_w]
          rfl
        refine q_op (v := ?_) (a' := ?_) ?hw2 ?_ ?_ ?_
        case hw2 => rfl
        rotate_left
        rotate_left
        · intro w' hC_
          go_simp
          with_reducible rfl
        · show Act.put _ (some 26) _ = _
          simp only [Act.put, List.setIfInBounds_toArray, List.set_cons_zero, List.set_cons_succ, i64_w, i32_w]
          rfl
        refine q_nil ?_
        intro w10 hC_
        have HB10 := Aside0.mk (HB9.out.trans (hC_.mono HB9.out.size))
        clear hC_
        have n1 : (p != p) = false := by simp
        have n2 : (is1 != is1) = false := by simp
        have n3 : (r != r) = false := by simp
        have n4 : (is3 != is3) = false := by simp
        have n5 : (gd != gd) = false := by simp
        go_upto_region 19 with (fail)
        refine q_start (by kernel_rfl) (by kernel_rfl) (fun w' => Below w10.heap.size w10 w') (below_drew (Below.refl _ _)) ?_
        refine q_op (v := ?_) (a' := ?_) ?hw3 ?_ ?_ ?_
        case hw3 => rfl
        rotate_left
        rotate_left
        · intro w' hC_
          go_simp
          with_reducible rfl
        · show Act.put _ (some 129) _ = _
          simp only [Act.put, List.setIfInBounds_toArray, List.set_cons_zero, List.set_cons_succ, i64_w, i32_w]
          rfl
        refine q_op (v := ?_) (a' := ?_) ?hw3 ?_ ?_ ?_
        case hw3 => rfl
        rotate_left
        rotate_left
        · intro w' hC_
          go_simp
          with_reducible rfl
        · show Act.put _ (some 130) _ = _
          simp only [Act.put, List.setIfInBounds_toArray, List.set_cons_zero, List.set_cons_succ, i64_w, i32_w]
          rfl
        refine q_op (v := ?_) (a' := ?_) ?hw3 ?_ ?_ ?_
        case hw3 => rfl
        rotate_left
        rotate_left
        · intro w' hC_
          go_simp
          with_reducible rfl
        · show Act.put _ (some 131) _ = _
          simp only [Act.put, List.setIfInBounds_toArray, List.set_cons_zero, List.set_cons_succ, i64_w, i32_w]
          rfl
        refine q_op (v := ?_) (a' := ?_) ?hw3 ?_ ?_ ?_
        case hw3 => rfl
        rotate_left
        rotate_left
        · intro w' hC_
          go_simp
          with_reducible rfl
        · show Act.put _ (some 132) _ = _
          simp only [Act.put, List.setIfInBounds_toArray, List.set_cons_zero, List.set_cons_succ, i64_w, i32_w]
          rfl
        refine q_op (v := ?_) (a' := ?_) ?hw3 ?_ ?_ ?_
        case hw3 => exact wanted_on rfl rfl rfl rfl
        rotate_left
        rotate_left
        · intro w' hC_
          go_simp
          with_reducible rfl
        · show Act.put _ (some 133) _ = _
          simp only [Act.put, List.setIfInBounds_toArray, List.set_cons_zero, List.set_cons_succ, i64_w, i32_w]
          rfl
        refine q_op (v := ?_) (a' := ?_) ?hw3 ?_ ?_ ?_
        case hw3 => exact wanted_on rfl rfl rfl rfl
        rotate_left
        rotate_left
        · intro w' hC_
          go_simp
          with_reducible rfl
        · show Act.put _ (some 134) _ = _
          simp only [Act.put, List.setIfInBounds_toArray, List.set_cons_zero, List.set_cons_succ, i64_w, i32_w]
          rfl
        refine q_op (v := ?_) (a' := ?_) ?hw3 ?_ ?_ ?_
        case hw3 => exact wanted_on rfl rfl rfl rfl
        rotate_left
        rotate_left
        · intro w' hC_
          go_simp
          with_reducible rfl
        · show Act.put _ (some 135) _ = _
          simp only [Act.put, List.setIfInBounds_toArray, List.set_cons_zero, List.set_cons_succ, i64_w, i32_w]
          rfl
        refine q_op (v := ?_) (a' := ?_) ?hw3 ?_ ?_ ?_
        case hw3 => rfl
        rotate_left
        rotate_left
        · intro w' hC_
          go_simp
          with_reducible rfl
        · show Act.put _ (some 136) _ = _
          simp only [Act.put, List.setIfInBounds_toArray, List.set_cons_zero, List.set_cons_succ, i64_w, i32_w]
          rfl
        refine q_op (v := ?_) (a' := ?_) ?hw3 ?_ ?_ ?_
        case hw3 => rfl
        rotate_left
        rotate_left
        · intro w' hC_
          go_simp
          with_reducible rfl
        · show Act.put _ (some 137) _ = _
          simp only [Act.put, List.setIfInBounds_toArray, List.set_cons_zero, List.set_cons_succ, i64_w, i32_w]
          rfl
        refine q_op (v := ?_) (a' := ?_) ?hw3 ?_ ?_ ?_
        case hw3 => exact wanted_on rfl rfl rfl rfl
        rotate_left
        rotate_left
        · intro w' hC_
          go_simp
          with_reducible rfl
        · show Act.put _ (some 138) _ = _
          simp only [Act.put, List.setIfInBounds_toArray, List.set_cons_zero, List.set_cons_succ, i64_w, i32_w]
          rfl
        refine q_op (v := ?_) (a' := ?_) ?hw3 ?_ ?_ ?_
        case hw3 => exact wanted_on rfl rfl rfl rfl
        rotate_left
        rotate_left
        · intro w' hC_
          go_simp
          with_reducible rfl
        · show Act.put _ (some 139) _ = _
          simp only [Act.put, List.setIfInBounds_toArray, List.set_cons_zero, List.set_cons_succ, i64_w, i32_w]
          rfl
        refine q_op (v := ?_) (a' := ?_) ?hw3 ?_ ?_ ?_
        case hw3 => exact wanted_on rfl rfl rfl rfl
        rotate_left
        rotate_left
        · intro w' hC_
          go_simp
          with_reducible rfl
        · show Act.put _ (some 140) _ = _
          simp only [Act.put, List.setIfInBounds_toArray, List.set_cons_zero, List.set_cons_succ, i64_w, i32_w]
          rfl
        refine q_op (v := ?_) (a' := ?_) ?hw3 ?_ ?_ ?_
        case hw3 => rfl
        rotate_left
        rotate_left
        · intro w' hC_
          go_simp
          with_reducible rfl
        · show Act.put _ (some 141) _ = _
          simp only [Act.put, List.setIfInBounds_toArray, List.set_cons_zero, List.set_cons_succ, i64_w, i32_w]
          rfl
        refine q_op (v := ?_) (a' := ?_) ?hw3 ?_ ?_ ?_
        case hw3 => rfl
        rotate_left
        rotate_left
        · intro w' hC_
          go_simp
          with_reducible rfl
        · show Act.put _ (some 142) _ = _
          simp only [Act.put, List.setIfInBounds_toArray, List.set_cons_zero, List.set_cons_succ, i64_w, i32_w]
          rfl
        refine q_op (v := ?_) (a' := ?_) ?hw3 ?_ ?_ ?_
        case hw3 => exact wanted_on rfl rfl rfl rfl
        rotate_left
        rotate_left
        · intro w' hC_
          go_simp
          with_reducible rfl
        · show Act.put _ (some 143) _ = _
          simp only [Act.put, List.setIfInBounds_toArray, List.set_cons_zero, List.set_cons_succ, i64_w, i32_w]
          rfl
        refine q_op (v := ?_) (a' := ?_) ?hw3 ?_ ?_ ?_
        case hw3 => exact wanted_on rfl rfl rfl rfl
        rotate_left
        rotate_left
        · intro w' hC_
          go_simp
          with_reducible rfl
        · show Act.put _ (some 144) _ = _
          simp only [Act.put, List.setIfInBounds_toArray, List.set_cons_zero, List.set_cons_succ, i64_w, i32_w]
          rfl
        refine q_op (v := ?_) (a' := ?_) ?hw3 ?_ ?_ ?_
        case hw3 => exact wanted_on rfl rfl rfl rfl
        rotate_left
        rotate_left
        · intro w' hC_
          go_simp
          with_reducible rfl
        · show Act.put _ (some 145) _ = _
          simp only [Act.put, List.setIfInBounds_toArray, List.set_cons_zero, List.set_cons_succ, i64_w, i32_w]
          rfl
        refine q_op (v := ?_) (a' := ?_) ?hw3 ?_ ?_ ?_
        case hw3 => rfl
        rotate_left
        rotate_left
        · intro w' hC_
          go_simp
          with_reducible rfl
        · show Act.put _ (some 146) _ = _
          simp only [Act.put, List.setIfInBounds_toArray, List.set_cons_zero, List.set_cons_succ, i64_w, i32_w]
          rfl
        refine q_op (v := ?_) (a' := ?_) ?hw3 ?_ ?_ ?_
        case hw3 => rfl
        rotate_left
        rotate_left
        · intro w' hC_
          go_simp
          with_reducible rfl
        · show Act.put _ (some 147) _ = _
          simp only [Act.put, List.setIfInBounds_toArray, List.set_cons_zero, List.set_cons_succ, i64_w, i32_w]
          rfl
        refine q_op (v := ?_) (a' := ?_) ?hw3 ?_ ?_ ?_
        case hw3 => exact wanted_on rfl rfl rfl rfl
        rotate_left
        rotate_left
        · intro w' hC_
          go_simp
          with_reducible rfl
        · show Act.put _ (some 148) _ = _
          simp only [Act.put, List.setIfInBounds_toArray, List.set_cons_zero, List.set_cons_succ, i64_w, i32_w]
          rfl
        refine q_op (v := ?_) (a' := ?_) ?hw3 ?_ ?_ ?_
        case hw3 => exact wanted_on rfl rfl rfl rfl
        rotate_left
        rotate_left
        · intro w' hC_
          go_simp
          with_reducible rfl
        · show Act.put _ (some 149) _ = _
          simp only [Act.put, List.setIfInBounds_toArray, List.set_cons_zero, List.set_cons_succ, i64_w, i32_w]
          rfl
        refine q_op (v := ?_) (a' := ?_) ?hw3 ?_ ?_ ?_
        case hw3 => exact wanted_on rfl rfl rfl rfl
        rotate_left
        rotate_left
        · intro w' hC_
          go_simp
          with_reducible rfl
        · show Act.put _ (some 150) _ = _
          simp only [Act.put, List.setIfInBounds_toArray, List.set_cons_zero, List.set_cons_succ, i64_w, i32_w]
          rfl
        refine q_op (v := ?_) (a' := ?_) ?hw3 ?_ ?_ ?_
        case hw3 => exact wanted_on rfl rfl rfl rfl
        rotate_left
        rotate_left
        · intro w' hC_
          obtain ⟨z0, z1⟩ := HX.out _ (HB10.out.trans (hC_.mono HB10.out.size))
          go_simp
          with_reducible rfl
        · show Act.put _ (some 151) _ = _
          simp only [Act.put, List.setIfInBounds_toArray, List.set_cons_zero, List.set_cons_succ, i64_w, i32_w]
          rfl
        refine q_call (a' := ?_) Try.func20 (by kernel_rfl) rfl #[.agg #[.int .i64 x0, .int .i64 x1]] ?hw3 rfl ?hx3 (.bool gd) ?_ ?_ ?_
        case hw3 => exact wanted_on rfl rfl rfl rfl
        case hx3 => (try simp only [List.map_toArray, List.map_cons, List.map_nil]); first | done | rfl
        rotate_left
        · intro w' hC_
          exact (win_Good.calls x0 x1 gd _ G1.out).mono (by rintro e w'' ⟨rfl, hq⟩; exact ⟨rfl, hC_.trans (hq.mono hC_.size)⟩)
        · show Act.put _ (some 152) _ = _
          simp only [Act.put, List.setIfInBounds_toArray, List.set_cons_zero, List.set_cons_succ, i64_w, i32_w]
          rfl
        refine q_op (v := ?_) (a' := ?_) ?hw3 ?_ ?_ ?_
        case hw3 => exact wanted_on rfl rfl rfl rfl
        rotate_left
        rotate_left
        · intro w' hC_
          go_simp
          with_reducible rfl
        · show Act.put _ (some 153) _ = _
          simp only [Act.put, List.setIfInBounds_toArray, List.set_cons_zero, List.set_cons_succ, i64_w, i32_w]
          rfl
        refine q_op (v := ?_) (a' := ?_) ?hw3 ?_ ?_ ?_
        case hw3 => exact wanted_on rfl rfl rfl rfl
        rotate_left
        rotate_left
        · intro w' hC_
          go_simp
          with_reducible rfl
        · show Act.put _ (some 154) _ = _
          simp only [Act.put, List.setIfInBounds_toArray, List.set_cons_zero, List.set_cons_succ, i64_w, i32_w]
          rfl
        refine q_op (v := ?_) (a' := ?_) ?hw3 ?_ ?_ ?_
        case hw3 => exact wanted_on rfl rfl rfl rfl
        rotate_left
        rotate_left
        · intro w' hC_
          go_simp
          with_reducible rfl
        · show Act.put _ (some 155) _ = _
          simp only [Act.put, List.setIfInBounds_toArray, List.set_cons_zero, List.set_cons_succ, i64_w, i32_w]
          rfl
        refine q_op (v := ?_) (a' := ?_) ?hw3 ?_ ?_ ?_
        case hw3 => exact wanted_on rfl rfl rfl rfl
        rotate_left
        rotate_left
        · intro w' hC_
          go_simp
          with_reducible rfl
        · show Act.put _ (some 156) _ = _
          simp only [Act.put, List.setIfInBounds_toArray, List.set_cons_zero, List.set_cons_succ, i64_w, i32_w]
          rfl
        refine q_op (v := ?_) (a' := ?_) ?hw3 ?_ ?_ ?_
        case hw3 => exact wanted_on rfl rfl rfl rfl
        rotate_left
        rotate_left
        · intro w' hC_
          obtain ⟨z0, z1⟩ := HX.out _ (HB10.out.trans (hC_.mono HB10.out.size))
          go_simp
          with_reducible rfl
        · show Act.put _ (some 157) _ = _
          simp only [Act.put, List.setIfInBounds_toArray, List.set_cons_zero, List.set_cons_succ, i64_w, i32_w]
          rfl
        refine q_op (v := ?_) (a' := ?_) ?hw3 ?_ ?_ ?_
        case hw3 => exact wanted_on rfl rfl rfl rfl
        rotate_left
        rotate_left
        · intro w' hC_
          go_simp
          with_reducible rfl
        · show Act.put _ (some 158) _ = _
          simp only [Act.put, List.setIfInBounds_toArray, List.set_cons_zero, List.set_cons_succ, i64_w, i32_w]
          rfl
        refine q_op (v := ?_) (a' := ?_) ?hw3 ?_ ?_ ?_
        case hw3 => exact wanted_on rfl rfl rfl rfl
        rotate_left
        rotate_left
        · intro w' hC_
          go_simp
          with_reducible rfl
        · show Act.put _ (some 159) _ = _
          simp only [Act.put, List.setIfInBounds_toArray, List.set_cons_zero, List.set_cons_succ, i64_w, i32_w]
          rfl
        refine q_op (v := ?_) (a' := ?_) ?hw3 ?_ ?_ ?_
        case hw3 => exact wanted_on rfl rfl rfl rfl
        rotate_left
        rotate_left
        · intro w' hC_
          go_simp
          with_reducible rfl
        · show Act.put _ (some 160) _ = _
          simp only [Act.put, List.setIfInBounds_toArray, List.set_cons_zero, List.set_cons_succ, i64_w, i32_w]
          rfl
        refine q_op (v := ?_) (a' := ?_) ?hw3 ?_ ?_ ?_
        case hw3 => exact wanted_on rfl rfl rfl rfl
        rotate_left
        rotate_left
        · intro w' hC_
          go_simp
          with_reducible rfl
        · show Act.put _ (some 161) _ = _
          simp only [Act.put, List.setIfInBounds_toArray, List.set_cons_zero, List.set_cons_succ, i64_w, i32_w]
          rfl
        refine q_op (v := ?_) (a' := ?_) ?hw3 ?_ ?_ ?_
        case hw3 => exact wanted_on rfl rfl rfl rfl
        rotate_left
        rotate_left
        · intro w' hC_
          obtain ⟨z0, z1⟩ := HX.out _ (HB10.out.trans (hC_.mono HB10.out.size))
          go_simp
          with_reducible rfl
        · show Act.put _ (some 162) _ = _
          simp only [Act.put, List.setIfInBounds_toArray, List.set_cons_zero, List.set_cons_succ, i64_w, i32_w]
          rfl
        refine q_call (a' := ?_) Try.func21 (by kernel_rfl) rfl #[.int .i64 x0, .int .i64 x1] ?hw3 rfl ?hx3 (.bool gd) ?_ ?_ ?_
        case hw3 => exact wanted_on rfl rfl rfl rfl
        case hx3 => (try simp only [List.map_toArray, List.map_cons, List.map_nil]); first | done | rfl
        rotate_left
        · intro w' hC_
          exact (beadleref10_GoodPair.calls x0 x1 gd _ G2.out).mono (by rintro e w'' ⟨rfl, hq⟩; exact ⟨rfl, hC_.trans (Below.mono (Drawn0.below hq) hC_.size)⟩)
        · show Act.put _ (some 163) _ = _
          simp only [Act.put, List.setIfInBounds_toArray, List.set_cons_zero, List.set_cons_succ, i64_w, i32_w]
          rfl
        refine q_op (v := ?_) (a' := ?_) ?hw3 ?_ ?_ ?_
        case hw3 => exact wanted_on rfl rfl rfl rfl
        rotate_left
        rotate_left
        · intro w' hC_
          go_simp
          with_reducible rfl
        · show Act.put _ (some 164) _ = _
          simp only [Act.put, List.setIfInBounds_toArray, List.set_cons_zero, List.set_cons_succ, i64_w, i32_w]
          rfl
        refine q_op (v := ?_) (a' := ?_) ?hw3 ?_ ?_ ?_
        case hw3 => rfl
        rotate_left
        rotate_left
        · intro w' hC_
          go_simp
          with_reducible rfl
        · show Act.put _ (some 165) _ = _
          simp only [Act.put, List.setIfInBounds_toArray, List.set_cons_zero, List.set_cons_succ, i64_w, i32_w]
          rfl
        refine q_nil ?_
        intro w19 hC_
        have HB19 := Aside0.mk (HB10.out.trans (hC_.mono HB10.out.size))
        clear hC_
        go_wp2
        go_roundw
        case rel => exact ⟨j + 1, by omega, by go_num, HB19.out⟩
        case measure => simp [intOf]; omega
      · go_wp2
        go_ret
        exact ⟨rfl, HB6.out.trans (HB.out.mono HB6.out.size)⟩
  · have d1 : decide (70 < l.length) = true := decide_eq_true (by omega)
    have HK := Aside0.mk (awake_k (k := 10) (by omega))
    go_enter Try.func3, Try.ntmps3
    go_wp2_with (first | (go_at_call 10; (with_reducible refine (beadlelaw13_awake.calls 10 true _ HK.out).mono ?_); rintro e w1 ⟨rfl, hb1⟩; have HB1 := Aside0.mk hb1; clear hb1))
    go_ret
    exact ⟨rfl, HB1.out⟩
theorem says_pairs (m : Int) (wm : (Lit.int .i64 m).wf = true) (A : Option Addr) (cap : Nat) (l : List (Int × Int)) {good : Int × Int → Prop} {w : World} (hr : (Kd.pair (Kd.int .i64) (Kd.int .i64)).C w A l.length l) (hc : l.length ≤ cap) (hg : ∀ a ∈ l, good a) (k : Int) (wk : (Lit.int .i64 k).wf = true) (n : Int) (wn : (Lit.int .i64 n).wf = true) (W : World) :
    Calls Try.prog 3 #[.int .i64 m, .slice A l.length cap, .int .i64 k, .int .i64 n] w fun e w' => e = .returned (.bool true) ∧ Below w.heap.size w w' := by
  have h := says_walk (good := fun _ => True) (w := w) m wm A cap (l.map mk35) (C_mk35 (by rw [List.length_map]; exact hr)) (by rw [List.length_map]; exact hc) (fun _ _ => trivial) k wk n wn W
  rwa [List.length_map] at h
end Go.Proofs.Ytikpnpmhkllbpaa.Win
