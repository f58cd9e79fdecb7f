/- Alarm: AlarmOnce's walk (no law is stated here; each says its conditions). -/
import Derived.Test.YtdmoembbgcoeaaaAlO
import Derived.Test.YtdmoembbgcoeaaaMine
namespace Go.Proofs.Ytdmoembbgcoeaaa.Alarm
open Go.RowKit Go.Proofs.YtdmoembbgcoeaaaW.PrintWords Go.Proofs.YtdmoembbgcoeaaaW.PrintLast Go.Proofs.YtdmoembbgcoeaaaW.PrintMore Go.Proofs.Ytdmoembbgcoeaaa.St Go.Proofs.Ytdmoembbgcoeaaa.Q Go.Proofs.Ytdmoembbgcoeaaa.Heap
open Go.Sort (HoldsK putRowK grow flatK)
open Go.Proofs.Ytdmoembbgcoeaaa.Mine
set_option linter.unusedVariables false
set_option linter.unusedSimpArgs false
attribute [local go_sem] max2_int min2_int max_two min_two max_three min_three max_four min_four

theorem rem_nat (j cp : Nat) : Int.tmod (j : Int) (cp : Int) = ((j % cp : Nat) : Int) := by
  rw [Int.tmod_eq_emod_of_nonneg (by omega), ← Int.natCast_emod]
theorem read_ring {w : World} {ad : Addr} {l : List (Int × Int × Int)} (h : KR.C w (some ad) l.length l) {j : Nat} (hj : j < l.length) :
    w.cell? ⟨(ad.add (j * 3)).block, (ad.add (j * 3)).off + 1, none⟩ = some (.int .i64 (l.getD j (0, 0, 0)).2.1) ∧ w.cell? ⟨(ad.add (j * 3)).block, (ad.add (j * 3)).off + 2, none⟩ = some (.int .i64 (l.getD j (0, 0, 0)).2.2) := by
  obtain ⟨ad', c, e, _, hK, hc0⟩ := Kd.C_get h (0, 0, 0) (j : Int) (by omega) (by omega)
  cases e
  rw [Int.toNat_natCast] at hK hc0
  have hc : ∀ i u, c[i]? = some u → w.cell? (ad.add (j * 3 + i)) = some u := hc0
  rw [KR_openK hK] at hc
  exact ⟨by rw [← add_field _ _ 1 (by omega)]; exact hc 1 _ rfl, by rw [← add_field _ _ 2 (by omega)]; exact hc 2 _ rfl⟩
theorem some_ring {w : World} {A : Option Addr} {l : List (Int × Int × Int)} (h : KR.C w A l.length l) {j : Nat} (hj : j < l.length) : ∃ ad, A = some ad := by
  obtain ⟨ad, c, e, _⟩ := Kd.C_get h (0, 0, 0) (j : Int) (by omega) (by omega)
  exact ⟨ad, e⟩
def RelP (w : World) (l : List Int) (cp ga : Nat) (i : Value) (wr : World) : Prop :=
  ∃ (j : Nat) (c : Nat → Nat) (hs : List (List (Int × Int))), j ≤ l.length ∧ i = .int .i64 (j : Int) ∧ AL w wr c 100 hs 0 ga ∧ hs.length = cp ∧ Told hs l j (-1) ∧ total hs = j ∧ Below w.heap.size w wr
/-- Between the steps: what is told of the time. -/
def RelS (w : World) (l : List Int) (ns cp ga : Nat) (lv nv i : Value) (wr : World) : Prop :=
  ∃ (j n : Nat) (c : Nat → Nat) (hs : List (List (Int × Int))) (last now : Int), j ≤ ns + 1 ∧ i = .int .i64 (j : Int) ∧ lv = .int .i64 last ∧ nv = .int .i64 (n : Int) ∧ AL w wr c 100 hs now ga ∧ hs.length = cp ∧ Told hs l l.length last ∧ n + total hs = l.length ∧
    0 ≤ now ∧ (j ≤ ns → now ≤ (j : Int) * 16777215) ∧ (j = ns + 1 → last = 2199023255552) ∧ Below w.heap.size w wr
def RelO (w : World) (A : Option Addr) (kk ga : Nat) (hs : List (List (Int × Int))) (out : List (Int × Int × Int)) (now : Int) (i : Value) (wr : World) : Prop :=
  ∃ (k : Nat) (c : Nat → Nat), k ≤ out.length ∧ i = .int .i64 (k : Int) ∧ AL w wr c 100 hs now ga ∧ (row 34 KR).M wr w.heap.size (fun q => c q = 20) out (.slice A out.length kk) ∧ Below w.heap.size w wr
def CutS (w : World) (ns cp ga j : Nat) (hs : List (List (Int × Int))) (now : Int) (tv : Value) (wd : World) : Prop :=
  ∃ (c : Nat → Nat) (t : Int), tv = .int .i64 t ∧ AL w wd c 100 hs now ga ∧ now ≤ t ∧ t ≤ 2199023255552 ∧ (j + 1 ≤ ns → t ≤ ((j + 1 : Nat) : Int) * 16777215) ∧ (j = ns → t = 2199023255552) ∧ Below w.heap.size w wd
theorem rd_ring {w w' : World} {ad : Addr} {out : List (Int × Int × Int)} {k kk : Nat} {u : Int} (h : KR.C w (some ad) out.length out) (h1 : (out.getD k (0, 0, 0)).2.1 = (kk : Int)) (h2 : (out.getD k (0, 0, 0)).2.2 = u) (hb : Below w.heap.size w w') (hk : k < out.length) :
    w'.cell? ⟨(ad.add (k * 3)).block, (ad.add (k * 3)).off + 1, none⟩ = some (.int .i64 (kk : Int)) ∧ w'.cell? ⟨(ad.add (k * 3)).block, (ad.add (k * 3)).off + 2, none⟩ = some (.int .i64 u) := by
  have h3 := read_ring (Kd.C_below h hb) hk
  rw [h1, h2] at h3
  exact h3
theorem add_zero' (a : Addr) : a.add (0 * 3) = a := by cases a; rfl
theorem rd_ring0 {w w' : World} {ad : Addr} {out : List (Int × Int × Int)} {kk : Nat} {u : Int} (h : KR.C w (some ad) out.length out) (h1 : (out.getD 0 (0, 0, 0)).2.1 = (kk : Int)) (h2 : (out.getD 0 (0, 0, 0)).2.2 = u) (hb : Below w.heap.size w w') (hk : 0 < out.length) :
    w'.cell? ⟨ad.block, ad.off + 1, none⟩ = some (.int .i64 (kk : Int)) ∧ w'.cell? ⟨ad.block, ad.off + 2, none⟩ = some (.int .i64 u) := by
  have h3 := rd_ring h h1 h2 hb hk
  rwa [add_zero'] at h3
theorem rd_ {w w' : World} {ad : Addr} {l : List Int} {x : Int} {j : Nat} (h : (Kd.int .i64).C w (some ad) l.length l) (hx : l.getD j 0 = x) (hb : Below w.heap.size w w') (hj : j < l.length) : w'.cell? (ad.add j) = some (.int .i64 x) := by
  obtain ⟨ad', e, h'⟩ := read_at (Kd.C_below h hb) hj
  cases e
  rw [hx] at h'
  exact h'
set_option maxHeartbeats 16000000 in
set_option maxRecDepth 100000 in
theorem once_walk (m : Int) (_ : (Lit.int .i64 m).wf = true) (A : Option Addr) (cap : Nat) (l : List Int) {good : Int → Prop} (A2 : Option Addr) (cap2 : Nat) (l2 : List Int) {good2 : Int → Prop} {w : World} (hr : (Kd.int .i64).C w A l.length l) (hc : l.length ≤ cap) (hg : ∀ a ∈ l, good a) (hr2 : (Kd.int .i64).C w A2 l2.length l2) (hc2 : l2.length ≤ cap2) (hg2 : ∀ a ∈ l2, good2 a) (_ : World) :
    Calls Try.prog 3 #[.int .i64 m, .slice A l.length cap, .slice A2 l2.length cap2] w fun e w' => e = .returned (.bool true) ∧ Below w.heap.size w w' := by
  have HC := Aside0.mk hr
  have HC2 := Aside0.mk hr2
  clear hr hg hr2 hg2
  by_cases hm : m < 1
  · have d1 : decide (m < 1) = true := decide_eq_true hm
    clear hm
    go_enter Try.func3, Try.ntmps3
    go_wp2_with (first | (go_at_call 7; (with_reducible refine (awake_calls _).mono ?_); rintro e w2 ⟨rfl, hb2⟩; have B2 := Aside0.mk hb2; clear hb2))
    go_ret
    exact ⟨rfl, B2.out⟩
  have d1 : decide (m < 1) = false := decide_eq_false hm
  by_cases hm2 : 64 < m
  · have d2 : decide (64 < m) = true := decide_eq_true hm2
    clear hm hm2
    go_enter Try.func3, Try.ntmps3
    go_wp2_with (first | (go_at_call 7; (with_reducible refine (awake_calls _).mono ?_); rintro e w2 ⟨rfl, hb2⟩; have B2 := Aside0.mk hb2; clear hb2))
    go_ret
    exact ⟨rfl, B2.out⟩
  have d2 : decide (64 < m) = false := decide_eq_false hm2
  by_cases hl : 60 < l.length
  · have d3 : decide (60 < l.length) = true := decide_eq_true hl
    have d4 : decide ((60 : Int) < (l.length : Int)) = true := decide_eq_true (by omega)
    clear hm hm2 hl
    go_enter Try.func3, Try.ntmps3
    go_wp2_with (first | (go_at_call 7; (with_reducible refine (awake_calls _).mono ?_); rintro e w2 ⟨rfl, hb2⟩; have B2 := Aside0.mk hb2; clear hb2))
    go_ret
    exact ⟨rfl, B2.out⟩
  have d3 : decide (60 < l.length) = false := decide_eq_false hl
  have d4 : decide ((60 : Int) < (l.length : Int)) = false := decide_eq_false (by omega)
  by_cases hl2 : 40 < l2.length
  · have d5 : decide (40 < l2.length) = true := decide_eq_true hl2
    have d6 : decide ((40 : Int) < (l2.length : Int)) = true := decide_eq_true (by omega)
    clear hm hm2 hl hl2
    go_enter Try.func3, Try.ntmps3
    go_wp2_with (first | (go_at_call 7; (with_reducible refine (awake_calls _).mono ?_); rintro e w2 ⟨rfl, hb2⟩; have B2 := Aside0.mk hb2; clear hb2))
    go_ret
    exact ⟨rfl, B2.out⟩
  have d5 : decide (40 < l2.length) = false := decide_eq_false hl2
  have d6 : decide ((40 : Int) < (l2.length : Int)) = false := decide_eq_false (by omega)
  obtain ⟨cp, hcp⟩ : ∃ cp : Nat, m = (cp : Int) := ⟨m.toNat, by omega⟩
  subst hcp
  have HM := Aside0.mk (show 1 ≤ cp ∧ cp ≤ 64 from by omega)
  have HL := Aside0.mk (show l.length ≤ 60 from by omega)
  have HL2 := Aside0.mk (show l2.length ≤ 40 from by omega)
  have d7 : decide (cp < 1) = false := decide_eq_false (by omega)
  have d8 : decide (64 < cp) = false := decide_eq_false (by omega)
  clear hm hm2 hl hl2
  go_enter Try.func3, Try.ntmps3
  go_wp2_with (first | (go_at_call 7; (with_reducible refine (awake_calls _).mono ?_); rintro e w2 ⟨rfl, hb2⟩; have B2 := Aside0.mk hb2; clear hb2) | (go_at_call 8; (with_reducible refine (new_ok (w0 := w) (fun _ => 99) 100 cp HM.out B2.out).mono ?_); rintro e w3 ⟨ga, rfl, c3, h3, t3⟩; have H3 := Aside0.mk h3; have B3 := Aside0.mk (t3.far B2.out); clear h3 t3))
  clear d1 d2 d3 d4 d5 d6 d7 d8
  go_loopw [9] (fun i wr => RelP w l cp ga i wr) (fun i _ => l.length - (intOf i).toNat)
  case atStart => exact ⟨0, c3, _, Nat.zero_le _, rfl, H3.out, List.length_replicate, told_rep cp l, total_rep cp, B3.out⟩
  case round =>
    obtain ⟨j, c, hs, hj, rfl, hA, hln, hT, hn, hB⟩ := hrel
    have AZ := Aside0.mk hA
    have BZ := Aside0.mk hB
    have HLN := Aside0.mk hln
    have HT := Aside0.mk hT
    have HN := Aside0.mk hn
    have hj60 : j ≤ 60 := by have := HL.out; omega
    clear hA hB hln hT hn H3 B2 B3
    by_cases hlt : j < l.length
    · have pj : decide ((j : Int) < (l.length : Int)) = true := decide_eq_true (by omega)
      have pjn : decide (j < l.length) = true := decide_eq_true hlt
      have bq : (0 ≤ (j : Int) ∧ (j : Int) < (l.length : Int)) := by omega
      obtain ⟨ad, hAd, _⟩ := read_at HC.out hlt
      subst hAd
      obtain ⟨x, hx⟩ : ∃ x, l.getD j 0 = x := ⟨_, rfl⟩
      have HX := Aside0.mk hx
      by_cases h0 : x < 0
      · have e0 : decide (x < 0) = true := decide_eq_true h0
        clear h0
        go_upto_region 11 with (fail)
        refine q_start (by kernel_rfl) (by kernel_rfl) (fun w' => Below wr.heap.size wr w') (below_drew (Below.refl _ _)) ?_
        refine q_op (v := ?_) (a' := ?_) ?hw1 ?_ ?_ ?_
        case hw1 => rfl
        rotate_left
        rotate_left
        · intro w' hC_
          obtain _ := hC_
          go_simp
          with_reducible rfl
        · show Act.put _ (some 52) _ = _
          simp only [Act.put, List.setIfInBounds_toArray, List.set_cons_zero, List.set_cons_succ, i64_w, i32_w]
          rfl
        refine q_op (v := ?_) (a' := ?_) ?hw1 ?_ ?_ ?_
        case hw1 => rfl
        rotate_left
        rotate_left
        · intro w' hC_
          obtain _ := hC_
          go_simp
          with_reducible rfl
        · show Act.put _ (some 53) _ = _
          simp only [Act.put, List.setIfInBounds_toArray, List.set_cons_zero, List.set_cons_succ, i64_w, i32_w]
          rfl
        refine q_op (v := ?_) (a' := ?_) ?hw1 ?_ ?_ ?_
        case hw1 => rfl
        rotate_left
        rotate_left
        · intro w' hC_
          obtain _ := hC_
          go_simp
          with_reducible rfl
        · show Act.put _ (some 54) _ = _
          simp only [Act.put, List.setIfInBounds_toArray, List.set_cons_zero, List.set_cons_succ, i64_w, i32_w]
          rfl
        refine q_op (v := ?_) (a' := ?_) ?hw1 ?_ ?_ ?_
        case hw1 => rfl
        rotate_left
        rotate_left
        · intro w' hC_
          have s0_ := rd_ HC.out HX.out (Below.trans BZ.out (Below.mono hC_ (Below.size BZ.out))) hlt
          go_simp
          with_reducible rfl
        · show Act.put _ (some 55) _ = _
          simp only [Act.put, List.setIfInBounds_toArray, List.set_cons_zero, List.set_cons_succ, i64_w, i32_w]
          rfl
        refine q_op (v := ?_) (a' := ?_) ?hw1 ?_ ?_ ?_
        case hw1 => rfl
        rotate_left
        rotate_left
        · intro w' hC_
          obtain _ := hC_
          go_simp
          with_reducible rfl
        · show Act.put _ (some 56) _ = _
          simp only [Act.put, List.setIfInBounds_toArray, List.set_cons_zero, List.set_cons_succ, i64_w, i32_w]
          rfl
        refine q_op (v := ?_) (a' := ?_) ?hw1 ?_ ?_ ?_
        case hw1 => rfl
        rotate_left
        rotate_left
        · intro w' hC_
          obtain _ := hC_
          go_simp
          with_reducible rfl
        · show Act.put _ (some 57) _ = _
          simp only [Act.put, List.setIfInBounds_toArray, List.set_cons_zero, List.set_cons_succ, i64_w, i32_w]
          rfl
        refine q_off (a' := ?_) ?hw1 ?_ ?_
        case hw1 => exact wanted_off rfl rfl rfl rfl
        rotate_left
        · show Act.put _ (some 58) _ = _
          simp only [Act.put, List.setIfInBounds_toArray, List.set_cons_zero, List.set_cons_succ, i64_w, i32_w]
          rfl
        refine q_off (a' := ?_) ?hw1 ?_ ?_
        case hw1 => exact wanted_off rfl rfl rfl rfl
        rotate_left
        · show Act.put _ (some 59) _ = _
          simp only [Act.put, List.setIfInBounds_toArray, List.set_cons_zero, List.set_cons_succ, i64_w, i32_w]
          rfl
        refine q_off (a' := ?_) ?hw1 ?_ ?_
        case hw1 => exact wanted_off rfl rfl rfl rfl
        rotate_left
        · show Act.put _ (some 60) _ = _
          simp only [Act.put, List.setIfInBounds_toArray, List.set_cons_zero, List.set_cons_succ, i64_w, i32_w]
          rfl
        refine q_off (a' := ?_) ?hw1 ?_ ?_
        case hw1 => exact wanted_off rfl rfl rfl rfl
        rotate_left
        · show Act.put _ (some 61) _ = _
          simp only [Act.put, List.setIfInBounds_toArray, List.set_cons_zero, List.set_cons_succ, i64_w, i32_w]
          rfl
        refine q_off (a' := ?_) ?hw1 ?_ ?_
        case hw1 => exact wanted_off rfl rfl rfl rfl
        rotate_left
        · show Act.put _ (some 62) _ = _
          simp only [Act.put, List.setIfInBounds_toArray, List.set_cons_zero, List.set_cons_succ, i64_w, i32_w]
          rfl
        refine q_op (v := ?_) (a' := ?_) ?hw1 ?_ ?_ ?_
        case hw1 => rfl
        rotate_left
        rotate_left
        · intro w' hC_
          obtain _ := hC_
          go_simp
          with_reducible rfl
        · show Act.put _ (some 63) _ = _
          simp only [Act.put, List.setIfInBounds_toArray, List.set_cons_zero, List.set_cons_succ, i64_w, i32_w]
          rfl
        refine q_op (v := ?_) (a' := ?_) ?hw1 ?_ ?_ ?_
        case hw1 => rfl
        rotate_left
        rotate_left
        · intro w' hC_
          obtain _ := hC_
          go_simp
          with_reducible rfl
        · show Act.put _ (some 64) _ = _
          simp only [Act.put, List.setIfInBounds_toArray, List.set_cons_zero, List.set_cons_succ, i64_w, i32_w]
          rfl
        refine q_off (a' := ?_) ?hw1 ?_ ?_
        case hw1 => exact wanted_off rfl rfl rfl rfl
        rotate_left
        · show Act.put _ (some 65) _ = _
          simp only [Act.put, List.setIfInBounds_toArray, List.set_cons_zero, List.set_cons_succ, i64_w, i32_w]
          rfl
        refine q_off (a' := ?_) ?hw1 ?_ ?_
        case hw1 => exact wanted_off rfl rfl rfl rfl
        rotate_left
        · show Act.put _ (some 66) _ = _
          simp only [Act.put, List.setIfInBounds_toArray, List.set_cons_zero, List.set_cons_succ, i64_w, i32_w]
          rfl
        refine q_off (a' := ?_) ?hw1 ?_ ?_
        case hw1 => exact wanted_off rfl rfl rfl rfl
        rotate_left
        · show Act.put _ (some 67) _ = _
          simp only [Act.put, List.setIfInBounds_toArray, List.set_cons_zero, List.set_cons_succ, i64_w, i32_w]
          rfl
        refine q_off (a' := ?_) ?hw1 ?_ ?_
        case hw1 => exact wanted_off rfl rfl rfl rfl
        rotate_left
        · show Act.put _ (some 68) _ = _
          simp only [Act.put, List.setIfInBounds_toArray, List.set_cons_zero, List.set_cons_succ, i64_w, i32_w]
          rfl
        refine q_off (a' := ?_) ?hw1 ?_ ?_
        case hw1 => exact wanted_off rfl rfl rfl rfl
        rotate_left
        · show Act.put _ (some 69) _ = _
          simp only [Act.put, List.setIfInBounds_toArray, List.set_cons_zero, List.set_cons_succ, i64_w, i32_w]
          rfl
        refine q_off (a' := ?_) ?hw1 ?_ ?_
        case hw1 => exact wanted_off rfl rfl rfl rfl
        rotate_left
        · show Act.put _ (some 70) _ = _
          simp only [Act.put, List.setIfInBounds_toArray, List.set_cons_zero, List.set_cons_succ, i64_w, i32_w]
          rfl
        refine q_off (a' := ?_) ?hw1 ?_ ?_
        case hw1 => exact wanted_off rfl rfl rfl rfl
        rotate_left
        · show Act.put _ (some 71) _ = _
          simp only [Act.put, List.setIfInBounds_toArray, List.set_cons_zero, List.set_cons_succ, i64_w, i32_w]
          rfl
        refine q_off (a' := ?_) ?hw1 ?_ ?_
        case hw1 => exact wanted_off rfl rfl rfl rfl
        rotate_left
        · show Act.put _ (some 72) _ = _
          simp only [Act.put, List.setIfInBounds_toArray, List.set_cons_zero, List.set_cons_succ, i64_w, i32_w]
          rfl
        refine q_off (a' := ?_) ?hw1 ?_ ?_
        case hw1 => exact wanted_off rfl rfl rfl rfl
        rotate_left
        · show Act.put _ (some 73) _ = _
          simp only [Act.put, List.setIfInBounds_toArray, List.set_cons_zero, List.set_cons_succ, i64_w, i32_w]
          rfl
        refine q_off (a' := ?_) ?hw1 ?_ ?_
        case hw1 => exact wanted_off rfl rfl rfl rfl
        rotate_left
        · show Act.put _ (some 74) _ = _
          simp only [Act.put, List.setIfInBounds_toArray, List.set_cons_zero, List.set_cons_succ, i64_w, i32_w]
          rfl
        refine q_off (a' := ?_) ?hw1 ?_ ?_
        case hw1 => exact wanted_off rfl rfl rfl rfl
        rotate_left
        · show Act.put _ (some 75) _ = _
          simp only [Act.put, List.setIfInBounds_toArray, List.set_cons_zero, List.set_cons_succ, i64_w, i32_w]
          rfl
        refine q_op (v := ?_) (a' := ?_) ?hw1 ?_ ?_ ?_
        case hw1 => rfl
        rotate_left
        rotate_left
        · intro w' hC_
          obtain _ := hC_
          go_simp
          with_reducible rfl
        · show Act.put _ (some 76) _ = _
          simp only [Act.put, List.setIfInBounds_toArray, List.set_cons_zero, List.set_cons_succ, i64_w, i32_w]
          rfl
        refine q_nil ?_
        intro w31 hC_
        have B31 := Aside0.mk (Below.trans BZ.out (Below.mono hC_ (Below.size BZ.out)))
        clear hC_
        have s1_ := rd_ HC.out HX.out B31.out hlt
        go_wp2
        go_ret
        exact ⟨rfl, B31.out⟩
      · have e0 : decide (x < 0) = false := decide_eq_false h0
        by_cases h1 : 1099511627776 < x
        · have e1 : decide (1099511627776 < x) = true := decide_eq_true h1
          clear h0 h1
          go_upto_region 11 with (fail)
          refine q_start (by kernel_rfl) (by kernel_rfl) (fun w' => Below wr.heap.size wr w') (below_drew (Below.refl _ _)) ?_
          refine q_op (v := ?_) (a' := ?_) ?hw2 ?_ ?_ ?_
          case hw2 => rfl
          rotate_left
          rotate_left
          · intro w' hC_
            obtain _ := hC_
            go_simp
            with_reducible rfl
          · show Act.put _ (some 52) _ = _
            simp only [Act.put, List.setIfInBounds_toArray, List.set_cons_zero, List.set_cons_succ, i64_w, i32_w]
            rfl
          refine q_op (v := ?_) (a' := ?_) ?hw2 ?_ ?_ ?_
          case hw2 => rfl
          rotate_left
          rotate_left
          · intro w' hC_
            obtain _ := hC_
            go_simp
            with_reducible rfl
          · show Act.put _ (some 53) _ = _
            simp only [Act.put, List.setIfInBounds_toArray, List.set_cons_zero, List.set_cons_succ, i64_w, i32_w]
            rfl
          refine q_op (v := ?_) (a' := ?_) ?hw2 ?_ ?_ ?_
          case hw2 => rfl
          rotate_left
          rotate_left
          · intro w' hC_
            obtain _ := hC_
            go_simp
            with_reducible rfl
          · show Act.put _ (some 54) _ = _
            simp only [Act.put, List.setIfInBounds_toArray, List.set_cons_zero, List.set_cons_succ, i64_w, i32_w]
            rfl
          refine q_op (v := ?_) (a' := ?_) ?hw2 ?_ ?_ ?_
          case hw2 => rfl
          rotate_left
          rotate_left
          · intro w' hC_
            have s0_ := rd_ HC.out HX.out (Below.trans BZ.out (Below.mono hC_ (Below.size BZ.out))) hlt
            go_simp
            with_reducible rfl
          · show Act.put _ (some 55) _ = _
            simp only [Act.put, List.setIfInBounds_toArray, List.set_cons_zero, List.set_cons_succ, i64_w, i32_w]
            rfl
          refine q_op (v := ?_) (a' := ?_) ?hw2 ?_ ?_ ?_
          case hw2 => rfl
          rotate_left
          rotate_left
          · intro w' hC_
            obtain _ := hC_
            go_simp
            with_reducible rfl
          · show Act.put _ (some 56) _ = _
            simp only [Act.put, List.setIfInBounds_toArray, List.set_cons_zero, List.set_cons_succ, i64_w, i32_w]
            rfl
          refine q_op (v := ?_) (a' := ?_) ?hw2 ?_ ?_ ?_
          case hw2 => rfl
          rotate_left
          rotate_left
          · intro w' hC_
            obtain _ := hC_
            go_simp
            with_reducible rfl
          · show Act.put _ (some 57) _ = _
            simp only [Act.put, List.setIfInBounds_toArray, List.set_cons_zero, List.set_cons_succ, i64_w, i32_w]
            rfl
          refine q_op (v := ?_) (a' := ?_) ?hw2 ?_ ?_ ?_
          case hw2 => exact wanted_on rfl rfl rfl rfl
          rotate_left
          rotate_left
          · intro w' hC_
            obtain _ := hC_
            go_simp
            with_reducible rfl
          · show Act.put _ (some 58) _ = _
            simp only [Act.put, List.setIfInBounds_toArray, List.set_cons_zero, List.set_cons_succ, i64_w, i32_w]
            rfl
          refine q_op (v := ?_) (a' := ?_) ?hw2 ?_ ?_ ?_
          case hw2 => exact wanted_on rfl rfl rfl rfl
          rotate_left
          rotate_left
          · intro w' hC_
            obtain _ := hC_
            go_simp
            with_reducible rfl
          · show Act.put _ (some 59) _ = _
            simp only [Act.put, List.setIfInBounds_toArray, List.set_cons_zero, List.set_cons_succ, i64_w, i32_w]
            rfl
          refine q_op (v := ?_) (a' := ?_) ?hw2 ?_ ?_ ?_
          case hw2 => exact wanted_on rfl rfl rfl rfl
          rotate_left
          rotate_left
          · intro w' hC_
            obtain _ := hC_
            go_simp
            with_reducible rfl
          · show Act.put _ (some 60) _ = _
            simp only [Act.put, List.setIfInBounds_toArray, List.set_cons_zero, List.set_cons_succ, i64_w, i32_w]
            rfl
          refine q_op (v := ?_) (a' := ?_) ?hw2 ?_ ?_ ?_
          case hw2 => exact wanted_on rfl rfl rfl rfl
          rotate_left
          rotate_left
          · intro w' hC_
            have s0_ := rd_ HC.out HX.out (Below.trans BZ.out (Below.mono hC_ (Below.size BZ.out))) hlt
            go_simp
            with_reducible rfl
          · show Act.put _ (some 61) _ = _
            simp only [Act.put, List.setIfInBounds_toArray, List.set_cons_zero, List.set_cons_succ, i64_w, i32_w]
            rfl
          refine q_op (v := ?_) (a' := ?_) ?hw2 ?_ ?_ ?_
          case hw2 => exact wanted_on rfl rfl rfl rfl
          rotate_left
          rotate_left
          · intro w' hC_
            obtain _ := hC_
            go_simp
            with_reducible rfl
          · show Act.put _ (some 62) _ = _
            simp only [Act.put, List.setIfInBounds_toArray, List.set_cons_zero, List.set_cons_succ, i64_w, i32_w]
            rfl
          refine q_op (v := ?_) (a' := ?_) ?hw2 ?_ ?_ ?_
          case hw2 => rfl
          rotate_left
          rotate_left
          · intro w' hC_
            obtain _ := hC_
            go_simp
            with_reducible rfl
          · show Act.put _ (some 63) _ = _
            simp only [Act.put, List.setIfInBounds_toArray, List.set_cons_zero, List.set_cons_succ, i64_w, i32_w]
            rfl
          refine q_op (v := ?_) (a' := ?_) ?hw2 ?_ ?_ ?_
          case hw2 => rfl
          rotate_left
          rotate_left
          · intro w' hC_
            obtain _ := hC_
            go_simp
            with_reducible rfl
          · show Act.put _ (some 64) _ = _
            simp only [Act.put, List.setIfInBounds_toArray, List.set_cons_zero, List.set_cons_succ, i64_w, i32_w]
            rfl
          refine q_off (a' := ?_) ?hw2 ?_ ?_
          case hw2 => exact wanted_off rfl rfl rfl rfl
          rotate_left
          · show Act.put _ (some 65) _ = _
            simp only [Act.put, List.setIfInBounds_toArray, List.set_cons_zero, List.set_cons_succ, i64_w, i32_w]
            rfl
          refine q_off (a' := ?_) ?hw2 ?_ ?_
          case hw2 => exact wanted_off rfl rfl rfl rfl
          rotate_left
          · show Act.put _ (some 66) _ = _
            simp only [Act.put, List.setIfInBounds_toArray, List.set_cons_zero, List.set_cons_succ, i64_w, i32_w]
            rfl
          refine q_off (a' := ?_) ?hw2 ?_ ?_
          case hw2 => exact wanted_off rfl rfl rfl rfl
          rotate_left
          · show Act.put _ (some 67) _ = _
            simp only [Act.put, List.setIfInBounds_toArray, List.set_cons_zero, List.set_cons_succ, i64_w, i32_w]
            rfl
          refine q_off (a' := ?_) ?hw2 ?_ ?_
          case hw2 => exact wanted_off rfl rfl rfl rfl
          rotate_left
          · show Act.put _ (some 68) _ = _
            simp only [Act.put, List.setIfInBounds_toArray, List.set_cons_zero, List.set_cons_succ, i64_w, i32_w]
            rfl
          refine q_off (a' := ?_) ?hw2 ?_ ?_
          case hw2 => exact wanted_off rfl rfl rfl rfl
          rotate_left
          · show Act.put _ (some 69) _ = _
            simp only [Act.put, List.setIfInBounds_toArray, List.set_cons_zero, List.set_cons_succ, i64_w, i32_w]
            rfl
          refine q_off (a' := ?_) ?hw2 ?_ ?_
          case hw2 => exact wanted_off rfl rfl rfl rfl
          rotate_left
          · show Act.put _ (some 70) _ = _
            simp only [Act.put, List.setIfInBounds_toArray, List.set_cons_zero, List.set_cons_succ, i64_w, i32_w]
            rfl
          refine q_off (a' := ?_) ?hw2 ?_ ?_
          case hw2 => exact wanted_off rfl rfl rfl rfl
          rotate_left
          · show Act.put _ (some 71) _ = _
            simp only [Act.put, List.setIfInBounds_toArray, List.set_cons_zero, List.set_cons_succ, i64_w, i32_w]
            rfl
          refine q_off (a' := ?_) ?hw2 ?_ ?_
          case hw2 => exact wanted_off rfl rfl rfl rfl
          rotate_left
          · show Act.put _ (some 72) _ = _
            simp only [Act.put, List.setIfInBounds_toArray, List.set_cons_zero, List.set_cons_succ, i64_w, i32_w]
            rfl
          refine q_off (a' := ?_) ?hw2 ?_ ?_
          case hw2 => exact wanted_off rfl rfl rfl rfl
          rotate_left
          · show Act.put _ (some 73) _ = _
            simp only [Act.put, List.setIfInBounds_toArray, List.set_cons_zero, List.set_cons_succ, i64_w, i32_w]
            rfl
          refine q_off (a' := ?_) ?hw2 ?_ ?_
          case hw2 => exact wanted_off rfl rfl rfl rfl
          rotate_left
          · show Act.put _ (some 74) _ = _
            simp only [Act.put, List.setIfInBounds_toArray, List.set_cons_zero, List.set_cons_succ, i64_w, i32_w]
            rfl
          refine q_off (a' := ?_) ?hw2 ?_ ?_
          case hw2 => exact wanted_off rfl rfl rfl rfl
          rotate_left
          · show Act.put _ (some 75) _ = _
            simp only [Act.put, List.setIfInBounds_toArray, List.set_cons_zero, List.set_cons_succ, i64_w, i32_w]
            rfl
          refine q_op (v := ?_) (a' := ?_) ?hw2 ?_ ?_ ?_
          case hw2 => rfl
          rotate_left
          rotate_left
          · intro w' hC_
            obtain _ := hC_
            go_simp
            with_reducible rfl
          · show Act.put _ (some 76) _ = _
            simp only [Act.put, List.setIfInBounds_toArray, List.set_cons_zero, List.set_cons_succ, i64_w, i32_w]
            rfl
          refine q_nil ?_
          intro w31 hC_
          have B31 := Aside0.mk (Below.trans BZ.out (Below.mono hC_ (Below.size BZ.out)))
          clear hC_
          have s1_ := rd_ HC.out HX.out B31.out hlt
          go_wp2
          go_ret
          exact ⟨rfl, B31.out⟩
        · have e1 : decide (1099511627776 < x) = false := decide_eq_false h1
          obtain ⟨q, hq⟩ : ∃ q, j % cp = q := ⟨_, rfl⟩
          have hcj : q < hs.length := by have := HM.out; rw [HLN.out, ← hq]; exact Nat.mod_lt _ (by omega)
          have hrm : Int.tmod (j : Int) (cp : Int) = (q : Int) := by rw [← hq]; exact rem_nat j cp
          have HTA := Aside0.mk (told_arm HT.out HN.out hcj (by omega) (by omega) hx)
          have HAV := Aside0.mk (show armV hs.length 0 (q : Int) (j : Int) x = 0 from arm_fine hcj (by omega) (by omega))
          have HLT := Aside0.mk (show ∀ q, q < hs.length → (hs.getD q []).length < 1024 from fun q _ => by have := len_total hs q; have := HN.out; omega)
          have hzn : ¬ cp = 0 := by have := HM.out; omega
          clear h0 h1 hx hcj hq
          go_upto_region 11 with (fail)
          obtain ⟨w20, hw20⟩ : ∃ w20 : World, wr.drew = w20 := ⟨_, rfl⟩
          have hb20 : Below wr.heap.size wr w20 := by rw [← hw20]; exact below_drew (Below.refl _ _)
          have A20 := Aside0.mk (AL.below AZ.out hb20)
          have B20 := Aside0.mk (Below.trans BZ.out (Below.mono hb20 (Below.size BZ.out)))
          clear hb20
          refine start_ (n := 25) (S := fun w' => w'.cell? (ad.add j) = some (.int .i64 x)) (ds := []) #[false, false, false, false, false, false, false, false, false, false, false, false, false, false, false, false, false, false, false, false, false, false, false, false, false] (by kernel_rfl) rfl rfl (by rw [hw20]; exact rd_ HC.out HX.out B20.out hlt) (fun hHeld => ?_)
          refine pure_ (i := 0) (N := some 52) (v := ?_) (a' := ?_) #[true, false, false, false, false, false, false, false, false, false, false, false, false, false, false, false, false, false, false, false, false, false, false, false, false] rfl rfl (by kernel_rfl) (fun _ _ _ h => h) (Or.inl ⟨by rfl, ?_⟩) ?_ ?_
          rotate_left
          · intro w'
            go_simp
            with_reducible rfl
          rotate_left
          · simp only [Act.put, List.setIfInBounds_toArray, List.set_cons_zero, List.set_cons_succ, i64_w, i32_w]
            rfl
          refine pure_ (i := 1) (N := some 53) (v := ?_) (a' := ?_) #[true, true, false, false, false, false, false, false, false, false, false, false, false, false, false, false, false, false, false, false, false, false, false, false, false] rfl rfl (by kernel_rfl) (fun _ _ _ h => h) (Or.inl ⟨by rfl, ?_⟩) ?_ ?_
          rotate_left
          · intro w'
            go_simp
            with_reducible rfl
          rotate_left
          · simp only [Act.put, List.setIfInBounds_toArray, List.set_cons_zero, List.set_cons_succ, i64_w, i32_w]
            rfl
          refine pure_ (i := 2) (N := some 54) (v := ?_) (a' := ?_) #[true, true, true, false, false, false, false, false, false, false, false, false, false, false, false, false, false, false, false, false, false, false, false, false, false] rfl rfl (by kernel_rfl) (fun _ _ _ h => h) (Or.inl ⟨by rfl, ?_⟩) ?_ ?_
          rotate_left
          · intro w'
            go_simp
            with_reducible rfl
          rotate_left
          · simp only [Act.put, List.setIfInBounds_toArray, List.set_cons_zero, List.set_cons_succ, i64_w, i32_w]
            rfl
          refine take_ (i := 3) (N := some 55) (v := ?_) (a' := ?_) #[true, true, true, true, false, false, false, false, false, false, false, false, false, false, false, false, false, false, false, false, false, false, false, false, false] rfl rfl (by kernel_rfl) (fun _ _ _ h => h) (Or.inl ⟨by rfl, ?_⟩) hHeld ?_ ?_
          rotate_left
          · intro w' hS_
            obtain s0_ := hS_
            go_simp
            with_reducible rfl
          rotate_left
          · simp only [Act.put, List.setIfInBounds_toArray, List.set_cons_zero, List.set_cons_succ, i64_w, i32_w]
            rfl
          refine pure_ (i := 4) (N := some 56) (v := ?_) (a' := ?_) #[true, true, true, true, true, false, false, false, false, false, false, false, false, false, false, false, false, false, false, false, false, false, false, false, false] rfl rfl (by kernel_rfl) (fun _ _ _ h => h) (Or.inl ⟨by rfl, ?_⟩) ?_ ?_
          rotate_left
          · intro w'
            go_simp
            with_reducible rfl
          rotate_left
          · simp only [Act.put, List.setIfInBounds_toArray, List.set_cons_zero, List.set_cons_succ, i64_w, i32_w]
            rfl
          refine pure_ (i := 5) (N := some 57) (v := ?_) (a' := ?_) #[true, true, true, true, true, true, false, false, false, false, false, false, false, false, false, false, false, false, false, false, false, false, false, false, false] rfl rfl (by kernel_rfl) (fun _ _ _ h => h) (Or.inl ⟨by rfl, ?_⟩) ?_ ?_
          rotate_left
          · intro w'
            go_simp
            with_reducible rfl
          rotate_left
          · simp only [Act.put, List.setIfInBounds_toArray, List.set_cons_zero, List.set_cons_succ, i64_w, i32_w]
            rfl
          refine pure_ (i := 6) (N := some 58) (v := ?_) (a' := ?_) #[true, true, true, true, true, true, true, false, false, false, false, false, false, false, false, false, false, false, false, false, false, false, false, false, false] rfl rfl (by kernel_rfl) (fun _ _ _ h => h) (Or.inl ⟨wanted_on rfl rfl rfl rfl, ?_⟩) ?_ ?_
          rotate_left
          · intro w'
            go_simp
            with_reducible rfl
          rotate_left
          · simp only [Act.put, List.setIfInBounds_toArray, List.set_cons_zero, List.set_cons_succ, i64_w, i32_w]
            rfl
          refine pure_ (i := 7) (N := some 59) (v := ?_) (a' := ?_) #[true, true, true, true, true, true, true, true, false, false, false, false, false, false, false, false, false, false, false, false, false, false, false, false, false] rfl rfl (by kernel_rfl) (fun _ _ _ h => h) (Or.inl ⟨wanted_on rfl rfl rfl rfl, ?_⟩) ?_ ?_
          rotate_left
          · intro w'
            go_simp
            with_reducible rfl
          rotate_left
          · simp only [Act.put, List.setIfInBounds_toArray, List.set_cons_zero, List.set_cons_succ, i64_w, i32_w]
            rfl
          refine pure_ (i := 8) (N := some 60) (v := ?_) (a' := ?_) #[true, true, true, true, true, true, true, true, true, false, false, false, false, false, false, false, false, false, false, false, false, false, false, false, false] rfl rfl (by kernel_rfl) (fun _ _ _ h => h) (Or.inl ⟨wanted_on rfl rfl rfl rfl, ?_⟩) ?_ ?_
          rotate_left
          · intro w'
            go_simp
            with_reducible rfl
          rotate_left
          · simp only [Act.put, List.setIfInBounds_toArray, List.set_cons_zero, List.set_cons_succ, i64_w, i32_w]
            rfl
          refine take_ (i := 9) (N := some 61) (v := ?_) (a' := ?_) #[true, true, true, true, true, true, true, true, true, true, false, false, false, false, false, false, false, false, false, false, false, false, false, false, false] rfl rfl (by kernel_rfl) (fun _ _ _ h => h) (Or.inl ⟨wanted_on rfl rfl rfl rfl, ?_⟩) hHeld ?_ ?_
          rotate_left
          · intro w' hS_
            obtain s0_ := hS_
            go_simp
            with_reducible rfl
          rotate_left
          · simp only [Act.put, List.setIfInBounds_toArray, List.set_cons_zero, List.set_cons_succ, i64_w, i32_w]
            rfl
          refine pure_ (i := 10) (N := some 62) (v := ?_) (a' := ?_) #[true, true, true, true, true, true, true, true, true, true, true, false, false, false, false, false, false, false, false, false, false, false, false, false, false] rfl rfl (by kernel_rfl) (fun _ _ _ h => h) (Or.inl ⟨wanted_on rfl rfl rfl rfl, ?_⟩) ?_ ?_
          rotate_left
          · intro w'
            go_simp
            with_reducible rfl
          rotate_left
          · simp only [Act.put, List.setIfInBounds_toArray, List.set_cons_zero, List.set_cons_succ, i64_w, i32_w]
            rfl
          refine pure_ (i := 11) (N := some 63) (v := ?_) (a' := ?_) #[true, true, true, true, true, true, true, true, true, true, true, true, false, false, false, false, false, false, false, false, false, false, false, false, false] rfl rfl (by kernel_rfl) (fun _ _ _ h => h) (Or.inl ⟨by rfl, ?_⟩) ?_ ?_
          rotate_left
          · intro w'
            go_simp
            with_reducible rfl
          rotate_left
          · simp only [Act.put, List.setIfInBounds_toArray, List.set_cons_zero, List.set_cons_succ, i64_w, i32_w]
            rfl
          refine pure_ (i := 12) (N := some 64) (v := ?_) (a' := ?_) #[true, true, true, true, true, true, true, true, true, true, true, true, true, false, false, false, false, false, false, false, false, false, false, false, false] rfl rfl (by kernel_rfl) (fun _ _ _ h => h) (Or.inl ⟨by rfl, ?_⟩) ?_ ?_
          rotate_left
          · intro w'
            go_simp
            with_reducible rfl
          rotate_left
          · simp only [Act.put, List.setIfInBounds_toArray, List.set_cons_zero, List.set_cons_succ, i64_w, i32_w]
            rfl
          refine pure_ (i := 13) (N := some 65) (v := ?_) (a' := ?_) #[true, true, true, true, true, true, true, true, true, true, true, true, true, true, false, false, false, false, false, false, false, false, false, false, false] rfl rfl (by kernel_rfl) (fun _ _ _ h => h) (Or.inl ⟨wanted_on rfl rfl rfl rfl, ?_⟩) ?_ ?_
          rotate_left
          · intro w'
            go_simp
            with_reducible rfl
          rotate_left
          · simp only [Act.put, List.setIfInBounds_toArray, List.set_cons_zero, List.set_cons_succ, i64_w, i32_w]
            rfl
          refine pure_ (i := 14) (N := some 66) (v := ?_) (a' := ?_) #[true, true, true, true, true, true, true, true, true, true, true, true, true, true, true, false, false, false, false, false, false, false, false, false, false] rfl rfl (by kernel_rfl) (fun _ _ _ h => h) (Or.inl ⟨wanted_on rfl rfl rfl rfl, ?_⟩) ?_ ?_
          rotate_left
          · intro w'
            go_simp
            with_reducible rfl
          rotate_left
          · simp only [Act.put, List.setIfInBounds_toArray, List.set_cons_zero, List.set_cons_succ, i64_w, i32_w]
            rfl
          refine pure_ (i := 15) (N := some 67) (v := ?_) (a' := ?_) #[true, true, true, true, true, true, true, true, true, true, true, true, true, true, true, true, false, false, false, false, false, false, false, false, false] rfl rfl (by kernel_rfl) (fun _ _ _ h => h) (Or.inl ⟨wanted_on rfl rfl rfl rfl, ?_⟩) ?_ ?_
          rotate_left
          · intro w'
            go_simp
            with_reducible rfl
          rotate_left
          · simp only [Act.put, List.setIfInBounds_toArray, List.set_cons_zero, List.set_cons_succ, i64_w, i32_w]
            rfl
          refine pure_ (i := 16) (N := some 68) (v := ?_) (a' := ?_) #[true, true, true, true, true, true, true, true, true, true, true, true, true, true, true, true, true, false, false, false, false, false, false, false, false] rfl rfl (by kernel_rfl) (fun _ _ _ h => h) (Or.inl ⟨wanted_on rfl rfl rfl rfl, ?_⟩) ?_ ?_
          rotate_left
          · intro w'
            go_simp
            with_reducible rfl
          rotate_left
          · simp only [Act.put, List.setIfInBounds_toArray, List.set_cons_zero, List.set_cons_succ, i64_w, i32_w]
            rfl
          refine pure_ (i := 17) (N := some 69) (v := ?_) (a' := ?_) #[true, true, true, true, true, true, true, true, true, true, true, true, true, true, true, true, true, true, false, false, false, false, false, false, false] rfl rfl (by kernel_rfl) (fun _ _ _ h => h) (Or.inl ⟨wanted_on rfl rfl rfl rfl, ?_⟩) ?_ ?_
          rotate_left
          · intro w'
            go_simp
            with_reducible rfl
          rotate_left
          · simp only [Act.put, List.setIfInBounds_toArray, List.set_cons_zero, List.set_cons_succ, i64_w, i32_w]
            rfl
          refine pure_ (i := 18) (N := some 70) (v := ?_) (a' := ?_) #[true, true, true, true, true, true, true, true, true, true, true, true, true, true, true, true, true, true, true, false, false, false, false, false, false] rfl rfl (by kernel_rfl) (fun _ _ _ h => h) (Or.inl ⟨wanted_on rfl rfl rfl rfl, ?_⟩) ?_ ?_
          rotate_left
          · intro w'
            go_simp
            with_reducible rfl
          rotate_left
          · simp only [Act.put, List.setIfInBounds_toArray, List.set_cons_zero, List.set_cons_succ, i64_w, i32_w]
            rfl
          refine pure_ (i := 19) (N := some 71) (v := ?_) (a' := ?_) #[true, true, true, true, true, true, true, true, true, true, true, true, true, true, true, true, true, true, true, true, false, false, false, false, false] rfl rfl (by kernel_rfl) (fun _ _ _ h => h) (Or.inl ⟨wanted_on rfl rfl rfl rfl, ?_⟩) ?_ ?_
          rotate_left
          · intro w'
            go_simp
            with_reducible rfl
          rotate_left
          · simp only [Act.put, List.setIfInBounds_toArray, List.set_cons_zero, List.set_cons_succ, i64_w, i32_w]
            rfl
          refine pure_ (i := 20) (N := some 72) (v := ?_) (a' := ?_) #[true, true, true, true, true, true, true, true, true, true, true, true, true, true, true, true, true, true, true, true, true, false, false, false, false] rfl rfl (by kernel_rfl) (fun _ _ _ h => h) (Or.inl ⟨wanted_on rfl rfl rfl rfl, ?_⟩) ?_ ?_
          rotate_left
          · intro w'
            go_simp
            with_reducible rfl
          rotate_left
          · simp only [Act.put, List.setIfInBounds_toArray, List.set_cons_zero, List.set_cons_succ, i64_w, i32_w]
            rfl
          refine take_ (i := 21) (N := some 73) (v := ?_) (a' := ?_) #[true, true, true, true, true, true, true, true, true, true, true, true, true, true, true, true, true, true, true, true, true, true, false, false, false] rfl rfl (by kernel_rfl) (fun _ _ _ h => h) (Or.inl ⟨wanted_on rfl rfl rfl rfl, ?_⟩) hHeld ?_ ?_
          rotate_left
          · intro w' hS_
            obtain s0_ := hS_
            go_simp
            with_reducible rfl
          rotate_left
          · simp only [Act.put, List.setIfInBounds_toArray, List.set_cons_zero, List.set_cons_succ, i64_w, i32_w]
            rfl
          refine one_ (i := 22) (N := some 74) #[true, true, true, true, true, true, true, true, true, true, true, true, true, true, true, true, true, true, true, true, true, true, true, false, false] rfl rfl (by kernel_rfl) (by decide) (fun K hK => ?_)
          refine goes_ Try.func9 (by kernel_rfl) rfl #[.pointer (some ⟨ga, 0, none⟩), .int .i64 (q : Int), .int .i64 (j : Int), .int .i64 x] ?hw rfl rfl ?hx ?_
          (case hw => exact wanted_on rfl rfl rfl rfl)
          (case hx => (try simp only [List.map_toArray, List.map_cons, List.map_nil]); first | done | rfl)
          rw [hw20]
          refine (arm2 (q : Int) (j : Int) x A20.out HLT.out HAV.out rfl).mono ?_
          rintro e w21 ⟨rfl, c21, h21, t21⟩
          have A21 := Aside0.mk h21
          have B21 := Aside0.mk (t21.far B20.out)
          clear h21 t21
          refine ⟨_, rfl, ?_⟩
          have hHeld := rd_ HC.out HX.out B21.out hlt
          refine hK.out _ _ hHeld (fun hHeld => ?_)
          clear hK K
          refine norm_ (a' := ?_) ?_ ?_
          rotate_left
          · show Act.put _ (some 74) _ = _
            simp only [Act.put, List.setIfInBounds_toArray, List.set_cons_zero, List.set_cons_succ, i64_w, i32_w]
            rfl
          refine pure_ (i := 23) (N := some 75) (v := ?_) (a' := ?_) #[true, true, true, true, true, true, true, true, true, true, true, true, true, true, true, true, true, true, true, true, true, true, true, true, false] rfl rfl (by kernel_rfl) (fun _ _ _ h => h) (Or.inl ⟨wanted_on rfl rfl rfl rfl, ?_⟩) ?_ ?_
          rotate_left
          · intro w'
            go_simp
            with_reducible rfl
          rotate_left
          · simp only [Act.put, List.setIfInBounds_toArray, List.set_cons_zero, List.set_cons_succ, i64_w, i32_w]
            rfl
          refine pure_ (i := 24) (N := some 76) (v := ?_) (a' := ?_) #[true, true, true, true, true, true, true, true, true, true, true, true, true, true, true, true, true, true, true, true, true, true, true, true, true] rfl rfl (by kernel_rfl) (fun _ _ _ h => h) (Or.inl ⟨by rfl, ?_⟩) ?_ ?_
          rotate_left
          · intro w'
            go_simp
            with_reducible rfl
          rotate_left
          · simp only [Act.put, List.setIfInBounds_toArray, List.set_cons_zero, List.set_cons_succ, i64_w, i32_w]
            rfl
          refine done_ (by kernel_rfl) ?_
          go_wp2
          go_roundw
          case rel => exact ⟨j + 1, c21, _, hlt, by go_num, A21.out, HTA.out.2.2.trans HLN.out, HTA.out.1, HTA.out.2.1, B21.out⟩
          case measure => simp [intOf]; omega
    · have pj : decide ((j : Int) < (l.length : Int)) = false := decide_eq_false (by omega)
      have pjn : decide (j < l.length) = false := decide_eq_false hlt
      have hjl : j = l.length := by omega
      have h0 : total hs = l.length := by rw [HN.out, hjl]
      have HT2 := Aside0.mk (show Told hs l l.length (-1) from by have h := HT.out; rwa [hjl] at h)
      have HN2 := Aside0.mk (show 0 + total hs = l.length from by omega)
      clear h0 hjl HT HN
      go_wp2
      clear pj pjn hj60 hj
      go_loopw [10, 11, 12] (fun lv nv i wr => RelS w l l2.length cp ga lv nv i wr) (fun _ _ i _ => l2.length + 1 - (intOf i).toNat)
      case atStart => exact ⟨0, 0, c, hs, -1, 0, Nat.zero_le _, rfl, rfl, rfl, AZ.out, HLN.out, HT2.out, HN2.out, by omega, fun _ => by omega, fun h => by omega, BZ.out⟩
      case round =>
        clear AZ BZ HLN HT2 HN2
        obtain ⟨j2, n, c4, hs4, last, now, hj2, rfl, rfl, rfl, hA, hln, hT, hn, h0n, hnw, hla, hB⟩ := hrel
        have AS := Aside0.mk hA
        have BS := Aside0.mk hB
        have HLN := Aside0.mk hln
        have HT := Aside0.mk hT
        have HN := Aside0.mk hn
        have HNW := Aside0.mk (And.intro h0n hnw)
        have HLA := Aside0.mk hla
        clear hA hB hln hT hn h0n hnw hla
        have hj41 : j2 ≤ 41 := by have := HL2.out; omega
        by_cases hle : j2 ≤ l2.length
        · have pl : decide ((j2 : Int) ≤ (l2.length : Int)) = true := decide_eq_true (by omega)
          have pln : decide (j2 ≤ l2.length) = true := decide_eq_true hle
          go_upto_if 98 with (fail)
          go_cut [13] from 99 to 106 (fun tv wd => CutS w l2.length cp ga j2 hs4 now tv wd)
          case first =>
            by_cases hlt2 : j2 < l2.length
            · have pm : decide ((j2 : Int) < (l2.length : Int)) = true := decide_eq_true (by omega)
              have pmn : decide (j2 < l2.length) = true := decide_eq_true hlt2
              have bq : (0 ≤ (j2 : Int) ∧ (j2 : Int) < (l2.length : Int)) := by omega
              obtain ⟨ad2, hAd2, _⟩ := read_at HC2.out hlt2
              subst hAd2
              obtain ⟨x2, hx2⟩ : ∃ x2, l2.getD j2 0 = x2 := ⟨_, rfl⟩
              have HX2 := Aside0.mk hx2
              obtain ⟨r, hr1, hr2⟩ := and_mask x2
              have HR := Aside0.mk hr2
              have HT3 := Aside0.mk (show now ≤ now + (r : Int) ∧ now + (r : Int) ≤ 2199023255552 ∧ now + (r : Int) ≤ ((j2 + 1 : Nat) : Int) * 16777215 from by have := HL2.out; have := HNW.out.1; have := HNW.out.2 hle; omega)
              clear hx2 hr2 hr1
              go_upto_region 19 with (fail)
              refine q_start (by kernel_rfl) (by kernel_rfl) (fun w' => Below wr.heap.size wr w') (below_drew (Below.refl _ _)) ?_
              refine q_op (v := ?_) (a' := ?_) ?hw3 ?_ ?_ ?_
              case hw3 => rfl
              rotate_left
              rotate_left
              · intro w' hC_
                obtain _ := hC_
                go_simp
                with_reducible rfl
              · show Act.put _ (some 99) _ = _
                simp only [Act.put, List.setIfInBounds_toArray, List.set_cons_zero, List.set_cons_succ, i64_w, i32_w]
                rfl
              refine q_call (a' := ?_) Try.func10 (by kernel_rfl) rfl #[.pointer (some ⟨ga, 0, none⟩)] ?hw3 rfl ?hx3 (.int .i64 now) ?_ ?_ ?_
              case hw3 => rfl
              case hx3 => (try simp only [List.map_toArray, List.map_cons, List.map_nil]); first | done | rfl
              rotate_left
              · intro w' hC_
                exact (now_calls (AL.below AS.out hC_)).mono (fun e w'' ⟨he, hb⟩ => ⟨he, by rw [hb]; exact hC_⟩)
              · show Act.put _ (some 100) _ = _
                simp only [Act.put, List.setIfInBounds_toArray, List.set_cons_zero, List.set_cons_succ, i64_w, i32_w]
                rfl
              refine q_op (v := ?_) (a' := ?_) ?hw3 ?_ ?_ ?_
              case hw3 => rfl
              rotate_left
              rotate_left
              · intro w' hC_
                obtain _ := hC_
                go_simp
                with_reducible rfl
              · show Act.put _ (some 101) _ = _
                simp only [Act.put, List.setIfInBounds_toArray, List.set_cons_zero, List.set_cons_succ, i64_w, i32_w]
                rfl
              refine q_op (v := ?_) (a' := ?_) ?hw3 ?_ ?_ ?_
              case hw3 => rfl
              rotate_left
              rotate_left
              · intro w' hC_
                obtain _ := hC_
                go_simp
                with_reducible rfl
              · show Act.put _ (some 102) _ = _
                simp only [Act.put, List.setIfInBounds_toArray, List.set_cons_zero, List.set_cons_succ, i64_w, i32_w]
                rfl
              refine q_op (v := ?_) (a' := ?_) ?hw3 ?_ ?_ ?_
              case hw3 => rfl
              rotate_left
              rotate_left
              · intro w' hC_
                obtain _ := hC_
                go_simp
                with_reducible rfl
              · show Act.put _ (some 103) _ = _
                simp only [Act.put, List.setIfInBounds_toArray, List.set_cons_zero, List.set_cons_succ, i64_w, i32_w]
                rfl
              refine q_op (v := ?_) (a' := ?_) ?hw3 ?_ ?_ ?_
              case hw3 => rfl
              rotate_left
              rotate_left
              · intro w' hC_
                have s0_ := rd_ HC2.out HX2.out (Below.trans BS.out (Below.mono hC_ (Below.size BS.out))) hlt2
                go_simp
                with_reducible rfl
              · show Act.put _ (some 104) _ = _
                simp only [Act.put, List.setIfInBounds_toArray, List.set_cons_zero, List.set_cons_succ, i64_w, i32_w]
                rfl
              refine q_op (v := ?_) (a' := ?_) ?hw3 ?_ ?_ ?_
              case hw3 => rfl
              rotate_left
              rotate_left
              · intro w' hC_
                obtain _ := hC_
                go_simp
                with_reducible rfl
              · show Act.put _ (some 105) _ = _
                simp only [Act.put, List.setIfInBounds_toArray, List.set_cons_zero, List.set_cons_succ, i64_w, i32_w]
                rfl
              refine q_op (v := ?_) (a' := ?_) ?hw3 ?_ ?_ ?_
              case hw3 => rfl
              rotate_left
              rotate_left
              · intro w' hC_
                obtain _ := hC_
                go_simp
                with_reducible rfl
              · show Act.put _ (some 106) _ = _
                simp only [Act.put, List.setIfInBounds_toArray, List.set_cons_zero, List.set_cons_succ, i64_w, i32_w]
                rfl
              refine q_op (v := ?_) (a' := ?_) ?hw3 ?_ ?_ ?_
              case hw3 => rfl
              rotate_left
              rotate_left
              · intro w' hC_
                obtain _ := hC_
                go_simp
                with_reducible rfl
              · show Act.put _ (some 13) _ = _
                simp only [Act.put, List.setIfInBounds_toArray, List.set_cons_zero, List.set_cons_succ, i64_w, i32_w]
                rfl
              refine q_nil ?_
              intro w41 hC_
              have A41 := Aside0.mk (AL.below AS.out hC_)
              have B41 := Aside0.mk (Below.trans BS.out (Below.mono hC_ (Below.size BS.out)))
              clear hC_
              go_wp2
              go_meet
              exact ⟨c4, now + (r : Int), by rw [HR.out]; first | rfl | (congr 1; unfold wrap64; have := HT3.out; have := HNW.out; omega) | (congr 1; have := HT3.out; have := HNW.out; omega), A41.out, HT3.out.1, HT3.out.2.1, fun _ => HT3.out.2.2, fun h => absurd h (by omega), B41.out⟩
            · have pm : decide ((j2 : Int) < (l2.length : Int)) = false := decide_eq_false (by omega)
              have pmn : decide (j2 < l2.length) = false := decide_eq_false hlt2
              go_wp2
              go_meet
              exact ⟨c4, 2199023255552, rfl, AS.out, by have := HL2.out; have := HNW.out.2 hle; omega, by omega, fun h => absurd h (by omega), fun _ => rfl, BS.out⟩
          case rest =>
            clear AS BS
            obtain ⟨c5, t, rfl, hA, ht1, ht2, ht3, ht4, hB⟩ := hcut
            have AS := Aside0.mk hA
            have BS := Aside0.mk hB
            have HTT := Aside0.mk (And.intro ht1 (And.intro ht2 (And.intro ht3 ht4)))
            obtain ⟨out, hout⟩ : ∃ out, inOrder (ringsN hs4 t hs4.length) = out := ⟨_, rfl⟩
            obtain ⟨hs6, hh6⟩ : ∃ hs6, restN hs4 t hs4.length = hs6 := ⟨_, rfl⟩
            have HOUT := Aside0.mk hout
            have HH6 := Aside0.mk hh6
            have HGD := Aside0.mk (show Good out l l.length last t from by rw [← hout]; exact good_to HT.out t hs4.length)
            have HT6 := Aside0.mk (show Told hs6 l l.length t from by rw [← hh6]; exact told_rest HT.out t)
            have HL6 := Aside0.mk (show hs6.length = cp from by rw [← hh6, restN_len]; exact HLN.out)
            have hn6 : n + out.length + total hs6 = l.length := by
              have h1 := total_to hs4 t hs4.length (Nat.le_refl _)
              have h2 := order_len (ringsN hs4 t hs4.length)
              rw [hout] at h2
              rw [hh6] at h1
              have := HN.out
              omega
            have HN6 := Aside0.mk hn6
            have hn60 : n + out.length ≤ 60 := by have := HL.out; omega
            have HLE := Aside0.mk (show hs4.length ≤ 64 from by have := HM.out; have := HLN.out; omega)
            have HRB := Aside0.mk (rings_bound (b := 60) t (hs := hs4) (fun q => by have := len_total hs4 q; have := HN.out; have := HL.out; omega) (by omega) HLE.out)
            have HTR := Aside0.mk (show now ≤ t ∧ t ≤ 4611686018427387904 from by omega)
            clear hA hB ht1 ht2 ht3 ht4 hout hh6 hn6
            go_wp2_with (first | (go_at_call 11; (with_reducible refine (to2 20 t AS.out BS.out (by decide) HTR.out HLE.out HRB.out HOUT.out HH6.out).mono ?_); rintro e w7 ⟨SA, ka, rfl, c7, h7, r7, t7⟩; have A7 := Aside0.mk h7; have R7 := Aside0.mk r7; have B7 := Aside0.mk (t7.far BS.out); clear h7 r7 t7))
            go_loopw [16] (fun i wr => RelO w SA ka ga hs6 out t i wr) (fun i _ => out.length - (intOf i).toNat)
            case atStart => exact ⟨0, c7, Nat.zero_le _, rfl, A7.out, R7.out, B7.out⟩
            case round =>
              clear A7 R7 B7
              obtain ⟨k, c8, hkl, rfl, hA, hR, hB⟩ := hrel
              have AO := Aside0.mk hA
              have RO := Aside0.mk hR
              have BO := Aside0.mk hB
              have HRO := Aside0.mk (row_C hR)
              clear hA hR hB
              by_cases hk : k < out.length
              · have pk : decide ((k : Int) < (out.length : Int)) = true := decide_eq_true (by omega)
                have pkn : decide (k < out.length) = true := decide_eq_true hk
                obtain ⟨ado, hado⟩ := some_ring HRO.out hk
                subst hado
                obtain ⟨ad, hAd, _⟩ : ∃ ad, A = some ad ∧ True := by
                  obtain ⟨kk, hkk, _⟩ := HGD.out.1 k hk
                  obtain ⟨ad, h, _⟩ := read_at HC.out hkk
                  exact ⟨ad, h, trivial⟩
                subst hAd
                obtain ⟨kk, hkk, hid, hat, hgt, hle2⟩ := HGD.out.1 k hk
                obtain ⟨u, hu⟩ : ∃ u, l.getD kk 0 = u := ⟨_, rfl⟩
                rw [hat, hu] at hgt hle2
                rw [hu] at hat
                have HID := Aside0.mk hid
                have HAT := Aside0.mk hat
                have HLU := Aside0.mk hu
                have bq : (0 ≤ (k : Int) ∧ (k : Int) < (out.length : Int)) := by omega
                have bq2 : (0 ≤ (kk : Int) ∧ (kk : Int) < (l.length : Int)) := by omega
                have p1 : decide ((kk : Int) < 0) = false := decide_eq_false (by omega)
                have p2 : decide ((l.length : Int) ≤ (kk : Int)) = false := decide_eq_false (by omega)
                have p2n : decide (l.length ≤ kk) = false := decide_eq_false (by omega)
                have p3 : (u != u) = false := by simp
                have p4 : decide (t < u) = false := decide_eq_false (by omega)
                have p5 : decide (u ≤ last) = false := decide_eq_false (by omega)
                clear hid hat hu hgt hle2
                by_cases hkz : k = 0
                · subst hkz
                  go_upto_region 26 with (fail)
                  refine q_start (by kernel_rfl) (by kernel_rfl) (fun w' => Below wr.heap.size wr w') (below_drew (Below.refl _ _)) ?_
                  refine q_op (v := ?_) (a' := ?_) ?hw4 ?_ ?_ ?_
                  case hw4 => rfl
                  rotate_left
                  rotate_left
                  · intro w' hC_
                    obtain _ := hC_
                    go_simp
                    with_reducible rfl
                  · show Act.put _ (some 121) _ = _
                    simp only [Act.put, List.setIfInBounds_toArray, List.set_cons_zero, List.set_cons_succ, i64_w, i32_w]
                    rfl
                  refine q_op (v := ?_) (a' := ?_) ?hw4 ?_ ?_ ?_
                  case hw4 => rfl
                  rotate_left
                  rotate_left
                  · intro w' hC_
                    obtain _ := hC_
                    go_simp
                    with_reducible rfl
                  · show Act.put _ (some 122) _ = _
                    simp only [Act.put, List.setIfInBounds_toArray, List.set_cons_zero, List.set_cons_succ, i64_w, i32_w]
                    rfl
                  refine q_op (v := ?_) (a' := ?_) ?hw4 ?_ ?_ ?_
                  case hw4 => rfl
                  rotate_left
                  rotate_left
                  · intro w' hC_
                    obtain _ := hC_
                    go_simp
                    with_reducible rfl
                  · show Act.put _ (some 123) _ = _
                    simp only [Act.put, List.setIfInBounds_toArray, List.set_cons_zero, List.set_cons_succ, i64_w, i32_w]
                    rfl
                  refine q_op (v := ?_) (a' := ?_) ?hw4 ?_ ?_ ?_
                  case hw4 => rfl
                  rotate_left
                  rotate_left
                  · intro w' hC_
                    obtain _ := hC_
                    go_simp
                    with_reducible rfl
                  · show Act.put _ (some 124) _ = _
                    simp only [Act.put, List.setIfInBounds_toArray, List.set_cons_zero, List.set_cons_succ, i64_w, i32_w]
                    rfl
                  refine q_op (v := ?_) (a' := ?_) ?hw4 ?_ ?_ ?_
                  case hw4 => rfl
                  rotate_left
                  rotate_left
                  · intro w' hC_
                    obtain ⟨s0_, s1_⟩ := rd_ring0 HRO.out HID.out HAT.out hC_ hk
                    go_simp
                    with_reducible rfl
                  · show Act.put _ (some 125) _ = _
                    simp only [Act.put, List.setIfInBounds_toArray, List.set_cons_zero, List.set_cons_succ, i64_w, i32_w]
                    rfl
                  refine q_op (v := ?_) (a' := ?_) ?hw4 ?_ ?_ ?_
                  case hw4 => rfl
                  rotate_left
                  rotate_left
                  · intro w' hC_
                    obtain _ := hC_
                    go_simp
                    with_reducible rfl
                  · show Act.put _ (some 126) _ = _
                    simp only [Act.put, List.setIfInBounds_toArray, List.set_cons_zero, List.set_cons_succ, i64_w, i32_w]
                    rfl
                  refine q_op (v := ?_) (a' := ?_) ?hw4 ?_ ?_ ?_
                  case hw4 => rfl
                  rotate_left
                  rotate_left
                  · intro w' hC_
                    obtain _ := hC_
                    go_simp
                    with_reducible rfl
                  · show Act.put _ (some 127) _ = _
                    simp only [Act.put, List.setIfInBounds_toArray, List.set_cons_zero, List.set_cons_succ, i64_w, i32_w]
                    rfl
                  refine q_op (v := ?_) (a' := ?_) ?hw4 ?_ ?_ ?_
                  case hw4 => exact wanted_on rfl rfl rfl rfl
                  rotate_left
                  rotate_left
                  · intro w' hC_
                    obtain _ := hC_
                    go_simp
                    with_reducible rfl
                  · show Act.put _ (some 128) _ = _
                    simp only [Act.put, List.setIfInBounds_toArray, List.set_cons_zero, List.set_cons_succ, i64_w, i32_w]
                    rfl
                  refine q_op (v := ?_) (a' := ?_) ?hw4 ?_ ?_ ?_
                  case hw4 => exact wanted_on rfl rfl rfl rfl
                  rotate_left
                  rotate_left
                  · intro w' hC_
                    obtain _ := hC_
                    go_simp
                    with_reducible rfl
                  · show Act.put _ (some 129) _ = _
                    simp only [Act.put, List.setIfInBounds_toArray, List.set_cons_zero, List.set_cons_succ, i64_w, i32_w]
                    rfl
                  refine q_op (v := ?_) (a' := ?_) ?hw4 ?_ ?_ ?_
                  case hw4 => exact wanted_on rfl rfl rfl rfl
                  rotate_left
                  rotate_left
                  · intro w' hC_
                    obtain _ := hC_
                    go_simp
                    with_reducible rfl
                  · show Act.put _ (some 130) _ = _
                    simp only [Act.put, List.setIfInBounds_toArray, List.set_cons_zero, List.set_cons_succ, i64_w, i32_w]
                    rfl
                  refine q_op (v := ?_) (a' := ?_) ?hw4 ?_ ?_ ?_
                  case hw4 => exact wanted_on rfl rfl rfl rfl
                  rotate_left
                  rotate_left
                  · intro w' hC_
                    obtain _ := hC_
                    go_simp
                    with_reducible rfl
                  · show Act.put _ (some 131) _ = _
                    simp only [Act.put, List.setIfInBounds_toArray, List.set_cons_zero, List.set_cons_succ, i64_w, i32_w]
                    rfl
                  refine q_op (v := ?_) (a' := ?_) ?hw4 ?_ ?_ ?_
                  case hw4 => exact wanted_on rfl rfl rfl rfl
                  rotate_left
                  rotate_left
                  · intro w' hC_
                    obtain ⟨s0_, s1_⟩ := rd_ring0 HRO.out HID.out HAT.out hC_ hk
                    go_simp
                    with_reducible rfl
                  · show Act.put _ (some 132) _ = _
                    simp only [Act.put, List.setIfInBounds_toArray, List.set_cons_zero, List.set_cons_succ, i64_w, i32_w]
                    rfl
                  refine q_op (v := ?_) (a' := ?_) ?hw4 ?_ ?_ ?_
                  case hw4 => exact wanted_on rfl rfl rfl rfl
                  rotate_left
                  rotate_left
                  · intro w' hC_
                    obtain _ := hC_
                    go_simp
                    with_reducible rfl
                  · show Act.put _ (some 133) _ = _
                    simp only [Act.put, List.setIfInBounds_toArray, List.set_cons_zero, List.set_cons_succ, i64_w, i32_w]
                    rfl
                  refine q_op (v := ?_) (a' := ?_) ?hw4 ?_ ?_ ?_
                  case hw4 => exact wanted_on rfl rfl rfl rfl
                  rotate_left
                  rotate_left
                  · intro w' hC_
                    obtain _ := hC_
                    go_simp
                    with_reducible rfl
                  · show Act.put _ (some 134) _ = _
                    simp only [Act.put, List.setIfInBounds_toArray, List.set_cons_zero, List.set_cons_succ, i64_w, i32_w]
                    rfl
                  refine q_op (v := ?_) (a' := ?_) ?hw4 ?_ ?_ ?_
                  case hw4 => exact wanted_on rfl rfl rfl rfl
                  rotate_left
                  rotate_left
                  · intro w' hC_
                    obtain _ := hC_
                    go_simp
                    with_reducible rfl
                  · show Act.put _ (some 135) _ = _
                    simp only [Act.put, List.setIfInBounds_toArray, List.set_cons_zero, List.set_cons_succ, i64_w, i32_w]
                    rfl
                  refine q_op (v := ?_) (a' := ?_) ?hw4 ?_ ?_ ?_
                  case hw4 => rfl
                  rotate_left
                  rotate_left
                  · intro w' hC_
                    obtain _ := hC_
                    go_simp
                    with_reducible rfl
                  · show Act.put _ (some 136) _ = _
                    simp only [Act.put, List.setIfInBounds_toArray, List.set_cons_zero, List.set_cons_succ, i64_w, i32_w]
                    rfl
                  refine q_op (v := ?_) (a' := ?_) ?hw4 ?_ ?_ ?_
                  case hw4 => rfl
                  rotate_left
                  rotate_left
                  · intro w' hC_
                    obtain _ := hC_
                    go_simp
                    with_reducible rfl
                  · show Act.put _ (some 137) _ = _
                    simp only [Act.put, List.setIfInBounds_toArray, List.set_cons_zero, List.set_cons_succ, i64_w, i32_w]
                    rfl
                  refine q_op (v := ?_) (a' := ?_) ?hw4 ?_ ?_ ?_
                  case hw4 => exact wanted_on rfl rfl rfl rfl
                  rotate_left
                  rotate_left
                  · intro w' hC_
                    obtain _ := hC_
                    go_simp
                    with_reducible rfl
                  · show Act.put _ (some 138) _ = _
                    simp only [Act.put, List.setIfInBounds_toArray, List.set_cons_zero, List.set_cons_succ, i64_w, i32_w]
                    rfl
                  refine q_op (v := ?_) (a' := ?_) ?hw4 ?_ ?_ ?_
                  case hw4 => exact wanted_on rfl rfl rfl rfl
                  rotate_left
                  rotate_left
                  · intro w' hC_
                    obtain _ := hC_
                    go_simp
                    with_reducible rfl
                  · show Act.put _ (some 139) _ = _
                    simp only [Act.put, List.setIfInBounds_toArray, List.set_cons_zero, List.set_cons_succ, i64_w, i32_w]
                    rfl
                  refine q_op (v := ?_) (a' := ?_) ?hw4 ?_ ?_ ?_
                  case hw4 => exact wanted_on rfl rfl rfl rfl
                  rotate_left
                  rotate_left
                  · intro w' hC_
                    obtain _ := hC_
                    go_simp
                    with_reducible rfl
                  · show Act.put _ (some 140) _ = _
                    simp only [Act.put, List.setIfInBounds_toArray, List.set_cons_zero, List.set_cons_succ, i64_w, i32_w]
                    rfl
                  refine q_op (v := ?_) (a' := ?_) ?hw4 ?_ ?_ ?_
                  case hw4 => exact wanted_on rfl rfl rfl rfl
                  rotate_left
                  rotate_left
                  · intro w' hC_
                    obtain _ := hC_
                    go_simp
                    with_reducible rfl
                  · show Act.put _ (some 141) _ = _
                    simp only [Act.put, List.setIfInBounds_toArray, List.set_cons_zero, List.set_cons_succ, i64_w, i32_w]
                    rfl
                  refine q_op (v := ?_) (a' := ?_) ?hw4 ?_ ?_ ?_
                  case hw4 => exact wanted_on rfl rfl rfl rfl
                  rotate_left
                  rotate_left
                  · intro w' hC_
                    obtain ⟨s0_, s1_⟩ := rd_ring0 HRO.out HID.out HAT.out hC_ hk
                    go_simp
                    with_reducible rfl
                  · show Act.put _ (some 142) _ = _
                    simp only [Act.put, List.setIfInBounds_toArray, List.set_cons_zero, List.set_cons_succ, i64_w, i32_w]
                    rfl
                  refine q_op (v := ?_) (a' := ?_) ?hw4 ?_ ?_ ?_
                  case hw4 => exact wanted_on rfl rfl rfl rfl
                  rotate_left
                  rotate_left
                  · intro w' hC_
                    obtain _ := hC_
                    go_simp
                    with_reducible rfl
                  · show Act.put _ (some 143) _ = _
                    simp only [Act.put, List.setIfInBounds_toArray, List.set_cons_zero, List.set_cons_succ, i64_w, i32_w]
                    rfl
                  refine q_op (v := ?_) (a' := ?_) ?hw4 ?_ ?_ ?_
                  case hw4 => exact wanted_on rfl rfl rfl rfl
                  rotate_left
                  rotate_left
                  · intro w' hC_
                    obtain _ := hC_
                    go_simp
                    with_reducible rfl
                  · show Act.put _ (some 144) _ = _
                    simp only [Act.put, List.setIfInBounds_toArray, List.set_cons_zero, List.set_cons_succ, i64_w, i32_w]
                    rfl
                  refine q_op (v := ?_) (a' := ?_) ?hw4 ?_ ?_ ?_
                  case hw4 => exact wanted_on rfl rfl rfl rfl
                  rotate_left
                  rotate_left
                  · intro w' hC_
                    obtain _ := hC_
                    go_simp
                    with_reducible rfl
                  · show Act.put _ (some 145) _ = _
                    simp only [Act.put, List.setIfInBounds_toArray, List.set_cons_zero, List.set_cons_succ, i64_w, i32_w]
                    rfl
                  refine q_op (v := ?_) (a' := ?_) ?hw4 ?_ ?_ ?_
                  case hw4 => exact wanted_on rfl rfl rfl rfl
                  rotate_left
                  rotate_left
                  · intro w' hC_
                    obtain _ := hC_
                    go_simp
                    with_reducible rfl
                  · show Act.put _ (some 146) _ = _
                    simp only [Act.put, List.setIfInBounds_toArray, List.set_cons_zero, List.set_cons_succ, i64_w, i32_w]
                    rfl
                  refine q_op (v := ?_) (a' := ?_) ?hw4 ?_ ?_ ?_
                  case hw4 => exact wanted_on rfl rfl rfl rfl
                  rotate_left
                  rotate_left
                  · intro w' hC_
                    obtain _ := hC_
                    go_simp
                    with_reducible rfl
                  · show Act.put _ (some 147) _ = _
                    simp only [Act.put, List.setIfInBounds_toArray, List.set_cons_zero, List.set_cons_succ, i64_w, i32_w]
                    rfl
                  refine q_op (v := ?_) (a' := ?_) ?hw4 ?_ ?_ ?_
                  case hw4 => exact wanted_on rfl rfl rfl rfl
                  rotate_left
                  rotate_left
                  · intro w' hC_
                    obtain ⟨s0_, s1_⟩ := rd_ring0 HRO.out HID.out HAT.out hC_ hk
                    go_simp
                    with_reducible rfl
                  · show Act.put _ (some 148) _ = _
                    simp only [Act.put, List.setIfInBounds_toArray, List.set_cons_zero, List.set_cons_succ, i64_w, i32_w]
                    rfl
                  refine q_op (v := ?_) (a' := ?_) ?hw4 ?_ ?_ ?_
                  case hw4 => exact wanted_on rfl rfl rfl rfl
                  rotate_left
                  rotate_left
                  · intro w' hC_
                    obtain _ := hC_
                    go_simp
                    with_reducible rfl
                  · show Act.put _ (some 149) _ = _
                    simp only [Act.put, List.setIfInBounds_toArray, List.set_cons_zero, List.set_cons_succ, i64_w, i32_w]
                    rfl
                  refine q_op (v := ?_) (a' := ?_) ?hw4 ?_ ?_ ?_
                  case hw4 => exact wanted_on rfl rfl rfl rfl
                  rotate_left
                  rotate_left
                  · intro w' hC_
                    have s0_ := rd_ HC.out HLU.out (Below.trans BO.out (Below.mono hC_ (Below.size BO.out))) hkk
                    go_simp
                    with_reducible rfl
                  · show Act.put _ (some 150) _ = _
                    simp only [Act.put, List.setIfInBounds_toArray, List.set_cons_zero, List.set_cons_succ, i64_w, i32_w]
                    rfl
                  refine q_op (v := ?_) (a' := ?_) ?hw4 ?_ ?_ ?_
                  case hw4 => exact wanted_on rfl rfl rfl rfl
                  rotate_left
                  rotate_left
                  · intro w' hC_
                    obtain _ := hC_
                    go_simp
                    with_reducible rfl
                  · show Act.put _ (some 151) _ = _
                    simp only [Act.put, List.setIfInBounds_toArray, List.set_cons_zero, List.set_cons_succ, i64_w, i32_w]
                    rfl
                  refine q_op (v := ?_) (a' := ?_) ?hw4 ?_ ?_ ?_
                  case hw4 => rfl
                  rotate_left
                  rotate_left
                  · intro w' hC_
                    obtain _ := hC_
                    go_simp
                    with_reducible rfl
                  · show Act.put _ (some 152) _ = _
                    simp only [Act.put, List.setIfInBounds_toArray, List.set_cons_zero, List.set_cons_succ, i64_w, i32_w]
                    rfl
                  refine q_op (v := ?_) (a' := ?_) ?hw4 ?_ ?_ ?_
                  case hw4 => rfl
                  rotate_left
                  rotate_left
                  · intro w' hC_
                    obtain _ := hC_
                    go_simp
                    with_reducible rfl
                  · show Act.put _ (some 153) _ = _
                    simp only [Act.put, List.setIfInBounds_toArray, List.set_cons_zero, List.set_cons_succ, i64_w, i32_w]
                    rfl
                  refine q_op (v := ?_) (a' := ?_) ?hw4 ?_ ?_ ?_
                  case hw4 => exact wanted_on rfl rfl rfl rfl
                  rotate_left
                  rotate_left
                  · intro w' hC_
                    obtain _ := hC_
                    go_simp
                    with_reducible rfl
                  · show Act.put _ (some 154) _ = _
                    simp only [Act.put, List.setIfInBounds_toArray, List.set_cons_zero, List.set_cons_succ, i64_w, i32_w]
                    rfl
                  refine q_op (v := ?_) (a' := ?_) ?hw4 ?_ ?_ ?_
                  case hw4 => exact wanted_on rfl rfl rfl rfl
                  rotate_left
                  rotate_left
                  · intro w' hC_
                    obtain _ := hC_
                    go_simp
                    with_reducible rfl
                  · show Act.put _ (some 155) _ = _
                    simp only [Act.put, List.setIfInBounds_toArray, List.set_cons_zero, List.set_cons_succ, i64_w, i32_w]
                    rfl
                  refine q_op (v := ?_) (a' := ?_) ?hw4 ?_ ?_ ?_
                  case hw4 => exact wanted_on rfl rfl rfl rfl
                  rotate_left
                  rotate_left
                  · intro w' hC_
                    obtain _ := hC_
                    go_simp
                    with_reducible rfl
                  · show Act.put _ (some 156) _ = _
                    simp only [Act.put, List.setIfInBounds_toArray, List.set_cons_zero, List.set_cons_succ, i64_w, i32_w]
                    rfl
                  refine q_op (v := ?_) (a' := ?_) ?hw4 ?_ ?_ ?_
                  case hw4 => exact wanted_on rfl rfl rfl rfl
                  rotate_left
                  rotate_left
                  · intro w' hC_
                    obtain _ := hC_
                    go_simp
                    with_reducible rfl
                  · show Act.put _ (some 157) _ = _
                    simp only [Act.put, List.setIfInBounds_toArray, List.set_cons_zero, List.set_cons_succ, i64_w, i32_w]
                    rfl
                  refine q_op (v := ?_) (a' := ?_) ?hw4 ?_ ?_ ?_
                  case hw4 => exact wanted_on rfl rfl rfl rfl
                  rotate_left
                  rotate_left
                  · intro w' hC_
                    obtain ⟨s0_, s1_⟩ := rd_ring0 HRO.out HID.out HAT.out hC_ hk
                    go_simp
                    with_reducible rfl
                  · show Act.put _ (some 158) _ = _
                    simp only [Act.put, List.setIfInBounds_toArray, List.set_cons_zero, List.set_cons_succ, i64_w, i32_w]
                    rfl
                  refine q_op (v := ?_) (a' := ?_) ?hw4 ?_ ?_ ?_
                  case hw4 => exact wanted_on rfl rfl rfl rfl
                  rotate_left
                  rotate_left
                  · intro w' hC_
                    obtain _ := hC_
                    go_simp
                    with_reducible rfl
                  · show Act.put _ (some 159) _ = _
                    simp only [Act.put, List.setIfInBounds_toArray, List.set_cons_zero, List.set_cons_succ, i64_w, i32_w]
                    rfl
                  refine q_op (v := ?_) (a' := ?_) ?hw4 ?_ ?_ ?_
                  case hw4 => exact wanted_on rfl rfl rfl rfl
                  rotate_left
                  rotate_left
                  · intro w' hC_
                    obtain _ := hC_
                    go_simp
                    with_reducible rfl
                  · show Act.put _ (some 160) _ = _
                    simp only [Act.put, List.setIfInBounds_toArray, List.set_cons_zero, List.set_cons_succ, i64_w, i32_w]
                    rfl
                  refine q_op (v := ?_) (a' := ?_) ?hw4 ?_ ?_ ?_
                  case hw4 => rfl
                  rotate_left
                  rotate_left
                  · intro w' hC_
                    obtain _ := hC_
                    go_simp
                    with_reducible rfl
                  · show Act.put _ (some 161) _ = _
                    simp only [Act.put, List.setIfInBounds_toArray, List.set_cons_zero, List.set_cons_succ, i64_w, i32_w]
                    rfl
                  refine q_op (v := ?_) (a' := ?_) ?hw4 ?_ ?_ ?_
                  case hw4 => rfl
                  rotate_left
                  rotate_left
                  · intro w' hC_
                    obtain _ := hC_
                    go_simp
                    with_reducible rfl
                  · show Act.put _ (some 162) _ = _
                    simp only [Act.put, List.setIfInBounds_toArray, List.set_cons_zero, List.set_cons_succ, i64_w, i32_w]
                    rfl
                  refine q_op (v := ?_) (a' := ?_) ?hw4 ?_ ?_ ?_
                  case hw4 => exact wanted_on rfl rfl rfl rfl
                  rotate_left
                  rotate_left
                  · intro w' hC_
                    obtain _ := hC_
                    go_simp
                    with_reducible rfl
                  · show Act.put _ (some 163) _ = _
                    simp only [Act.put, List.setIfInBounds_toArray, List.set_cons_zero, List.set_cons_succ, i64_w, i32_w]
                    rfl
                  refine q_op (v := ?_) (a' := ?_) ?hw4 ?_ ?_ ?_
                  case hw4 => exact wanted_on rfl rfl rfl rfl
                  rotate_left
                  rotate_left
                  · intro w' hC_
                    obtain _ := hC_
                    go_simp
                    with_reducible rfl
                  · show Act.put _ (some 164) _ = _
                    simp only [Act.put, List.setIfInBounds_toArray, List.set_cons_zero, List.set_cons_succ, i64_w, i32_w]
                    rfl
                  refine q_op (v := ?_) (a' := ?_) ?hw4 ?_ ?_ ?_
                  case hw4 => exact wanted_on rfl rfl rfl rfl
                  rotate_left
                  rotate_left
                  · intro w' hC_
                    obtain _ := hC_
                    go_simp
                    with_reducible rfl
                  · show Act.put _ (some 165) _ = _
                    simp only [Act.put, List.setIfInBounds_toArray, List.set_cons_zero, List.set_cons_succ, i64_w, i32_w]
                    rfl
                  refine q_op (v := ?_) (a' := ?_) ?hw4 ?_ ?_ ?_
                  case hw4 => exact wanted_on rfl rfl rfl rfl
                  rotate_left
                  rotate_left
                  · intro w' hC_
                    obtain _ := hC_
                    go_simp
                    with_reducible rfl
                  · show Act.put _ (some 166) _ = _
                    simp only [Act.put, List.setIfInBounds_toArray, List.set_cons_zero, List.set_cons_succ, i64_w, i32_w]
                    rfl
                  refine q_op (v := ?_) (a' := ?_) ?hw4 ?_ ?_ ?_
                  case hw4 => exact wanted_on rfl rfl rfl rfl
                  rotate_left
                  rotate_left
                  · intro w' hC_
                    obtain ⟨s0_, s1_⟩ := rd_ring0 HRO.out HID.out HAT.out hC_ hk
                    go_simp
                    with_reducible rfl
                  · show Act.put _ (some 167) _ = _
                    simp only [Act.put, List.setIfInBounds_toArray, List.set_cons_zero, List.set_cons_succ, i64_w, i32_w]
                    rfl
                  refine q_op (v := ?_) (a' := ?_) ?hw4 ?_ ?_ ?_
                  case hw4 => exact wanted_on rfl rfl rfl rfl
                  rotate_left
                  rotate_left
                  · intro w' hC_
                    obtain _ := hC_
                    go_simp
                    with_reducible rfl
                  · show Act.put _ (some 168) _ = _
                    simp only [Act.put, List.setIfInBounds_toArray, List.set_cons_zero, List.set_cons_succ, i64_w, i32_w]
                    rfl
                  refine q_op (v := ?_) (a' := ?_) ?hw4 ?_ ?_ ?_
                  case hw4 => exact wanted_on rfl rfl rfl rfl
                  rotate_left
                  rotate_left
                  · intro w' hC_
                    obtain _ := hC_
                    go_simp
                    with_reducible rfl
                  · show Act.put _ (some 169) _ = _
                    simp only [Act.put, List.setIfInBounds_toArray, List.set_cons_zero, List.set_cons_succ, i64_w, i32_w]
                    rfl
                  refine q_op (v := ?_) (a' := ?_) ?hw4 ?_ ?_ ?_
                  case hw4 => rfl
                  rotate_left
                  rotate_left
                  · intro w' hC_
                    obtain _ := hC_
                    go_simp
                    with_reducible rfl
                  · show Act.put _ (some 170) _ = _
                    simp only [Act.put, List.setIfInBounds_toArray, List.set_cons_zero, List.set_cons_succ, i64_w, i32_w]
                    rfl
                  refine q_op (v := ?_) (a' := ?_) ?hw4 ?_ ?_ ?_
                  case hw4 => rfl
                  rotate_left
                  rotate_left
                  · intro w' hC_
                    obtain _ := hC_
                    go_simp
                    with_reducible rfl
                  · show Act.put _ (some 171) _ = _
                    simp only [Act.put, List.setIfInBounds_toArray, List.set_cons_zero, List.set_cons_succ, i64_w, i32_w]
                    rfl
                  refine q_op (v := ?_) (a' := ?_) ?hw4 ?_ ?_ ?_
                  case hw4 => exact wanted_on rfl rfl rfl rfl
                  rotate_left
                  rotate_left
                  · intro w' hC_
                    obtain _ := hC_
                    go_simp
                    with_reducible rfl
                  · show Act.put _ (some 172) _ = _
                    simp only [Act.put, List.setIfInBounds_toArray, List.set_cons_zero, List.set_cons_succ, i64_w, i32_w]
                    rfl
                  refine q_op (v := ?_) (a' := ?_) ?hw4 ?_ ?_ ?_
                  case hw4 => exact wanted_on rfl rfl rfl rfl
                  rotate_left
                  rotate_left
                  · intro w' hC_
                    obtain _ := hC_
                    go_simp
                    with_reducible rfl
                  · show Act.put _ (some 173) _ = _
                    simp only [Act.put, List.setIfInBounds_toArray, List.set_cons_zero, List.set_cons_succ, i64_w, i32_w]
                    rfl
                  refine q_op (v := ?_) (a' := ?_) ?hw4 ?_ ?_ ?_
                  case hw4 => exact wanted_on rfl rfl rfl rfl
                  rotate_left
                  rotate_left
                  · intro w' hC_
                    obtain _ := hC_
                    go_simp
                    with_reducible rfl
                  · show Act.put _ (some 174) _ = _
                    simp only [Act.put, List.setIfInBounds_toArray, List.set_cons_zero, List.set_cons_succ, i64_w, i32_w]
                    rfl
                  refine q_off (a' := ?_) ?hw4 ?_ ?_
                  case hw4 => exact wanted_off rfl rfl rfl rfl
                  rotate_left
                  · show Act.put _ (some 175) _ = _
                    simp only [Act.put, List.setIfInBounds_toArray, List.set_cons_zero, List.set_cons_succ, i64_w, i32_w]
                    rfl
                  refine q_off (a' := ?_) ?hw4 ?_ ?_
                  case hw4 => exact wanted_off rfl rfl rfl rfl
                  rotate_left
                  · show Act.put _ (some 176) _ = _
                    simp only [Act.put, List.setIfInBounds_toArray, List.set_cons_zero, List.set_cons_succ, i64_w, i32_w]
                    rfl
                  refine q_off (a' := ?_) ?hw4 ?_ ?_
                  case hw4 => exact wanted_off rfl rfl rfl rfl
                  rotate_left
                  · show Act.put _ (some 177) _ = _
                    simp only [Act.put, List.setIfInBounds_toArray, List.set_cons_zero, List.set_cons_succ, i64_w, i32_w]
                    rfl
                  refine q_off (a' := ?_) ?hw4 ?_ ?_
                  case hw4 => exact wanted_off rfl rfl rfl rfl
                  rotate_left
                  · show Act.put _ (some 178) _ = _
                    simp only [Act.put, List.setIfInBounds_toArray, List.set_cons_zero, List.set_cons_succ, i64_w, i32_w]
                    rfl
                  refine q_off (a' := ?_) ?hw4 ?_ ?_
                  case hw4 => exact wanted_off rfl rfl rfl rfl
                  rotate_left
                  · show Act.put _ (some 179) _ = _
                    simp only [Act.put, List.setIfInBounds_toArray, List.set_cons_zero, List.set_cons_succ, i64_w, i32_w]
                    rfl
                  refine q_off (a' := ?_) ?hw4 ?_ ?_
                  case hw4 => exact wanted_off rfl rfl rfl rfl
                  rotate_left
                  · show Act.put _ (some 180) _ = _
                    simp only [Act.put, List.setIfInBounds_toArray, List.set_cons_zero, List.set_cons_succ, i64_w, i32_w]
                    rfl
                  refine q_off (a' := ?_) ?hw4 ?_ ?_
                  case hw4 => exact wanted_off rfl rfl rfl rfl
                  rotate_left
                  · show Act.put _ (some 181) _ = _
                    simp only [Act.put, List.setIfInBounds_toArray, List.set_cons_zero, List.set_cons_succ, i64_w, i32_w]
                    rfl
                  refine q_off (a' := ?_) ?hw4 ?_ ?_
                  case hw4 => exact wanted_off rfl rfl rfl rfl
                  rotate_left
                  · show Act.put _ (some 182) _ = _
                    simp only [Act.put, List.setIfInBounds_toArray, List.set_cons_zero, List.set_cons_succ, i64_w, i32_w]
                    rfl
                  refine q_off (a' := ?_) ?hw4 ?_ ?_
                  case hw4 => exact wanted_off rfl rfl rfl rfl
                  rotate_left
                  · show Act.put _ (some 183) _ = _
                    simp only [Act.put, List.setIfInBounds_toArray, List.set_cons_zero, List.set_cons_succ, i64_w, i32_w]
                    rfl
                  refine q_off (a' := ?_) ?hw4 ?_ ?_
                  case hw4 => exact wanted_off rfl rfl rfl rfl
                  rotate_left
                  · show Act.put _ (some 184) _ = _
                    simp only [Act.put, List.setIfInBounds_toArray, List.set_cons_zero, List.set_cons_succ, i64_w, i32_w]
                    rfl
                  refine q_off (a' := ?_) ?hw4 ?_ ?_
                  case hw4 => exact wanted_off rfl rfl rfl rfl
                  rotate_left
                  · show Act.put _ (some 185) _ = _
                    simp only [Act.put, List.setIfInBounds_toArray, List.set_cons_zero, List.set_cons_succ, i64_w, i32_w]
                    rfl
                  refine q_off (a' := ?_) ?hw4 ?_ ?_
                  case hw4 => exact wanted_off rfl rfl rfl rfl
                  rotate_left
                  · show Act.put _ (some 186) _ = _
                    simp only [Act.put, List.setIfInBounds_toArray, List.set_cons_zero, List.set_cons_succ, i64_w, i32_w]
                    rfl
                  refine q_op (v := ?_) (a' := ?_) ?hw4 ?_ ?_ ?_
                  case hw4 => exact wanted_on rfl rfl rfl rfl
                  rotate_left
                  rotate_left
                  · intro w' hC_
                    obtain _ := hC_
                    go_simp
                    with_reducible rfl
                  · show Act.put _ (some 187) _ = _
                    simp only [Act.put, List.setIfInBounds_toArray, List.set_cons_zero, List.set_cons_succ, i64_w, i32_w]
                    rfl
                  refine q_op (v := ?_) (a' := ?_) ?hw4 ?_ ?_ ?_
                  case hw4 => rfl
                  rotate_left
                  rotate_left
                  · intro w' hC_
                    obtain _ := hC_
                    go_simp
                    with_reducible rfl
                  · show Act.put _ (some 188) _ = _
                    simp only [Act.put, List.setIfInBounds_toArray, List.set_cons_zero, List.set_cons_succ, i64_w, i32_w]
                    rfl
                  refine q_nil ?_
                  intro w51 hC_
                  have A51 := Aside0.mk (AL.below AO.out hC_)
                  have R51 := Aside0.mk (St.below (s := row 34 KR) RO.out hC_)
                  have B51 := Aside0.mk (Below.trans BO.out (Below.mono hC_ (Below.size BO.out)))
                  clear hC_
                  go_wp2
                  go_roundw
                  case rel => exact ⟨1, c8, by omega, rfl, A51.out, R51.out, B51.out⟩
                  case measure => simp [intOf]; omega
                · obtain ⟨k0, hk0⟩ : ∃ k0, k = k0 + 1 := ⟨k - 1, by omega⟩
                  have hk2 : k0 < out.length := by omega
                  obtain ⟨kj, hkj, hid2, hat2, _⟩ := HGD.out.1 k0 hk2
                  obtain ⟨u2, hu2⟩ : ∃ u2, l.getD kj 0 = u2 := ⟨_, rfl⟩
                  rw [hu2] at hat2
                  have HID2 := Aside0.mk hid2
                  have HAT2 := Aside0.mk hat2
                  have hor := HGD.out.2 k0 (by omega)
                  rw [← hk0, hat2, HAT.out] at hor
                  have p6 : decide (u < u2) = false := decide_eq_false (by omega)
                  have bq3 : (0 ≤ (k0 : Int) ∧ (k0 : Int) < (out.length : Int)) := by omega
                  have p7 : decide ((0 : Int) < (k : Int)) = true := decide_eq_true (by omega)
                  have p7n : decide (0 < k) = true := decide_eq_true (by omega)
                  have he : (k : Int) - 1 = (k0 : Int) := by omega
                  have hw0 : wrap64 (k0 : Int) = (k0 : Int) := by unfold wrap64; omega
                  clear hid2 hat2 hu2 hor hk0 hkz
                  go_upto_region 26 with (fail)
                  refine q_start (by kernel_rfl) (by kernel_rfl) (fun w' => Below wr.heap.size wr w') (below_drew (Below.refl _ _)) ?_
                  refine q_op (v := ?_) (a' := ?_) ?hw5 ?_ ?_ ?_
                  case hw5 => rfl
                  rotate_left
                  rotate_left
                  · intro w' hC_
                    obtain _ := hC_
                    go_simp
                    with_reducible rfl
                  · show Act.put _ (some 121) _ = _
                    simp only [Act.put, List.setIfInBounds_toArray, List.set_cons_zero, List.set_cons_succ, i64_w, i32_w]
                    rfl
                  refine q_op (v := ?_) (a' := ?_) ?hw5 ?_ ?_ ?_
                  case hw5 => rfl
                  rotate_left
                  rotate_left
                  · intro w' hC_
                    obtain _ := hC_
                    go_simp
                    with_reducible rfl
                  · show Act.put _ (some 122) _ = _
                    simp only [Act.put, List.setIfInBounds_toArray, List.set_cons_zero, List.set_cons_succ, i64_w, i32_w]
                    rfl
                  refine q_op (v := ?_) (a' := ?_) ?hw5 ?_ ?_ ?_
                  case hw5 => rfl
                  rotate_left
                  rotate_left
                  · intro w' hC_
                    obtain _ := hC_
                    go_simp
                    with_reducible rfl
                  · show Act.put _ (some 123) _ = _
                    simp only [Act.put, List.setIfInBounds_toArray, List.set_cons_zero, List.set_cons_succ, i64_w, i32_w]
                    rfl
                  refine q_op (v := ?_) (a' := ?_) ?hw5 ?_ ?_ ?_
                  case hw5 => rfl
                  rotate_left
                  rotate_left
                  · intro w' hC_
                    obtain _ := hC_
                    go_simp
                    with_reducible rfl
                  · show Act.put _ (some 124) _ = _
                    simp only [Act.put, List.setIfInBounds_toArray, List.set_cons_zero, List.set_cons_succ, i64_w, i32_w]
                    rfl
                  refine q_op (v := ?_) (a' := ?_) ?hw5 ?_ ?_ ?_
                  case hw5 => rfl
                  rotate_left
                  rotate_left
                  · intro w' hC_
                    obtain ⟨s0_, s1_⟩ := rd_ring HRO.out HID.out HAT.out hC_ hk
                    go_simp
                    with_reducible rfl
                  · show Act.put _ (some 125) _ = _
                    simp only [Act.put, List.setIfInBounds_toArray, List.set_cons_zero, List.set_cons_succ, i64_w, i32_w]
                    rfl
                  refine q_op (v := ?_) (a' := ?_) ?hw5 ?_ ?_ ?_
                  case hw5 => rfl
                  rotate_left
                  rotate_left
                  · intro w' hC_
                    obtain _ := hC_
                    go_simp
                    with_reducible rfl
                  · show Act.put _ (some 126) _ = _
                    simp only [Act.put, List.setIfInBounds_toArray, List.set_cons_zero, List.set_cons_succ, i64_w, i32_w]
                    rfl
                  refine q_op (v := ?_) (a' := ?_) ?hw5 ?_ ?_ ?_
                  case hw5 => rfl
                  rotate_left
                  rotate_left
                  · intro w' hC_
                    obtain _ := hC_
                    go_simp
                    with_reducible rfl
                  · show Act.put _ (some 127) _ = _
                    simp only [Act.put, List.setIfInBounds_toArray, List.set_cons_zero, List.set_cons_succ, i64_w, i32_w]
                    rfl
                  refine q_op (v := ?_) (a' := ?_) ?hw5 ?_ ?_ ?_
                  case hw5 => exact wanted_on rfl rfl rfl rfl
                  rotate_left
                  rotate_left
                  · intro w' hC_
                    obtain _ := hC_
                    go_simp
                    with_reducible rfl
                  · show Act.put _ (some 128) _ = _
                    simp only [Act.put, List.setIfInBounds_toArray, List.set_cons_zero, List.set_cons_succ, i64_w, i32_w]
                    rfl
                  refine q_op (v := ?_) (a' := ?_) ?hw5 ?_ ?_ ?_
                  case hw5 => exact wanted_on rfl rfl rfl rfl
                  rotate_left
                  rotate_left
                  · intro w' hC_
                    obtain _ := hC_
                    go_simp
                    with_reducible rfl
                  · show Act.put _ (some 129) _ = _
                    simp only [Act.put, List.setIfInBounds_toArray, List.set_cons_zero, List.set_cons_succ, i64_w, i32_w]
                    rfl
                  refine q_op (v := ?_) (a' := ?_) ?hw5 ?_ ?_ ?_
                  case hw5 => exact wanted_on rfl rfl rfl rfl
                  rotate_left
                  rotate_left
                  · intro w' hC_
                    obtain _ := hC_
                    go_simp
                    with_reducible rfl
                  · show Act.put _ (some 130) _ = _
                    simp only [Act.put, List.setIfInBounds_toArray, List.set_cons_zero, List.set_cons_succ, i64_w, i32_w]
                    rfl
                  refine q_op (v := ?_) (a' := ?_) ?hw5 ?_ ?_ ?_
                  case hw5 => exact wanted_on rfl rfl rfl rfl
                  rotate_left
                  rotate_left
                  · intro w' hC_
                    obtain _ := hC_
                    go_simp
                    with_reducible rfl
                  · show Act.put _ (some 131) _ = _
                    simp only [Act.put, List.setIfInBounds_toArray, List.set_cons_zero, List.set_cons_succ, i64_w, i32_w]
                    rfl
                  refine q_op (v := ?_) (a' := ?_) ?hw5 ?_ ?_ ?_
                  case hw5 => exact wanted_on rfl rfl rfl rfl
                  rotate_left
                  rotate_left
                  · intro w' hC_
                    obtain ⟨s0_, s1_⟩ := rd_ring HRO.out HID.out HAT.out hC_ hk
                    go_simp
                    with_reducible rfl
                  · show Act.put _ (some 132) _ = _
                    simp only [Act.put, List.setIfInBounds_toArray, List.set_cons_zero, List.set_cons_succ, i64_w, i32_w]
                    rfl
                  refine q_op (v := ?_) (a' := ?_) ?hw5 ?_ ?_ ?_
                  case hw5 => exact wanted_on rfl rfl rfl rfl
                  rotate_left
                  rotate_left
                  · intro w' hC_
                    obtain _ := hC_
                    go_simp
                    with_reducible rfl
                  · show Act.put _ (some 133) _ = _
                    simp only [Act.put, List.setIfInBounds_toArray, List.set_cons_zero, List.set_cons_succ, i64_w, i32_w]
                    rfl
                  refine q_op (v := ?_) (a' := ?_) ?hw5 ?_ ?_ ?_
                  case hw5 => exact wanted_on rfl rfl rfl rfl
                  rotate_left
                  rotate_left
                  · intro w' hC_
                    obtain _ := hC_
                    go_simp
                    with_reducible rfl
                  · show Act.put _ (some 134) _ = _
                    simp only [Act.put, List.setIfInBounds_toArray, List.set_cons_zero, List.set_cons_succ, i64_w, i32_w]
                    rfl
                  refine q_op (v := ?_) (a' := ?_) ?hw5 ?_ ?_ ?_
                  case hw5 => exact wanted_on rfl rfl rfl rfl
                  rotate_left
                  rotate_left
                  · intro w' hC_
                    obtain _ := hC_
                    go_simp
                    with_reducible rfl
                  · show Act.put _ (some 135) _ = _
                    simp only [Act.put, List.setIfInBounds_toArray, List.set_cons_zero, List.set_cons_succ, i64_w, i32_w]
                    rfl
                  refine q_op (v := ?_) (a' := ?_) ?hw5 ?_ ?_ ?_
                  case hw5 => rfl
                  rotate_left
                  rotate_left
                  · intro w' hC_
                    obtain _ := hC_
                    go_simp
                    with_reducible rfl
                  · show Act.put _ (some 136) _ = _
                    simp only [Act.put, List.setIfInBounds_toArray, List.set_cons_zero, List.set_cons_succ, i64_w, i32_w]
                    rfl
                  refine q_op (v := ?_) (a' := ?_) ?hw5 ?_ ?_ ?_
                  case hw5 => rfl
                  rotate_left
                  rotate_left
                  · intro w' hC_
                    obtain _ := hC_
                    go_simp
                    with_reducible rfl
                  · show Act.put _ (some 137) _ = _
                    simp only [Act.put, List.setIfInBounds_toArray, List.set_cons_zero, List.set_cons_succ, i64_w, i32_w]
                    rfl
                  refine q_op (v := ?_) (a' := ?_) ?hw5 ?_ ?_ ?_
                  case hw5 => exact wanted_on rfl rfl rfl rfl
                  rotate_left
                  rotate_left
                  · intro w' hC_
                    obtain _ := hC_
                    go_simp
                    with_reducible rfl
                  · show Act.put _ (some 138) _ = _
                    simp only [Act.put, List.setIfInBounds_toArray, List.set_cons_zero, List.set_cons_succ, i64_w, i32_w]
                    rfl
                  refine q_op (v := ?_) (a' := ?_) ?hw5 ?_ ?_ ?_
                  case hw5 => exact wanted_on rfl rfl rfl rfl
                  rotate_left
                  rotate_left
                  · intro w' hC_
                    obtain _ := hC_
                    go_simp
                    with_reducible rfl
                  · show Act.put _ (some 139) _ = _
                    simp only [Act.put, List.setIfInBounds_toArray, List.set_cons_zero, List.set_cons_succ, i64_w, i32_w]
                    rfl
                  refine q_op (v := ?_) (a' := ?_) ?hw5 ?_ ?_ ?_
                  case hw5 => exact wanted_on rfl rfl rfl rfl
                  rotate_left
                  rotate_left
                  · intro w' hC_
                    obtain _ := hC_
                    go_simp
                    with_reducible rfl
                  · show Act.put _ (some 140) _ = _
                    simp only [Act.put, List.setIfInBounds_toArray, List.set_cons_zero, List.set_cons_succ, i64_w, i32_w]
                    rfl
                  refine q_op (v := ?_) (a' := ?_) ?hw5 ?_ ?_ ?_
                  case hw5 => exact wanted_on rfl rfl rfl rfl
                  rotate_left
                  rotate_left
                  · intro w' hC_
                    obtain _ := hC_
                    go_simp
                    with_reducible rfl
                  · show Act.put _ (some 141) _ = _
                    simp only [Act.put, List.setIfInBounds_toArray, List.set_cons_zero, List.set_cons_succ, i64_w, i32_w]
                    rfl
                  refine q_op (v := ?_) (a' := ?_) ?hw5 ?_ ?_ ?_
                  case hw5 => exact wanted_on rfl rfl rfl rfl
                  rotate_left
                  rotate_left
                  · intro w' hC_
                    obtain ⟨s0_, s1_⟩ := rd_ring HRO.out HID.out HAT.out hC_ hk
                    go_simp
                    with_reducible rfl
                  · show Act.put _ (some 142) _ = _
                    simp only [Act.put, List.setIfInBounds_toArray, List.set_cons_zero, List.set_cons_succ, i64_w, i32_w]
                    rfl
                  refine q_op (v := ?_) (a' := ?_) ?hw5 ?_ ?_ ?_
                  case hw5 => exact wanted_on rfl rfl rfl rfl
                  rotate_left
                  rotate_left
                  · intro w' hC_
                    obtain _ := hC_
                    go_simp
                    with_reducible rfl
                  · show Act.put _ (some 143) _ = _
                    simp only [Act.put, List.setIfInBounds_toArray, List.set_cons_zero, List.set_cons_succ, i64_w, i32_w]
                    rfl
                  refine q_op (v := ?_) (a' := ?_) ?hw5 ?_ ?_ ?_
                  case hw5 => exact wanted_on rfl rfl rfl rfl
                  rotate_left
                  rotate_left
                  · intro w' hC_
                    obtain _ := hC_
                    go_simp
                    with_reducible rfl
                  · show Act.put _ (some 144) _ = _
                    simp only [Act.put, List.setIfInBounds_toArray, List.set_cons_zero, List.set_cons_succ, i64_w, i32_w]
                    rfl
                  refine q_op (v := ?_) (a' := ?_) ?hw5 ?_ ?_ ?_
                  case hw5 => exact wanted_on rfl rfl rfl rfl
                  rotate_left
                  rotate_left
                  · intro w' hC_
                    obtain _ := hC_
                    go_simp
                    with_reducible rfl
                  · show Act.put _ (some 145) _ = _
                    simp only [Act.put, List.setIfInBounds_toArray, List.set_cons_zero, List.set_cons_succ, i64_w, i32_w]
                    rfl
                  refine q_op (v := ?_) (a' := ?_) ?hw5 ?_ ?_ ?_
                  case hw5 => exact wanted_on rfl rfl rfl rfl
                  rotate_left
                  rotate_left
                  · intro w' hC_
                    obtain _ := hC_
                    go_simp
                    with_reducible rfl
                  · show Act.put _ (some 146) _ = _
                    simp only [Act.put, List.setIfInBounds_toArray, List.set_cons_zero, List.set_cons_succ, i64_w, i32_w]
                    rfl
                  refine q_op (v := ?_) (a' := ?_) ?hw5 ?_ ?_ ?_
                  case hw5 => exact wanted_on rfl rfl rfl rfl
                  rotate_left
                  rotate_left
                  · intro w' hC_
                    obtain _ := hC_
                    go_simp
                    with_reducible rfl
                  · show Act.put _ (some 147) _ = _
                    simp only [Act.put, List.setIfInBounds_toArray, List.set_cons_zero, List.set_cons_succ, i64_w, i32_w]
                    rfl
                  refine q_op (v := ?_) (a' := ?_) ?hw5 ?_ ?_ ?_
                  case hw5 => exact wanted_on rfl rfl rfl rfl
                  rotate_left
                  rotate_left
                  · intro w' hC_
                    obtain ⟨s0_, s1_⟩ := rd_ring HRO.out HID.out HAT.out hC_ hk
                    go_simp
                    with_reducible rfl
                  · show Act.put _ (some 148) _ = _
                    simp only [Act.put, List.setIfInBounds_toArray, List.set_cons_zero, List.set_cons_succ, i64_w, i32_w]
                    rfl
                  refine q_op (v := ?_) (a' := ?_) ?hw5 ?_ ?_ ?_
                  case hw5 => exact wanted_on rfl rfl rfl rfl
                  rotate_left
                  rotate_left
                  · intro w' hC_
                    obtain _ := hC_
                    go_simp
                    with_reducible rfl
                  · show Act.put _ (some 149) _ = _
                    simp only [Act.put, List.setIfInBounds_toArray, List.set_cons_zero, List.set_cons_succ, i64_w, i32_w]
                    rfl
                  refine q_op (v := ?_) (a' := ?_) ?hw5 ?_ ?_ ?_
                  case hw5 => exact wanted_on rfl rfl rfl rfl
                  rotate_left
                  rotate_left
                  · intro w' hC_
                    have s0_ := rd_ HC.out HLU.out (Below.trans BO.out (Below.mono hC_ (Below.size BO.out))) hkk
                    go_simp
                    with_reducible rfl
                  · show Act.put _ (some 150) _ = _
                    simp only [Act.put, List.setIfInBounds_toArray, List.set_cons_zero, List.set_cons_succ, i64_w, i32_w]
                    rfl
                  refine q_op (v := ?_) (a' := ?_) ?hw5 ?_ ?_ ?_
                  case hw5 => exact wanted_on rfl rfl rfl rfl
                  rotate_left
                  rotate_left
                  · intro w' hC_
                    obtain _ := hC_
                    go_simp
                    with_reducible rfl
                  · show Act.put _ (some 151) _ = _
                    simp only [Act.put, List.setIfInBounds_toArray, List.set_cons_zero, List.set_cons_succ, i64_w, i32_w]
                    rfl
                  refine q_op (v := ?_) (a' := ?_) ?hw5 ?_ ?_ ?_
                  case hw5 => rfl
                  rotate_left
                  rotate_left
                  · intro w' hC_
                    obtain _ := hC_
                    go_simp
                    with_reducible rfl
                  · show Act.put _ (some 152) _ = _
                    simp only [Act.put, List.setIfInBounds_toArray, List.set_cons_zero, List.set_cons_succ, i64_w, i32_w]
                    rfl
                  refine q_op (v := ?_) (a' := ?_) ?hw5 ?_ ?_ ?_
                  case hw5 => rfl
                  rotate_left
                  rotate_left
                  · intro w' hC_
                    obtain _ := hC_
                    go_simp
                    with_reducible rfl
                  · show Act.put _ (some 153) _ = _
                    simp only [Act.put, List.setIfInBounds_toArray, List.set_cons_zero, List.set_cons_succ, i64_w, i32_w]
                    rfl
                  refine q_op (v := ?_) (a' := ?_) ?hw5 ?_ ?_ ?_
                  case hw5 => exact wanted_on rfl rfl rfl rfl
                  rotate_left
                  rotate_left
                  · intro w' hC_
                    obtain _ := hC_
                    go_simp
                    with_reducible rfl
                  · show Act.put _ (some 154) _ = _
                    simp only [Act.put, List.setIfInBounds_toArray, List.set_cons_zero, List.set_cons_succ, i64_w, i32_w]
                    rfl
                  refine q_op (v := ?_) (a' := ?_) ?hw5 ?_ ?_ ?_
                  case hw5 => exact wanted_on rfl rfl rfl rfl
                  rotate_left
                  rotate_left
                  · intro w' hC_
                    obtain _ := hC_
                    go_simp
                    with_reducible rfl
                  · show Act.put _ (some 155) _ = _
                    simp only [Act.put, List.setIfInBounds_toArray, List.set_cons_zero, List.set_cons_succ, i64_w, i32_w]
                    rfl
                  refine q_op (v := ?_) (a' := ?_) ?hw5 ?_ ?_ ?_
                  case hw5 => exact wanted_on rfl rfl rfl rfl
                  rotate_left
                  rotate_left
                  · intro w' hC_
                    obtain _ := hC_
                    go_simp
                    with_reducible rfl
                  · show Act.put _ (some 156) _ = _
                    simp only [Act.put, List.setIfInBounds_toArray, List.set_cons_zero, List.set_cons_succ, i64_w, i32_w]
                    rfl
                  refine q_op (v := ?_) (a' := ?_) ?hw5 ?_ ?_ ?_
                  case hw5 => exact wanted_on rfl rfl rfl rfl
                  rotate_left
                  rotate_left
                  · intro w' hC_
                    obtain _ := hC_
                    go_simp
                    with_reducible rfl
                  · show Act.put _ (some 157) _ = _
                    simp only [Act.put, List.setIfInBounds_toArray, List.set_cons_zero, List.set_cons_succ, i64_w, i32_w]
                    rfl
                  refine q_op (v := ?_) (a' := ?_) ?hw5 ?_ ?_ ?_
                  case hw5 => exact wanted_on rfl rfl rfl rfl
                  rotate_left
                  rotate_left
                  · intro w' hC_
                    obtain ⟨s0_, s1_⟩ := rd_ring HRO.out HID.out HAT.out hC_ hk
                    go_simp
                    with_reducible rfl
                  · show Act.put _ (some 158) _ = _
                    simp only [Act.put, List.setIfInBounds_toArray, List.set_cons_zero, List.set_cons_succ, i64_w, i32_w]
                    rfl
                  refine q_op (v := ?_) (a' := ?_) ?hw5 ?_ ?_ ?_
                  case hw5 => exact wanted_on rfl rfl rfl rfl
                  rotate_left
                  rotate_left
                  · intro w' hC_
                    obtain _ := hC_
                    go_simp
                    with_reducible rfl
                  · show Act.put _ (some 159) _ = _
                    simp only [Act.put, List.setIfInBounds_toArray, List.set_cons_zero, List.set_cons_succ, i64_w, i32_w]
                    rfl
                  refine q_op (v := ?_) (a' := ?_) ?hw5 ?_ ?_ ?_
                  case hw5 => exact wanted_on rfl rfl rfl rfl
                  rotate_left
                  rotate_left
                  · intro w' hC_
                    obtain _ := hC_
                    go_simp
                    with_reducible rfl
                  · show Act.put _ (some 160) _ = _
                    simp only [Act.put, List.setIfInBounds_toArray, List.set_cons_zero, List.set_cons_succ, i64_w, i32_w]
                    rfl
                  refine q_op (v := ?_) (a' := ?_) ?hw5 ?_ ?_ ?_
                  case hw5 => rfl
                  rotate_left
                  rotate_left
                  · intro w' hC_
                    obtain _ := hC_
                    go_simp
                    with_reducible rfl
                  · show Act.put _ (some 161) _ = _
                    simp only [Act.put, List.setIfInBounds_toArray, List.set_cons_zero, List.set_cons_succ, i64_w, i32_w]
                    rfl
                  refine q_op (v := ?_) (a' := ?_) ?hw5 ?_ ?_ ?_
                  case hw5 => rfl
                  rotate_left
                  rotate_left
                  · intro w' hC_
                    obtain _ := hC_
                    go_simp
                    with_reducible rfl
                  · show Act.put _ (some 162) _ = _
                    simp only [Act.put, List.setIfInBounds_toArray, List.set_cons_zero, List.set_cons_succ, i64_w, i32_w]
                    rfl
                  refine q_op (v := ?_) (a' := ?_) ?hw5 ?_ ?_ ?_
                  case hw5 => exact wanted_on rfl rfl rfl rfl
                  rotate_left
                  rotate_left
                  · intro w' hC_
                    obtain _ := hC_
                    go_simp
                    with_reducible rfl
                  · show Act.put _ (some 163) _ = _
                    simp only [Act.put, List.setIfInBounds_toArray, List.set_cons_zero, List.set_cons_succ, i64_w, i32_w]
                    rfl
                  refine q_op (v := ?_) (a' := ?_) ?hw5 ?_ ?_ ?_
                  case hw5 => exact wanted_on rfl rfl rfl rfl
                  rotate_left
                  rotate_left
                  · intro w' hC_
                    obtain _ := hC_
                    go_simp
                    with_reducible rfl
                  · show Act.put _ (some 164) _ = _
                    simp only [Act.put, List.setIfInBounds_toArray, List.set_cons_zero, List.set_cons_succ, i64_w, i32_w]
                    rfl
                  refine q_op (v := ?_) (a' := ?_) ?hw5 ?_ ?_ ?_
                  case hw5 => exact wanted_on rfl rfl rfl rfl
                  rotate_left
                  rotate_left
                  · intro w' hC_
                    obtain _ := hC_
                    go_simp
                    with_reducible rfl
                  · show Act.put _ (some 165) _ = _
                    simp only [Act.put, List.setIfInBounds_toArray, List.set_cons_zero, List.set_cons_succ, i64_w, i32_w]
                    rfl
                  refine q_op (v := ?_) (a' := ?_) ?hw5 ?_ ?_ ?_
                  case hw5 => exact wanted_on rfl rfl rfl rfl
                  rotate_left
                  rotate_left
                  · intro w' hC_
                    obtain _ := hC_
                    go_simp
                    with_reducible rfl
                  · show Act.put _ (some 166) _ = _
                    simp only [Act.put, List.setIfInBounds_toArray, List.set_cons_zero, List.set_cons_succ, i64_w, i32_w]
                    rfl
                  refine q_op (v := ?_) (a' := ?_) ?hw5 ?_ ?_ ?_
                  case hw5 => exact wanted_on rfl rfl rfl rfl
                  rotate_left
                  rotate_left
                  · intro w' hC_
                    obtain ⟨s0_, s1_⟩ := rd_ring HRO.out HID.out HAT.out hC_ hk
                    go_simp
                    with_reducible rfl
                  · show Act.put _ (some 167) _ = _
                    simp only [Act.put, List.setIfInBounds_toArray, List.set_cons_zero, List.set_cons_succ, i64_w, i32_w]
                    rfl
                  refine q_op (v := ?_) (a' := ?_) ?hw5 ?_ ?_ ?_
                  case hw5 => exact wanted_on rfl rfl rfl rfl
                  rotate_left
                  rotate_left
                  · intro w' hC_
                    obtain _ := hC_
                    go_simp
                    with_reducible rfl
                  · show Act.put _ (some 168) _ = _
                    simp only [Act.put, List.setIfInBounds_toArray, List.set_cons_zero, List.set_cons_succ, i64_w, i32_w]
                    rfl
                  refine q_op (v := ?_) (a' := ?_) ?hw5 ?_ ?_ ?_
                  case hw5 => exact wanted_on rfl rfl rfl rfl
                  rotate_left
                  rotate_left
                  · intro w' hC_
                    obtain _ := hC_
                    go_simp
                    with_reducible rfl
                  · show Act.put _ (some 169) _ = _
                    simp only [Act.put, List.setIfInBounds_toArray, List.set_cons_zero, List.set_cons_succ, i64_w, i32_w]
                    rfl
                  refine q_op (v := ?_) (a' := ?_) ?hw5 ?_ ?_ ?_
                  case hw5 => rfl
                  rotate_left
                  rotate_left
                  · intro w' hC_
                    obtain _ := hC_
                    go_simp
                    with_reducible rfl
                  · show Act.put _ (some 170) _ = _
                    simp only [Act.put, List.setIfInBounds_toArray, List.set_cons_zero, List.set_cons_succ, i64_w, i32_w]
                    rfl
                  refine q_op (v := ?_) (a' := ?_) ?hw5 ?_ ?_ ?_
                  case hw5 => rfl
                  rotate_left
                  rotate_left
                  · intro w' hC_
                    obtain _ := hC_
                    go_simp
                    with_reducible rfl
                  · show Act.put _ (some 171) _ = _
                    simp only [Act.put, List.setIfInBounds_toArray, List.set_cons_zero, List.set_cons_succ, i64_w, i32_w]
                    rfl
                  refine q_op (v := ?_) (a' := ?_) ?hw5 ?_ ?_ ?_
                  case hw5 => exact wanted_on rfl rfl rfl rfl
                  rotate_left
                  rotate_left
                  · intro w' hC_
                    obtain _ := hC_
                    go_simp
                    with_reducible rfl
                  · show Act.put _ (some 172) _ = _
                    simp only [Act.put, List.setIfInBounds_toArray, List.set_cons_zero, List.set_cons_succ, i64_w, i32_w]
                    rfl
                  refine q_op (v := ?_) (a' := ?_) ?hw5 ?_ ?_ ?_
                  case hw5 => exact wanted_on rfl rfl rfl rfl
                  rotate_left
                  rotate_left
                  · intro w' hC_
                    obtain _ := hC_
                    go_simp
                    with_reducible rfl
                  · show Act.put _ (some 173) _ = _
                    simp only [Act.put, List.setIfInBounds_toArray, List.set_cons_zero, List.set_cons_succ, i64_w, i32_w]
                    rfl
                  refine q_op (v := ?_) (a' := ?_) ?hw5 ?_ ?_ ?_
                  case hw5 => exact wanted_on rfl rfl rfl rfl
                  rotate_left
                  rotate_left
                  · intro w' hC_
                    obtain _ := hC_
                    go_simp
                    with_reducible rfl
                  · show Act.put _ (some 174) _ = _
                    simp only [Act.put, List.setIfInBounds_toArray, List.set_cons_zero, List.set_cons_succ, i64_w, i32_w]
                    rfl
                  refine q_op (v := ?_) (a' := ?_) ?hw5 ?_ ?_ ?_
                  case hw5 => exact wanted_on rfl rfl rfl rfl
                  rotate_left
                  rotate_left
                  · intro w' hC_
                    obtain _ := hC_
                    go_simp
                    with_reducible rfl
                  · show Act.put _ (some 175) _ = _
                    simp only [Act.put, List.setIfInBounds_toArray, List.set_cons_zero, List.set_cons_succ, i64_w, i32_w]
                    rfl
                  refine q_op (v := ?_) (a' := ?_) ?hw5 ?_ ?_ ?_
                  case hw5 => exact wanted_on rfl rfl rfl rfl
                  rotate_left
                  rotate_left
                  · intro w' hC_
                    obtain _ := hC_
                    go_simp
                    with_reducible rfl
                  · show Act.put _ (some 176) _ = _
                    simp only [Act.put, List.setIfInBounds_toArray, List.set_cons_zero, List.set_cons_succ, i64_w, i32_w]
                    rfl
                  refine q_op (v := ?_) (a' := ?_) ?hw5 ?_ ?_ ?_
                  case hw5 => exact wanted_on rfl rfl rfl rfl
                  rotate_left
                  rotate_left
                  · intro w' hC_
                    obtain _ := hC_
                    go_simp
                    with_reducible rfl
                  · show Act.put _ (some 177) _ = _
                    simp only [Act.put, List.setIfInBounds_toArray, List.set_cons_zero, List.set_cons_succ, i64_w, i32_w]
                    rfl
                  refine q_op (v := ?_) (a' := ?_) ?hw5 ?_ ?_ ?_
                  case hw5 => exact wanted_on rfl rfl rfl rfl
                  rotate_left
                  rotate_left
                  · intro w' hC_
                    obtain _ := hC_
                    go_simp
                    with_reducible rfl
                  · show Act.put _ (some 178) _ = _
                    simp only [Act.put, List.setIfInBounds_toArray, List.set_cons_zero, List.set_cons_succ, i64_w, i32_w]
                    rfl
                  refine q_op (v := ?_) (a' := ?_) ?hw5 ?_ ?_ ?_
                  case hw5 => exact wanted_on rfl rfl rfl rfl
                  rotate_left
                  rotate_left
                  · intro w' hC_
                    obtain ⟨s0_, s1_⟩ := rd_ring HRO.out HID.out HAT.out hC_ hk
                    go_simp
                    with_reducible rfl
                  · show Act.put _ (some 179) _ = _
                    simp only [Act.put, List.setIfInBounds_toArray, List.set_cons_zero, List.set_cons_succ, i64_w, i32_w]
                    rfl
                  refine q_op (v := ?_) (a' := ?_) ?hw5 ?_ ?_ ?_
                  case hw5 => exact wanted_on rfl rfl rfl rfl
                  rotate_left
                  rotate_left
                  · intro w' hC_
                    obtain _ := hC_
                    go_simp
                    with_reducible rfl
                  · show Act.put _ (some 180) _ = _
                    simp only [Act.put, List.setIfInBounds_toArray, List.set_cons_zero, List.set_cons_succ, i64_w, i32_w]
                    rfl
                  refine q_op (v := ?_) (a' := ?_) ?hw5 ?_ ?_ ?_
                  case hw5 => exact wanted_on rfl rfl rfl rfl
                  rotate_left
                  rotate_left
                  · intro w' hC_
                    obtain _ := hC_
                    go_simp
                    with_reducible rfl
                  · show Act.put _ (some 181) _ = _
                    simp only [Act.put, List.setIfInBounds_toArray, List.set_cons_zero, List.set_cons_succ, i64_w, i32_w]
                    rfl
                  refine q_op (v := ?_) (a' := ?_) ?hw5 ?_ ?_ ?_
                  case hw5 => exact wanted_on rfl rfl rfl rfl
                  rotate_left
                  rotate_left
                  · intro w' hC_
                    obtain _ := hC_
                    go_simp
                    with_reducible rfl
                  · show Act.put _ (some 182) _ = _
                    simp only [Act.put, List.setIfInBounds_toArray, List.set_cons_zero, List.set_cons_succ, i64_w, i32_w]
                    rfl
                  refine q_op (v := ?_) (a' := ?_) ?hw5 ?_ ?_ ?_
                  case hw5 => exact wanted_on rfl rfl rfl rfl
                  rotate_left
                  rotate_left
                  · intro w' hC_
                    obtain _ := hC_
                    go_simp
                    with_reducible rfl
                  · show Act.put _ (some 183) _ = _
                    simp only [Act.put, List.setIfInBounds_toArray, List.set_cons_zero, List.set_cons_succ, i64_w, i32_w]
                    rfl
                  refine q_op (v := ?_) (a' := ?_) ?hw5 ?_ ?_ ?_
                  case hw5 => exact wanted_on rfl rfl rfl rfl
                  rotate_left
                  rotate_left
                  · intro w' hC_
                    obtain _ := hC_
                    go_simp
                    with_reducible rfl
                  · show Act.put _ (some 184) _ = _
                    simp only [Act.put, List.setIfInBounds_toArray, List.set_cons_zero, List.set_cons_succ, i64_w, i32_w]
                    rfl
                  refine q_op (v := ?_) (a' := ?_) ?hw5 ?_ ?_ ?_
                  case hw5 => exact wanted_on rfl rfl rfl rfl
                  rotate_left
                  rotate_left
                  · intro w' hC_
                    obtain ⟨s0_, s1_⟩ := rd_ring HRO.out HID2.out HAT2.out hC_ hk2
                    go_simp
                    with_reducible rfl
                  · show Act.put _ (some 185) _ = _
                    simp only [Act.put, List.setIfInBounds_toArray, List.set_cons_zero, List.set_cons_succ, i64_w, i32_w]
                    rfl
                  refine q_op (v := ?_) (a' := ?_) ?hw5 ?_ ?_ ?_
                  case hw5 => exact wanted_on rfl rfl rfl rfl
                  rotate_left
                  rotate_left
                  · intro w' hC_
                    obtain _ := hC_
                    go_simp
                    with_reducible rfl
                  · show Act.put _ (some 186) _ = _
                    simp only [Act.put, List.setIfInBounds_toArray, List.set_cons_zero, List.set_cons_succ, i64_w, i32_w]
                    rfl
                  refine q_op (v := ?_) (a' := ?_) ?hw5 ?_ ?_ ?_
                  case hw5 => exact wanted_on rfl rfl rfl rfl
                  rotate_left
                  rotate_left
                  · intro w' hC_
                    obtain _ := hC_
                    go_simp
                    with_reducible rfl
                  · show Act.put _ (some 187) _ = _
                    simp only [Act.put, List.setIfInBounds_toArray, List.set_cons_zero, List.set_cons_succ, i64_w, i32_w]
                    rfl
                  refine q_op (v := ?_) (a' := ?_) ?hw5 ?_ ?_ ?_
                  case hw5 => rfl
                  rotate_left
                  rotate_left
                  · intro w' hC_
                    obtain _ := hC_
                    go_simp
                    with_reducible rfl
                  · show Act.put _ (some 188) _ = _
                    simp only [Act.put, List.setIfInBounds_toArray, List.set_cons_zero, List.set_cons_succ, i64_w, i32_w]
                    rfl
                  refine q_nil ?_
                  intro w51 hC_
                  have A51 := Aside0.mk (AL.below AO.out hC_)
                  have R51 := Aside0.mk (St.below (s := row 34 KR) RO.out hC_)
                  have B51 := Aside0.mk (Below.trans BO.out (Below.mono hC_ (Below.size BO.out)))
                  clear hC_ he hw0
                  go_wp2
                  go_roundw
                  case rel => exact ⟨k + 1, c8, by omega, by go_num, A51.out, R51.out, B51.out⟩
                  case measure => simp [intOf]; omega
              · have pk : decide ((k : Int) < (out.length : Int)) = false := decide_eq_false (by omega)
                have pkn : decide (k < out.length) = false := decide_eq_false hk
                go_wp2
                go_roundw
                case rel => exact ⟨j2 + 1, n + out.length, c8, hs6, t, t, by omega, by go_num, rfl, by go_num, AO.out, HL6.out, HT6.out, HN6.out, by have := HNW.out.1; have := HTT.out.1; omega, HTT.out.2.2.1, fun h => HTT.out.2.2.2 (by omega), BO.out⟩
                case measure => simp [intOf]; omega
        · have pl : decide ((j2 : Int) ≤ (l2.length : Int)) = false := decide_eq_false (by omega)
          have pln : decide (j2 ≤ l2.length) = false := decide_eq_false hle
          have hnl : n = l.length := by
            have h1 := HLA.out (by omega)
            have h2 := HT.out
            rw [h1] at h2
            have := none_left h2
            have := HN.out
            omega
          subst hnl
          have pe : ((l.length : Int) == (l.length : Int)) = true := by simp
          go_wp2
          go_ret
          exact ⟨rfl, BS.out⟩
end Go.Proofs.Ytdmoembbgcoeaaa.Alarm
