/- Alarm: AlarmRegisters: the next of all is the least of the registers (the walk) (no law is stated here; each says its conditions). -/
import Derived.Test.YtdmoembbgcoeaaaAlK
import Derived.Deep.CutBlock
import Derived.Deep.CutRange
namespace Go.Proofs.Ytdmoembbgcoeaaa.Alarm
open Go.RowKit Go.Proofs.YtdmoembbgcoeaaaW.PrintWords Go.Proofs.YtdmoembbgcoeaaaW.PrintLast Go.Proofs.YtdmoembbgcoeaaaW.PrintMore Go.Proofs.Ytdmoembbgcoeaaa.St Go.Proofs.Ytdmoembbgcoeaaa.Q Go.Proofs.Ytdmoembbgcoeaaa.Heap
open Go.Sort (HoldsK putRowK grow flatK)
set_option linter.unusedVariables false
set_option linter.unusedSimpArgs false
attribute [local go_sem] max2_int min2_int max_two min_two max_three min_three max_four min_four

theorem read_act5 {w : World} {ad : Addr} {l : List (Int × Int × Int × Int × Int)} (h : (Kd.pair (Kd.int .i64) (Kd.pair (Kd.int .i64) (Kd.pair (Kd.int .i64) (Kd.pair (Kd.int .i64) (Kd.int .i64))))).C w (some ad) l.length l) {j : Nat} (hj : j < l.length) {x1 x2 x3 x4 x5 : Int} (hx : l.getD j (0, 0, 0, 0, 0) = (x1, x2, x3, x4, x5)) :
    w.cell? (ad.add (j * 5)) = some (.int .i64 x1) ∧ w.cell? ⟨(ad.add (j * 5)).block, (ad.add (j * 5)).off + 1, none⟩ = some (.int .i64 x2) ∧ w.cell? ⟨(ad.add (j * 5)).block, (ad.add (j * 5)).off + 2, none⟩ = some (.int .i64 x3) ∧ w.cell? ⟨(ad.add (j * 5)).block, (ad.add (j * 5)).off + 3, none⟩ = some (.int .i64 x4) ∧ w.cell? ⟨(ad.add (j * 5)).block, (ad.add (j * 5)).off + 4, none⟩ = some (.int .i64 x5) := by
  obtain ⟨ad', c, e, _, hK, hc0⟩ := Kd.C_get h (0, 0, 0, 0, 0) (j : Int) (by omega) (by omega)
  cases e
  rw [Int.toNat_natCast] at hK hc0
  have hc : ∀ i u, c[i]? = some u → w.cell? (ad.add (j * 5 + i)) = some u := hc0
  rw [hx] at hK
  obtain ⟨_, _, rfl, rfl, _, _, rfl, rfl, _, _, rfl, rfl, _, _, rfl, rfl, rfl⟩ := hK
  exact ⟨hc 0 _ rfl, by rw [← add_field _ _ 1 (by omega)]; exact hc 1 _ rfl, by rw [← add_field _ _ 2 (by omega)]; exact hc 2 _ rfl, by rw [← add_field _ _ 3 (by omega)]; exact hc 3 _ rfl, by rw [← add_field _ _ 4 (by omega)]; exact hc 4 _ rfl⟩
theorem some_ad5 {w : World} {A : Option Addr} {l : List (Int × Int × Int × Int × Int)} (h : (Kd.pair (Kd.int .i64) (Kd.pair (Kd.int .i64) (Kd.pair (Kd.int .i64) (Kd.pair (Kd.int .i64) (Kd.int .i64))))).C w A l.length l) {j : Nat} (hj : j < l.length) : ∃ ad, A = some ad := by
  obtain ⟨ad, c, e, _⟩ := Kd.C_get h (0, 0, 0, 0, 0) (j : Int) (by omega) (by omega)
  exact ⟨ad, e⟩
theorem getD_mem {α : Type} {l : List α} {j : Nat} (z : α) (h : j < l.length) : l.getD j z ∈ l := by
  rw [List.getD_eq_getElem?_getD, List.getElem?_eq_getElem h]
  exact List.getElem_mem h
/-- None holds more than b. -/
def Few (hs : List (List (Int × Int))) (b : Nat) : Prop := ∀ j, (hs.getD j []).length ≤ b
theorem few_set {hs : List (List (Int × Int))} {b : Nat} (h : Few hs b) (q : Nat) {m : List (Int × Int)} (hm : m.length ≤ b + 1) : Few (hs.set q m) (b + 1) := by
  intro j
  rw [List.getD_eq_getElem?_getD]
  by_cases e : q = j
  · subst e
    by_cases hq : q < hs.length
    · rw [List.getElem?_set_self hq]; exact hm
    · rw [List.getElem?_eq_none (by rw [List.length_set]; omega)]; exact Nat.zero_le _
  · rw [List.getElem?_set_ne e, ← List.getD_eq_getElem?_getD]
    exact Nat.le_succ_of_le (h j)
theorem few_same {hs : List (List (Int × Int))} {b : Nat} (h : Few hs b) (q : Nat) {m : List (Int × Int)} (hm : m.length ≤ b) : Few (hs.set q m) b := by
  intro j
  rw [List.getD_eq_getElem?_getD]
  by_cases e : q = j
  · subst e
    by_cases hq : q < hs.length
    · rw [List.getElem?_set_self hq]; exact hm
    · rw [List.getElem?_eq_none (by rw [List.length_set]; omega)]; exact Nat.zero_le _
  · rw [List.getElem?_set_ne e, ← List.getD_eq_getElem?_getD]
    exact h j
theorem rearm_le (m : List (Int × Int)) (id u : Int) : (rearm m id u).length ≤ m.length + 1 := by
  unfold rearm
  rw [List.length_append]
  have := unarm_le m id
  show _ + 1 ≤ _
  omega
theorem Few.more {hs : List (List (Int × Int))} {b : Nat} (h : Few hs b) : Few hs (b + 1) := fun j => Nat.le_succ_of_le (h j)
theorem Few.arm {hs : List (List (Int × Int))} {b : Nat} (h : Few hs b) (now cpu id u : Int) : Few (armH hs now cpu id u) (b + 1) := by
  unfold armH
  split
  · exact few_set h _ (Nat.le_trans (rearm_le _ _ _) (by have := h cpu.toNat; omega))
  · exact h.more
theorem Few.move {hs : List (List (Int × Int))} {b : Nat} (h : Few hs b) (cpu to' id : Int) : Few (moveH hs cpu to' id) (b + 1) := by
  unfold moveH
  split
  · have h1 := few_same h cpu.toNat (m := unarm (hs.getD cpu.toNat []) id) (Nat.le_trans (unarm_le _ _) (h _))
    exact few_set h1 _ (Nat.le_trans (rearm_le _ _ _) (by have := h1 to'.toNat; omega))
  · exact h.more
theorem armH_len (hs : List (List (Int × Int))) (now cpu id u : Int) : (armH hs now cpu id u).length = hs.length := by
  unfold armH
  split
  · exact List.length_set
  · rfl
theorem moveH_len (hs : List (List (Int × Int))) (cpu to' id : Int) : (moveH hs cpu to' id).length = hs.length := by
  unfold moveH
  split
  · rw [List.length_set, List.length_set]
  · rfl
theorem few_rep (n : Nat) : Few (List.replicate n []) 0 := fun j => by rw [rep_getD]; exact Nat.le_refl _
theorem regA_nat {hs : List (List (Int × Int))} {k : Nat} : regA hs (k : Int) = regA hs ((k : Nat) : Int) := rfl
/-- Between the acts; while the registers are read. -/
def RelA (w : World) (n cp ga : Nat) (i : Value) (wr : World) : Prop :=
  ∃ (j : Nat) (c : Nat → Nat) (hs : List (List (Int × Int))), j ≤ n ∧ i = .int .i64 (j : Int) ∧ AL w wr c 100 hs 0 ga ∧ hs.length = cp ∧ Few hs j ∧ Below w.heap.size w wr
def CutA (w : World) (cp ga j : Nat) (wd : World) : Prop :=
  ∃ (c : Nat → Nat) (hs : List (List (Int × Int))), AL w wd c 100 hs 0 ga ∧ hs.length = cp ∧ Few hs (j + 1) ∧ Below w.heap.size w wd
def RelB (w : World) (c : Nat → Nat) (hs : List (List (Int × Int))) (ga : Nat) (bv tv i : Value) (wr : World) : Prop :=
  ∃ k : Nat, k ≤ hs.length ∧ i = .int .i64 (k : Int) ∧ bv = .int .i64 (nextN hs k).1 ∧ tv = .bool (nextN hs k).2 ∧ AL w wr c 100 hs 0 ga ∧ Below w.heap.size w wr
set_option maxHeartbeats 16000000 in
set_option maxRecDepth 100000 in
theorem registers_walk (m : Int) (_ : (Lit.int .i64 m).wf = true) (A : Option Addr) (cap : Nat) (l : List (Int × Int × Int × Int × Int)) {w : World} (hr : (Kd.pair (Kd.int .i64) (Kd.pair (Kd.int .i64) (Kd.pair (Kd.int .i64) (Kd.pair (Kd.int .i64) (Kd.int .i64))))).C w A l.length l) (hc : l.length ≤ cap) (hg : ∀ a ∈ l, (Lit.int .i64 a.1).wf = true ∧ (Lit.int .i64 a.2.1).wf = true ∧ (Lit.int .i64 a.2.2.1).wf = true ∧ (Lit.int .i64 a.2.2.2.1).wf = true ∧ (Lit.int .i64 a.2.2.2.2).wf = true) (_ : World) :
    Calls Try.prog 4 #[.int .i64 m, .slice A l.length cap] w fun e w' => e = .returned (.bool true) ∧ Below w.heap.size w w' := by
  have HC := Aside0.mk hr
  have HG := Aside0.mk hg
  clear hr hg
  by_cases hm : m < 1
  · have d1 : decide (m < 1) = true := decide_eq_true hm
    clear hm
    go_enter Try.func4, Try.ntmps4
    go_wp2_with (first | (go_at_call 7; (with_reducible refine (awake_calls _).mono ?_); rintro e w2 ⟨rfl, hb2⟩; have B2 := Aside0.mk hb2; clear hb2))
    go_ret
    exact ⟨rfl, B2.out⟩
  have d1 : decide (m < 1) = false := decide_eq_false hm
  by_cases hm2 : 64 < m
  · have d2 : decide (64 < m) = true := decide_eq_true hm2
    clear hm hm2
    go_enter Try.func4, Try.ntmps4
    go_wp2_with (first | (go_at_call 7; (with_reducible refine (awake_calls _).mono ?_); rintro e w2 ⟨rfl, hb2⟩; have B2 := Aside0.mk hb2; clear hb2))
    go_ret
    exact ⟨rfl, B2.out⟩
  have d2 : decide (64 < m) = false := decide_eq_false hm2
  by_cases hl : 60 < l.length
  · have d3 : decide (60 < l.length) = true := decide_eq_true hl
    have d4 : decide ((60 : Int) < (l.length : Int)) = true := decide_eq_true (by omega)
    clear hm hm2 hl
    go_enter Try.func4, Try.ntmps4
    go_wp2_with (first | (go_at_call 7; (with_reducible refine (awake_calls _).mono ?_); rintro e w2 ⟨rfl, hb2⟩; have B2 := Aside0.mk hb2; clear hb2))
    go_ret
    exact ⟨rfl, B2.out⟩
  have d3 : decide (60 < l.length) = false := decide_eq_false hl
  have d4 : decide ((60 : Int) < (l.length : Int)) = false := decide_eq_false (by omega)
  obtain ⟨cp, hcp⟩ : ∃ cp : Nat, m = (cp : Int) := ⟨m.toNat, by omega⟩
  subst hcp
  have HM := Aside0.mk (show 1 ≤ cp ∧ cp ≤ 64 from by omega)
  have HL := Aside0.mk (show l.length ≤ 60 from by omega)
  have d5 : decide (cp < 1) = false := decide_eq_false (by omega)
  have d6 : decide (64 < cp) = false := decide_eq_false (by omega)
  clear hm hm2 hl
  go_enter Try.func4, Try.ntmps4
  go_wp2_with (first | (go_at_call 7; (with_reducible refine (awake_calls _).mono ?_); rintro e w2 ⟨rfl, hb2⟩; have B2 := Aside0.mk hb2; clear hb2) | (go_at_call 8; (with_reducible refine (new_ok (w0 := w) (fun _ => 99) 100 cp HM.out B2.out).mono ?_); rintro e w3 ⟨ga, rfl, c3, h3, t3⟩; have H3 := Aside0.mk h3; have B3 := Aside0.mk (t3.far B2.out); clear h3 t3))
  clear d1 d2 d5 d6
  go_loopw [7] (fun i wr => RelA w l.length cp ga i wr) (fun i _ => l.length - (intOf i).toNat)
  case atStart => exact ⟨0, c3, _, Nat.zero_le _, rfl, H3.out, List.length_replicate, few_rep cp, B3.out⟩
  case round =>
    obtain ⟨j, c, hs, hj, rfl, hA, hln, hfw, hB⟩ := hrel
    have AZ := Aside0.mk hA
    have BZ := Aside0.mk hB
    have HLN := Aside0.mk hln
    have HFW := Aside0.mk hfw
    have hj60 : j ≤ 60 := by have := HL.out; omega
    have HLT := Aside0.mk (show ∀ q, q < hs.length → (hs.getD q []).length < 1024 from fun q _ => by have := hfw q; omega)
    clear hA hB hln hfw H3 B2 B3
    by_cases hlt : j < l.length
    · obtain ⟨ad, hAd⟩ := some_ad5 HC.out hlt
      subst hAd
      obtain ⟨x1, x2, x3, x4, x5, hx⟩ : ∃ x1 x2 x3 x4 x5, l.getD j (0, 0, 0, 0, 0) = (x1, x2, x3, x4, x5) := ⟨_, _, _, _, _, rfl⟩
      obtain ⟨a0, a1, a2, a3, a4⟩ := read_act5 (Kd.C_below HC.out BZ.out) hlt hx
      have HX := Aside0.mk hx
      have HWF := Aside0.mk (show (Lit.int .i64 x4).wf = true from by have h := (HG.out _ (getD_mem (0, 0, 0, 0, 0) hlt)).2.2.2.1; rwa [hx] at h)
      clear hx
      have bq : (0 ≤ (j : Int) ∧ (j : Int) < (l.length : Int)) := by omega
      have pj : decide ((j : Int) < (l.length : Int)) = true := decide_eq_true (by omega)
      have pjn : decide (j < l.length) = true := decide_eq_true hlt
      go_upto_if 44 with (fail)
      go_cut [78] from 45 to 77 (fun _ wd => CutA w cp ga j wd)
      case first =>
        by_cases o0 : x1 = 0
        · have q0 : (x1 == 0) = true := beq_iff_eq.2 o0
          clear o0
          go_upto_region 10 with (fail)
          obtain ⟨w20, hw20⟩ : ∃ w20 : World, wr.drew = w20 := ⟨_, rfl⟩
          have hb20 : Below wr.heap.size wr w20 := by rw [← hw20]; exact below_drew (Below.refl _ _)
          have A20 := Aside0.mk (AL.below AZ.out hb20)
          have B20 := Aside0.mk (Below.trans BZ.out (Below.mono hb20 (Below.size BZ.out)))
          clear hb20
          refine start_ (n := 17) (S := fun w' => w'.cell? (ad.add (j * 5)) = some (.int .i64 x1) ∧ w'.cell? ⟨(ad.add (j * 5)).block, (ad.add (j * 5)).off + 1, none⟩ = some (.int .i64 x2) ∧ w'.cell? ⟨(ad.add (j * 5)).block, (ad.add (j * 5)).off + 2, none⟩ = some (.int .i64 x3) ∧ w'.cell? ⟨(ad.add (j * 5)).block, (ad.add (j * 5)).off + 3, none⟩ = some (.int .i64 x4) ∧ w'.cell? ⟨(ad.add (j * 5)).block, (ad.add (j * 5)).off + 4, none⟩ = some (.int .i64 x5)) (ds := []) #[false, false, false, false, false, false, false, false, false, false, false, false, false, false, false, false, false] (by kernel_rfl) rfl rfl (by rw [hw20]; exact read_act5 (Kd.C_below HC.out B20.out) hlt HX.out) (fun hHeld => ?_)
          refine pure_ (i := 0) (N := some 45) (v := ?_) (a' := ?_) #[true, false, false, false, false, false, false, false, false, false, false, false, false, false, false, false, false] rfl rfl (by kernel_rfl) (fun _ _ _ h => h) (Or.inl ⟨by rfl, ?_⟩) ?_ ?_
          rotate_left
          · intro w'
            go_simp
            with_reducible rfl
          rotate_left
          · simp only [Act.put, List.setIfInBounds_toArray, List.set_cons_zero, List.set_cons_succ, i64_w, i32_w]
            rfl
          refine pure_ (i := 1) (N := some 46) (v := ?_) (a' := ?_) #[true, true, false, false, false, false, false, false, false, false, false, false, false, false, false, false, false] rfl rfl (by kernel_rfl) (fun _ _ _ h => h) (Or.inl ⟨by rfl, ?_⟩) ?_ ?_
          rotate_left
          · intro w'
            go_simp
            with_reducible rfl
          rotate_left
          · simp only [Act.put, List.setIfInBounds_toArray, List.set_cons_zero, List.set_cons_succ, i64_w, i32_w]
            rfl
          refine pure_ (i := 2) (N := some 47) (v := ?_) (a' := ?_) #[true, true, true, false, false, false, false, false, false, false, false, false, false, false, false, false, false] rfl rfl (by kernel_rfl) (fun _ _ _ h => h) (Or.inl ⟨by rfl, ?_⟩) ?_ ?_
          rotate_left
          · intro w'
            go_simp
            with_reducible rfl
          rotate_left
          · simp only [Act.put, List.setIfInBounds_toArray, List.set_cons_zero, List.set_cons_succ, i64_w, i32_w]
            rfl
          refine pure_ (i := 3) (N := some 48) (v := ?_) (a' := ?_) #[true, true, true, true, false, false, false, false, false, false, false, false, false, false, false, false, false] rfl rfl (by kernel_rfl) (fun _ _ _ h => h) (Or.inl ⟨by rfl, ?_⟩) ?_ ?_
          rotate_left
          · intro w'
            go_simp
            with_reducible rfl
          rotate_left
          · simp only [Act.put, List.setIfInBounds_toArray, List.set_cons_zero, List.set_cons_succ, i64_w, i32_w]
            rfl
          refine pure_ (i := 4) (N := some 49) (v := ?_) (a' := ?_) #[true, true, true, true, true, false, false, false, false, false, false, false, false, false, false, false, false] rfl rfl (by kernel_rfl) (fun _ _ _ h => h) (Or.inl ⟨by rfl, ?_⟩) ?_ ?_
          rotate_left
          · intro w'
            go_simp
            with_reducible rfl
          rotate_left
          · simp only [Act.put, List.setIfInBounds_toArray, List.set_cons_zero, List.set_cons_succ, i64_w, i32_w]
            rfl
          refine take_ (i := 5) (N := some 50) (v := ?_) (a' := ?_) #[true, true, true, true, true, true, false, false, false, false, false, false, false, false, false, false, false] rfl rfl (by kernel_rfl) (fun _ _ _ h => h) (Or.inl ⟨by rfl, ?_⟩) hHeld ?_ ?_
          rotate_left
          · intro w' hS_
            obtain ⟨s0_, s1_, s2_, s3_, s4_⟩ := hS_
            go_simp
            with_reducible rfl
          rotate_left
          · simp only [Act.put, List.setIfInBounds_toArray, List.set_cons_zero, List.set_cons_succ, i64_w, i32_w]
            rfl
          refine pure_ (i := 6) (N := some 51) (v := ?_) (a' := ?_) #[true, true, true, true, true, true, true, false, false, false, false, false, false, false, false, false, false] rfl rfl (by kernel_rfl) (fun _ _ _ h => h) (Or.inl ⟨by rfl, ?_⟩) ?_ ?_
          rotate_left
          · intro w'
            go_simp
            with_reducible rfl
          rotate_left
          · simp only [Act.put, List.setIfInBounds_toArray, List.set_cons_zero, List.set_cons_succ, i64_w, i32_w]
            rfl
          refine pure_ (i := 7) (N := some 52) (v := ?_) (a' := ?_) #[true, true, true, true, true, true, true, true, false, false, false, false, false, false, false, false, false] rfl rfl (by kernel_rfl) (fun _ _ _ h => h) (Or.inl ⟨by rfl, ?_⟩) ?_ ?_
          rotate_left
          · intro w'
            go_simp
            with_reducible rfl
          rotate_left
          · simp only [Act.put, List.setIfInBounds_toArray, List.set_cons_zero, List.set_cons_succ, i64_w, i32_w]
            rfl
          refine pure_ (i := 8) (N := some 53) (v := ?_) (a' := ?_) #[true, true, true, true, true, true, true, true, true, false, false, false, false, false, false, false, false] rfl rfl (by kernel_rfl) (fun _ _ _ h => h) (Or.inl ⟨by rfl, ?_⟩) ?_ ?_
          rotate_left
          · intro w'
            go_simp
            with_reducible rfl
          rotate_left
          · simp only [Act.put, List.setIfInBounds_toArray, List.set_cons_zero, List.set_cons_succ, i64_w, i32_w]
            rfl
          refine pure_ (i := 9) (N := some 54) (v := ?_) (a' := ?_) #[true, true, true, true, true, true, true, true, true, true, false, false, false, false, false, false, false] rfl rfl (by kernel_rfl) (fun _ _ _ h => h) (Or.inl ⟨by rfl, ?_⟩) ?_ ?_
          rotate_left
          · intro w'
            go_simp
            with_reducible rfl
          rotate_left
          · simp only [Act.put, List.setIfInBounds_toArray, List.set_cons_zero, List.set_cons_succ, i64_w, i32_w]
            rfl
          refine take_ (i := 10) (N := some 55) (v := ?_) (a' := ?_) #[true, true, true, true, true, true, true, true, true, true, true, false, false, false, false, false, false] rfl rfl (by kernel_rfl) (fun _ _ _ h => h) (Or.inl ⟨by rfl, ?_⟩) hHeld ?_ ?_
          rotate_left
          · intro w' hS_
            obtain ⟨s0_, s1_, s2_, s3_, s4_⟩ := hS_
            go_simp
            with_reducible rfl
          rotate_left
          · simp only [Act.put, List.setIfInBounds_toArray, List.set_cons_zero, List.set_cons_succ, i64_w, i32_w]
            rfl
          refine pure_ (i := 11) (N := some 56) (v := ?_) (a' := ?_) #[true, true, true, true, true, true, true, true, true, true, true, true, false, false, false, false, false] rfl rfl (by kernel_rfl) (fun _ _ _ h => h) (Or.inl ⟨by rfl, ?_⟩) ?_ ?_
          rotate_left
          · intro w'
            go_simp
            with_reducible rfl
          rotate_left
          · simp only [Act.put, List.setIfInBounds_toArray, List.set_cons_zero, List.set_cons_succ, i64_w, i32_w]
            rfl
          refine pure_ (i := 12) (N := some 57) (v := ?_) (a' := ?_) #[true, true, true, true, true, true, true, true, true, true, true, true, true, false, false, false, false] rfl rfl (by kernel_rfl) (fun _ _ _ h => h) (Or.inl ⟨by rfl, ?_⟩) ?_ ?_
          rotate_left
          · intro w'
            go_simp
            with_reducible rfl
          rotate_left
          · simp only [Act.put, List.setIfInBounds_toArray, List.set_cons_zero, List.set_cons_succ, i64_w, i32_w]
            rfl
          refine pure_ (i := 13) (N := some 58) (v := ?_) (a' := ?_) #[true, true, true, true, true, true, true, true, true, true, true, true, true, true, false, false, false] rfl rfl (by kernel_rfl) (fun _ _ _ h => h) (Or.inl ⟨by rfl, ?_⟩) ?_ ?_
          rotate_left
          · intro w'
            go_simp
            with_reducible rfl
          rotate_left
          · simp only [Act.put, List.setIfInBounds_toArray, List.set_cons_zero, List.set_cons_succ, i64_w, i32_w]
            rfl
          refine pure_ (i := 14) (N := some 59) (v := ?_) (a' := ?_) #[true, true, true, true, true, true, true, true, true, true, true, true, true, true, true, false, false] rfl rfl (by kernel_rfl) (fun _ _ _ h => h) (Or.inl ⟨by rfl, ?_⟩) ?_ ?_
          rotate_left
          · intro w'
            go_simp
            with_reducible rfl
          rotate_left
          · simp only [Act.put, List.setIfInBounds_toArray, List.set_cons_zero, List.set_cons_succ, i64_w, i32_w]
            rfl
          refine take_ (i := 15) (N := some 60) (v := ?_) (a' := ?_) #[true, true, true, true, true, true, true, true, true, true, true, true, true, true, true, true, false] rfl rfl (by kernel_rfl) (fun _ _ _ h => h) (Or.inl ⟨by rfl, ?_⟩) hHeld ?_ ?_
          rotate_left
          · intro w' hS_
            obtain ⟨s0_, s1_, s2_, s3_, s4_⟩ := hS_
            go_simp
            with_reducible rfl
          rotate_left
          · simp only [Act.put, List.setIfInBounds_toArray, List.set_cons_zero, List.set_cons_succ, i64_w, i32_w]
            rfl
          refine one_ (i := 16) (N := some 61) #[true, true, true, true, true, true, true, true, true, true, true, true, true, true, true, true, true] rfl rfl (by kernel_rfl) (by decide) (fun K hK => ?_)
          refine goes_ Try.func9 (by kernel_rfl) rfl #[.pointer (some ⟨ga, 0, none⟩), .int .i64 x2, .int .i64 x4, .int .i64 x5] ?hw rfl rfl ?hx ?_
          (case hw => rfl)
          (case hx => (try simp only [List.map_toArray, List.map_cons, List.map_nil]); first | done | rfl)
          rw [hw20]
          refine (arm_calls x2 x4 x5 A20.out HLT.out).mono ?_
          rintro e w21 ⟨rfl, c21, h21, t21⟩
          have A21 := Aside0.mk h21
          have B21 := Aside0.mk (t21.far B20.out)
          clear h21 t21
          refine ⟨_, rfl, ?_⟩
          have hHeld := read_act5 (Kd.C_below HC.out B21.out) hlt HX.out
          refine hK.out _ _ hHeld (fun hHeld => ?_)
          clear hK K
          refine norm_ (a' := ?_) ?_ ?_
          rotate_left
          · show Act.put _ (some 61) _ = _
            simp only [Act.put, List.setIfInBounds_toArray, List.set_cons_zero, List.set_cons_succ, i64_w, i32_w]
            rfl
          refine done_ (by kernel_rfl) ?_
          go_wp2
          go_meet
          exact ⟨c21, _, A21.out, (armH_len _ _ _ _ _).trans HLN.out, HFW.out.arm 0 x2 x4 x5, B21.out⟩
        · have q0 : (x1 == 0) = false := beq_eq_false_iff_ne.2 o0
          clear o0
          go_upto_region 11 with (fail)
          obtain ⟨w20, hw20⟩ : ∃ w20 : World, wr.drew = w20 := ⟨_, rfl⟩
          have hb20 : Below wr.heap.size wr w20 := by rw [← hw20]; exact below_drew (Below.refl _ _)
          have A20 := Aside0.mk (AL.below AZ.out hb20)
          have B20 := Aside0.mk (Below.trans BZ.out (Below.mono hb20 (Below.size BZ.out)))
          clear hb20
          refine start_ (n := 17) (S := fun w' => w'.cell? (ad.add (j * 5)) = some (.int .i64 x1) ∧ w'.cell? ⟨(ad.add (j * 5)).block, (ad.add (j * 5)).off + 1, none⟩ = some (.int .i64 x2) ∧ w'.cell? ⟨(ad.add (j * 5)).block, (ad.add (j * 5)).off + 2, none⟩ = some (.int .i64 x3) ∧ w'.cell? ⟨(ad.add (j * 5)).block, (ad.add (j * 5)).off + 3, none⟩ = some (.int .i64 x4) ∧ w'.cell? ⟨(ad.add (j * 5)).block, (ad.add (j * 5)).off + 4, none⟩ = some (.int .i64 x5)) (ds := []) #[false, false, false, false, false, false, false, false, false, false, false, false, false, false, false, false, false] (by kernel_rfl) rfl rfl (by rw [hw20]; exact read_act5 (Kd.C_below HC.out B20.out) hlt HX.out) (fun hHeld => ?_)
          refine pure_ (i := 0) (N := some 62) (v := ?_) (a' := ?_) #[true, false, false, false, false, false, false, false, false, false, false, false, false, false, false, false, false] rfl rfl (by kernel_rfl) (fun _ _ _ h => h) (Or.inl ⟨by rfl, ?_⟩) ?_ ?_
          rotate_left
          · intro w'
            go_simp
            with_reducible rfl
          rotate_left
          · simp only [Act.put, List.setIfInBounds_toArray, List.set_cons_zero, List.set_cons_succ, i64_w, i32_w]
            rfl
          refine pure_ (i := 1) (N := some 63) (v := ?_) (a' := ?_) #[true, true, false, false, false, false, false, false, false, false, false, false, false, false, false, false, false] rfl rfl (by kernel_rfl) (fun _ _ _ h => h) (Or.inl ⟨by rfl, ?_⟩) ?_ ?_
          rotate_left
          · intro w'
            go_simp
            with_reducible rfl
          rotate_left
          · simp only [Act.put, List.setIfInBounds_toArray, List.set_cons_zero, List.set_cons_succ, i64_w, i32_w]
            rfl
          refine pure_ (i := 2) (N := some 64) (v := ?_) (a' := ?_) #[true, true, true, false, false, false, false, false, false, false, false, false, false, false, false, false, false] rfl rfl (by kernel_rfl) (fun _ _ _ h => h) (Or.inl ⟨by rfl, ?_⟩) ?_ ?_
          rotate_left
          · intro w'
            go_simp
            with_reducible rfl
          rotate_left
          · simp only [Act.put, List.setIfInBounds_toArray, List.set_cons_zero, List.set_cons_succ, i64_w, i32_w]
            rfl
          refine pure_ (i := 3) (N := some 65) (v := ?_) (a' := ?_) #[true, true, true, true, false, false, false, false, false, false, false, false, false, false, false, false, false] rfl rfl (by kernel_rfl) (fun _ _ _ h => h) (Or.inl ⟨by rfl, ?_⟩) ?_ ?_
          rotate_left
          · intro w'
            go_simp
            with_reducible rfl
          rotate_left
          · simp only [Act.put, List.setIfInBounds_toArray, List.set_cons_zero, List.set_cons_succ, i64_w, i32_w]
            rfl
          refine pure_ (i := 4) (N := some 66) (v := ?_) (a' := ?_) #[true, true, true, true, true, false, false, false, false, false, false, false, false, false, false, false, false] rfl rfl (by kernel_rfl) (fun _ _ _ h => h) (Or.inl ⟨by rfl, ?_⟩) ?_ ?_
          rotate_left
          · intro w'
            go_simp
            with_reducible rfl
          rotate_left
          · simp only [Act.put, List.setIfInBounds_toArray, List.set_cons_zero, List.set_cons_succ, i64_w, i32_w]
            rfl
          refine take_ (i := 5) (N := some 67) (v := ?_) (a' := ?_) #[true, true, true, true, true, true, false, false, false, false, false, false, false, false, false, false, false] rfl rfl (by kernel_rfl) (fun _ _ _ h => h) (Or.inl ⟨by rfl, ?_⟩) hHeld ?_ ?_
          rotate_left
          · intro w' hS_
            obtain ⟨s0_, s1_, s2_, s3_, s4_⟩ := hS_
            go_simp
            with_reducible rfl
          rotate_left
          · simp only [Act.put, List.setIfInBounds_toArray, List.set_cons_zero, List.set_cons_succ, i64_w, i32_w]
            rfl
          refine pure_ (i := 6) (N := some 68) (v := ?_) (a' := ?_) #[true, true, true, true, true, true, true, false, false, false, false, false, false, false, false, false, false] rfl rfl (by kernel_rfl) (fun _ _ _ h => h) (Or.inl ⟨by rfl, ?_⟩) ?_ ?_
          rotate_left
          · intro w'
            go_simp
            with_reducible rfl
          rotate_left
          · simp only [Act.put, List.setIfInBounds_toArray, List.set_cons_zero, List.set_cons_succ, i64_w, i32_w]
            rfl
          refine pure_ (i := 7) (N := some 69) (v := ?_) (a' := ?_) #[true, true, true, true, true, true, true, true, false, false, false, false, false, false, false, false, false] rfl rfl (by kernel_rfl) (fun _ _ _ h => h) (Or.inl ⟨by rfl, ?_⟩) ?_ ?_
          rotate_left
          · intro w'
            go_simp
            with_reducible rfl
          rotate_left
          · simp only [Act.put, List.setIfInBounds_toArray, List.set_cons_zero, List.set_cons_succ, i64_w, i32_w]
            rfl
          refine pure_ (i := 8) (N := some 70) (v := ?_) (a' := ?_) #[true, true, true, true, true, true, true, true, true, false, false, false, false, false, false, false, false] rfl rfl (by kernel_rfl) (fun _ _ _ h => h) (Or.inl ⟨by rfl, ?_⟩) ?_ ?_
          rotate_left
          · intro w'
            go_simp
            with_reducible rfl
          rotate_left
          · simp only [Act.put, List.setIfInBounds_toArray, List.set_cons_zero, List.set_cons_succ, i64_w, i32_w]
            rfl
          refine pure_ (i := 9) (N := some 71) (v := ?_) (a' := ?_) #[true, true, true, true, true, true, true, true, true, true, false, false, false, false, false, false, false] rfl rfl (by kernel_rfl) (fun _ _ _ h => h) (Or.inl ⟨by rfl, ?_⟩) ?_ ?_
          rotate_left
          · intro w'
            go_simp
            with_reducible rfl
          rotate_left
          · simp only [Act.put, List.setIfInBounds_toArray, List.set_cons_zero, List.set_cons_succ, i64_w, i32_w]
            rfl
          refine take_ (i := 10) (N := some 72) (v := ?_) (a' := ?_) #[true, true, true, true, true, true, true, true, true, true, true, false, false, false, false, false, false] rfl rfl (by kernel_rfl) (fun _ _ _ h => h) (Or.inl ⟨by rfl, ?_⟩) hHeld ?_ ?_
          rotate_left
          · intro w' hS_
            obtain ⟨s0_, s1_, s2_, s3_, s4_⟩ := hS_
            go_simp
            with_reducible rfl
          rotate_left
          · simp only [Act.put, List.setIfInBounds_toArray, List.set_cons_zero, List.set_cons_succ, i64_w, i32_w]
            rfl
          refine pure_ (i := 11) (N := some 73) (v := ?_) (a' := ?_) #[true, true, true, true, true, true, true, true, true, true, true, true, false, false, false, false, false] rfl rfl (by kernel_rfl) (fun _ _ _ h => h) (Or.inl ⟨by rfl, ?_⟩) ?_ ?_
          rotate_left
          · intro w'
            go_simp
            with_reducible rfl
          rotate_left
          · simp only [Act.put, List.setIfInBounds_toArray, List.set_cons_zero, List.set_cons_succ, i64_w, i32_w]
            rfl
          refine pure_ (i := 12) (N := some 74) (v := ?_) (a' := ?_) #[true, true, true, true, true, true, true, true, true, true, true, true, true, false, false, false, false] rfl rfl (by kernel_rfl) (fun _ _ _ h => h) (Or.inl ⟨by rfl, ?_⟩) ?_ ?_
          rotate_left
          · intro w'
            go_simp
            with_reducible rfl
          rotate_left
          · simp only [Act.put, List.setIfInBounds_toArray, List.set_cons_zero, List.set_cons_succ, i64_w, i32_w]
            rfl
          refine pure_ (i := 13) (N := some 75) (v := ?_) (a' := ?_) #[true, true, true, true, true, true, true, true, true, true, true, true, true, true, false, false, false] rfl rfl (by kernel_rfl) (fun _ _ _ h => h) (Or.inl ⟨by rfl, ?_⟩) ?_ ?_
          rotate_left
          · intro w'
            go_simp
            with_reducible rfl
          rotate_left
          · simp only [Act.put, List.setIfInBounds_toArray, List.set_cons_zero, List.set_cons_succ, i64_w, i32_w]
            rfl
          refine pure_ (i := 14) (N := some 76) (v := ?_) (a' := ?_) #[true, true, true, true, true, true, true, true, true, true, true, true, true, true, true, false, false] rfl rfl (by kernel_rfl) (fun _ _ _ h => h) (Or.inl ⟨by rfl, ?_⟩) ?_ ?_
          rotate_left
          · intro w'
            go_simp
            with_reducible rfl
          rotate_left
          · simp only [Act.put, List.setIfInBounds_toArray, List.set_cons_zero, List.set_cons_succ, i64_w, i32_w]
            rfl
          refine take_ (i := 15) (N := some 77) (v := ?_) (a' := ?_) #[true, true, true, true, true, true, true, true, true, true, true, true, true, true, true, true, false] rfl rfl (by kernel_rfl) (fun _ _ _ h => h) (Or.inl ⟨by rfl, ?_⟩) hHeld ?_ ?_
          rotate_left
          · intro w' hS_
            obtain ⟨s0_, s1_, s2_, s3_, s4_⟩ := hS_
            go_simp
            with_reducible rfl
          rotate_left
          · simp only [Act.put, List.setIfInBounds_toArray, List.set_cons_zero, List.set_cons_succ, i64_w, i32_w]
            rfl
          refine one_ (i := 16) (N := some 78) #[true, true, true, true, true, true, true, true, true, true, true, true, true, true, true, true, true] rfl rfl (by kernel_rfl) (by decide) (fun K hK => ?_)
          refine goes_ Try.func12 (by kernel_rfl) rfl #[.pointer (some ⟨ga, 0, none⟩), .int .i64 x2, .int .i64 x3, .int .i64 x4] ?hw rfl rfl ?hx ?_
          (case hw => rfl)
          (case hx => (try simp only [List.map_toArray, List.map_cons, List.map_nil]); first | done | rfl)
          rw [hw20]
          refine (move_calls x2 x3 x4 A20.out HLT.out HWF.out).mono ?_
          rintro e w21 ⟨rfl, c21, h21, t21⟩
          have A21 := Aside0.mk h21
          have B21 := Aside0.mk (t21.far B20.out)
          clear h21 t21
          refine ⟨_, rfl, ?_⟩
          have hHeld := read_act5 (Kd.C_below HC.out B21.out) hlt HX.out
          refine hK.out _ _ hHeld (fun hHeld => ?_)
          clear hK K
          refine norm_ (a' := ?_) ?_ ?_
          rotate_left
          · show Act.put _ (some 78) _ = _
            simp only [Act.put, List.setIfInBounds_toArray, List.set_cons_zero, List.set_cons_succ, i64_w, i32_w]
            rfl
          refine done_ (by kernel_rfl) ?_
          go_wp2
          go_meet
          exact ⟨c21, _, A21.out, (moveH_len _ _ _ _).trans HLN.out, HFW.out.move x2 x3 x4, B21.out⟩
      case rest =>
        clear AZ BZ HFW HLN HLT HX a0 a1 a2 a3 a4
        obtain ⟨cd, hs, hA, hln, hfw, hB⟩ := hcut
        have AX := Aside0.mk hA
        have BX := Aside0.mk hB
        have HLN := Aside0.mk hln
        have HFW := Aside0.mk hfw
        clear hA hB hfw
        have hcp : hs.length ≤ 64 := by have := HM.out; omega
        have HL1000 := Aside0.mk (show hs.length ≤ 1000 from by omega)
        go_wp2
        go_loopw [8, 9, 10] (fun bv tv i wr => RelB w cd hs ga bv tv i wr) (fun _ _ i _ => hs.length - (intOf i).toNat)
        case atStart => exact ⟨0, Nat.zero_le _, rfl, rfl, rfl, AX.out, BX.out⟩
        case round =>
          obtain ⟨k, hk, rfl, rfl, rfl, hA, hB⟩ := hrel
          have AY := Aside0.mk hA
          have BY := Aside0.mk hB
          obtain ⟨⟨a1, a2⟩, ha⟩ : ∃ a, nextN hs k = a := ⟨_, rfl⟩
          have HNK := Aside0.mk ha
          rw [ha]
          clear hA hB AX BX
          by_cases hlk : k < hs.length
          · have pq : decide ((k : Int) < (cp : Int)) = true := decide_eq_true (by rw [← hln]; omega)
            have pqn : decide (k < cp) = true := decide_eq_true (by rw [← hln]; exact hlk)
            obtain ⟨⟨v1, v2⟩, hv⟩ : ∃ v, regA hs (k : Int) = v := ⟨_, rfl⟩
            have HN := Aside0.mk (show nextN hs (k + 1) = stepN (a1, a2) (v1, v2) from by rw [nextN, ha, hv])
            have HR := Aside0.mk hv
            clear hv ha
            cases v2 with
            | false =>
              have HE := Aside0.mk (show nextN hs (k + 1) = (a1, a2) from by rw [HN.out]; unfold stepN; rw [if_neg (fun e => absurd e.1 Bool.false_ne_true)])
              go_wp2_with (first | (go_at_call 13; (with_reducible refine (register_calls (k : Int) AY.out HR.out).mono ?_); rintro e w5 ⟨rfl, hb5⟩; have A5 := Aside0.mk (AL.below AY.out hb5); have B5 := Aside0.mk (Below.trans BY.out (Below.mono hb5 (Below.size BY.out))); clear hb5))
              exact ⟨⟨k + 1, by omega, by go_num, by rw [HE.out], by rw [HE.out], A5.out, B5.out⟩, by simp [intOf]; omega⟩
            | true =>
              cases a2 with
              | false =>
                have HE := Aside0.mk (show nextN hs (k + 1) = (v1, true) from by rw [HN.out]; unfold stepN; rw [if_pos ⟨rfl, Or.inl rfl⟩])
                go_wp2_with (first | (go_at_call 13; (with_reducible refine (register_calls (k : Int) AY.out HR.out).mono ?_); rintro e w5 ⟨rfl, hb5⟩; have A5 := Aside0.mk (AL.below AY.out hb5); have B5 := Aside0.mk (Below.trans BY.out (Below.mono hb5 (Below.size BY.out))); clear hb5))
                exact ⟨⟨k + 1, by omega, by go_num, by rw [HE.out], by rw [HE.out], A5.out, B5.out⟩, by simp [intOf]; omega⟩
              | true =>
                by_cases hlv : v1 < a1
                · have dlv : decide (v1 < a1) = true := decide_eq_true hlv
                  have HE := Aside0.mk (show nextN hs (k + 1) = (v1, true) from by rw [HN.out]; unfold stepN; rw [if_pos ⟨rfl, Or.inr hlv⟩])
                  clear hlv
                  go_wp2_with (first | (go_at_call 13; (with_reducible refine (register_calls (k : Int) AY.out HR.out).mono ?_); rintro e w5 ⟨rfl, hb5⟩; have A5 := Aside0.mk (AL.below AY.out hb5); have B5 := Aside0.mk (Below.trans BY.out (Below.mono hb5 (Below.size BY.out))); clear hb5))
                  exact ⟨⟨k + 1, by omega, by go_num, by rw [HE.out], by rw [HE.out], A5.out, B5.out⟩, by simp [intOf]; omega⟩
                · have dlv : decide (v1 < a1) = false := decide_eq_false hlv
                  have HE := Aside0.mk (show nextN hs (k + 1) = (a1, true) from by rw [HN.out]; unfold stepN; rw [if_neg (by rintro ⟨_, e | e⟩; cases e; exact hlv e)])
                  clear hlv
                  go_wp2_with (first | (go_at_call 13; (with_reducible refine (register_calls (k : Int) AY.out HR.out).mono ?_); rintro e w5 ⟨rfl, hb5⟩; have A5 := Aside0.mk (AL.below AY.out hb5); have B5 := Aside0.mk (Below.trans BY.out (Below.mono hb5 (Below.size BY.out))); clear hb5))
                  exact ⟨⟨k + 1, by omega, by go_num, by rw [HE.out], by rw [HE.out], A5.out, B5.out⟩, by simp [intOf]; omega⟩
          · have pq : decide ((k : Int) < (cp : Int)) = false := decide_eq_false (by rw [← hln]; omega)
            have pqn : decide (k < cp) = false := decide_eq_false (by rw [← hln]; exact hlk)
            have HNV := Aside0.mk (show nextV hs = (a1, a2) from by unfold nextV; rw [show hs.length = k by omega]; exact HNK.out)
            have e1 : (a1 != a1) = false := by simp
            have e2 : (a2 != a2) = false := by simp
            clear ha
            go_wp2_with (first | (go_at_call 14; (with_reducible refine (next_calls AY.out HL1000.out HNV.out).mono ?_); rintro e w6 ⟨rfl, hb6⟩; have A6 := Aside0.mk (AL.below AY.out hb6); have B6 := Aside0.mk (Below.trans BY.out (Below.mono hb6 (Below.size BY.out))); clear hb6))
            go_roundw
            case rel => exact ⟨j + 1, cd, hs, by omega, by go_num, A6.out, hln, HFW.out, B6.out⟩
            case measure => simp [intOf]; omega
    · have pj : decide ((j : Int) < (l.length : Int)) = false := decide_eq_false (by omega)
      have pjn : decide (j < l.length) = false := decide_eq_false hlt
      go_wp2
      go_ret
      exact ⟨rfl, BZ.out⟩
end Go.Proofs.Ytdmoembbgcoeaaa.Alarm
