/- Admit: Leave (no law is stated here; each says its conditions). -/
import Derived.Test.YtmjodeijafoabaaSt
import Derived.Test.YtmjodeijafoabaaReg
import Derived.Test.YtmjodeijafoabaaQt
import Derived.Test.YtmjodeijafoabaaAdG
namespace Go.Proofs.Ytmjodeijafoabaa.Admit
open Go.RowKit Go.Proofs.YtmjodeijafoabaaW.PrintWords Go.Proofs.YtmjodeijafoabaaW.PrintLast Go.Proofs.YtmjodeijafoabaaW.PrintMore Go.Proofs.Ytmjodeijafoabaa.St Go.Proofs.Ytmjodeijafoabaa.Q Go.Proofs.Ytmjodeijafoabaa.Pure
set_option linter.unusedVariables false
set_option linter.unusedSimpArgs false
attribute [local go_sem] max2_int min2_int max_two min_two max_three min_three max_four min_four

/-- What Leave answers, who is live, who lingers then. -/
def leaveV (l1 : List S37) (id till now : Int) : Int := if till < 0 ∨ now < 0 then 1 else if findE id l1 0 < 0 then 2 else 0
def leaveL (l1 : List S37) (id till now : Int) : List S37 := if leaveV l1 id till now = 0 then l1.eraseIdx (findE id l1 0).toNat else l1
def leaveO (l1 l2 : List S37) (id till now : Int) : List S37 := if leaveV l1 id till now = 0 ∧ now < till then l2 ++ [⟨id, (l1.getD (findE id l1 0).toNat z4).f1, till⟩] else l2
theorem add_base (gl n : Nat) : (⟨gl, 0, none⟩ : Addr).add n = ⟨gl, n, none⟩ := by
  by_cases h : n = 0
  · subst h; rfl
  · simp [Addr.add, h]
theorem held_e {w0 w : World} {c : Nat → Nat} {i g gl k k1 k2 n2 : Nat} {m x1 x2 : Int} {x0 x3 : Int} {A2 : Option Addr} {l1 : List S37} (hB : blk.M w w0.heap.size (fun k => c k = i) (.cells #[.int .i64 m, .slice (some ⟨gl, 0, none⟩) l1.length k1, .slice A2 n2 k2] 55 (0, 0)) (.pointer (some ⟨g, 0, none⟩)))
    (hL : (row 37 k37).M w w0.heap.size (fun k => c k = (i + 1)) l1 (.slice (some ⟨gl, 0, none⟩) l1.length k1)) (hk : k < l1.length) (hx : l1.getD k z4 = ⟨x0, ⟨x1, x2⟩, x3⟩) :
    w.cell? ⟨g, 1, none⟩ = some (.slice (some ⟨gl, 0, none⟩) l1.length k1) ∧ w.cell? ⟨g, 2, none⟩ = some (.slice A2 n2 k2) ∧ w.cell? ⟨gl, k * 4 + 1, none⟩ = some (.int .i64 x1) ∧ w.cell? ⟨gl, k * 4 + 1 + 1, none⟩ = some (.int .i64 x2) := by
  obtain ⟨ad, e, z0, z1, z2, z3⟩ := read_e (row_C hL) hk
  cases e
  rw [hx, add_base] at z1 z2
  exact ⟨blk_cell (blk_at hB) 1, blk_cell (blk_at hB) 2, z1, z2⟩
set_option maxHeartbeats 8000000 in
set_option maxRecDepth 100000 in
theorem leave_calls {w0 W : World} {c : Nat → Nat} {i g : Nat} {m : Int} {l1 l2 : List S37} (id till now : Int) (h : BK w0 W c i m l1 l2 g) (hB : Below w0.heap.size w0 W) (hl : l1.length ≤ 400 ∧ l2.length ≤ 900) :
    Calls Try.prog 10 #[.pointer (some ⟨g, 0, none⟩), .int .i64 id, .int .i64 till, .int .i64 now] W fun e w' => e = .returned (.int .i64 (leaveV l1 id till now)) ∧ ∃ c', BK w0 w' c' i m (leaveL l1 id till now) (leaveO l1 l2 id till now) g ∧ TurnedL c c' [i, (i + 1), (i + 2), (i + 3), (i + 4)] w0 W w' := by
  obtain ⟨A1, k1, A2, k2, hb1, hb2, hb3⟩ := h
  have HLN := Aside0.mk hl
  have hl400 : l1.length ≤ 400 := hl.1
  obtain ⟨ev, hev⟩ : ∃ ev, leaveV l1 id till now = ev := ⟨_, rfl⟩
  obtain ⟨el, hel⟩ : ∃ el, leaveL l1 id till now = el := ⟨_, rfl⟩
  obtain ⟨eo, heo⟩ : ∃ eo, leaveO l1 l2 id till now = eo := ⟨_, rfl⟩
  have HEV := Aside0.mk (show ev = if till < 0 ∨ now < 0 then 1 else if findE id l1 0 < 0 then 2 else 0 from by rw [← hev]; rfl)
  have HEL := Aside0.mk (show el = if ev = 0 then l1.eraseIdx (findE id l1 0).toNat else l1 from by rw [← hel, ← hev]; rfl)
  have HEO := Aside0.mk (show eo = if ev = 0 ∧ now < till then l2 ++ [⟨id, (l1.getD (findE id l1 0).toNat z4).f1, till⟩] else l2 from by rw [← heo, ← hev]; rfl)
  rw [hev, hel, heo]
  have T0 := Aside0.mk (TurnedL.refl c [i, (i + 1), (i + 2), (i + 3), (i + 4)] w0 W)
  have M1 := Aside0.mk hb1
  have M2 := Aside0.mk hb2
  have M3 := Aside0.mk hb3
  have HB := Aside0.mk hB
  have HFC := Aside0.mk (find_cases id l1 0)
  obtain ⟨fv, hfv⟩ : ∃ fv, findE id l1 0 = fv := ⟨_, rfl⟩
  have FV := Aside0.mk hfv
  rw [hfv] at HEV HEL HEO HFC
  clear hev hel heo hb1 hb2 hb3 hB hl hfv
  by_cases ht : till < 0
  · have pt : decide (till < 0) = true := decide_eq_true ht
    have HV := Aside0.mk (show ev = 1 from by rw [HEV.out, if_pos (Or.inl ht)])
    have HVL := Aside0.mk (show el = l1 from by rw [HEL.out, HV.out, if_neg (by decide)])
    have HVO := Aside0.mk (show eo = l2 from by rw [HEO.out, HV.out, if_neg (fun e => absurd e.1 (by decide))])
    clear ht
    go_enter Try.func10, Try.ntmps10
    go_wp2
    go_ret
    exact ⟨by rw [HV.out]; rfl, c, by rw [HVL.out, HVO.out]; exact ⟨_, _, _, _, M1.out, M2.out, M3.out⟩, T0.out⟩
  have pt : decide (till < 0) = false := decide_eq_false ht
  by_cases hn : now < 0
  · have pn : decide (now < 0) = true := decide_eq_true hn
    have HV := Aside0.mk (show ev = 1 from by rw [HEV.out, if_pos (Or.inr hn)])
    have HVL := Aside0.mk (show el = l1 from by rw [HEL.out, HV.out, if_neg (by decide)])
    have HVO := Aside0.mk (show eo = l2 from by rw [HEO.out, HV.out, if_neg (fun e => absurd e.1 (by decide))])
    clear ht hn
    go_enter Try.func10, Try.ntmps10
    go_wp2
    go_ret
    exact ⟨by rw [HV.out]; rfl, c, by rw [HVL.out, HVO.out]; exact ⟨_, _, _, _, M1.out, M2.out, M3.out⟩, T0.out⟩
  have pn : decide (now < 0) = false := decide_eq_false hn
  have HE2 := Aside0.mk (show ev = if fv < 0 then 2 else 0 from by rw [HEV.out, if_neg (by omega)])
  clear ht hn
  rcases HFC.out with ⟨k, hkl, hfe, -, -⟩ | ⟨hfe, -⟩
  rotate_left
  · subst hfe
    have HV := Aside0.mk (show ev = 2 from by rw [HE2.out, if_pos (by decide)])
    have HVL := Aside0.mk (show el = l1 from by rw [HEL.out, HV.out, if_neg (by decide)])
    have HVO := Aside0.mk (show eo = l2 from by rw [HEO.out, HV.out, if_neg (fun e => absurd e.1 (by decide))])
    go_enter Try.func10, Try.ntmps10
    go_wp2_with (first | (go_at_call 23; (with_reducible refine (find_calls id (blk_at M1.out) (row_C M2.out) (by have := HLN.out; omega)).mono ?_); rintro e w3 ⟨rfl, hb3⟩; rw [FV.out]; have HB3 := Aside0.mk (St.below (s := blk) M1.out hb3); have HL3 := Aside0.mk (St.below (s := row 37 k37) M2.out hb3); have HO3 := Aside0.mk (St.below (s := row 37 k37) M3.out hb3); have B3 := Aside0.mk (Below.trans HB.out (Below.mono hb3 (Below.size HB.out))); have T3 := Aside0.mk (T0.out.below hb3); clear hb3))
    go_ret
    exact ⟨by rw [HV.out]; rfl, c, by rw [HVL.out, HVO.out]; exact ⟨_, _, _, _, HB3.out, HL3.out, HO3.out⟩, T3.out⟩
  rw [Nat.zero_add] at hfe
  subst hfe
  have HV := Aside0.mk (show ev = 0 from by rw [HE2.out, if_neg (by omega)])
  obtain ⟨le, hle⟩ : ∃ le, l1.eraseIdx k = le := ⟨_, rfl⟩
  have HEE := Aside0.mk hle
  have HEN := Aside0.mk (show l1.length - 1 = le.length from by rw [← hle, List.length_eraseIdx]; rw [if_pos hkl])
  have HVL := Aside0.mk (show el = le from by rw [HEL.out, HV.out, if_pos rfl, Int.toNat_natCast, hle])
  clear hle
  obtain ⟨gl, kk, hA, -⟩ := Kd.R_form M2.out (show 0 < l1.length by omega)
  injection hA with hA1 hA2 hA3
  subst hA1
  subst hA3
  clear hA2
  have bk : (0 ≤ (k : Int) ∧ (k : Int) < (l1.length : Int)) := by omega
  have pk : decide ((k : Int) < 0) = false := decide_eq_false (by omega)
  have hwk : wrap64 ((k : Int) + 1) = (k : Int) + 1 := by unfold wrap64; omega
  by_cases hg : now < till
  · have pg : decide (now < till) = true := decide_eq_true hg
    obtain ⟨⟨x0, ⟨x1, x2⟩, x3⟩, hx⟩ : ∃ x, l1.getD k z4 = x := ⟨_, rfl⟩
    have HX := Aside0.mk hx
    obtain ⟨ls, hls⟩ : ∃ ls, l2 ++ [⟨id, ⟨x1, x2⟩, till⟩] = ls := ⟨_, rfl⟩
    have HLS := Aside0.mk hls
    have HVO := Aside0.mk (show eo = ls from by rw [HEO.out, HV.out, if_pos ⟨rfl, hg⟩, Int.toNat_natCast, hx, hls])
    clear hx hls hg
    go_enter Try.func10, Try.ntmps10
    go_upto_region 7 with (first | (go_at_call 23; (with_reducible refine (find_calls id (blk_at M1.out) (row_C M2.out) (by have := HLN.out; omega)).mono ?_); rintro e w3 ⟨rfl, hb3⟩; rw [FV.out]; have HB3 := Aside0.mk (St.below (s := blk) M1.out hb3); have HL3 := Aside0.mk (St.below (s := row 37 k37) M2.out hb3); have HO3 := Aside0.mk (St.below (s := row 37 k37) M3.out hb3); have B3 := Aside0.mk (Below.trans HB.out (Below.mono hb3 (Below.size HB.out))); have T3 := Aside0.mk (T0.out.below hb3); clear hb3))
    obtain ⟨w5, hw5⟩ : ∃ w5 : World, w3.drew = w5 := ⟨_, rfl⟩
    have hb5 : Below w3.heap.size w3 w5 := by rw [← hw5]; exact below_drew (Below.refl _ _)
    have HB5 := Aside0.mk (St.below (s := blk) HB3.out hb5)
    have HL5 := Aside0.mk (St.below (s := row 37 k37) HL3.out hb5)
    have HO5 := Aside0.mk (St.below (s := row 37 k37) HO3.out hb5)
    have B5 := Aside0.mk (Below.trans B3.out (Below.mono hb5 (Below.size B3.out)))
    have T5 := Aside0.mk (T3.out.below hb5)
    clear hb5
    refine start_ (n := 21) (S := fun w' => w'.cell? ⟨g, 1, none⟩ = some (.slice (some ⟨gl, 0, none⟩) l1.length k1) ∧ w'.cell? ⟨g, 2, none⟩ = some (.slice A2 l2.length k2) ∧ w'.cell? ⟨gl, k * 4 + 1, none⟩ = some (.int .i64 x1) ∧ w'.cell? ⟨gl, k * 4 + 1 + 1, none⟩ = some (.int .i64 x2)) (ds := [20]) #[false, false, false, false, false, false, false, false, false, false, false, false, false, false, false, false, false, false, false, false, false] (by kernel_rfl) rfl rfl (by rw [hw5]; exact held_e HB5.out HL5.out hkl HX.out) (fun hHeld => ?_)
    refine pure_ (i := 0) (N := some 24) (v := ?_) (a' := ?_) #[true, false, false, false, false, false, false, false, false, false, false, false, false, false, false, false, false, false, false, false, false] rfl rfl (by kernel_rfl) (fun _ _ _ h => h) (Or.inl ⟨by rfl, ?_⟩) ?_ ?_
    rotate_left
    · intro w'
      go_simp
      with_reducible rfl
    rotate_left
    · simp only [Act.put, List.setIfInBounds_toArray, List.set_cons_zero, List.set_cons_succ, i64_w, i32_w]
      rfl
    refine pure_ (i := 1) (N := some 25) (v := ?_) (a' := ?_) #[true, true, false, false, false, false, false, false, false, false, false, false, false, false, false, false, false, false, false, false, false] rfl rfl (by kernel_rfl) (fun _ _ _ h => h) (Or.inl ⟨by rfl, ?_⟩) ?_ ?_
    rotate_left
    · intro w'
      go_simp
      with_reducible rfl
    rotate_left
    · simp only [Act.put, List.setIfInBounds_toArray, List.set_cons_zero, List.set_cons_succ, i64_w, i32_w]
      rfl
    refine pure_ (i := 2) (N := some 26) (v := ?_) (a' := ?_) #[true, true, true, false, false, false, false, false, false, false, false, false, false, false, false, false, false, false, false, false, false] rfl rfl (by kernel_rfl) (fun _ _ _ h => h) (Or.inl ⟨by rfl, ?_⟩) ?_ ?_
    rotate_left
    · intro w'
      go_simp
      with_reducible rfl
    rotate_left
    · simp only [Act.put, List.setIfInBounds_toArray, List.set_cons_zero, List.set_cons_succ, i64_w, i32_w]
      rfl
    refine pure_ (i := 3) (N := some 27) (v := ?_) (a' := ?_) #[true, true, true, true, false, false, false, false, false, false, false, false, false, false, false, false, false, false, false, false, false] rfl rfl (by kernel_rfl) (fun _ _ _ h => h) (Or.inl ⟨by rfl, ?_⟩) ?_ ?_
    rotate_left
    · intro w'
      go_simp
      with_reducible rfl
    rotate_left
    · simp only [Act.put, List.setIfInBounds_toArray, List.set_cons_zero, List.set_cons_succ, i64_w, i32_w]
      rfl
    refine take_ (i := 4) (N := some 28) (v := ?_) (a' := ?_) #[true, true, true, true, true, false, false, false, false, false, false, false, false, false, false, false, false, false, false, false, false] rfl rfl (by kernel_rfl) (fun _ _ _ h => h) (Or.inl ⟨by rfl, ?_⟩) hHeld ?_ ?_
    rotate_left
    · intro w' hS_
      obtain ⟨s0_, s1_, s2_, s3_⟩ := hS_
      go_simp
      with_reducible rfl
    rotate_left
    · simp only [Act.put, List.setIfInBounds_toArray, List.set_cons_zero, List.set_cons_succ, i64_w, i32_w]
      rfl
    refine pure_ (i := 5) (N := some 29) (v := ?_) (a' := ?_) #[true, true, true, true, true, true, false, false, false, false, false, false, false, false, false, false, false, false, false, false, false] rfl rfl (by kernel_rfl) (fun _ _ _ h => h) (Or.inl ⟨by rfl, ?_⟩) ?_ ?_
    rotate_left
    · intro w'
      go_simp
      with_reducible rfl
    rotate_left
    · simp only [Act.put, List.setIfInBounds_toArray, List.set_cons_zero, List.set_cons_succ, i64_w, i32_w]
      rfl
    refine pure_ (i := 6) (N := some 30) (v := ?_) (a' := ?_) #[true, true, true, true, true, true, true, false, false, false, false, false, false, false, false, false, false, false, false, false, false] rfl rfl (by kernel_rfl) (fun _ _ _ h => h) (Or.inl ⟨by rfl, ?_⟩) ?_ ?_
    rotate_left
    · intro w'
      go_simp
      with_reducible rfl
    rotate_left
    · simp only [Act.put, List.setIfInBounds_toArray, List.set_cons_zero, List.set_cons_succ, i64_w, i32_w]
      rfl
    refine pure_ (i := 7) (N := some 31) (v := ?_) (a' := ?_) #[true, true, true, true, true, true, true, true, false, false, false, false, false, false, false, false, false, false, false, false, false] rfl rfl (by kernel_rfl) (fun _ _ _ h => h) (Or.inl ⟨by rfl, ?_⟩) ?_ ?_
    rotate_left
    · intro w'
      go_simp
      with_reducible rfl
    rotate_left
    · simp only [Act.put, List.setIfInBounds_toArray, List.set_cons_zero, List.set_cons_succ, i64_w, i32_w]
      rfl
    refine pure_ (i := 8) (N := some 32) (v := ?_) (a' := ?_) #[true, true, true, true, true, true, true, true, true, false, false, false, false, false, false, false, false, false, false, false, false] rfl rfl (by kernel_rfl) (fun _ _ _ h => h) (Or.inl ⟨by rfl, ?_⟩) ?_ ?_
    rotate_left
    · intro w'
      go_simp
      with_reducible rfl
    rotate_left
    · simp only [Act.put, List.setIfInBounds_toArray, List.set_cons_zero, List.set_cons_succ, i64_w, i32_w]
      rfl
    refine take_ (i := 9) (N := some 33) (v := ?_) (a' := ?_) #[true, true, true, true, true, true, true, true, true, true, false, false, false, false, false, false, false, false, false, false, false] rfl rfl (by kernel_rfl) (fun _ _ _ h => h) (Or.inl ⟨by rfl, ?_⟩) hHeld ?_ ?_
    rotate_left
    · intro w' hS_
      obtain ⟨s0_, s1_, s2_, s3_⟩ := hS_
      go_simp
      with_reducible rfl
    rotate_left
    · simp only [Act.put, List.setIfInBounds_toArray, List.set_cons_zero, List.set_cons_succ, i64_w, i32_w]
      rfl
    refine pure_ (i := 10) (N := some 34) (v := ?_) (a' := ?_) #[true, true, true, true, true, true, true, true, true, true, true, false, false, false, false, false, false, false, false, false, false] rfl rfl (by kernel_rfl) (fun _ _ _ h => h) (Or.inl ⟨by rfl, ?_⟩) ?_ ?_
    rotate_left
    · intro w'
      go_simp
      with_reducible rfl
    rotate_left
    · simp only [Act.put, List.setIfInBounds_toArray, List.set_cons_zero, List.set_cons_succ, i64_w, i32_w]
      rfl
    refine pure_ (i := 11) (N := some 35) (v := ?_) (a' := ?_) #[true, true, true, true, true, true, true, true, true, true, true, true, false, false, false, false, false, false, false, false, false] rfl rfl (by kernel_rfl) (fun _ _ _ h => h) (Or.inl ⟨by rfl, ?_⟩) ?_ ?_
    rotate_left
    · intro w'
      go_simp
      with_reducible rfl
    rotate_left
    · simp only [Act.put, List.setIfInBounds_toArray, List.set_cons_zero, List.set_cons_succ, i64_w, i32_w]
      rfl
    refine pure_ (i := 12) (N := some 36) (v := ?_) (a' := ?_) #[true, true, true, true, true, true, true, true, true, true, true, true, true, false, false, false, false, false, false, false, false] rfl rfl (by kernel_rfl) (fun _ _ _ h => h) (Or.inl ⟨by rfl, ?_⟩) ?_ ?_
    rotate_left
    · intro w'
      go_simp
      with_reducible rfl
    rotate_left
    · simp only [Act.put, List.setIfInBounds_toArray, List.set_cons_zero, List.set_cons_succ, i64_w, i32_w]
      rfl
    refine take_ (i := 13) (N := some 37) (v := ?_) (a' := ?_) #[true, true, true, true, true, true, true, true, true, true, true, true, true, true, false, false, false, false, false, false, false] rfl rfl (by kernel_rfl) (fun _ _ _ h => h) (Or.inl ⟨by rfl, ?_⟩) hHeld ?_ ?_
    rotate_left
    · intro w' hS_
      obtain ⟨s0_, s1_, s2_, s3_⟩ := hS_
      go_simp
      with_reducible rfl
    rotate_left
    · simp only [Act.put, List.setIfInBounds_toArray, List.set_cons_zero, List.set_cons_succ, i64_w, i32_w]
      rfl
    refine pure_ (i := 14) (N := some 38) (v := ?_) (a' := ?_) #[true, true, true, true, true, true, true, true, true, true, true, true, true, true, true, false, false, false, false, false, false] rfl rfl (by kernel_rfl) (fun _ _ _ h => h) (Or.inl ⟨by rfl, ?_⟩) ?_ ?_
    rotate_left
    · intro w'
      go_simp
      with_reducible rfl
    rotate_left
    · simp only [Act.put, List.setIfInBounds_toArray, List.set_cons_zero, List.set_cons_succ, i64_w, i32_w]
      rfl
    refine pure_ (i := 15) (N := some 39) (v := ?_) (a' := ?_) #[true, true, true, true, true, true, true, true, true, true, true, true, true, true, true, true, false, false, false, false, false] rfl rfl (by kernel_rfl) (fun _ _ _ h => h) (Or.inl ⟨by rfl, ?_⟩) ?_ ?_
    rotate_left
    · intro w'
      go_simp
      with_reducible rfl
    rotate_left
    · simp only [Act.put, List.setIfInBounds_toArray, List.set_cons_zero, List.set_cons_succ, i64_w, i32_w]
      rfl
    refine one_ (i := 16) (N := some 40) #[true, true, true, true, true, true, true, true, true, true, true, true, true, true, true, true, true, false, false, false, false] rfl rfl (by kernel_rfl) (by decide) (fun K hK => ?_)
    rw [hw5]
    refine lit_step (e := 37) (c := c) (w0 := w0) k37 (i + 4) ?hg (N := 40) ?hd ([⟨id, ⟨x1, x2⟩, till⟩] : List S37) [.int .i64 id, .int .i64 x1, .int .i64 x2, .int .i64 till] ?hr ?hp ?hs (by simp) ?_
    (case hd => rfl)
    (case hg => rfl)
    (case hp => exact row1 _ _ ⟨id, ⟨x1, x2⟩, till⟩)
    (case hr => first | (go_simp; done) | (go_simp; rfl))
    (case hs => exact Below.size B5.out)
    intro v6 w6 c6 h6 t6
    obtain ⟨A6, k6, rfl, -, -⟩ := row_reads h6
    have HE6 := Aside0.mk (show (row 37 k37).M w6 w0.heap.size (fun k => c6 k = (i + 4)) ([⟨id, ⟨x1, x2⟩, till⟩] : List S37) (.slice A6 ([⟨id, ⟨x1, x2⟩, till⟩] : List S37).length k6) from h6)
    have HB6 := Aside0.mk (t6.keep _ (blk) i _ _ (by omega) HB5.out)
    have HL6 := Aside0.mk (t6.keep _ (row 37 k37) (i + 1) _ _ (by omega) HL5.out)
    have HO6 := Aside0.mk (t6.keep _ (row 37 k37) (i + 2) _ _ (by omega) HO5.out)
    have B6 := Aside0.mk (t6.far B5.out)
    have T6 := Aside0.mk (T5.out.step t6 (by simp))
    clear h6 t6
    have hHeld := held_e HB6.out HL6.out hkl HX.out
    refine hK.out _ _ hHeld (fun hHeld => ?_)
    clear hK K
    refine norm_ (a' := ?_) ?_ ?_
    rotate_left
    · show Act.put _ (some 40) _ = _
      simp only [Act.put, List.setIfInBounds_toArray, List.set_cons_zero, List.set_cons_succ, i64_w, i32_w]
      rfl
    refine one_ (i := 17) (N := some 41) #[true, true, true, true, true, true, true, true, true, true, true, true, true, true, true, true, true, true, false, false, false] rfl rfl (by kernel_rfl) (by decide) (fun K hK => ?_)
    refine app_step (e := 37) (c := c6) (w0 := w0) (d := k37) (i := (i + 2)) (by rfl) (.tmp 28) (.tmp 40) 34 (.agg #[.int .i64 0, .int .i64 0, .int .i64 0, .int .i64 0]) 32 rfl Try.underlying34 info_entry rfl (by decide) (by decide) flat37 (.slice A2 l2.length k2) l2 ([⟨id, ⟨x1, x2⟩, till⟩] : List S37) _ _ _ rfl rfl HO6.out (row_C HE6.out) ?hs (by have := HLN.out; show (_ + 1) * 32 ≤ _; omega) ?_
    (case hs => exact Below.size B6.out)
    intro v7 w7 c7 h7 t7
    rw [HLS.out] at h7
    obtain ⟨A7, k7, rfl, -, -⟩ := row_reads h7
    have HO7 := Aside0.mk (show (row 37 k37).M w7 w0.heap.size (fun k => c7 k = (i + 2)) ls (.slice A7 ls.length k7) from h7)
    have HB7 := Aside0.mk (t7.keep _ (blk) i _ _ (by omega) HB6.out)
    have HL7 := Aside0.mk (t7.keep _ (row 37 k37) (i + 1) _ _ (by omega) HL6.out)
    have HE7 := Aside0.mk (t7.keep _ (row 37 k37) (i + 4) _ _ (by omega) HE6.out)
    have B7 := Aside0.mk (t7.far B6.out)
    have T7 := Aside0.mk (T6.out.step t7 (by simp))
    clear h7 t7
    have hHeld := held_e HB7.out HL7.out hkl HX.out
    refine hK.out _ _ hHeld (fun hHeld => ?_)
    clear hK K
    refine norm_ (a' := ?_) ?_ ?_
    rotate_left
    · show Act.put _ (some 41) _ = _
      simp only [Act.put, List.setIfInBounds_toArray, List.set_cons_zero, List.set_cons_succ, i64_w, i32_w]
      rfl
    refine pure_ (i := 18) (N := some 42) (v := ?_) (a' := ?_) #[true, true, true, true, true, true, true, true, true, true, true, true, true, true, true, true, true, true, true, false, false] rfl rfl (by kernel_rfl) (fun _ _ _ h => h) (Or.inl ⟨by rfl, ?_⟩) ?_ ?_
    rotate_left
    · intro w'
      go_simp
      with_reducible rfl
    rotate_left
    · simp only [Act.put, List.setIfInBounds_toArray, List.set_cons_zero, List.set_cons_succ, i64_w, i32_w]
      rfl
    refine pure_ (i := 19) (N := some 43) (v := ?_) (a' := ?_) #[true, true, true, true, true, true, true, true, true, true, true, true, true, true, true, true, true, true, true, true, false] rfl rfl (by kernel_rfl) (fun _ _ _ h => h) (Or.inl ⟨by rfl, ?_⟩) ?_ ?_
    rotate_left
    · intro w'
      go_simp
      with_reducible rfl
    rotate_left
    · simp only [Act.put, List.setIfInBounds_toArray, List.set_cons_zero, List.set_cons_succ, i64_w, i32_w]
      rfl
    refine last_ (i := 20) (N := none) #[true, true, true, true, true, true, true, true, true, true, true, true, true, true, true, true, true, true, true, true, true] rfl rfl (by kernel_rfl) (by decide) (fun K hK => ?_)
    have z2 := blk_cell (blk_at HB7.out) 2
    have f2 := blk_frozen (blk_at HB7.out) 2
    refine store_step (w1 := w7.setCell ⟨g, 2, none⟩ (.slice A7 ls.length k7)) ?hw rfl ?hr ?_
    (case hw => rfl)
    (case hr => go_simp)
    obtain ⟨c8, h8, t8⟩ := blk_put1 HB7.out 2 (.slice A7 ls.length k7) (Below.size B7.out)
    clear z2 f2
    generalize w7.setCell ⟨g, 2, none⟩ (.slice A7 ls.length k7) = w8 at h8 t8 ⊢
    have HB8 := Aside0.mk (show (blk).M w8 w0.heap.size (fun k => c8 k = i) (.cells #[.int .i64 m, .slice (some ⟨gl, 0, none⟩) l1.length k1, .slice A7 ls.length k7] 55 (0, 0)) (.pointer (some ⟨g, 0, none⟩)) from h8)
    have HL8 := Aside0.mk (t8.keep _ (row 37 k37) (i + 1) _ _ (by omega) HL7.out)
    have HO8 := Aside0.mk (t8.keep _ (row 37 k37) (i + 2) _ _ (by omega) HO7.out)
    have HE8 := Aside0.mk (t8.keep _ (row 37 k37) (i + 4) _ _ (by omega) HE7.out)
    have B8 := Aside0.mk (t8.far B7.out)
    have T8 := Aside0.mk (T7.out.step t8 (by simp))
    clear h8 t8
    refine hK.out _ _ ?_
    clear hK K hHeld
    refine norm_ (a' := ?_) ?_ ?_
    rotate_left
    · show Act.put _ (none) _ = _
      simp only [Act.put, List.setIfInBounds_toArray, List.set_cons_zero, List.set_cons_succ, i64_w, i32_w]
      rfl
    refine done_ (by kernel_rfl) ?_
    go_upto_region 8 with (fail)
    have z1 := blk_cell (blk_at HB8.out) 1
    go_upto_region 9 with (first | (go_at_call 24; (with_reducible refine (delete_C k HL8.out hkl (Below.size B8.out)).mono ?_); rintro e w9 ⟨rfl, c9, h9, t9⟩; rw [HEE.out] at h9; rw [HEN.out] at h9 ⊢; have HL9 := Aside0.mk (show (row 37 k37).M w9 w0.heap.size (fun k => c9 k = (i + 1)) le (.slice (some ⟨gl, 0, none⟩) le.length k1) from h9); have HB9 := Aside0.mk (t9.keep _ (blk) i _ _ (by omega) HB8.out); have HO9 := Aside0.mk (t9.keep _ (row 37 k37) (i + 2) _ _ (by omega) HO8.out); have B9 := Aside0.mk (t9.far B8.out); have T9 := Aside0.mk (T8.out.step t9 (by simp)); clear h9 t9 z1; have z1 := blk_cell (blk_at HB9.out) 1; have f1 := blk_frozen (blk_at HB9.out) 1))
    clear z1 f1
    obtain ⟨c10, h10, t10⟩ := blk_put1 HB9.out 1 (.slice (some ⟨gl, 0, none⟩) le.length k1) (Below.size B9.out)
    generalize w9.setCell ⟨g, 1, none⟩ (.slice (some ⟨gl, 0, none⟩) le.length k1) = w10 at h10 t10 ⊢
    have HB10 := Aside0.mk (show (blk).M w10 w0.heap.size (fun k => c10 k = i) (.cells #[.int .i64 m, .slice (some ⟨gl, 0, none⟩) le.length k1, .slice A7 ls.length k7] 55 (0, 0)) (.pointer (some ⟨g, 0, none⟩)) from h10)
    have HL10 := Aside0.mk (t10.keep _ (row 37 k37) (i + 1) _ _ (by omega) HL9.out)
    have HO10 := Aside0.mk (t10.keep _ (row 37 k37) (i + 2) _ _ (by omega) HO9.out)
    have B10 := Aside0.mk (t10.far B9.out)
    have T10 := Aside0.mk (T9.out.step t10 (by simp))
    clear h10 t10
    go_wp2
    go_ret
    exact ⟨by rw [HV.out]; rfl, c10, by rw [HVL.out, HVO.out]; exact ⟨_, _, _, _, HB10.out, HL10.out, HO10.out⟩, T10.out⟩
  · have pg : decide (now < till) = false := decide_eq_false hg
    have HVO := Aside0.mk (show eo = l2 from by rw [HEO.out, if_neg (fun e => hg e.2)])
    clear hg
    go_enter Try.func10, Try.ntmps10
    go_upto_region 8 with (first | (go_at_call 23; (with_reducible refine (find_calls id (blk_at M1.out) (row_C M2.out) (by have := HLN.out; omega)).mono ?_); rintro e w3 ⟨rfl, hb3⟩; rw [FV.out]; have HB3 := Aside0.mk (St.below (s := blk) M1.out hb3); have HL3 := Aside0.mk (St.below (s := row 37 k37) M2.out hb3); have HO3 := Aside0.mk (St.below (s := row 37 k37) M3.out hb3); have B3 := Aside0.mk (Below.trans HB.out (Below.mono hb3 (Below.size HB.out))); have T3 := Aside0.mk (T0.out.below hb3); clear hb3))
    have z1 := blk_cell (blk_at HB3.out) 1
    go_upto_region 9 with (first | (go_at_call 24; (with_reducible refine (delete_C k HL3.out hkl (Below.size B3.out)).mono ?_); rintro e w9 ⟨rfl, c9, h9, t9⟩; rw [HEE.out] at h9; rw [HEN.out] at h9 ⊢; have HL9 := Aside0.mk (show (row 37 k37).M w9 w0.heap.size (fun k => c9 k = (i + 1)) le (.slice (some ⟨gl, 0, none⟩) le.length k1) from h9); have HB9 := Aside0.mk (t9.keep _ (blk) i _ _ (by omega) HB3.out); have HO9 := Aside0.mk (t9.keep _ (row 37 k37) (i + 2) _ _ (by omega) HO3.out); have B9 := Aside0.mk (t9.far B3.out); have T9 := Aside0.mk (T3.out.step t9 (by simp)); clear h9 t9 z1; have z1 := blk_cell (blk_at HB9.out) 1; have f1 := blk_frozen (blk_at HB9.out) 1))
    clear z1 f1
    obtain ⟨c10, h10, t10⟩ := blk_put1 HB9.out 1 (.slice (some ⟨gl, 0, none⟩) le.length k1) (Below.size B9.out)
    generalize w9.setCell ⟨g, 1, none⟩ (.slice (some ⟨gl, 0, none⟩) le.length k1) = w10 at h10 t10 ⊢
    have HB10 := Aside0.mk (show (blk).M w10 w0.heap.size (fun k => c10 k = i) (.cells #[.int .i64 m, .slice (some ⟨gl, 0, none⟩) le.length k1, .slice A2 l2.length k2] 55 (0, 0)) (.pointer (some ⟨g, 0, none⟩)) from h10)
    have HL10 := Aside0.mk (t10.keep _ (row 37 k37) (i + 1) _ _ (by omega) HL9.out)
    have HO10 := Aside0.mk (t10.keep _ (row 37 k37) (i + 2) _ _ (by omega) HO9.out)
    have B10 := Aside0.mk (t10.far B9.out)
    have T10 := Aside0.mk (T9.out.step t10 (by simp))
    clear h10 t10
    go_wp2
    go_ret
    exact ⟨by rw [HV.out]; rfl, c10, by rw [HVL.out, HVO.out]; exact ⟨_, _, _, _, HB10.out, HL10.out, HO10.out⟩, T10.out⟩
end Go.Proofs.Ytmjodeijafoabaa.Admit
