/- Admit: whether pairs fit, who may come in (no law is stated here; each says its conditions). -/
import Derived.Test.YtmjodeijafoabaaSt
import Derived.Test.YtmjodeijafoabaaReg
import Derived.Test.YtmjodeijafoabaaQt
import Derived.Test.YtmjodeijafoabaaAdF
namespace Go.Proofs.Ytmjodeijafoabaa.Admit
open Go.RowKit Go.Proofs.YtmjodeijafoabaaW.PrintWords Go.Proofs.YtmjodeijafoabaaW.PrintLast Go.Proofs.YtmjodeijafoabaaW.PrintMore Go.Proofs.Ytmjodeijafoabaa.St Go.Proofs.Ytmjodeijafoabaa.Q Go.Proofs.Ytmjodeijafoabaa.Pure
set_option linter.unusedVariables false
set_option linter.unusedSimpArgs false
attribute [local go_sem] max2_int min2_int max_two min_two max_three min_three max_four min_four
theorem info_pair : (Try.prog.info? 24).map (fun i => (i.zero, i.size, i.bytes)) = some (some (.agg #[.int .i64 0, .int .i64 0]), k24.sz, 16) := by kernel_rfl
set_option maxHeartbeats 4000000 in
set_option maxRecDepth 100000 in
theorem fits_calls {w0 W : World} {c : Nat → Nat} {j g : Nat} {m : Int} {sv1 : Value} {A2 A0 : Option Addr} {k2 k0 : Nat} {l2 : List S37} {ps : List S24} (now : Int) (hb : w0.heap[g]? = some (.cells #[.int .i64 m, sv1, .slice A2 l2.length k2] 55 (0, 0))) (hr : k37.C w0 A2 l2.length l2) (hl : l2.length ≤ 1000)
    (hB : Below w0.heap.size w0 W) (hv : (row 24 k24).M W w0.heap.size (fun k => c k = j) ps (.slice A0 ps.length k0)) (hp : ps.length ≤ 1000) (hm : 1 ≤ m ∧ m ≤ 64) (hok : Okl (ps ++ prs (ling now l2))) :
    Calls Try.prog 26 #[.pointer (some ⟨g, 0, none⟩), .slice A0 ps.length k0, .int .i64 now] W fun e w' => e = .returned (.bool (fitB m (ps ++ prs (ling now l2)))) ∧ ∃ c', TurnedL c c' [j] w0 W w' := by
  have HBK := Aside0.mk hb
  have HG := Aside0.mk (blk_lt hb)
  have HR := Aside0.mk hr
  have HL := Aside0.mk hl
  have HB := Aside0.mk hB
  have HV := Aside0.mk hv
  obtain ⟨ln, hln⟩ : ∃ ln, ling now l2 = ln := ⟨_, rfl⟩
  have HLN := Aside0.mk hln
  have hll : ln.length ≤ 1000 := by rw [← hln]; have := ling_le now l2; omega
  have HLS := Aside0.mk (show ps.length ≤ 1000 ∧ ln.length ≤ 1000 from ⟨hp, hll⟩)
  have HPF := Aside0.mk (pairs_f ln (by omega))
  rw [hln] at hok ⊢
  obtain ⟨r1, r2, hr12⟩ : ∃ r1 r2, allR m (ps ++ prs ln) = (r1, r2) := ⟨_, _, rfl⟩
  have HAF := Aside0.mk (show win_All.f 140 m (ps ++ prs ln) = some (r1, r2) from by rw [allR_f hm hok, hr12])
  have HFB := Aside0.mk (show fitB m (ps ++ prs ln) = (r1 && (r2 == 0)) from by unfold fitB; rw [hr12])
  clear hb hr hl hB hv hln hll hok hr12
  go_enter Try.func26, Try.ntmps26
  go_upto_region 1 with (fail)
  obtain ⟨w10, hw10⟩ : ∃ w10 : World, W.drew = w10 := ⟨_, rfl⟩
  have hb10 : Below W.heap.size W w10 := by rw [← hw10]; exact below_drew (Below.refl _ _)
  have B10 := Aside0.mk (Below.trans HB.out (Below.mono hb10 (Below.size HB.out)))
  have V10 := Aside0.mk (St.below (s := row 24 k24) HV.out hb10)
  have T10 := Aside0.mk ((TurnedL.refl c [j] w0 W).below hb10)
  clear hb10
  refine start_ (n := 16) (S := fun w' => w'.cell? ⟨g, 0, none⟩ = some (.int .i64 m)) (ds := []) #[false, false, false, false, false, false, false, false, false, false, false, false, false, false, false, false] (by kernel_rfl) rfl rfl (by rw [hw10]; exact blk_cell ((B10.out.block g HG.out).trans HBK.out) 0) (fun hHeld => ?_)
  refine pure_ (i := 0) (N := some 10) (v := ?_) (a' := ?_) #[true, false, false, false, false, false, false, false, false, false, false, false, false, false, false, false] rfl rfl (by kernel_rfl) (fun _ _ _ h => h) (Or.inl ⟨by rfl, ?_⟩) ?_ ?_
  rotate_left
  · intro w'
    go_simp
    with_reducible rfl
  rotate_left
  · simp only [Act.put, List.setIfInBounds_toArray, List.set_cons_zero, List.set_cons_succ, i64_w, i32_w]
    rfl
  refine pure_ (i := 1) (N := some 11) (v := ?_) (a' := ?_) #[true, true, false, false, false, false, false, false, false, false, false, false, false, false, false, false] rfl rfl (by kernel_rfl) (fun _ _ _ h => h) (Or.inl ⟨by rfl, ?_⟩) ?_ ?_
  rotate_left
  · intro w'
    go_simp
    with_reducible rfl
  rotate_left
  · simp only [Act.put, List.setIfInBounds_toArray, List.set_cons_zero, List.set_cons_succ, i64_w, i32_w]
    rfl
  refine pure_ (i := 2) (N := some 12) (v := ?_) (a' := ?_) #[true, true, true, false, false, false, false, false, false, false, false, false, false, false, false, false] rfl rfl (by kernel_rfl) (fun _ _ _ h => h) (Or.inl ⟨by rfl, ?_⟩) ?_ ?_
  rotate_left
  · intro w'
    go_simp
    with_reducible rfl
  rotate_left
  · simp only [Act.put, List.setIfInBounds_toArray, List.set_cons_zero, List.set_cons_succ, i64_w, i32_w]
    rfl
  refine take_ (i := 3) (N := some 13) (v := ?_) (a' := ?_) #[true, true, true, true, false, false, false, false, false, false, false, false, false, false, false, false] rfl rfl (by kernel_rfl) (fun _ _ _ h => h) (Or.inl ⟨by rfl, ?_⟩) hHeld ?_ ?_
  rotate_left
  · intro w' hS_
    obtain s0_ := hS_
    go_simp
    with_reducible rfl
  rotate_left
  · simp only [Act.put, List.setIfInBounds_toArray, List.set_cons_zero, List.set_cons_succ, i64_w, i32_w]
    rfl
  refine pure_ (i := 4) (N := some 14) (v := ?_) (a' := ?_) #[true, true, true, true, true, false, false, false, false, false, false, false, false, false, false, false] rfl rfl (by kernel_rfl) (fun _ _ _ h => h) (Or.inl ⟨by rfl, ?_⟩) ?_ ?_
  rotate_left
  · intro w'
    go_simp
    with_reducible rfl
  rotate_left
  · simp only [Act.put, List.setIfInBounds_toArray, List.set_cons_zero, List.set_cons_succ, i64_w, i32_w]
    rfl
  refine pure_ (i := 5) (N := some 15) (v := ?_) (a' := ?_) #[true, true, true, true, true, true, false, false, false, false, false, false, false, false, false, false] rfl rfl (by kernel_rfl) (fun _ _ _ h => h) (Or.inl ⟨by rfl, ?_⟩) ?_ ?_
  rotate_left
  · intro w'
    go_simp
    with_reducible rfl
  rotate_left
  · simp only [Act.put, List.setIfInBounds_toArray, List.set_cons_zero, List.set_cons_succ, i64_w, i32_w]
    rfl
  refine pure_ (i := 6) (N := some 16) (v := ?_) (a' := ?_) #[true, true, true, true, true, true, true, false, false, false, false, false, false, false, false, false] rfl rfl (by kernel_rfl) (fun _ _ _ h => h) (Or.inl ⟨by rfl, ?_⟩) ?_ ?_
  rotate_left
  · intro w'
    go_simp
    with_reducible rfl
  rotate_left
  · simp only [Act.put, List.setIfInBounds_toArray, List.set_cons_zero, List.set_cons_succ, i64_w, i32_w]
    rfl
  refine one_ (i := 7) (N := some 17) #[true, true, true, true, true, true, true, true, false, false, false, false, false, false, false, false] rfl rfl (by kernel_rfl) (by decide) (fun K hK => ?_)
  refine goes_ Try.func13 (by kernel_rfl) rfl #[.pointer (some ⟨g, 0, none⟩), .int .i64 now] ?hw rfl rfl ?hx ?_
  (case hw => rfl)
  (case hx => (try simp only [List.map_toArray, List.map_cons, List.map_nil]); first | done | rfl)
  rw [hw10]
  refine (lingers_calls (g := g) (c0 := .int .i64 m) (c1 := sv1) (A2 := A2) (k2 := k2) (l := l2) now ((B10.out.block g HG.out).trans HBK.out) (Kd.C_below HR.out B10.out) HL.out).mono ?_
  rintro e w11 ⟨v11, rfl, h11, b11⟩
  obtain ⟨A11, k11, rfl, c11, d11⟩ := row_reads h11
  rw [HLN.out] at c11 d11 ⊢
  have B11 := Aside0.mk (Below.trans B10.out (Below.mono b11 (Below.size B10.out)))
  have V11 := Aside0.mk (St.below (s := row 24 k24) V10.out b11)
  have T11 := Aside0.mk (T10.out.below b11)
  have D11 := Aside0.mk d11
  have C11 := Aside0.mk c11
  clear h11 b11 c11 d11
  refine ⟨_, rfl, ?_⟩
  have hHeld := (show _ = some (Value.int IntKind.i64 m) from blk_cell ((B11.out.block g HG.out).trans HBK.out) 0)
  refine hK.out _ _ hHeld (fun hHeld => ?_)
  clear hK K
  refine norm_ (a' := ?_) ?_ ?_
  rotate_left
  · show Act.put _ (some 17) _ = _
    simp only [Act.put, List.setIfInBounds_toArray, List.set_cons_zero, List.set_cons_succ, i64_w, i32_w]
    rfl
  refine one_ (i := 8) (N := some 18) #[true, true, true, true, true, true, true, true, true, false, false, false, false, false, false, false] rfl rfl (by kernel_rfl) (by decide) (fun K hK => ?_)
  refine goes_ Try.func27 (by kernel_rfl) rfl #[.slice A11 ln.length k11] ?hw rfl rfl ?hx ?_
  (case hw => rfl)
  (case hx => (try simp only [List.map_toArray, List.map_cons, List.map_nil]); first | done | rfl)
  refine (admit_pairs.calls (ln.length + 1) A11 k11 ln (prs ln) _ D11.out C11.out HPF.out).mono ?_
  rintro e w12 ⟨v12, rfl, h12, b12⟩
  obtain ⟨A12, k12, rfl⟩ := Kd.R_slice h12
  have D12 := Aside0.mk (Kd.R_reads' h12)
  have B12 := Aside0.mk (Below.trans B11.out (Below.mono b12 (Below.size B11.out)))
  have V12 := Aside0.mk (St.below (s := row 24 k24) V11.out b12)
  have T12 := Aside0.mk (T11.out.below b12)
  clear h12 b12
  refine ⟨_, rfl, ?_⟩
  have hHeld := (show _ = some (Value.int IntKind.i64 m) from blk_cell ((B12.out.block g HG.out).trans HBK.out) 0)
  refine hK.out _ _ hHeld (fun hHeld => ?_)
  clear hK K
  refine norm_ (a' := ?_) ?_ ?_
  rotate_left
  · show Act.put _ (some 18) _ = _
    simp only [Act.put, List.setIfInBounds_toArray, List.set_cons_zero, List.set_cons_succ, i64_w, i32_w]
    rfl
  refine one_ (i := 9) (N := some 19) #[true, true, true, true, true, true, true, true, true, true, false, false, false, false, false, false] rfl rfl (by kernel_rfl) (by decide) (fun K hK => ?_)
  refine app_step (e := 24) (c := c) (w0 := w0) (d := k24) (i := j) (by rfl) (.tmp 14) (.tmp 18) 51 (.agg #[.int .i64 0, .int .i64 0]) 16 rfl Try.underlying51 info_pair rfl (by decide) (by decide) flat24 (.slice A0 ps.length k0) ps (prs ln) _ _ _ rfl rfl V12.out D12.out.2.2 ?hs13 (by have := HLS.out; rw [prs_len]; omega) ?_
  (case hs13 => exact Below.size B12.out)
  intro v13 w13 c13 h13 t13
  obtain ⟨A13, k13, rfl, e13, f13⟩ := row_reads h13
  have D13 := Aside0.mk f13
  have E13 := Aside0.mk e13
  have B13 := Aside0.mk (t13.far B12.out)
  have T13 := Aside0.mk (T12.out.step t13 (by simp))
  clear h13 t13 e13 f13
  have hHeld := (show _ = some (Value.int IntKind.i64 m) from blk_cell ((B13.out.block g HG.out).trans HBK.out) 0)
  refine hK.out _ _ hHeld (fun hHeld => ?_)
  clear hK K
  refine norm_ (a' := ?_) ?_ ?_
  rotate_left
  · show Act.put _ (some 19) _ = _
    simp only [Act.put, List.setIfInBounds_toArray, List.set_cons_zero, List.set_cons_succ, i64_w, i32_w]
    rfl
  refine one_ (i := 10) (N := some 20) #[true, true, true, true, true, true, true, true, true, true, true, false, false, false, false, false] rfl rfl (by kernel_rfl) (by decide) (fun K hK => ?_)
  refine goes_ Try.func21 (by kernel_rfl) rfl #[.int .i64 m, .slice A13 (ps ++ prs ln).length k13] ?hw rfl rfl ?hx ?_
  (case hw => rfl)
  (case hx => (try simp only [List.map_toArray, List.map_cons, List.map_nil]); first | done | rfl)
  refine (win_All.calls 140 m A13 k13 (ps ++ prs ln) r1 r2 _ D13.out E13.out HAF.out).mono ?_
  rintro e w14 ⟨rfl, b14⟩
  have B14 := Aside0.mk (Below.trans B13.out (Below.mono b14 (Below.size B13.out)))
  have T14 := Aside0.mk (T13.out.below b14)
  clear b14
  refine ⟨_, rfl, ?_⟩
  have hHeld := (show _ = some (Value.int IntKind.i64 m) from blk_cell ((B14.out.block g HG.out).trans HBK.out) 0)
  refine hK.out _ _ hHeld (fun hHeld => ?_)
  clear hK K
  refine norm_ (a' := ?_) ?_ ?_
  rotate_left
  · show Act.put _ (some 20) _ = _
    simp only [Act.put, List.setIfInBounds_toArray, List.set_cons_zero, List.set_cons_succ, i64_w, i32_w]
    rfl
  refine pure_ (i := 11) (N := some 9) (v := ?_) (a' := ?_) #[true, true, true, true, true, true, true, true, true, true, true, true, false, false, false, false] rfl rfl (by kernel_rfl) (fun _ _ _ h => h) (Or.inl ⟨by rfl, ?_⟩) ?_ ?_
  rotate_left
  · intro w'
    go_simp
    with_reducible rfl
  rotate_left
  · simp only [Act.put, List.setIfInBounds_toArray, List.set_cons_zero, List.set_cons_succ, i64_w, i32_w]
    rfl
  refine pure_ (i := 12) (N := some 21) (v := ?_) (a' := ?_) #[true, true, true, true, true, true, true, true, true, true, true, true, true, false, false, false] rfl rfl (by kernel_rfl) (fun _ _ _ h => h) (Or.inl ⟨by rfl, ?_⟩) ?_ ?_
  rotate_left
  · intro w'
    go_simp
    with_reducible rfl
  rotate_left
  · simp only [Act.put, List.setIfInBounds_toArray, List.set_cons_zero, List.set_cons_succ, i64_w, i32_w]
    rfl
  refine pure_ (i := 13) (N := some 22) (v := ?_) (a' := ?_) #[true, true, true, true, true, true, true, true, true, true, true, true, true, true, false, false] rfl rfl (by kernel_rfl) (fun _ _ _ h => h) (Or.inl ⟨by rfl, ?_⟩) ?_ ?_
  rotate_left
  · intro w'
    go_simp
    with_reducible rfl
  rotate_left
  · simp only [Act.put, List.setIfInBounds_toArray, List.set_cons_zero, List.set_cons_succ, i64_w, i32_w]
    rfl
  refine pure_ (i := 14) (N := some 7) (v := ?_) (a' := ?_) #[true, true, true, true, true, true, true, true, true, true, true, true, true, true, true, false] rfl rfl (by kernel_rfl) (fun _ _ _ h => h) (Or.inl ⟨by rfl, ?_⟩) ?_ ?_
  rotate_left
  · intro w'
    go_simp
    with_reducible rfl
  rotate_left
  · simp only [Act.put, List.setIfInBounds_toArray, List.set_cons_zero, List.set_cons_succ, i64_w, i32_w]
    rfl
  refine pure_ (i := 15) (N := some 8) (v := ?_) (a' := ?_) #[true, true, true, true, true, true, true, true, true, true, true, true, true, true, true, true] rfl rfl (by kernel_rfl) (fun _ _ _ h => h) (Or.inl ⟨by rfl, ?_⟩) ?_ ?_
  rotate_left
  · intro w'
    go_simp
    with_reducible rfl
  rotate_left
  · simp only [Act.put, List.setIfInBounds_toArray, List.set_cons_zero, List.set_cons_succ, i64_w, i32_w]
    rfl
  refine done_ (by kernel_rfl) ?_
  cases r1 with
  | false =>
    go_wp2
    go_ret
    exact ⟨by rw [HFB.out]; rfl, c13, T14.out⟩
  | true =>
    obtain ⟨b2, hb2⟩ : ∃ b2, (r2 == 0) = b2 := ⟨_, rfl⟩
    have HB2 := Aside0.mk hb2
    go_wp2
    go_ret
    exact ⟨by rw [HFB.out]; simp [HB2.out], c13, T14.out⟩
end Go.Proofs.Ytmjodeijafoabaa.Admit
