/- Several texts in one (no law is stated here; each says its conditions). -/
import Derived.Test.YtmjodeijafoabaaSt
import Derived.Test.YtmjodeijafoabaaReg
import Derived.Test.YtmjodeijafoabaaQt
import Derived.Test.YtmjodeijafoabaaAdF
import Derived.StillTailTactics
import Derived.Deep.CutBlock
import Derived.Deep.CutRange
/- Admit: whether pairs fit, who may come in (no law is stated here; each says its conditions). -/
namespace Go.Proofs.Ytmjodeijafoabaa.Admit
open Go.RowKit Go.Proofs.YtmjodeijafoabaaW.PrintWords Go.Proofs.YtmjodeijafoabaaW.PrintLast Go.Proofs.YtmjodeijafoabaaW.PrintMore Go.Proofs.Ytmjodeijafoabaa.St Go.Proofs.Ytmjodeijafoabaa.Q Go.Proofs.Ytmjodeijafoabaa.Pure
set_option linter.unusedVariables false
set_option linter.unusedSimpArgs false
attribute [local go_sem] max2_int min2_int max_two min_two max_three min_three max_four min_four
theorem info_pair : (Try.prog.info? 24).map (fun i => (i.zero, i.size, i.bytes)) = some (some (.agg #[.int .i64 0, .int .i64 0]), k24.sz, 16) := by kernel_rfl
set_option maxHeartbeats 4000000 in
set_option maxRecDepth 100000 in
theorem fits_calls {w0 W : World} {c : Nat → Nat} {j g : Nat} {m : Int} {sv1 : Value} {A2 A0 : Option Addr} {k2 k0 : Nat} {l2 : List S37} {ps : List S24} (now : Int) (hb : w0.heap[g]? = some (.cells #[.int .i64 m, sv1, .slice A2 l2.length k2] 55 (0, 0))) (hr : k37.C w0 A2 l2.length l2) (hl : l2.length ≤ 1000)
    (hB : Below w0.heap.size w0 W) (hv : (row 24 k24).M W w0.heap.size (fun k => c k = j) ps (.slice A0 ps.length k0)) (hp : ps.length ≤ 1000) (hm : 1 ≤ m ∧ m ≤ 64) (hok : Okl (ps ++ prs (ling now l2))) :
    Calls Try.prog 26 #[.pointer (some ⟨g, 0, none⟩), .slice A0 ps.length k0, .int .i64 now] W fun e w' => e = .returned (.bool (fitB m (ps ++ prs (ling now l2)))) ∧ ∃ c', TurnedL c c' [j] w0 W w' := by
  have HBK := Aside0.mk hb
  have HG := Aside0.mk (blk_lt hb)
  have HR := Aside0.mk hr
  have HL := Aside0.mk hl
  have HB := Aside0.mk hB
  have HV := Aside0.mk hv
  obtain ⟨ln, hln⟩ : ∃ ln, ling now l2 = ln := ⟨_, rfl⟩
  have HLN := Aside0.mk hln
  have hll : ln.length ≤ 1000 := by rw [← hln]; have := ling_le now l2; omega
  have HLS := Aside0.mk (show ps.length ≤ 1000 ∧ ln.length ≤ 1000 from ⟨hp, hll⟩)
  have HPF := Aside0.mk (pairs_f ln (by omega))
  rw [hln] at hok ⊢
  obtain ⟨r1, r2, hr12⟩ : ∃ r1 r2, allR m (ps ++ prs ln) = (r1, r2) := ⟨_, _, rfl⟩
  have HAF := Aside0.mk (show win_All.f 140 m (ps ++ prs ln) = some (r1, r2) from by rw [allR_f hm hok, hr12])
  have HFB := Aside0.mk (show fitB m (ps ++ prs ln) = (r1 && (r2 == 0)) from by unfold fitB; rw [hr12])
  clear hb hr hl hB hv hln hll hok hr12
  go_enter Try.func26, Try.ntmps26
  go_upto_region 1 with (fail)
  obtain ⟨w10, hw10⟩ : ∃ w10 : World, W.drew = w10 := ⟨_, rfl⟩
  have hb10 : Below W.heap.size W w10 := by rw [← hw10]; exact below_drew (Below.refl _ _)
  have B10 := Aside0.mk (Below.trans HB.out (Below.mono hb10 (Below.size HB.out)))
  have V10 := Aside0.mk (St.below (s := row 24 k24) HV.out hb10)
  have T10 := Aside0.mk ((TurnedL.refl c [j] w0 W).below hb10)
  clear hb10
  refine start_ (n := 16) (S := fun w' => w'.cell? ⟨g, 0, none⟩ = some (.int .i64 m)) (ds := []) #[false, false, false, false, false, false, false, false, false, false, false, false, false, false, false, false] (by kernel_rfl) rfl rfl (by rw [hw10]; exact blk_cell ((B10.out.block g HG.out).trans HBK.out) 0) (fun hHeld => ?_)
  refine pure_ (i := 0) (N := some 10) (v := ?_) (a' := ?_) #[true, false, false, false, false, false, false, false, false, false, false, false, false, false, false, false] rfl rfl (by kernel_rfl) (fun _ _ _ h => h) (Or.inl ⟨by rfl, ?_⟩) ?_ ?_
  rotate_left
  · intro w'
    go_simp
    with_reducible rfl
  rotate_left
  · simp only [Act.put, List.setIfInBounds_toArray, List.set_cons_zero, List.set_cons_succ, i64_w, i32_w]
    rfl
  refine pure_ (i := 1) (N := some 11) (v := ?_) (a' := ?_) #[true, true, false, false, false, false, false, false, false, false, false, false, false, false, false, false] rfl rfl (by kernel_rfl) (fun _ _ _ h => h) (Or.inl ⟨by rfl, ?_⟩) ?_ ?_
  rotate_left
  · intro w'
    go_simp
    with_reducible rfl
  rotate_left
  · simp only [Act.put, List.setIfInBounds_toArray, List.set_cons_zero, List.set_cons_succ, i64_w, i32_w]
    rfl
  refine pure_ (i := 2) (N := some 12) (v := ?_) (a' := ?_) #[true, true, true, false, false, false, false, false, false, false, false, false, false, false, false, false] rfl rfl (by kernel_rfl) (fun _ _ _ h => h) (Or.inl ⟨by rfl, ?_⟩) ?_ ?_
  rotate_left
  · intro w'
    go_simp
    with_reducible rfl
  rotate_left
  · simp only [Act.put, List.setIfInBounds_toArray, List.set_cons_zero, List.set_cons_succ, i64_w, i32_w]
    rfl
  refine take_ (i := 3) (N := some 13) (v := ?_) (a' := ?_) #[true, true, true, true, false, false, false, false, false, false, false, false, false, false, false, false] rfl rfl (by kernel_rfl) (fun _ _ _ h => h) (Or.inl ⟨by rfl, ?_⟩) hHeld ?_ ?_
  rotate_left
  · intro w' hS_
    obtain s0_ := hS_
    go_simp
    with_reducible rfl
  rotate_left
  · simp only [Act.put, List.setIfInBounds_toArray, List.set_cons_zero, List.set_cons_succ, i64_w, i32_w]
    rfl
  refine pure_ (i := 4) (N := some 14) (v := ?_) (a' := ?_) #[true, true, true, true, true, false, false, false, false, false, false, false, false, false, false, false] rfl rfl (by kernel_rfl) (fun _ _ _ h => h) (Or.inl ⟨by rfl, ?_⟩) ?_ ?_
  rotate_left
  · intro w'
    go_simp
    with_reducible rfl
  rotate_left
  · simp only [Act.put, List.setIfInBounds_toArray, List.set_cons_zero, List.set_cons_succ, i64_w, i32_w]
    rfl
  refine pure_ (i := 5) (N := some 15) (v := ?_) (a' := ?_) #[true, true, true, true, true, true, false, false, false, false, false, false, false, false, false, false] rfl rfl (by kernel_rfl) (fun _ _ _ h => h) (Or.inl ⟨by rfl, ?_⟩) ?_ ?_
  rotate_left
  · intro w'
    go_simp
    with_reducible rfl
  rotate_left
  · simp only [Act.put, List.setIfInBounds_toArray, List.set_cons_zero, List.set_cons_succ, i64_w, i32_w]
    rfl
  refine pure_ (i := 6) (N := some 16) (v := ?_) (a' := ?_) #[true, true, true, true, true, true, true, false, false, false, false, false, false, false, false, false] rfl rfl (by kernel_rfl) (fun _ _ _ h => h) (Or.inl ⟨by rfl, ?_⟩) ?_ ?_
  rotate_left
  · intro w'
    go_simp
    with_reducible rfl
  rotate_left
  · simp only [Act.put, List.setIfInBounds_toArray, List.set_cons_zero, List.set_cons_succ, i64_w, i32_w]
    rfl
  refine one_ (i := 7) (N := some 17) #[true, true, true, true, true, true, true, true, false, false, false, false, false, false, false, false] rfl rfl (by kernel_rfl) (by decide) (fun K hK => ?_)
  refine goes_ Try.func13 (by kernel_rfl) rfl #[.pointer (some ⟨g, 0, none⟩), .int .i64 now] ?hw rfl rfl ?hx ?_
  (case hw => rfl)
  (case hx => (try simp only [List.map_toArray, List.map_cons, List.map_nil]); first | done | rfl)
  rw [hw10]
  refine (lingers_calls (g := g) (c0 := .int .i64 m) (c1 := sv1) (A2 := A2) (k2 := k2) (l := l2) now ((B10.out.block g HG.out).trans HBK.out) (Kd.C_below HR.out B10.out) HL.out).mono ?_
  rintro e w11 ⟨v11, rfl, h11, b11⟩
  obtain ⟨A11, k11, rfl, c11, d11⟩ := row_reads h11
  rw [HLN.out] at c11 d11 ⊢
  have B11 := Aside0.mk (Below.trans B10.out (Below.mono b11 (Below.size B10.out)))
  have V11 := Aside0.mk (St.below (s := row 24 k24) V10.out b11)
  have T11 := Aside0.mk (T10.out.below b11)
  have D11 := Aside0.mk d11
  have C11 := Aside0.mk c11
  clear h11 b11 c11 d11
  refine ⟨_, rfl, ?_⟩
  have hHeld := (show _ = some (Value.int IntKind.i64 m) from blk_cell ((B11.out.block g HG.out).trans HBK.out) 0)
  refine hK.out _ _ hHeld (fun hHeld => ?_)
  clear hK K
  refine norm_ (a' := ?_) ?_ ?_
  rotate_left
  · show Act.put _ (some 17) _ = _
    simp only [Act.put, List.setIfInBounds_toArray, List.set_cons_zero, List.set_cons_succ, i64_w, i32_w]
    rfl
  refine one_ (i := 8) (N := some 18) #[true, true, true, true, true, true, true, true, true, false, false, false, false, false, false, false] rfl rfl (by kernel_rfl) (by decide) (fun K hK => ?_)
  refine goes_ Try.func27 (by kernel_rfl) rfl #[.slice A11 ln.length k11] ?hw rfl rfl ?hx ?_
  (case hw => rfl)
  (case hx => (try simp only [List.map_toArray, List.map_cons, List.map_nil]); first | done | rfl)
  refine (admit_pairs.calls (ln.length + 1) A11 k11 ln (prs ln) _ D11.out C11.out HPF.out).mono ?_
  rintro e w12 ⟨v12, rfl, h12, b12⟩
  obtain ⟨A12, k12, rfl⟩ := Kd.R_slice h12
  have D12 := Aside0.mk (Kd.R_reads' h12)
  have B12 := Aside0.mk (Below.trans B11.out (Below.mono b12 (Below.size B11.out)))
  have V12 := Aside0.mk (St.below (s := row 24 k24) V11.out b12)
  have T12 := Aside0.mk (T11.out.below b12)
  clear h12 b12
  refine ⟨_, rfl, ?_⟩
  have hHeld := (show _ = some (Value.int IntKind.i64 m) from blk_cell ((B12.out.block g HG.out).trans HBK.out) 0)
  refine hK.out _ _ hHeld (fun hHeld => ?_)
  clear hK K
  refine norm_ (a' := ?_) ?_ ?_
  rotate_left
  · show Act.put _ (some 18) _ = _
    simp only [Act.put, List.setIfInBounds_toArray, List.set_cons_zero, List.set_cons_succ, i64_w, i32_w]
    rfl
  refine one_ (i := 9) (N := some 19) #[true, true, true, true, true, true, true, true, true, true, false, false, false, false, false, false] rfl rfl (by kernel_rfl) (by decide) (fun K hK => ?_)
  refine app_step (e := 24) (c := c) (w0 := w0) (d := k24) (i := j) (by rfl) (.tmp 14) (.tmp 18) 51 (.agg #[.int .i64 0, .int .i64 0]) 16 rfl Try.underlying51 info_pair rfl (by decide) (by decide) flat24 (.slice A0 ps.length k0) ps (prs ln) _ _ _ rfl rfl V12.out D12.out.2.2 ?hs13 (by have := HLS.out; rw [prs_len]; omega) ?_
  (case hs13 => exact Below.size B12.out)
  intro v13 w13 c13 h13 t13
  obtain ⟨A13, k13, rfl, e13, f13⟩ := row_reads h13
  have D13 := Aside0.mk f13
  have E13 := Aside0.mk e13
  have B13 := Aside0.mk (t13.far B12.out)
  have T13 := Aside0.mk (T12.out.step t13 (by simp))
  clear h13 t13 e13 f13
  have hHeld := (show _ = some (Value.int IntKind.i64 m) from blk_cell ((B13.out.block g HG.out).trans HBK.out) 0)
  refine hK.out _ _ hHeld (fun hHeld => ?_)
  clear hK K
  refine norm_ (a' := ?_) ?_ ?_
  rotate_left
  · show Act.put _ (some 19) _ = _
    simp only [Act.put, List.setIfInBounds_toArray, List.set_cons_zero, List.set_cons_succ, i64_w, i32_w]
    rfl
  refine one_ (i := 10) (N := some 20) #[true, true, true, true, true, true, true, true, true, true, true, false, false, false, false, false] rfl rfl (by kernel_rfl) (by decide) (fun K hK => ?_)
  refine goes_ Try.func21 (by kernel_rfl) rfl #[.int .i64 m, .slice A13 (ps ++ prs ln).length k13] ?hw rfl rfl ?hx ?_
  (case hw => rfl)
  (case hx => (try simp only [List.map_toArray, List.map_cons, List.map_nil]); first | done | rfl)
  refine (win_All.calls 140 m A13 k13 (ps ++ prs ln) r1 r2 _ D13.out E13.out HAF.out).mono ?_
  rintro e w14 ⟨rfl, b14⟩
  have B14 := Aside0.mk (Below.trans B13.out (Below.mono b14 (Below.size B13.out)))
  have T14 := Aside0.mk (T13.out.below b14)
  clear b14
  refine ⟨_, rfl, ?_⟩
  have hHeld := (show _ = some (Value.int IntKind.i64 m) from blk_cell ((B14.out.block g HG.out).trans HBK.out) 0)
  refine hK.out _ _ hHeld (fun hHeld => ?_)
  clear hK K
  refine norm_ (a' := ?_) ?_ ?_
  rotate_left
  · show Act.put _ (some 20) _ = _
    simp only [Act.put, List.setIfInBounds_toArray, List.set_cons_zero, List.set_cons_succ, i64_w, i32_w]
    rfl
  refine pure_ (i := 11) (N := some 9) (v := ?_) (a' := ?_) #[true, true, true, true, true, true, true, true, true, true, true, true, false, false, false, false] rfl rfl (by kernel_rfl) (fun _ _ _ h => h) (Or.inl ⟨by rfl, ?_⟩) ?_ ?_
  rotate_left
  · intro w'
    go_simp
    with_reducible rfl
  rotate_left
  · simp only [Act.put, List.setIfInBounds_toArray, List.set_cons_zero, List.set_cons_succ, i64_w, i32_w]
    rfl
  refine pure_ (i := 12) (N := some 21) (v := ?_) (a' := ?_) #[true, true, true, true, true, true, true, true, true, true, true, true, true, false, false, false] rfl rfl (by kernel_rfl) (fun _ _ _ h => h) (Or.inl ⟨by rfl, ?_⟩) ?_ ?_
  rotate_left
  · intro w'
    go_simp
    with_reducible rfl
  rotate_left
  · simp only [Act.put, List.setIfInBounds_toArray, List.set_cons_zero, List.set_cons_succ, i64_w, i32_w]
    rfl
  refine pure_ (i := 13) (N := some 22) (v := ?_) (a' := ?_) #[true, true, true, true, true, true, true, true, true, true, true, true, true, true, false, false] rfl rfl (by kernel_rfl) (fun _ _ _ h => h) (Or.inl ⟨by rfl, ?_⟩) ?_ ?_
  rotate_left
  · intro w'
    go_simp
    with_reducible rfl
  rotate_left
  · simp only [Act.put, List.setIfInBounds_toArray, List.set_cons_zero, List.set_cons_succ, i64_w, i32_w]
    rfl
  refine pure_ (i := 14) (N := some 7) (v := ?_) (a' := ?_) #[true, true, true, true, true, true, true, true, true, true, true, true, true, true, true, false] rfl rfl (by kernel_rfl) (fun _ _ _ h => h) (Or.inl ⟨by rfl, ?_⟩) ?_ ?_
  rotate_left
  · intro w'
    go_simp
    with_reducible rfl
  rotate_left
  · simp only [Act.put, List.setIfInBounds_toArray, List.set_cons_zero, List.set_cons_succ, i64_w, i32_w]
    rfl
  refine pure_ (i := 15) (N := some 8) (v := ?_) (a' := ?_) #[true, true, true, true, true, true, true, true, true, true, true, true, true, true, true, true] rfl rfl (by kernel_rfl) (fun _ _ _ h => h) (Or.inl ⟨by rfl, ?_⟩) ?_ ?_
  rotate_left
  · intro w'
    go_simp
    with_reducible rfl
  rotate_left
  · simp only [Act.put, List.setIfInBounds_toArray, List.set_cons_zero, List.set_cons_succ, i64_w, i32_w]
    rfl
  refine done_ (by kernel_rfl) ?_
  cases r1 with
  | false =>
    go_wp2
    go_ret
    exact ⟨by rw [HFB.out]; rfl, c13, T14.out⟩
  | true =>
    obtain ⟨b2, hb2⟩ : ∃ b2, (r2 == 0) = b2 := ⟨_, rfl⟩
    have HB2 := Aside0.mk hb2
    go_wp2
    go_ret
    exact ⟨by rw [HFB.out]; simp [HB2.out], c13, T14.out⟩
end Go.Proofs.Ytmjodeijafoabaa.Admit

/- Admit: whether pairs fit, who may come in (no law is stated here; each says its conditions). -/
namespace Go.Proofs.Ytmjodeijafoabaa.Admit
open Go.RowKit Go.Proofs.YtmjodeijafoabaaW.PrintWords Go.Proofs.YtmjodeijafoabaaW.PrintLast Go.Proofs.YtmjodeijafoabaaW.PrintMore Go.Proofs.Ytmjodeijafoabaa.St Go.Proofs.Ytmjodeijafoabaa.Q Go.Proofs.Ytmjodeijafoabaa.Pure
set_option linter.unusedVariables false
set_option linter.unusedSimpArgs false
attribute [local go_sem] max2_int min2_int max_two min_two max_three min_three max_four min_four

/-- A block that holds something. -/
def blk : St Obj where
  M := fun w b ok o v => ∃ g : Nat, v = .pointer (some ⟨g, 0, none⟩) ∧ ok g ∧ b ≤ g ∧ g < w.heap.size ∧ w.heap[g]? = some o
  mono := fun h ⟨g, e1, e2, e3, e4, e5⟩ => ⟨g, e1, h g e2, e3, e4, e5⟩
  move := fun h ⟨g, e1, e2, e3, e4, e5⟩ => ⟨g, e1, e2, e3, size_same (h g e2) e4, (h g e2).trans e5⟩
  bound := fun ⟨g, e1, e2, e3, e4, e5⟩ => ⟨g, e1, ⟨e2, e3, e4⟩, e3, e4, e5⟩
theorem blk_new1 {w0 W W1 : World} (c : Nat → Nat) (i : Nat) {o : Obj} {g : Nat} (hg : W.heap.size ≤ g) (hX : W1.heap[g]? = some o) (hb : Below W.heap.size W W1) (hs : w0.heap.size ≤ W.heap.size) : ∃ c', blk.M W1 w0.heap.size (fun k => c' k = i) o (.pointer (some ⟨g, 0, none⟩)) ∧ Turned c c' i w0 W W1 :=
  turned_new (s := blk) ⟨g, rfl, hg, hg, (Array.getElem?_eq_some_iff.1 hX).1, hX⟩ hb hs (fun ⟨g2, e1, e2, e3, e4, e5⟩ => ⟨g2, e1, e2, Nat.le_trans hs e3, e4, e5⟩)
theorem blk_at {w0 W : World} {c : Nat → Nat} {i : Nat} {o : Obj} {g : Nat} (h : blk.M W w0.heap.size (fun k => c k = i) o (.pointer (some ⟨g, 0, none⟩))) : W.heap[g]? = some o := by
  obtain ⟨g2, e1, _, _, _, e5⟩ := h
  injection e1 with e1
  injection e1 with e1
  injection e1 with e1
  subst e1
  exact e5
/-- A row that a printed contract hands back takes a colour. -/
theorem row_got {w0 W W1 : World} {α : Type} {d : Kd α} {e : Nat} (c : Nat → Nat) (i : Nat) {xs : List α} {v : Value} (h : d.R e W1 W.heap.size (fun _ => True) v xs) (hb : Below W.heap.size W W1) (hs : w0.heap.size ≤ W.heap.size) : ∃ c', (row e d).M W1 w0.heap.size (fun k => c' k = i) xs v ∧ Turned c c' i w0 W W1 :=
  row_new c i (Kd.R_lower (Kd.R_mono (Kd.R_bound h) (fun k hk => hk.2.1)) hs) hb hs
/-- What Ask answers. -/
def askV (m : Int) (live out : List S37) (q p now : Int) : Int :=
  if goodP q p = false ∨ now < 0 then 1 else if 32 ≤ live.length ∨ 63 ≤ live.length + (ling now out).length then 3 else if fitB m (prs live ++ [⟨q, p⟩] ++ prs (ling now out)) = true then 0 else 7
theorem okl_all {l1 l2 : List S37} {q p now : Int} (h1 : Okl (prs l1)) (h : okv q p) (h2 : Okl (prs l2)) : Okl (prs l1 ++ [⟨q, p⟩] ++ prs (ling now l2)) := by
  intro x hx
  rcases List.mem_append.1 hx with hx | hx
  · rcases List.mem_append.1 hx with hx | hx
    · exact h1 x hx
    · rw [List.mem_singleton.1 hx]; exact h
  · obtain ⟨y, hy, rfl⟩ := List.mem_map.1 hx
    exact h2 _ (List.mem_map.2 ⟨y, (List.mem_filter.1 hy).1, rfl⟩)
theorem reps_one (w : World) (b : Nat) (q p : Int) : Reps (k24.M w b (fun _ => False)) k24.sz [⟨q, p⟩] [.int .i64 q, .int .i64 p] := by
  refine ⟨rfl, fun i x hx => ?_⟩
  cases i with
  | zero =>
    cases hx
    exact k24_mkM w b _ ⟨q, p⟩
  | succ i => simp at hx
set_option maxHeartbeats 8000000 in
set_option maxRecDepth 100000 in
theorem ask_calls {W : World} {g : Nat} {m : Int} {A1 A2 : Option Addr} {k1 k2 : Nat} {l1 l2 : List S37} (q p now : Int) (hb : W.heap[g]? = some (.cells #[.int .i64 m, .slice A1 l1.length k1, .slice A2 l2.length k2] 55 (0, 0))) (hr1 : k37.C W A1 l1.length l1) (hk1 : l1.length ≤ k1) (hr2 : k37.C W A2 l2.length l2)
    (hl1 : l1.length ≤ 500) (hl2 : l2.length ≤ 1000) (hm : 1 ≤ m ∧ m ≤ 64) (hok1 : Okl (prs l1)) (hok2 : Okl (prs l2)) :
    Calls Try.prog 12 #[.pointer (some ⟨g, 0, none⟩), .agg #[.int .i64 q, .int .i64 p], .int .i64 now] W fun e w' => e = .returned (.int .i64 (askV m l1 l2 q p now)) ∧ Below W.heap.size W w' := by
  have HBK := Aside0.mk hb
  have HG := Aside0.mk (blk_lt hb)
  have HR1 := Aside0.mk hr1
  have HK1 := Aside0.mk hk1
  have HR2 := Aside0.mk hr2
  have HL := Aside0.mk (show l1.length ≤ 500 ∧ l2.length ≤ 1000 from ⟨hl1, hl2⟩)
  have HM := Aside0.mk hm
  have HPF := Aside0.mk (pairs_f l1 (by omega))
  obtain ⟨ln, hln⟩ : ∃ ln, ling now l2 = ln := ⟨_, rfl⟩
  have HLN := Aside0.mk hln
  have hll : ln.length ≤ 1000 := by rw [← hln]; have := ling_le now l2; omega
  obtain ⟨gb, hgb⟩ : ∃ gb, goodP q p = gb := ⟨_, rfl⟩
  have GB := Aside0.mk hgb
  have HKO := Aside0.mk (show gb = true → Okl (prs l1 ++ [⟨q, p⟩] ++ prs (ling now l2)) from fun h => okl_all hok1 (good_ok (hgb.trans h)) hok2)
  obtain ⟨av, hav⟩ : ∃ av, askV m l1 l2 q p now = av := ⟨_, rfl⟩
  have HAV := Aside0.mk hav
  rw [hav]
  clear hb hr1 hk1 hr2 hm hok1 hok2 hln hgb hav
  have hl1' : l1.length ≤ 500 := hl1
  clear hl1 hl2
  go_enter Try.func12, Try.ntmps12
  go_upto_region 1 with (fail)
  have hbx : Below W.heap.size W (W.alloc (.cells #[.int .i64 q, .int .i64 p] 24)) := below_alloc (Below.refl _ _) _
  have hX : (W.alloc (.cells #[.int .i64 q, .int .i64 p] 24)).heap[W.heap.size]? = some (.cells #[.int .i64 q, .int .i64 p] 24 (0, 0)) := by simpa using heap_alloc_new W _
  obtain ⟨c1, h1, t1⟩ := blk_new1 (w0 := W) (fun _ => 9) 3 (Nat.le_refl _) hX hbx (Nat.le_refl _)
  have HX1 := Aside0.mk h1
  have B1 := Aside0.mk hbx
  clear h1 t1 hX hbx
  generalize W.alloc (.cells #[.int .i64 q, .int .i64 p] 24) = w1 at HX1 B1 ⊢
  cases gb with
  | false =>
    have HV := Aside0.mk (show av = 1 from by rw [← HAV.out]; unfold askV; rw [if_pos (Or.inl GB.out)])
    have y0 := blk_cell (blk_at HX1.out) 0
    have y1 := blk_cell (blk_at HX1.out) 1
    go_wp2_with (first | (go_at_call 22; (with_reducible refine (win_Good.calls q p _ _ (good_f q p)).mono ?_); rintro e w2 ⟨rfl, hb2⟩; rw [GB.out]; have HX2 := Aside0.mk (St.below (s := blk) HX1.out hb2); have B2 := Aside0.mk (Below.trans B1.out (Below.mono hb2 (Below.size B1.out))); clear hb2 y0 y1))
    go_ret
    exact ⟨by rw [HV.out]; rfl, B2.out⟩
  | true =>
    by_cases hn : now < 0
    · have pn : decide (now < 0) = true := decide_eq_true hn
      have HV := Aside0.mk (show av = 1 from by rw [← HAV.out]; unfold askV; rw [if_pos (Or.inr hn)])
      clear hn
      have y0 := blk_cell (blk_at HX1.out) 0
      have y1 := blk_cell (blk_at HX1.out) 1
      go_wp2_with (first | (go_at_call 22; (with_reducible refine (win_Good.calls q p _ _ (good_f q p)).mono ?_); rintro e w2 ⟨rfl, hb2⟩; rw [GB.out]; have HX2 := Aside0.mk (St.below (s := blk) HX1.out hb2); have B2 := Aside0.mk (Below.trans B1.out (Below.mono hb2 (Below.size B1.out))); clear hb2 y0 y1))
      go_ret
      exact ⟨by rw [HV.out]; rfl, B2.out⟩
    have pn : decide (now < 0) = false := decide_eq_false hn
    have HA2 := Aside0.mk (show av = if 32 ≤ l1.length ∨ 63 ≤ l1.length + ln.length then 3 else if fitB m (prs l1 ++ [⟨q, p⟩] ++ prs ln) = true then 0 else 7 from by
      rw [← HAV.out]; unfold askV; rw [if_neg (by rintro (h | h); rw [GB.out] at h; cases h; exact hn h), HLN.out])
    have HOK := Aside0.mk (HKO.out rfl)
    clear hn HKO
    by_cases h32 : 32 ≤ l1.length
    · have d32 : decide ((32 : Int) ≤ (l1.length : Int)) = true := decide_eq_true (by omega)
      have d32n : decide (32 ≤ l1.length) = true := decide_eq_true h32
      have HV := Aside0.mk (show av = 3 from by rw [HA2.out, if_pos (Or.inl h32)])
      clear h32
      have y0 := blk_cell (blk_at HX1.out) 0
      have y1 := blk_cell (blk_at HX1.out) 1
      go_upto_region 3 with (first | (go_at_call 22; (with_reducible refine (win_Good.calls q p _ _ (good_f q p)).mono ?_); rintro e w2 ⟨rfl, hb2⟩; rw [GB.out]; have HX2 := Aside0.mk (St.below (s := blk) HX1.out hb2); have B2 := Aside0.mk (Below.trans B1.out (Below.mono hb2 (Below.size B1.out))); clear hb2 y0 y1))
      refine q_start (by kernel_rfl) (by kernel_rfl) (fun w' => Below w2.heap.size w2 w') (below_drew (Below.refl _ _)) ?_
      refine q_op (v := ?_) (a' := ?_) ?hw1 ?_ ?_ ?_
      case hw1 => rfl
      rotate_left
      rotate_left
      · intro w' hC_
        go_simp
        with_reducible rfl
      · show Act.put _ (some 16) _ = _
        simp only [Act.put, List.setIfInBounds_toArray, List.set_cons_zero, List.set_cons_succ, i64_w, i32_w]
        rfl
      refine q_op (v := ?_) (a' := ?_) ?hw1 ?_ ?_ ?_
      case hw1 => rfl
      rotate_left
      rotate_left
      · intro w' hC_
        go_simp
        with_reducible rfl
      · show Act.put _ (some 17) _ = _
        simp only [Act.put, List.setIfInBounds_toArray, List.set_cons_zero, List.set_cons_succ, i64_w, i32_w]
        rfl
      refine q_op (v := ?_) (a' := ?_) ?hw1 ?_ ?_ ?_
      case hw1 => rfl
      rotate_left
      rotate_left
      · intro w' hC_
        go_simp
        with_reducible rfl
      · show Act.put _ (some 18) _ = _
        simp only [Act.put, List.setIfInBounds_toArray, List.set_cons_zero, List.set_cons_succ, i64_w, i32_w]
        rfl
      refine q_op (v := ?_) (a' := ?_) ?hw1 ?_ ?_ ?_
      case hw1 => rfl
      rotate_left
      rotate_left
      · intro w' hC_
        have z1 := blk_cell (((B2.out.trans (hC_.mono B2.out.size)).block g HG.out).trans HBK.out) 1
        go_simp
        with_reducible rfl
      · show Act.put _ (some 19) _ = _
        simp only [Act.put, List.setIfInBounds_toArray, List.set_cons_zero, List.set_cons_succ, i64_w, i32_w]
        rfl
      refine q_op (v := ?_) (a' := ?_) ?hw1 ?_ ?_ ?_
      case hw1 => rfl
      rotate_left
      rotate_left
      · intro w' hC_
        go_simp
        with_reducible rfl
      · show Act.put _ (some 20) _ = _
        simp only [Act.put, List.setIfInBounds_toArray, List.set_cons_zero, List.set_cons_succ, i64_w, i32_w]
        rfl
      refine q_op (v := .bool true) (a' := ?_) ?hw1 ?_ ?_ ?_
      case hw1 => rfl
      rotate_left
      · intro w' hC_
        obtain _ := hC_
        go_simp
      · show Act.put _ (some 21) _ = _
        simp only [Act.put, List.setIfInBounds_toArray, List.set_cons_zero, List.set_cons_succ, i64_w, i32_w]
        rfl
      refine q_op (v := ?_) (a' := ?_) ?hw1 ?_ ?_ ?_
      case hw1 => rfl
      rotate_left
      rotate_left
      · intro w' hC_
        go_simp
        with_reducible rfl
      · show Act.put _ (some 22) _ = _
        simp only [Act.put, List.setIfInBounds_toArray, List.set_cons_zero, List.set_cons_succ, i64_w, i32_w]
        rfl
      refine q_off (a' := ?_) ?hw1 ?_ ?_
      case hw1 => exact wanted_off rfl rfl rfl rfl
      rotate_left
      · show Act.put _ (some 23) _ = _
        simp only [Act.put, List.setIfInBounds_toArray, List.set_cons_zero, List.set_cons_succ, i64_w, i32_w]
        rfl
      refine q_off (a' := ?_) ?hw1 ?_ ?_
      case hw1 => exact wanted_off rfl rfl rfl rfl
      rotate_left
      · show Act.put _ (some 24) _ = _
        simp only [Act.put, List.setIfInBounds_toArray, List.set_cons_zero, List.set_cons_succ, i64_w, i32_w]
        rfl
      refine q_off (a' := ?_) ?hw1 ?_ ?_
      case hw1 => exact wanted_off rfl rfl rfl rfl
      rotate_left
      · show Act.put _ (some 25) _ = _
        simp only [Act.put, List.setIfInBounds_toArray, List.set_cons_zero, List.set_cons_succ, i64_w, i32_w]
        rfl
      refine q_off (a' := ?_) ?hw1 ?_ ?_
      case hw1 => exact wanted_off rfl rfl rfl rfl
      rotate_left
      · show Act.put _ (some 26) _ = _
        simp only [Act.put, List.setIfInBounds_toArray, List.set_cons_zero, List.set_cons_succ, i64_w, i32_w]
        rfl
      refine q_off (a' := ?_) ?hw1 ?_ ?_
      case hw1 => exact wanted_off rfl rfl rfl rfl
      rotate_left
      · show Act.put _ (some 27) _ = _
        simp only [Act.put, List.setIfInBounds_toArray, List.set_cons_zero, List.set_cons_succ, i64_w, i32_w]
        rfl
      refine q_off (a' := ?_) ?hw1 ?_ ?_
      case hw1 => exact wanted_off rfl rfl rfl rfl
      rotate_left
      · show Act.put _ (some 28) _ = _
        simp only [Act.put, List.setIfInBounds_toArray, List.set_cons_zero, List.set_cons_succ, i64_w, i32_w]
        rfl
      refine q_off (a' := ?_) ?hw1 ?_ ?_
      case hw1 => exact wanted_off rfl rfl rfl rfl
      rotate_left
      · show Act.put _ (some 29) _ = _
        simp only [Act.put, List.setIfInBounds_toArray, List.set_cons_zero, List.set_cons_succ, i64_w, i32_w]
        rfl
      refine q_off (a' := ?_) ?hw1 ?_ ?_
      case hw1 => exact wanted_off rfl rfl rfl rfl
      rotate_left
      · show Act.put _ (some 30) _ = _
        simp only [Act.put, List.setIfInBounds_toArray, List.set_cons_zero, List.set_cons_succ, i64_w, i32_w]
        rfl
      refine q_off (a' := ?_) ?hw1 ?_ ?_
      case hw1 => exact wanted_off rfl rfl rfl rfl
      rotate_left
      · show Act.put _ (some 31) _ = _
        simp only [Act.put, List.setIfInBounds_toArray, List.set_cons_zero, List.set_cons_succ, i64_w, i32_w]
        rfl
      refine q_off (a' := ?_) ?hw1 ?_ ?_
      case hw1 => exact wanted_off rfl rfl rfl rfl
      rotate_left
      · show Act.put _ (some 32) _ = _
        simp only [Act.put, List.setIfInBounds_toArray, List.set_cons_zero, List.set_cons_succ, i64_w, i32_w]
        rfl
      refine q_off (a' := ?_) ?hw1 ?_ ?_
      case hw1 => exact wanted_off rfl rfl rfl rfl
      rotate_left
      · show Act.put _ (some 33) _ = _
        simp only [Act.put, List.setIfInBounds_toArray, List.set_cons_zero, List.set_cons_succ, i64_w, i32_w]
        rfl
      refine q_op (v := ?_) (a' := ?_) ?hw1 ?_ ?_ ?_
      case hw1 => rfl
      rotate_left
      rotate_left
      · intro w' hC_
        go_simp
        with_reducible rfl
      · show Act.put _ (some 34) _ = _
        simp only [Act.put, List.setIfInBounds_toArray, List.set_cons_zero, List.set_cons_succ, i64_w, i32_w]
        rfl
      refine q_op (v := ?_) (a' := ?_) ?hw1 ?_ ?_ ?_
      case hw1 => rfl
      rotate_left
      rotate_left
      · intro w' hC_
        go_simp
        with_reducible rfl
      · show Act.put _ (some 15) _ = _
        simp only [Act.put, List.setIfInBounds_toArray, List.set_cons_zero, List.set_cons_succ, i64_w, i32_w]
        rfl
      refine q_nil ?_
      intro w3 hC_
      have HX3 := Aside0.mk (St.below (s := blk) HX2.out hC_)
      have B3 := Aside0.mk (Below.trans B2.out (Below.mono hC_ (Below.size B2.out)))
      clear hC_
      go_wp2
      go_ret
      exact ⟨by rw [HV.out]; rfl, B3.out⟩
    have d32 : decide ((32 : Int) ≤ (l1.length : Int)) = false := decide_eq_false (by omega)
    have d32n : decide (32 ≤ l1.length) = false := decide_eq_false h32
    have hsum : wrap64 ((l1.length : Int) + (ln.length : Int)) = (l1.length : Int) + (ln.length : Int) := by unfold wrap64; omega
    by_cases h63 : 63 ≤ l1.length + ln.length
    · have d63 : decide ((63 : Int) ≤ (l1.length : Int) + (ln.length : Int)) = true := decide_eq_true (by omega)
      have HV := Aside0.mk (show av = 3 from by rw [HA2.out, if_pos (Or.inr h63)])
      clear h63 h32
      have y0 := blk_cell (blk_at HX1.out) 0
      have y1 := blk_cell (blk_at HX1.out) 1
      go_upto_region 3 with (first | (go_at_call 22; (with_reducible refine (win_Good.calls q p _ _ (good_f q p)).mono ?_); rintro e w2 ⟨rfl, hb2⟩; rw [GB.out]; have HX2 := Aside0.mk (St.below (s := blk) HX1.out hb2); have B2 := Aside0.mk (Below.trans B1.out (Below.mono hb2 (Below.size B1.out))); clear hb2 y0 y1))
      obtain ⟨w10, hw10⟩ : ∃ w10 : World, w2.drew = w10 := ⟨_, rfl⟩
      have hb10 : Below w2.heap.size w2 w10 := by rw [← hw10]; exact below_drew (Below.refl _ _)
      have HX10 := Aside0.mk (St.below (s := blk) HX2.out hb10)
      have B10 := Aside0.mk (Below.trans B2.out (Below.mono hb10 (Below.size B2.out)))
      clear hb10
      refine start_ (n := 20) (S := fun w' => w'.cell? ⟨g, 1, none⟩ = some (.slice A1 l1.length k1)) (ds := []) #[false, false, false, false, false, false, false, false, false, false, false, false, false, false, false, false, false, false, false, false] (by kernel_rfl) rfl rfl (by rw [hw10]; exact blk_cell ((B10.out.block g HG.out).trans HBK.out) 1) (fun hHeld => ?_)
      refine pure_ (i := 0) (N := some 16) (v := ?_) (a' := ?_) #[true, false, false, false, false, false, false, false, false, false, false, false, false, false, false, false, false, false, false, false] rfl rfl (by kernel_rfl) (fun _ _ _ h => h) (Or.inl ⟨by rfl, ?_⟩) ?_ ?_
      rotate_left
      · intro w'
        go_simp
        with_reducible rfl
      rotate_left
      · simp only [Act.put, List.setIfInBounds_toArray, List.set_cons_zero, List.set_cons_succ, i64_w, i32_w]
        rfl
      refine pure_ (i := 1) (N := some 17) (v := ?_) (a' := ?_) #[true, true, false, false, false, false, false, false, false, false, false, false, false, false, false, false, false, false, false, false] rfl rfl (by kernel_rfl) (fun _ _ _ h => h) (Or.inl ⟨by rfl, ?_⟩) ?_ ?_
      rotate_left
      · intro w'
        go_simp
        with_reducible rfl
      rotate_left
      · simp only [Act.put, List.setIfInBounds_toArray, List.set_cons_zero, List.set_cons_succ, i64_w, i32_w]
        rfl
      refine pure_ (i := 2) (N := some 18) (v := ?_) (a' := ?_) #[true, true, true, false, false, false, false, false, false, false, false, false, false, false, false, false, false, false, false, false] rfl rfl (by kernel_rfl) (fun _ _ _ h => h) (Or.inl ⟨by rfl, ?_⟩) ?_ ?_
      rotate_left
      · intro w'
        go_simp
        with_reducible rfl
      rotate_left
      · simp only [Act.put, List.setIfInBounds_toArray, List.set_cons_zero, List.set_cons_succ, i64_w, i32_w]
        rfl
      refine take_ (i := 3) (N := some 19) (v := ?_) (a' := ?_) #[true, true, true, true, false, false, false, false, false, false, false, false, false, false, false, false, false, false, false, false] rfl rfl (by kernel_rfl) (fun _ _ _ h => h) (Or.inl ⟨by rfl, ?_⟩) hHeld ?_ ?_
      rotate_left
      · intro w' hS_
        obtain s0_ := hS_
        go_simp
        with_reducible rfl
      rotate_left
      · simp only [Act.put, List.setIfInBounds_toArray, List.set_cons_zero, List.set_cons_succ, i64_w, i32_w]
        rfl
      refine pure_ (i := 4) (N := some 20) (v := ?_) (a' := ?_) #[true, true, true, true, true, false, false, false, false, false, false, false, false, false, false, false, false, false, false, false] rfl rfl (by kernel_rfl) (fun _ _ _ h => h) (Or.inl ⟨by rfl, ?_⟩) ?_ ?_
      rotate_left
      · intro w'
        go_simp
        with_reducible rfl
      rotate_left
      · simp only [Act.put, List.setIfInBounds_toArray, List.set_cons_zero, List.set_cons_succ, i64_w, i32_w]
        rfl
      refine pure_ (i := 5) (N := some 21) (v := ?_) (a' := ?_) #[true, true, true, true, true, true, false, false, false, false, false, false, false, false, false, false, false, false, false, false] rfl rfl (by kernel_rfl) (fun _ _ _ h => h) (Or.inl ⟨by rfl, ?_⟩) ?_ ?_
      rotate_left
      · intro w'
        go_simp
        with_reducible rfl
      rotate_left
      · simp only [Act.put, List.setIfInBounds_toArray, List.set_cons_zero, List.set_cons_succ, i64_w, i32_w]
        rfl
      refine pure_ (i := 6) (N := some 22) (v := ?_) (a' := ?_) #[true, true, true, true, true, true, true, false, false, false, false, false, false, false, false, false, false, false, false, false] rfl rfl (by kernel_rfl) (fun _ _ _ h => h) (Or.inl ⟨by rfl, ?_⟩) ?_ ?_
      rotate_left
      · intro w'
        go_simp
        with_reducible rfl
      rotate_left
      · simp only [Act.put, List.setIfInBounds_toArray, List.set_cons_zero, List.set_cons_succ, i64_w, i32_w]
        rfl
      refine pure_ (i := 7) (N := some 23) (v := ?_) (a' := ?_) #[true, true, true, true, true, true, true, true, false, false, false, false, false, false, false, false, false, false, false, false] rfl rfl (by kernel_rfl) (fun _ _ _ h => h) (Or.inl ⟨wanted_on rfl rfl rfl rfl, ?_⟩) ?_ ?_
      rotate_left
      · intro w'
        go_simp
        with_reducible rfl
      rotate_left
      · simp only [Act.put, List.setIfInBounds_toArray, List.set_cons_zero, List.set_cons_succ, i64_w, i32_w]
        rfl
      refine pure_ (i := 8) (N := some 24) (v := ?_) (a' := ?_) #[true, true, true, true, true, true, true, true, true, false, false, false, false, false, false, false, false, false, false, false] rfl rfl (by kernel_rfl) (fun _ _ _ h => h) (Or.inl ⟨wanted_on rfl rfl rfl rfl, ?_⟩) ?_ ?_
      rotate_left
      · intro w'
        go_simp
        with_reducible rfl
      rotate_left
      · simp only [Act.put, List.setIfInBounds_toArray, List.set_cons_zero, List.set_cons_succ, i64_w, i32_w]
        rfl
      refine pure_ (i := 9) (N := some 25) (v := ?_) (a' := ?_) #[true, true, true, true, true, true, true, true, true, true, false, false, false, false, false, false, false, false, false, false] rfl rfl (by kernel_rfl) (fun _ _ _ h => h) (Or.inl ⟨wanted_on rfl rfl rfl rfl, ?_⟩) ?_ ?_
      rotate_left
      · intro w'
        go_simp
        with_reducible rfl
      rotate_left
      · simp only [Act.put, List.setIfInBounds_toArray, List.set_cons_zero, List.set_cons_succ, i64_w, i32_w]
        rfl
      refine take_ (i := 10) (N := some 26) (v := ?_) (a' := ?_) #[true, true, true, true, true, true, true, true, true, true, true, false, false, false, false, false, false, false, false, false] rfl rfl (by kernel_rfl) (fun _ _ _ h => h) (Or.inl ⟨wanted_on rfl rfl rfl rfl, ?_⟩) hHeld ?_ ?_
      rotate_left
      · intro w' hS_
        obtain s0_ := hS_
        go_simp
        with_reducible rfl
      rotate_left
      · simp only [Act.put, List.setIfInBounds_toArray, List.set_cons_zero, List.set_cons_succ, i64_w, i32_w]
        rfl
      refine pure_ (i := 11) (N := some 27) (v := ?_) (a' := ?_) #[true, true, true, true, true, true, true, true, true, true, true, true, false, false, false, false, false, false, false, false] rfl rfl (by kernel_rfl) (fun _ _ _ h => h) (Or.inl ⟨wanted_on rfl rfl rfl rfl, ?_⟩) ?_ ?_
      rotate_left
      · intro w'
        go_simp
        with_reducible rfl
      rotate_left
      · simp only [Act.put, List.setIfInBounds_toArray, List.set_cons_zero, List.set_cons_succ, i64_w, i32_w]
        rfl
      refine pure_ (i := 12) (N := some 28) (v := ?_) (a' := ?_) #[true, true, true, true, true, true, true, true, true, true, true, true, true, false, false, false, false, false, false, false] rfl rfl (by kernel_rfl) (fun _ _ _ h => h) (Or.inl ⟨wanted_on rfl rfl rfl rfl, ?_⟩) ?_ ?_
      rotate_left
      · intro w'
        go_simp
        with_reducible rfl
      rotate_left
      · simp only [Act.put, List.setIfInBounds_toArray, List.set_cons_zero, List.set_cons_succ, i64_w, i32_w]
        rfl
      refine pure_ (i := 13) (N := some 29) (v := ?_) (a' := ?_) #[true, true, true, true, true, true, true, true, true, true, true, true, true, true, false, false, false, false, false, false] rfl rfl (by kernel_rfl) (fun _ _ _ h => h) (Or.inl ⟨wanted_on rfl rfl rfl rfl, ?_⟩) ?_ ?_
      rotate_left
      · intro w'
        go_simp
        with_reducible rfl
      rotate_left
      · simp only [Act.put, List.setIfInBounds_toArray, List.set_cons_zero, List.set_cons_succ, i64_w, i32_w]
        rfl
      refine one_ (i := 14) (N := some 30) #[true, true, true, true, true, true, true, true, true, true, true, true, true, true, true, false, false, false, false, false] rfl rfl (by kernel_rfl) (by decide) (fun K hK => ?_)
      refine goes_ Try.func13 (by kernel_rfl) rfl #[.pointer (some ⟨g, 0, none⟩), .int .i64 now] ?hw rfl rfl ?hx ?_
      (case hw => exact wanted_on rfl rfl rfl rfl)
      (case hx => (try simp only [List.map_toArray, List.map_cons, List.map_nil]); first | done | rfl)
      rw [hw10]
      refine (lingers_calls (g := g) (c0 := .int .i64 m) (c1 := .slice A1 l1.length k1) (A2 := A2) (k2 := k2) (l := l2) now ((B10.out.block g HG.out).trans HBK.out) (Kd.C_below HR2.out B10.out) HL.out.2).mono ?_
      rintro e w11 ⟨v11, rfl, h11, b11⟩
      obtain ⟨A11, k11, rfl, -, -⟩ := row_reads h11
      rw [HLN.out]
      have HX11 := Aside0.mk (St.below (s := blk) HX10.out b11)
      have B11 := Aside0.mk (Below.trans B10.out (Below.mono b11 (Below.size B10.out)))
      clear h11 b11
      refine ⟨_, rfl, ?_⟩
      have hHeld := (show _ = some (Value.slice A1 l1.length k1) from blk_cell ((B11.out.block g HG.out).trans HBK.out) 1)
      refine hK.out _ _ hHeld (fun hHeld => ?_)
      clear hK K
      refine norm_ (a' := ?_) ?_ ?_
      rotate_left
      · show Act.put _ (some 30) _ = _
        simp only [Act.put, List.setIfInBounds_toArray, List.set_cons_zero, List.set_cons_succ, i64_w, i32_w]
        rfl
      refine pure_ (i := 15) (N := some 31) (v := ?_) (a' := ?_) #[true, true, true, true, true, true, true, true, true, true, true, true, true, true, true, true, false, false, false, false] rfl rfl (by kernel_rfl) (fun _ _ _ h => h) (Or.inl ⟨wanted_on rfl rfl rfl rfl, ?_⟩) ?_ ?_
      rotate_left
      · intro w'
        go_simp
        with_reducible rfl
      rotate_left
      · simp only [Act.put, List.setIfInBounds_toArray, List.set_cons_zero, List.set_cons_succ, i64_w, i32_w]
        rfl
      refine pure_ (i := 16) (N := some 32) (v := ?_) (a' := ?_) #[true, true, true, true, true, true, true, true, true, true, true, true, true, true, true, true, true, false, false, false] rfl rfl (by kernel_rfl) (fun _ _ _ h => h) (Or.inl ⟨wanted_on rfl rfl rfl rfl, ?_⟩) ?_ ?_
      rotate_left
      · intro w'
        go_simp
        with_reducible rfl
      rotate_left
      · simp only [Act.put, List.setIfInBounds_toArray, List.set_cons_zero, List.set_cons_succ, i64_w, i32_w]
        rfl
      refine pure_ (i := 17) (N := some 33) (v := ?_) (a' := ?_) #[true, true, true, true, true, true, true, true, true, true, true, true, true, true, true, true, true, true, false, false] rfl rfl (by kernel_rfl) (fun _ _ _ h => h) (Or.inl ⟨wanted_on rfl rfl rfl rfl, ?_⟩) ?_ ?_
      rotate_left
      · intro w'
        go_simp
        with_reducible rfl
      rotate_left
      · simp only [Act.put, List.setIfInBounds_toArray, List.set_cons_zero, List.set_cons_succ, i64_w, i32_w]
        rfl
      refine pure_ (i := 18) (N := some 34) (v := ?_) (a' := ?_) #[true, true, true, true, true, true, true, true, true, true, true, true, true, true, true, true, true, true, true, false] rfl rfl (by kernel_rfl) (fun _ _ _ h => h) (Or.inl ⟨by rfl, ?_⟩) ?_ ?_
      rotate_left
      · intro w'
        go_simp
        with_reducible rfl
      rotate_left
      · simp only [Act.put, List.setIfInBounds_toArray, List.set_cons_zero, List.set_cons_succ, i64_w, i32_w]
        rfl
      refine pure_ (i := 19) (N := some 15) (v := ?_) (a' := ?_) #[true, true, true, true, true, true, true, true, true, true, true, true, true, true, true, true, true, true, true, true] rfl rfl (by kernel_rfl) (fun _ _ _ h => h) (Or.inl ⟨by rfl, ?_⟩) ?_ ?_
      rotate_left
      · intro w'
        go_simp
        with_reducible rfl
      rotate_left
      · simp only [Act.put, List.setIfInBounds_toArray, List.set_cons_zero, List.set_cons_succ, i64_w, i32_w]
        rfl
      refine done_ (by kernel_rfl) ?_
      go_wp2
      go_ret
      exact ⟨by rw [HV.out]; rfl, B11.out⟩
    have d63 : decide ((63 : Int) ≤ (l1.length : Int) + (ln.length : Int)) = false := decide_eq_false (by omega)
    have HA3 := Aside0.mk (show av = if fitB m (prs l1 ++ [⟨q, p⟩] ++ prs ln) = true then 0 else 7 from by rw [HA2.out, if_neg (by omega)])
    clear h63 h32
    obtain ⟨fb, hfb⟩ : ∃ fb, fitB m (prs l1 ++ [⟨q, p⟩] ++ prs (ling now l2)) = fb := ⟨_, rfl⟩
    have HFB := Aside0.mk hfb
    have HF2 := Aside0.mk (show fitB m (prs l1 ++ [⟨q, p⟩] ++ prs ln) = fb from by rw [← HLN.out]; exact hfb)
    clear hfb
    cases fb with
    | false =>
      have HV := Aside0.mk (show av = 7 from by rw [HA3.out, HF2.out, if_neg Bool.false_ne_true])
      have y0 := blk_cell (blk_at HX1.out) 0
      have y1 := blk_cell (blk_at HX1.out) 1
      go_upto_region 3 with (first | (go_at_call 22; (with_reducible refine (win_Good.calls q p _ _ (good_f q p)).mono ?_); rintro e w2 ⟨rfl, hb2⟩; rw [GB.out]; have HX2 := Aside0.mk (St.below (s := blk) HX1.out hb2); have B2 := Aside0.mk (Below.trans B1.out (Below.mono hb2 (Below.size B1.out))); clear hb2 y0 y1))
      obtain ⟨w10, hw10⟩ : ∃ w10 : World, w2.drew = w10 := ⟨_, rfl⟩
      have hb10 : Below w2.heap.size w2 w10 := by rw [← hw10]; exact below_drew (Below.refl _ _)
      have HX10 := Aside0.mk (St.below (s := blk) HX2.out hb10)
      have B10 := Aside0.mk (Below.trans B2.out (Below.mono hb10 (Below.size B2.out)))
      clear hb10
      refine start_ (n := 20) (S := fun w' => w'.cell? ⟨g, 1, none⟩ = some (.slice A1 l1.length k1)) (ds := []) #[false, false, false, false, false, false, false, false, false, false, false, false, false, false, false, false, false, false, false, false] (by kernel_rfl) rfl rfl (by rw [hw10]; exact blk_cell ((B10.out.block g HG.out).trans HBK.out) 1) (fun hHeld => ?_)
      refine pure_ (i := 0) (N := some 16) (v := ?_) (a' := ?_) #[true, false, false, false, false, false, false, false, false, false, false, false, false, false, false, false, false, false, false, false] rfl rfl (by kernel_rfl) (fun _ _ _ h => h) (Or.inl ⟨by rfl, ?_⟩) ?_ ?_
      rotate_left
      · intro w'
        go_simp
        with_reducible rfl
      rotate_left
      · simp only [Act.put, List.setIfInBounds_toArray, List.set_cons_zero, List.set_cons_succ, i64_w, i32_w]
        rfl
      refine pure_ (i := 1) (N := some 17) (v := ?_) (a' := ?_) #[true, true, false, false, false, false, false, false, false, false, false, false, false, false, false, false, false, false, false, false] rfl rfl (by kernel_rfl) (fun _ _ _ h => h) (Or.inl ⟨by rfl, ?_⟩) ?_ ?_
      rotate_left
      · intro w'
        go_simp
        with_reducible rfl
      rotate_left
      · simp only [Act.put, List.setIfInBounds_toArray, List.set_cons_zero, List.set_cons_succ, i64_w, i32_w]
        rfl
      refine pure_ (i := 2) (N := some 18) (v := ?_) (a' := ?_) #[true, true, true, false, false, false, false, false, false, false, false, false, false, false, false, false, false, false, false, false] rfl rfl (by kernel_rfl) (fun _ _ _ h => h) (Or.inl ⟨by rfl, ?_⟩) ?_ ?_
      rotate_left
      · intro w'
        go_simp
        with_reducible rfl
      rotate_left
      · simp only [Act.put, List.setIfInBounds_toArray, List.set_cons_zero, List.set_cons_succ, i64_w, i32_w]
        rfl
      refine take_ (i := 3) (N := some 19) (v := ?_) (a' := ?_) #[true, true, true, true, false, false, false, false, false, false, false, false, false, false, false, false, false, false, false, false] rfl rfl (by kernel_rfl) (fun _ _ _ h => h) (Or.inl ⟨by rfl, ?_⟩) hHeld ?_ ?_
      rotate_left
      · intro w' hS_
        obtain s0_ := hS_
        go_simp
        with_reducible rfl
      rotate_left
      · simp only [Act.put, List.setIfInBounds_toArray, List.set_cons_zero, List.set_cons_succ, i64_w, i32_w]
        rfl
      refine pure_ (i := 4) (N := some 20) (v := ?_) (a' := ?_) #[true, true, true, true, true, false, false, false, false, false, false, false, false, false, false, false, false, false, false, false] rfl rfl (by kernel_rfl) (fun _ _ _ h => h) (Or.inl ⟨by rfl, ?_⟩) ?_ ?_
      rotate_left
      · intro w'
        go_simp
        with_reducible rfl
      rotate_left
      · simp only [Act.put, List.setIfInBounds_toArray, List.set_cons_zero, List.set_cons_succ, i64_w, i32_w]
        rfl
      refine pure_ (i := 5) (N := some 21) (v := ?_) (a' := ?_) #[true, true, true, true, true, true, false, false, false, false, false, false, false, false, false, false, false, false, false, false] rfl rfl (by kernel_rfl) (fun _ _ _ h => h) (Or.inl ⟨by rfl, ?_⟩) ?_ ?_
      rotate_left
      · intro w'
        go_simp
        with_reducible rfl
      rotate_left
      · simp only [Act.put, List.setIfInBounds_toArray, List.set_cons_zero, List.set_cons_succ, i64_w, i32_w]
        rfl
      refine pure_ (i := 6) (N := some 22) (v := ?_) (a' := ?_) #[true, true, true, true, true, true, true, false, false, false, false, false, false, false, false, false, false, false, false, false] rfl rfl (by kernel_rfl) (fun _ _ _ h => h) (Or.inl ⟨by rfl, ?_⟩) ?_ ?_
      rotate_left
      · intro w'
        go_simp
        with_reducible rfl
      rotate_left
      · simp only [Act.put, List.setIfInBounds_toArray, List.set_cons_zero, List.set_cons_succ, i64_w, i32_w]
        rfl
      refine pure_ (i := 7) (N := some 23) (v := ?_) (a' := ?_) #[true, true, true, true, true, true, true, true, false, false, false, false, false, false, false, false, false, false, false, false] rfl rfl (by kernel_rfl) (fun _ _ _ h => h) (Or.inl ⟨wanted_on rfl rfl rfl rfl, ?_⟩) ?_ ?_
      rotate_left
      · intro w'
        go_simp
        with_reducible rfl
      rotate_left
      · simp only [Act.put, List.setIfInBounds_toArray, List.set_cons_zero, List.set_cons_succ, i64_w, i32_w]
        rfl
      refine pure_ (i := 8) (N := some 24) (v := ?_) (a' := ?_) #[true, true, true, true, true, true, true, true, true, false, false, false, false, false, false, false, false, false, false, false] rfl rfl (by kernel_rfl) (fun _ _ _ h => h) (Or.inl ⟨wanted_on rfl rfl rfl rfl, ?_⟩) ?_ ?_
      rotate_left
      · intro w'
        go_simp
        with_reducible rfl
      rotate_left
      · simp only [Act.put, List.setIfInBounds_toArray, List.set_cons_zero, List.set_cons_succ, i64_w, i32_w]
        rfl
      refine pure_ (i := 9) (N := some 25) (v := ?_) (a' := ?_) #[true, true, true, true, true, true, true, true, true, true, false, false, false, false, false, false, false, false, false, false] rfl rfl (by kernel_rfl) (fun _ _ _ h => h) (Or.inl ⟨wanted_on rfl rfl rfl rfl, ?_⟩) ?_ ?_
      rotate_left
      · intro w'
        go_simp
        with_reducible rfl
      rotate_left
      · simp only [Act.put, List.setIfInBounds_toArray, List.set_cons_zero, List.set_cons_succ, i64_w, i32_w]
        rfl
      refine take_ (i := 10) (N := some 26) (v := ?_) (a' := ?_) #[true, true, true, true, true, true, true, true, true, true, true, false, false, false, false, false, false, false, false, false] rfl rfl (by kernel_rfl) (fun _ _ _ h => h) (Or.inl ⟨wanted_on rfl rfl rfl rfl, ?_⟩) hHeld ?_ ?_
      rotate_left
      · intro w' hS_
        obtain s0_ := hS_
        go_simp
        with_reducible rfl
      rotate_left
      · simp only [Act.put, List.setIfInBounds_toArray, List.set_cons_zero, List.set_cons_succ, i64_w, i32_w]
        rfl
      refine pure_ (i := 11) (N := some 27) (v := ?_) (a' := ?_) #[true, true, true, true, true, true, true, true, true, true, true, true, false, false, false, false, false, false, false, false] rfl rfl (by kernel_rfl) (fun _ _ _ h => h) (Or.inl ⟨wanted_on rfl rfl rfl rfl, ?_⟩) ?_ ?_
      rotate_left
      · intro w'
        go_simp
        with_reducible rfl
      rotate_left
      · simp only [Act.put, List.setIfInBounds_toArray, List.set_cons_zero, List.set_cons_succ, i64_w, i32_w]
        rfl
      refine pure_ (i := 12) (N := some 28) (v := ?_) (a' := ?_) #[true, true, true, true, true, true, true, true, true, true, true, true, true, false, false, false, false, false, false, false] rfl rfl (by kernel_rfl) (fun _ _ _ h => h) (Or.inl ⟨wanted_on rfl rfl rfl rfl, ?_⟩) ?_ ?_
      rotate_left
      · intro w'
        go_simp
        with_reducible rfl
      rotate_left
      · simp only [Act.put, List.setIfInBounds_toArray, List.set_cons_zero, List.set_cons_succ, i64_w, i32_w]
        rfl
      refine pure_ (i := 13) (N := some 29) (v := ?_) (a' := ?_) #[true, true, true, true, true, true, true, true, true, true, true, true, true, true, false, false, false, false, false, false] rfl rfl (by kernel_rfl) (fun _ _ _ h => h) (Or.inl ⟨wanted_on rfl rfl rfl rfl, ?_⟩) ?_ ?_
      rotate_left
      · intro w'
        go_simp
        with_reducible rfl
      rotate_left
      · simp only [Act.put, List.setIfInBounds_toArray, List.set_cons_zero, List.set_cons_succ, i64_w, i32_w]
        rfl
      refine one_ (i := 14) (N := some 30) #[true, true, true, true, true, true, true, true, true, true, true, true, true, true, true, false, false, false, false, false] rfl rfl (by kernel_rfl) (by decide) (fun K hK => ?_)
      refine goes_ Try.func13 (by kernel_rfl) rfl #[.pointer (some ⟨g, 0, none⟩), .int .i64 now] ?hw rfl rfl ?hx ?_
      (case hw => exact wanted_on rfl rfl rfl rfl)
      (case hx => (try simp only [List.map_toArray, List.map_cons, List.map_nil]); first | done | rfl)
      rw [hw10]
      refine (lingers_calls (g := g) (c0 := .int .i64 m) (c1 := .slice A1 l1.length k1) (A2 := A2) (k2 := k2) (l := l2) now ((B10.out.block g HG.out).trans HBK.out) (Kd.C_below HR2.out B10.out) HL.out.2).mono ?_
      rintro e w11 ⟨v11, rfl, h11, b11⟩
      obtain ⟨A11, k11, rfl, -, -⟩ := row_reads h11
      rw [HLN.out]
      have HX11 := Aside0.mk (St.below (s := blk) HX10.out b11)
      have B11 := Aside0.mk (Below.trans B10.out (Below.mono b11 (Below.size B10.out)))
      clear h11 b11
      refine ⟨_, rfl, ?_⟩
      have hHeld := (show _ = some (Value.slice A1 l1.length k1) from blk_cell ((B11.out.block g HG.out).trans HBK.out) 1)
      refine hK.out _ _ hHeld (fun hHeld => ?_)
      clear hK K
      refine norm_ (a' := ?_) ?_ ?_
      rotate_left
      · show Act.put _ (some 30) _ = _
        simp only [Act.put, List.setIfInBounds_toArray, List.set_cons_zero, List.set_cons_succ, i64_w, i32_w]
        rfl
      refine pure_ (i := 15) (N := some 31) (v := ?_) (a' := ?_) #[true, true, true, true, true, true, true, true, true, true, true, true, true, true, true, true, false, false, false, false] rfl rfl (by kernel_rfl) (fun _ _ _ h => h) (Or.inl ⟨wanted_on rfl rfl rfl rfl, ?_⟩) ?_ ?_
      rotate_left
      · intro w'
        go_simp
        with_reducible rfl
      rotate_left
      · simp only [Act.put, List.setIfInBounds_toArray, List.set_cons_zero, List.set_cons_succ, i64_w, i32_w]
        rfl
      refine pure_ (i := 16) (N := some 32) (v := ?_) (a' := ?_) #[true, true, true, true, true, true, true, true, true, true, true, true, true, true, true, true, true, false, false, false] rfl rfl (by kernel_rfl) (fun _ _ _ h => h) (Or.inl ⟨wanted_on rfl rfl rfl rfl, ?_⟩) ?_ ?_
      rotate_left
      · intro w'
        go_simp
        with_reducible rfl
      rotate_left
      · simp only [Act.put, List.setIfInBounds_toArray, List.set_cons_zero, List.set_cons_succ, i64_w, i32_w]
        rfl
      refine pure_ (i := 17) (N := some 33) (v := ?_) (a' := ?_) #[true, true, true, true, true, true, true, true, true, true, true, true, true, true, true, true, true, true, false, false] rfl rfl (by kernel_rfl) (fun _ _ _ h => h) (Or.inl ⟨wanted_on rfl rfl rfl rfl, ?_⟩) ?_ ?_
      rotate_left
      · intro w'
        go_simp
        with_reducible rfl
      rotate_left
      · simp only [Act.put, List.setIfInBounds_toArray, List.set_cons_zero, List.set_cons_succ, i64_w, i32_w]
        rfl
      refine pure_ (i := 18) (N := some 34) (v := ?_) (a' := ?_) #[true, true, true, true, true, true, true, true, true, true, true, true, true, true, true, true, true, true, true, false] rfl rfl (by kernel_rfl) (fun _ _ _ h => h) (Or.inl ⟨by rfl, ?_⟩) ?_ ?_
      rotate_left
      · intro w'
        go_simp
        with_reducible rfl
      rotate_left
      · simp only [Act.put, List.setIfInBounds_toArray, List.set_cons_zero, List.set_cons_succ, i64_w, i32_w]
        rfl
      refine pure_ (i := 19) (N := some 15) (v := ?_) (a' := ?_) #[true, true, true, true, true, true, true, true, true, true, true, true, true, true, true, true, true, true, true, true] rfl rfl (by kernel_rfl) (fun _ _ _ h => h) (Or.inl ⟨by rfl, ?_⟩) ?_ ?_
      rotate_left
      · intro w'
        go_simp
        with_reducible rfl
      rotate_left
      · simp only [Act.put, List.setIfInBounds_toArray, List.set_cons_zero, List.set_cons_succ, i64_w, i32_w]
        rfl
      refine done_ (by kernel_rfl) ?_
      go_upto_region 5 with (fail)
      obtain ⟨w20, hw20⟩ : ∃ w20 : World, w11.drew = w20 := ⟨_, rfl⟩
      have hb20 : Below w11.heap.size w11 w20 := by rw [← hw20]; exact below_drew (Below.refl _ _)
      have HX20 := Aside0.mk (St.below (s := blk) HX11.out hb20)
      have B20 := Aside0.mk (Below.trans B11.out (Below.mono hb20 (Below.size B11.out)))
      clear hb20
      refine start_ (n := 13) (S := fun w' => w'.cell? ⟨g, 1, none⟩ = some (.slice A1 l1.length k1) ∧ w'.cell? ⟨W.heap.size, 0, none⟩ = some (.int .i64 q) ∧ w'.cell? ⟨W.heap.size, 1, none⟩ = some (.int .i64 p)) (ds := []) #[false, false, false, false, false, false, false, false, false, false, false, false, false] (by kernel_rfl) rfl rfl (by rw [hw20]; exact ⟨blk_cell ((B20.out.block g HG.out).trans HBK.out) 1, blk_cell (blk_at HX20.out) 0, blk_cell (blk_at HX20.out) 1⟩) (fun hHeld => ?_)
      rw [hw20] at hHeld ⊢
      refine pure_ (i := 0) (N := some 36) (v := ?_) (a' := ?_) #[true, false, false, false, false, false, false, false, false, false, false, false, false] rfl rfl (by kernel_rfl) (fun _ _ _ h => h) (Or.inl ⟨by rfl, ?_⟩) ?_ ?_
      rotate_left
      · intro w'
        go_simp
        with_reducible rfl
      rotate_left
      · simp only [Act.put, List.setIfInBounds_toArray, List.set_cons_zero, List.set_cons_succ, i64_w, i32_w]
        rfl
      refine pure_ (i := 1) (N := some 37) (v := ?_) (a' := ?_) #[true, true, false, false, false, false, false, false, false, false, false, false, false] rfl rfl (by kernel_rfl) (fun _ _ _ h => h) (Or.inl ⟨by rfl, ?_⟩) ?_ ?_
      rotate_left
      · intro w'
        go_simp
        with_reducible rfl
      rotate_left
      · simp only [Act.put, List.setIfInBounds_toArray, List.set_cons_zero, List.set_cons_succ, i64_w, i32_w]
        rfl
      refine pure_ (i := 2) (N := some 38) (v := ?_) (a' := ?_) #[true, true, true, false, false, false, false, false, false, false, false, false, false] rfl rfl (by kernel_rfl) (fun _ _ _ h => h) (Or.inl ⟨by rfl, ?_⟩) ?_ ?_
      rotate_left
      · intro w'
        go_simp
        with_reducible rfl
      rotate_left
      · simp only [Act.put, List.setIfInBounds_toArray, List.set_cons_zero, List.set_cons_succ, i64_w, i32_w]
        rfl
      refine pure_ (i := 3) (N := some 39) (v := ?_) (a' := ?_) #[true, true, true, true, false, false, false, false, false, false, false, false, false] rfl rfl (by kernel_rfl) (fun _ _ _ h => h) (Or.inl ⟨by rfl, ?_⟩) ?_ ?_
      rotate_left
      · intro w'
        go_simp
        with_reducible rfl
      rotate_left
      · simp only [Act.put, List.setIfInBounds_toArray, List.set_cons_zero, List.set_cons_succ, i64_w, i32_w]
        rfl
      refine take_ (i := 4) (N := some 40) (v := ?_) (a' := ?_) #[true, true, true, true, true, false, false, false, false, false, false, false, false] rfl rfl (by kernel_rfl) (fun _ _ _ h => h) (Or.inl ⟨by rfl, ?_⟩) hHeld ?_ ?_
      rotate_left
      · intro w' hS_
        obtain ⟨s0_, s1_, s2_⟩ := hS_
        go_simp
        with_reducible rfl
      rotate_left
      · simp only [Act.put, List.setIfInBounds_toArray, List.set_cons_zero, List.set_cons_succ, i64_w, i32_w]
        rfl
      refine take_ (i := 6) (N := some 42) (v := ?_) (a' := ?_) #[true, true, true, true, true, false, true, false, false, false, false, false, false] rfl rfl (by kernel_rfl) (fun _ _ _ h => h) (Or.inl ⟨by rfl, ?_⟩) hHeld ?_ ?_
      rotate_left
      · intro w' hS_
        obtain ⟨s0_, s1_, s2_⟩ := hS_
        go_simp
        with_reducible rfl
      rotate_left
      · simp only [Act.put, List.setIfInBounds_toArray, List.set_cons_zero, List.set_cons_succ, i64_w, i32_w]
        rfl
      refine pure_ (i := 9) (N := some 45) (v := ?_) (a' := ?_) #[true, true, true, true, true, false, true, false, false, true, false, false, false] rfl rfl (by kernel_rfl) (fun _ _ _ h => h) (Or.inl ⟨by rfl, ?_⟩) ?_ ?_
      rotate_left
      · intro w'
        go_simp
        with_reducible rfl
      rotate_left
      · simp only [Act.put, List.setIfInBounds_toArray, List.set_cons_zero, List.set_cons_succ, i64_w, i32_w]
        rfl
      refine two_ (i := 5) (j := 7) (Ni := some 41) (Nj := some 43) #[true, true, true, true, true, true, true, false, false, true, false, false, false] #[true, true, true, true, true, false, true, true, false, true, false, false, false] rfl rfl rfl rfl (by kernel_rfl) (by decide) (by decide) (fun K hK => ?_) (fun K hK => ?_)
      · skip
        refine goes_ Try.func27 (by kernel_rfl) rfl #[.slice A1 l1.length k1] ?hw rfl rfl ?hx ?_
        (case hw => rfl)
        (case hx => (try simp only [List.map_toArray, List.map_cons, List.map_nil]); first | done | rfl)
        refine (admit_pairs.calls (l1.length + 1) A1 k1 l1 (prs l1) _ (Kd.C_below HR1.out B20.out) HK1.out HPF.out).mono ?_
        rintro e wqx5 ⟨vqx5, rfl, rqx5, bqx5⟩
        obtain ⟨cqx5, hqx5, tqx5⟩ := row_got (w0 := W) c1 1 rqx5 bqx5 (Below.size B20.out)
        obtain ⟨Aqx5, kqx5, rfl⟩ := Kd.R_slice rqx5
        have HPqx5 := Aside0.mk (show (row 24 k24).M wqx5 W.heap.size (fun k => cqx5 k = 1) (prs l1) (.slice Aqx5 (prs l1).length kqx5) from hqx5)
        have HXqx5 := Aside0.mk (tqx5.keep _ (blk) 3 _ _ (by decide) HX20.out)
        have Bqx5 := Aside0.mk (tqx5.far B20.out)
        clear rqx5 bqx5 hqx5 tqx5
        refine ⟨_, rfl, ?_⟩
        have hHeld := (show _ = some (Value.slice A1 l1.length k1) ∧ _ = some (Value.int IntKind.i64 q) ∧ _ = some (Value.int IntKind.i64 p) from ⟨blk_cell ((Bqx5.out.block g HG.out).trans HBK.out) 1, blk_cell (blk_at HXqx5.out) 0, blk_cell (blk_at HXqx5.out) 1⟩)
        refine hK.out _ _ hHeld (fun hHeld => ?_)
        clear hK K
        refine norm_ (a' := ?_) ?_ ?_
        rotate_left
        · show Act.put _ (some 41) _ = _
          simp only [Act.put, List.setIfInBounds_toArray, List.set_cons_zero, List.set_cons_succ, i64_w, i32_w]
          rfl
        refine one_ (i := 7) (N := some 43) #[true, true, true, true, true, true, true, true, false, true, false, false, false] rfl rfl (by kernel_rfl) (by decide) (fun K hK => ?_)
        refine lit_step (e := 24) (c := cqx5) (w0 := W) k24 2 ?hg (N := 43) ?hd ([⟨q, p⟩] : List S24) [.int .i64 q, .int .i64 p] ?hr ?hp ?hs (by simp) ?_
        (case hd => rfl)
        (case hg => rfl)
        (case hp => exact reps_one _ _ _ _)
        (case hr => first | (go_simp; done) | (go_simp; rfl))
        (case hs => exact Below.size Bqx5.out)
        intro vqx5x7 wqx5x7 cqx5x7 hqx5x7 tqx5x7
        obtain ⟨Aqx5x7, kqx5x7, rfl, -, -⟩ := row_reads hqx5x7
        have HQqx5x7 := Aside0.mk (show (row 24 k24).M wqx5x7 W.heap.size (fun k => cqx5x7 k = 2) ([⟨q, p⟩] : List S24) (.slice Aqx5x7 ([⟨q, p⟩] : List S24).length kqx5x7) from hqx5x7)
        have HXqx5x7 := Aside0.mk (tqx5x7.keep _ (blk) 3 _ _ (by decide) HXqx5.out)
        have HPqx5x7 := Aside0.mk (tqx5x7.keep _ (row 24 k24) 1 _ _ (by decide) HPqx5.out)
        have Bqx5x7 := Aside0.mk (tqx5x7.far Bqx5.out)
        clear hqx5x7 tqx5x7
        have hHeld := (show _ = some (Value.slice A1 l1.length k1) ∧ _ = some (Value.int IntKind.i64 q) ∧ _ = some (Value.int IntKind.i64 p) from ⟨blk_cell ((Bqx5x7.out.block g HG.out).trans HBK.out) 1, blk_cell (blk_at HXqx5x7.out) 0, blk_cell (blk_at HXqx5x7.out) 1⟩)
        refine hK.out _ _ hHeld (fun hHeld => ?_)
        clear hK K
        refine norm_ (a' := ?_) ?_ ?_
        rotate_left
        · show Act.put _ (some 43) _ = _
          simp only [Act.put, List.setIfInBounds_toArray, List.set_cons_zero, List.set_cons_succ, i64_w, i32_w]
          rfl
        refine one_ (i := 8) (N := some 44) #[true, true, true, true, true, true, true, true, true, true, false, false, false] rfl rfl (by kernel_rfl) (by decide) (fun K hK => ?_)
        refine app_step (e := 24) (c := cqx5x7) (w0 := W) (d := k24) (i := 1) (by rfl) (.tmp 41) (.tmp 43) 51 (.agg #[.int .i64 0, .int .i64 0]) 16 rfl Try.underlying51 info_pair rfl (by decide) (by decide) flat24 (.slice Aqx5 (prs l1).length kqx5) (prs l1) ([⟨q, p⟩] : List S24) _ _ _ rfl rfl HPqx5x7.out (row_C HQqx5x7.out) ?hs (by have := HL.out; rw [prs_len]; show (_ + 1) * 16 ≤ _; omega) ?_
        (case hs => exact Below.size Bqx5x7.out)
        intro vqx5x7x8 wqx5x7x8 cqx5x7x8 hqx5x7x8 tqx5x7x8
        obtain ⟨Aqx5x7x8, kqx5x7x8, rfl, -, -⟩ := row_reads hqx5x7x8
        have HPqx5x7x8 := Aside0.mk (show (row 24 k24).M wqx5x7x8 W.heap.size (fun k => cqx5x7x8 k = 1) (prs l1 ++ ([⟨q, p⟩] : List S24)) (.slice Aqx5x7x8 (prs l1 ++ ([⟨q, p⟩] : List S24)).length kqx5x7x8) from hqx5x7x8)
        have HXqx5x7x8 := Aside0.mk (tqx5x7x8.keep _ (blk) 3 _ _ (by decide) HXqx5x7.out)
        have HQqx5x7x8 := Aside0.mk (tqx5x7x8.keep _ (row 24 k24) 2 _ _ (by decide) HQqx5x7.out)
        have Bqx5x7x8 := Aside0.mk (tqx5x7x8.far Bqx5x7.out)
        clear hqx5x7x8 tqx5x7x8
        have hHeld := (show _ = some (Value.slice A1 l1.length k1) ∧ _ = some (Value.int IntKind.i64 q) ∧ _ = some (Value.int IntKind.i64 p) from ⟨blk_cell ((Bqx5x7x8.out.block g HG.out).trans HBK.out) 1, blk_cell (blk_at HXqx5x7x8.out) 0, blk_cell (blk_at HXqx5x7x8.out) 1⟩)
        refine hK.out _ _ hHeld (fun hHeld => ?_)
        clear hK K
        refine norm_ (a' := ?_) ?_ ?_
        rotate_left
        · show Act.put _ (some 44) _ = _
          simp only [Act.put, List.setIfInBounds_toArray, List.set_cons_zero, List.set_cons_succ, i64_w, i32_w]
          rfl
        refine one_ (i := 10) (N := some 46) #[true, true, true, true, true, true, true, true, true, true, true, false, false] rfl rfl (by kernel_rfl) (by decide) (fun K hK => ?_)
        refine goes_ Try.func26 (by kernel_rfl) rfl #[.pointer (some ⟨g, 0, none⟩), .slice Aqx5x7x8 (prs l1 ++ ([⟨q, p⟩] : List S24)).length kqx5x7x8, .int .i64 now] ?hw rfl rfl ?hx ?_
        (case hw => rfl)
        (case hx => (try simp only [List.map_toArray, List.map_cons, List.map_nil]); first | done | rfl)
        refine (fits_calls (w0 := W) (c := cqx5x7x8) (j := 1) (m := m) (sv1 := .slice A1 l1.length k1) (A2 := A2) (k2 := k2) (l2 := l2) (ps := prs l1 ++ ([⟨q, p⟩] : List S24)) now HBK.out HR2.out HL.out.2 Bqx5x7x8.out HPqx5x7x8.out (by have := HL.out; rw [List.length_append, prs_len]; show _ + 1 ≤ _; omega) HM.out HOK.out).mono ?_
        rintro e wqx5x7x8x10 ⟨rfl, cqx5x7x8x10, tqx5x7x8x10⟩
        rw [HFB.out]
        have HXqx5x7x8x10 := Aside0.mk (tqx5x7x8x10.keep _ blk 3 _ _ (by decide) HXqx5x7x8.out)
        have Bqx5x7x8x10 := Aside0.mk (tqx5x7x8x10.far Bqx5x7x8.out)
        clear tqx5x7x8x10
        refine ⟨_, rfl, ?_⟩
        have hHeld := (show _ = some (Value.slice A1 l1.length k1) ∧ _ = some (Value.int IntKind.i64 q) ∧ _ = some (Value.int IntKind.i64 p) from ⟨blk_cell ((Bqx5x7x8x10.out.block g HG.out).trans HBK.out) 1, blk_cell (blk_at HXqx5x7x8x10.out) 0, blk_cell (blk_at HXqx5x7x8x10.out) 1⟩)
        refine hK.out _ _ hHeld (fun hHeld => ?_)
        clear hK K
        refine norm_ (a' := ?_) ?_ ?_
        rotate_left
        · show Act.put _ (some 46) _ = _
          simp only [Act.put, List.setIfInBounds_toArray, List.set_cons_zero, List.set_cons_succ, i64_w, i32_w]
          rfl
        refine pure_ (i := 11) (N := some 47) (v := ?_) (a' := ?_) #[true, true, true, true, true, true, true, true, true, true, true, true, false] rfl rfl (by kernel_rfl) (fun _ _ _ h => h) (Or.inl ⟨by rfl, ?_⟩) ?_ ?_
        rotate_left
        · intro w'
          go_simp
          with_reducible rfl
        rotate_left
        · simp only [Act.put, List.setIfInBounds_toArray, List.set_cons_zero, List.set_cons_succ, i64_w, i32_w]
          rfl
        refine pure_ (i := 12) (N := some 35) (v := ?_) (a' := ?_) #[true, true, true, true, true, true, true, true, true, true, true, true, true] rfl rfl (by kernel_rfl) (fun _ _ _ h => h) (Or.inl ⟨by rfl, ?_⟩) ?_ ?_
        rotate_left
        · intro w'
          go_simp
          with_reducible rfl
        rotate_left
        · simp only [Act.put, List.setIfInBounds_toArray, List.set_cons_zero, List.set_cons_succ, i64_w, i32_w]
          rfl
        refine done_ (by kernel_rfl) ?_
        go_wp2
        go_ret
        exact ⟨by rw [HV.out]; rfl, Bqx5x7x8x10.out⟩
      · skip
        refine lit_step (e := 24) (c := c1) (w0 := W) k24 2 ?hg (N := 43) ?hd ([⟨q, p⟩] : List S24) [.int .i64 q, .int .i64 p] ?hr ?hp ?hs (by simp) ?_
        (case hd => rfl)
        (case hg => rfl)
        (case hp => exact reps_one _ _ _ _)
        (case hr => first | (go_simp; done) | (go_simp; rfl))
        (case hs => exact Below.size B20.out)
        intro vqx7 wqx7 cqx7 hqx7 tqx7
        obtain ⟨Aqx7, kqx7, rfl, -, -⟩ := row_reads hqx7
        have HQqx7 := Aside0.mk (show (row 24 k24).M wqx7 W.heap.size (fun k => cqx7 k = 2) ([⟨q, p⟩] : List S24) (.slice Aqx7 ([⟨q, p⟩] : List S24).length kqx7) from hqx7)
        have HXqx7 := Aside0.mk (tqx7.keep _ (blk) 3 _ _ (by decide) HX20.out)
        have Bqx7 := Aside0.mk (tqx7.far B20.out)
        clear hqx7 tqx7
        have hHeld := (show _ = some (Value.slice A1 l1.length k1) ∧ _ = some (Value.int IntKind.i64 q) ∧ _ = some (Value.int IntKind.i64 p) from ⟨blk_cell ((Bqx7.out.block g HG.out).trans HBK.out) 1, blk_cell (blk_at HXqx7.out) 0, blk_cell (blk_at HXqx7.out) 1⟩)
        refine hK.out _ _ hHeld (fun hHeld => ?_)
        clear hK K
        refine norm_ (a' := ?_) ?_ ?_
        rotate_left
        · show Act.put _ (some 43) _ = _
          simp only [Act.put, List.setIfInBounds_toArray, List.set_cons_zero, List.set_cons_succ, i64_w, i32_w]
          rfl
        refine one_ (i := 5) (N := some 41) #[true, true, true, true, true, true, true, true, false, true, false, false, false] rfl rfl (by kernel_rfl) (by decide) (fun K hK => ?_)
        refine goes_ Try.func27 (by kernel_rfl) rfl #[.slice A1 l1.length k1] ?hw rfl rfl ?hx ?_
        (case hw => rfl)
        (case hx => (try simp only [List.map_toArray, List.map_cons, List.map_nil]); first | done | rfl)
        refine (admit_pairs.calls (l1.length + 1) A1 k1 l1 (prs l1) _ (Kd.C_below HR1.out Bqx7.out) HK1.out HPF.out).mono ?_
        rintro e wqx7x5 ⟨vqx7x5, rfl, rqx7x5, bqx7x5⟩
        obtain ⟨cqx7x5, hqx7x5, tqx7x5⟩ := row_got (w0 := W) cqx7 1 rqx7x5 bqx7x5 (Below.size Bqx7.out)
        obtain ⟨Aqx7x5, kqx7x5, rfl⟩ := Kd.R_slice rqx7x5
        have HPqx7x5 := Aside0.mk (show (row 24 k24).M wqx7x5 W.heap.size (fun k => cqx7x5 k = 1) (prs l1) (.slice Aqx7x5 (prs l1).length kqx7x5) from hqx7x5)
        have HXqx7x5 := Aside0.mk (tqx7x5.keep _ (blk) 3 _ _ (by decide) HXqx7.out)
        have HQqx7x5 := Aside0.mk (tqx7x5.keep _ (row 24 k24) 2 _ _ (by decide) HQqx7.out)
        have Bqx7x5 := Aside0.mk (tqx7x5.far Bqx7.out)
        clear rqx7x5 bqx7x5 hqx7x5 tqx7x5
        refine ⟨_, rfl, ?_⟩
        have hHeld := (show _ = some (Value.slice A1 l1.length k1) ∧ _ = some (Value.int IntKind.i64 q) ∧ _ = some (Value.int IntKind.i64 p) from ⟨blk_cell ((Bqx7x5.out.block g HG.out).trans HBK.out) 1, blk_cell (blk_at HXqx7x5.out) 0, blk_cell (blk_at HXqx7x5.out) 1⟩)
        refine hK.out _ _ hHeld (fun hHeld => ?_)
        clear hK K
        refine norm_ (a' := ?_) ?_ ?_
        rotate_left
        · show Act.put _ (some 41) _ = _
          simp only [Act.put, List.setIfInBounds_toArray, List.set_cons_zero, List.set_cons_succ, i64_w, i32_w]
          rfl
        refine one_ (i := 8) (N := some 44) #[true, true, true, true, true, true, true, true, true, true, false, false, false] rfl rfl (by kernel_rfl) (by decide) (fun K hK => ?_)
        refine app_step (e := 24) (c := cqx7x5) (w0 := W) (d := k24) (i := 1) (by rfl) (.tmp 41) (.tmp 43) 51 (.agg #[.int .i64 0, .int .i64 0]) 16 rfl Try.underlying51 info_pair rfl (by decide) (by decide) flat24 (.slice Aqx7x5 (prs l1).length kqx7x5) (prs l1) ([⟨q, p⟩] : List S24) _ _ _ rfl rfl HPqx7x5.out (row_C HQqx7x5.out) ?hs (by have := HL.out; rw [prs_len]; show (_ + 1) * 16 ≤ _; omega) ?_
        (case hs => exact Below.size Bqx7x5.out)
        intro vqx7x5x8 wqx7x5x8 cqx7x5x8 hqx7x5x8 tqx7x5x8
        obtain ⟨Aqx7x5x8, kqx7x5x8, rfl, -, -⟩ := row_reads hqx7x5x8
        have HPqx7x5x8 := Aside0.mk (show (row 24 k24).M wqx7x5x8 W.heap.size (fun k => cqx7x5x8 k = 1) (prs l1 ++ ([⟨q, p⟩] : List S24)) (.slice Aqx7x5x8 (prs l1 ++ ([⟨q, p⟩] : List S24)).length kqx7x5x8) from hqx7x5x8)
        have HXqx7x5x8 := Aside0.mk (tqx7x5x8.keep _ (blk) 3 _ _ (by decide) HXqx7x5.out)
        have HQqx7x5x8 := Aside0.mk (tqx7x5x8.keep _ (row 24 k24) 2 _ _ (by decide) HQqx7x5.out)
        have Bqx7x5x8 := Aside0.mk (tqx7x5x8.far Bqx7x5.out)
        clear hqx7x5x8 tqx7x5x8
        have hHeld := (show _ = some (Value.slice A1 l1.length k1) ∧ _ = some (Value.int IntKind.i64 q) ∧ _ = some (Value.int IntKind.i64 p) from ⟨blk_cell ((Bqx7x5x8.out.block g HG.out).trans HBK.out) 1, blk_cell (blk_at HXqx7x5x8.out) 0, blk_cell (blk_at HXqx7x5x8.out) 1⟩)
        refine hK.out _ _ hHeld (fun hHeld => ?_)
        clear hK K
        refine norm_ (a' := ?_) ?_ ?_
        rotate_left
        · show Act.put _ (some 44) _ = _
          simp only [Act.put, List.setIfInBounds_toArray, List.set_cons_zero, List.set_cons_succ, i64_w, i32_w]
          rfl
        refine one_ (i := 10) (N := some 46) #[true, true, true, true, true, true, true, true, true, true, true, false, false] rfl rfl (by kernel_rfl) (by decide) (fun K hK => ?_)
        refine goes_ Try.func26 (by kernel_rfl) rfl #[.pointer (some ⟨g, 0, none⟩), .slice Aqx7x5x8 (prs l1 ++ ([⟨q, p⟩] : List S24)).length kqx7x5x8, .int .i64 now] ?hw rfl rfl ?hx ?_
        (case hw => rfl)
        (case hx => (try simp only [List.map_toArray, List.map_cons, List.map_nil]); first | done | rfl)
        refine (fits_calls (w0 := W) (c := cqx7x5x8) (j := 1) (m := m) (sv1 := .slice A1 l1.length k1) (A2 := A2) (k2 := k2) (l2 := l2) (ps := prs l1 ++ ([⟨q, p⟩] : List S24)) now HBK.out HR2.out HL.out.2 Bqx7x5x8.out HPqx7x5x8.out (by have := HL.out; rw [List.length_append, prs_len]; show _ + 1 ≤ _; omega) HM.out HOK.out).mono ?_
        rintro e wqx7x5x8x10 ⟨rfl, cqx7x5x8x10, tqx7x5x8x10⟩
        rw [HFB.out]
        have HXqx7x5x8x10 := Aside0.mk (tqx7x5x8x10.keep _ blk 3 _ _ (by decide) HXqx7x5x8.out)
        have Bqx7x5x8x10 := Aside0.mk (tqx7x5x8x10.far Bqx7x5x8.out)
        clear tqx7x5x8x10
        refine ⟨_, rfl, ?_⟩
        have hHeld := (show _ = some (Value.slice A1 l1.length k1) ∧ _ = some (Value.int IntKind.i64 q) ∧ _ = some (Value.int IntKind.i64 p) from ⟨blk_cell ((Bqx7x5x8x10.out.block g HG.out).trans HBK.out) 1, blk_cell (blk_at HXqx7x5x8x10.out) 0, blk_cell (blk_at HXqx7x5x8x10.out) 1⟩)
        refine hK.out _ _ hHeld (fun hHeld => ?_)
        clear hK K
        refine norm_ (a' := ?_) ?_ ?_
        rotate_left
        · show Act.put _ (some 46) _ = _
          simp only [Act.put, List.setIfInBounds_toArray, List.set_cons_zero, List.set_cons_succ, i64_w, i32_w]
          rfl
        refine pure_ (i := 11) (N := some 47) (v := ?_) (a' := ?_) #[true, true, true, true, true, true, true, true, true, true, true, true, false] rfl rfl (by kernel_rfl) (fun _ _ _ h => h) (Or.inl ⟨by rfl, ?_⟩) ?_ ?_
        rotate_left
        · intro w'
          go_simp
          with_reducible rfl
        rotate_left
        · simp only [Act.put, List.setIfInBounds_toArray, List.set_cons_zero, List.set_cons_succ, i64_w, i32_w]
          rfl
        refine pure_ (i := 12) (N := some 35) (v := ?_) (a' := ?_) #[true, true, true, true, true, true, true, true, true, true, true, true, true] rfl rfl (by kernel_rfl) (fun _ _ _ h => h) (Or.inl ⟨by rfl, ?_⟩) ?_ ?_
        rotate_left
        · intro w'
          go_simp
          with_reducible rfl
        rotate_left
        · simp only [Act.put, List.setIfInBounds_toArray, List.set_cons_zero, List.set_cons_succ, i64_w, i32_w]
          rfl
        refine done_ (by kernel_rfl) ?_
        go_wp2
        go_ret
        exact ⟨by rw [HV.out]; rfl, Bqx7x5x8x10.out⟩
    | true =>
      have HV := Aside0.mk (show av = 0 from by rw [HA3.out, HF2.out, if_pos rfl])
      have y0 := blk_cell (blk_at HX1.out) 0
      have y1 := blk_cell (blk_at HX1.out) 1
      go_upto_region 3 with (first | (go_at_call 22; (with_reducible refine (win_Good.calls q p _ _ (good_f q p)).mono ?_); rintro e w2 ⟨rfl, hb2⟩; rw [GB.out]; have HX2 := Aside0.mk (St.below (s := blk) HX1.out hb2); have B2 := Aside0.mk (Below.trans B1.out (Below.mono hb2 (Below.size B1.out))); clear hb2 y0 y1))
      obtain ⟨w10, hw10⟩ : ∃ w10 : World, w2.drew = w10 := ⟨_, rfl⟩
      have hb10 : Below w2.heap.size w2 w10 := by rw [← hw10]; exact below_drew (Below.refl _ _)
      have HX10 := Aside0.mk (St.below (s := blk) HX2.out hb10)
      have B10 := Aside0.mk (Below.trans B2.out (Below.mono hb10 (Below.size B2.out)))
      clear hb10
      refine start_ (n := 20) (S := fun w' => w'.cell? ⟨g, 1, none⟩ = some (.slice A1 l1.length k1)) (ds := []) #[false, false, false, false, false, false, false, false, false, false, false, false, false, false, false, false, false, false, false, false] (by kernel_rfl) rfl rfl (by rw [hw10]; exact blk_cell ((B10.out.block g HG.out).trans HBK.out) 1) (fun hHeld => ?_)
      refine pure_ (i := 0) (N := some 16) (v := ?_) (a' := ?_) #[true, false, false, false, false, false, false, false, false, false, false, false, false, false, false, false, false, false, false, false] rfl rfl (by kernel_rfl) (fun _ _ _ h => h) (Or.inl ⟨by rfl, ?_⟩) ?_ ?_
      rotate_left
      · intro w'
        go_simp
        with_reducible rfl
      rotate_left
      · simp only [Act.put, List.setIfInBounds_toArray, List.set_cons_zero, List.set_cons_succ, i64_w, i32_w]
        rfl
      refine pure_ (i := 1) (N := some 17) (v := ?_) (a' := ?_) #[true, true, false, false, false, false, false, false, false, false, false, false, false, false, false, false, false, false, false, false] rfl rfl (by kernel_rfl) (fun _ _ _ h => h) (Or.inl ⟨by rfl, ?_⟩) ?_ ?_
      rotate_left
      · intro w'
        go_simp
        with_reducible rfl
      rotate_left
      · simp only [Act.put, List.setIfInBounds_toArray, List.set_cons_zero, List.set_cons_succ, i64_w, i32_w]
        rfl
      refine pure_ (i := 2) (N := some 18) (v := ?_) (a' := ?_) #[true, true, true, false, false, false, false, false, false, false, false, false, false, false, false, false, false, false, false, false] rfl rfl (by kernel_rfl) (fun _ _ _ h => h) (Or.inl ⟨by rfl, ?_⟩) ?_ ?_
      rotate_left
      · intro w'
        go_simp
        with_reducible rfl
      rotate_left
      · simp only [Act.put, List.setIfInBounds_toArray, List.set_cons_zero, List.set_cons_succ, i64_w, i32_w]
        rfl
      refine take_ (i := 3) (N := some 19) (v := ?_) (a' := ?_) #[true, true, true, true, false, false, false, false, false, false, false, false, false, false, false, false, false, false, false, false] rfl rfl (by kernel_rfl) (fun _ _ _ h => h) (Or.inl ⟨by rfl, ?_⟩) hHeld ?_ ?_
      rotate_left
      · intro w' hS_
        obtain s0_ := hS_
        go_simp
        with_reducible rfl
      rotate_left
      · simp only [Act.put, List.setIfInBounds_toArray, List.set_cons_zero, List.set_cons_succ, i64_w, i32_w]
        rfl
      refine pure_ (i := 4) (N := some 20) (v := ?_) (a' := ?_) #[true, true, true, true, true, false, false, false, false, false, false, false, false, false, false, false, false, false, false, false] rfl rfl (by kernel_rfl) (fun _ _ _ h => h) (Or.inl ⟨by rfl, ?_⟩) ?_ ?_
      rotate_left
      · intro w'
        go_simp
        with_reducible rfl
      rotate_left
      · simp only [Act.put, List.setIfInBounds_toArray, List.set_cons_zero, List.set_cons_succ, i64_w, i32_w]
        rfl
      refine pure_ (i := 5) (N := some 21) (v := ?_) (a' := ?_) #[true, true, true, true, true, true, false, false, false, false, false, false, false, false, false, false, false, false, false, false] rfl rfl (by kernel_rfl) (fun _ _ _ h => h) (Or.inl ⟨by rfl, ?_⟩) ?_ ?_
      rotate_left
      · intro w'
        go_simp
        with_reducible rfl
      rotate_left
      · simp only [Act.put, List.setIfInBounds_toArray, List.set_cons_zero, List.set_cons_succ, i64_w, i32_w]
        rfl
      refine pure_ (i := 6) (N := some 22) (v := ?_) (a' := ?_) #[true, true, true, true, true, true, true, false, false, false, false, false, false, false, false, false, false, false, false, false] rfl rfl (by kernel_rfl) (fun _ _ _ h => h) (Or.inl ⟨by rfl, ?_⟩) ?_ ?_
      rotate_left
      · intro w'
        go_simp
        with_reducible rfl
      rotate_left
      · simp only [Act.put, List.setIfInBounds_toArray, List.set_cons_zero, List.set_cons_succ, i64_w, i32_w]
        rfl
      refine pure_ (i := 7) (N := some 23) (v := ?_) (a' := ?_) #[true, true, true, true, true, true, true, true, false, false, false, false, false, false, false, false, false, false, false, false] rfl rfl (by kernel_rfl) (fun _ _ _ h => h) (Or.inl ⟨wanted_on rfl rfl rfl rfl, ?_⟩) ?_ ?_
      rotate_left
      · intro w'
        go_simp
        with_reducible rfl
      rotate_left
      · simp only [Act.put, List.setIfInBounds_toArray, List.set_cons_zero, List.set_cons_succ, i64_w, i32_w]
        rfl
      refine pure_ (i := 8) (N := some 24) (v := ?_) (a' := ?_) #[true, true, true, true, true, true, true, true, true, false, false, false, false, false, false, false, false, false, false, false] rfl rfl (by kernel_rfl) (fun _ _ _ h => h) (Or.inl ⟨wanted_on rfl rfl rfl rfl, ?_⟩) ?_ ?_
      rotate_left
      · intro w'
        go_simp
        with_reducible rfl
      rotate_left
      · simp only [Act.put, List.setIfInBounds_toArray, List.set_cons_zero, List.set_cons_succ, i64_w, i32_w]
        rfl
      refine pure_ (i := 9) (N := some 25) (v := ?_) (a' := ?_) #[true, true, true, true, true, true, true, true, true, true, false, false, false, false, false, false, false, false, false, false] rfl rfl (by kernel_rfl) (fun _ _ _ h => h) (Or.inl ⟨wanted_on rfl rfl rfl rfl, ?_⟩) ?_ ?_
      rotate_left
      · intro w'
        go_simp
        with_reducible rfl
      rotate_left
      · simp only [Act.put, List.setIfInBounds_toArray, List.set_cons_zero, List.set_cons_succ, i64_w, i32_w]
        rfl
      refine take_ (i := 10) (N := some 26) (v := ?_) (a' := ?_) #[true, true, true, true, true, true, true, true, true, true, true, false, false, false, false, false, false, false, false, false] rfl rfl (by kernel_rfl) (fun _ _ _ h => h) (Or.inl ⟨wanted_on rfl rfl rfl rfl, ?_⟩) hHeld ?_ ?_
      rotate_left
      · intro w' hS_
        obtain s0_ := hS_
        go_simp
        with_reducible rfl
      rotate_left
      · simp only [Act.put, List.setIfInBounds_toArray, List.set_cons_zero, List.set_cons_succ, i64_w, i32_w]
        rfl
      refine pure_ (i := 11) (N := some 27) (v := ?_) (a' := ?_) #[true, true, true, true, true, true, true, true, true, true, true, true, false, false, false, false, false, false, false, false] rfl rfl (by kernel_rfl) (fun _ _ _ h => h) (Or.inl ⟨wanted_on rfl rfl rfl rfl, ?_⟩) ?_ ?_
      rotate_left
      · intro w'
        go_simp
        with_reducible rfl
      rotate_left
      · simp only [Act.put, List.setIfInBounds_toArray, List.set_cons_zero, List.set_cons_succ, i64_w, i32_w]
        rfl
      refine pure_ (i := 12) (N := some 28) (v := ?_) (a' := ?_) #[true, true, true, true, true, true, true, true, true, true, true, true, true, false, false, false, false, false, false, false] rfl rfl (by kernel_rfl) (fun _ _ _ h => h) (Or.inl ⟨wanted_on rfl rfl rfl rfl, ?_⟩) ?_ ?_
      rotate_left
      · intro w'
        go_simp
        with_reducible rfl
      rotate_left
      · simp only [Act.put, List.setIfInBounds_toArray, List.set_cons_zero, List.set_cons_succ, i64_w, i32_w]
        rfl
      refine pure_ (i := 13) (N := some 29) (v := ?_) (a' := ?_) #[true, true, true, true, true, true, true, true, true, true, true, true, true, true, false, false, false, false, false, false] rfl rfl (by kernel_rfl) (fun _ _ _ h => h) (Or.inl ⟨wanted_on rfl rfl rfl rfl, ?_⟩) ?_ ?_
      rotate_left
      · intro w'
        go_simp
        with_reducible rfl
      rotate_left
      · simp only [Act.put, List.setIfInBounds_toArray, List.set_cons_zero, List.set_cons_succ, i64_w, i32_w]
        rfl
      refine one_ (i := 14) (N := some 30) #[true, true, true, true, true, true, true, true, true, true, true, true, true, true, true, false, false, false, false, false] rfl rfl (by kernel_rfl) (by decide) (fun K hK => ?_)
      refine goes_ Try.func13 (by kernel_rfl) rfl #[.pointer (some ⟨g, 0, none⟩), .int .i64 now] ?hw rfl rfl ?hx ?_
      (case hw => exact wanted_on rfl rfl rfl rfl)
      (case hx => (try simp only [List.map_toArray, List.map_cons, List.map_nil]); first | done | rfl)
      rw [hw10]
      refine (lingers_calls (g := g) (c0 := .int .i64 m) (c1 := .slice A1 l1.length k1) (A2 := A2) (k2 := k2) (l := l2) now ((B10.out.block g HG.out).trans HBK.out) (Kd.C_below HR2.out B10.out) HL.out.2).mono ?_
      rintro e w11 ⟨v11, rfl, h11, b11⟩
      obtain ⟨A11, k11, rfl, -, -⟩ := row_reads h11
      rw [HLN.out]
      have HX11 := Aside0.mk (St.below (s := blk) HX10.out b11)
      have B11 := Aside0.mk (Below.trans B10.out (Below.mono b11 (Below.size B10.out)))
      clear h11 b11
      refine ⟨_, rfl, ?_⟩
      have hHeld := (show _ = some (Value.slice A1 l1.length k1) from blk_cell ((B11.out.block g HG.out).trans HBK.out) 1)
      refine hK.out _ _ hHeld (fun hHeld => ?_)
      clear hK K
      refine norm_ (a' := ?_) ?_ ?_
      rotate_left
      · show Act.put _ (some 30) _ = _
        simp only [Act.put, List.setIfInBounds_toArray, List.set_cons_zero, List.set_cons_succ, i64_w, i32_w]
        rfl
      refine pure_ (i := 15) (N := some 31) (v := ?_) (a' := ?_) #[true, true, true, true, true, true, true, true, true, true, true, true, true, true, true, true, false, false, false, false] rfl rfl (by kernel_rfl) (fun _ _ _ h => h) (Or.inl ⟨wanted_on rfl rfl rfl rfl, ?_⟩) ?_ ?_
      rotate_left
      · intro w'
        go_simp
        with_reducible rfl
      rotate_left
      · simp only [Act.put, List.setIfInBounds_toArray, List.set_cons_zero, List.set_cons_succ, i64_w, i32_w]
        rfl
      refine pure_ (i := 16) (N := some 32) (v := ?_) (a' := ?_) #[true, true, true, true, true, true, true, true, true, true, true, true, true, true, true, true, true, false, false, false] rfl rfl (by kernel_rfl) (fun _ _ _ h => h) (Or.inl ⟨wanted_on rfl rfl rfl rfl, ?_⟩) ?_ ?_
      rotate_left
      · intro w'
        go_simp
        with_reducible rfl
      rotate_left
      · simp only [Act.put, List.setIfInBounds_toArray, List.set_cons_zero, List.set_cons_succ, i64_w, i32_w]
        rfl
      refine pure_ (i := 17) (N := some 33) (v := ?_) (a' := ?_) #[true, true, true, true, true, true, true, true, true, true, true, true, true, true, true, true, true, true, false, false] rfl rfl (by kernel_rfl) (fun _ _ _ h => h) (Or.inl ⟨wanted_on rfl rfl rfl rfl, ?_⟩) ?_ ?_
      rotate_left
      · intro w'
        go_simp
        with_reducible rfl
      rotate_left
      · simp only [Act.put, List.setIfInBounds_toArray, List.set_cons_zero, List.set_cons_succ, i64_w, i32_w]
        rfl
      refine pure_ (i := 18) (N := some 34) (v := ?_) (a' := ?_) #[true, true, true, true, true, true, true, true, true, true, true, true, true, true, true, true, true, true, true, false] rfl rfl (by kernel_rfl) (fun _ _ _ h => h) (Or.inl ⟨by rfl, ?_⟩) ?_ ?_
      rotate_left
      · intro w'
        go_simp
        with_reducible rfl
      rotate_left
      · simp only [Act.put, List.setIfInBounds_toArray, List.set_cons_zero, List.set_cons_succ, i64_w, i32_w]
        rfl
      refine pure_ (i := 19) (N := some 15) (v := ?_) (a' := ?_) #[true, true, true, true, true, true, true, true, true, true, true, true, true, true, true, true, true, true, true, true] rfl rfl (by kernel_rfl) (fun _ _ _ h => h) (Or.inl ⟨by rfl, ?_⟩) ?_ ?_
      rotate_left
      · intro w'
        go_simp
        with_reducible rfl
      rotate_left
      · simp only [Act.put, List.setIfInBounds_toArray, List.set_cons_zero, List.set_cons_succ, i64_w, i32_w]
        rfl
      refine done_ (by kernel_rfl) ?_
      go_upto_region 5 with (fail)
      obtain ⟨w20, hw20⟩ : ∃ w20 : World, w11.drew = w20 := ⟨_, rfl⟩
      have hb20 : Below w11.heap.size w11 w20 := by rw [← hw20]; exact below_drew (Below.refl _ _)
      have HX20 := Aside0.mk (St.below (s := blk) HX11.out hb20)
      have B20 := Aside0.mk (Below.trans B11.out (Below.mono hb20 (Below.size B11.out)))
      clear hb20
      refine start_ (n := 13) (S := fun w' => w'.cell? ⟨g, 1, none⟩ = some (.slice A1 l1.length k1) ∧ w'.cell? ⟨W.heap.size, 0, none⟩ = some (.int .i64 q) ∧ w'.cell? ⟨W.heap.size, 1, none⟩ = some (.int .i64 p)) (ds := []) #[false, false, false, false, false, false, false, false, false, false, false, false, false] (by kernel_rfl) rfl rfl (by rw [hw20]; exact ⟨blk_cell ((B20.out.block g HG.out).trans HBK.out) 1, blk_cell (blk_at HX20.out) 0, blk_cell (blk_at HX20.out) 1⟩) (fun hHeld => ?_)
      rw [hw20] at hHeld ⊢
      refine pure_ (i := 0) (N := some 36) (v := ?_) (a' := ?_) #[true, false, false, false, false, false, false, false, false, false, false, false, false] rfl rfl (by kernel_rfl) (fun _ _ _ h => h) (Or.inl ⟨by rfl, ?_⟩) ?_ ?_
      rotate_left
      · intro w'
        go_simp
        with_reducible rfl
      rotate_left
      · simp only [Act.put, List.setIfInBounds_toArray, List.set_cons_zero, List.set_cons_succ, i64_w, i32_w]
        rfl
      refine pure_ (i := 1) (N := some 37) (v := ?_) (a' := ?_) #[true, true, false, false, false, false, false, false, false, false, false, false, false] rfl rfl (by kernel_rfl) (fun _ _ _ h => h) (Or.inl ⟨by rfl, ?_⟩) ?_ ?_
      rotate_left
      · intro w'
        go_simp
        with_reducible rfl
      rotate_left
      · simp only [Act.put, List.setIfInBounds_toArray, List.set_cons_zero, List.set_cons_succ, i64_w, i32_w]
        rfl
      refine pure_ (i := 2) (N := some 38) (v := ?_) (a' := ?_) #[true, true, true, false, false, false, false, false, false, false, false, false, false] rfl rfl (by kernel_rfl) (fun _ _ _ h => h) (Or.inl ⟨by rfl, ?_⟩) ?_ ?_
      rotate_left
      · intro w'
        go_simp
        with_reducible rfl
      rotate_left
      · simp only [Act.put, List.setIfInBounds_toArray, List.set_cons_zero, List.set_cons_succ, i64_w, i32_w]
        rfl
      refine pure_ (i := 3) (N := some 39) (v := ?_) (a' := ?_) #[true, true, true, true, false, false, false, false, false, false, false, false, false] rfl rfl (by kernel_rfl) (fun _ _ _ h => h) (Or.inl ⟨by rfl, ?_⟩) ?_ ?_
      rotate_left
      · intro w'
        go_simp
        with_reducible rfl
      rotate_left
      · simp only [Act.put, List.setIfInBounds_toArray, List.set_cons_zero, List.set_cons_succ, i64_w, i32_w]
        rfl
      refine take_ (i := 4) (N := some 40) (v := ?_) (a' := ?_) #[true, true, true, true, true, false, false, false, false, false, false, false, false] rfl rfl (by kernel_rfl) (fun _ _ _ h => h) (Or.inl ⟨by rfl, ?_⟩) hHeld ?_ ?_
      rotate_left
      · intro w' hS_
        obtain ⟨s0_, s1_, s2_⟩ := hS_
        go_simp
        with_reducible rfl
      rotate_left
      · simp only [Act.put, List.setIfInBounds_toArray, List.set_cons_zero, List.set_cons_succ, i64_w, i32_w]
        rfl
      refine take_ (i := 6) (N := some 42) (v := ?_) (a' := ?_) #[true, true, true, true, true, false, true, false, false, false, false, false, false] rfl rfl (by kernel_rfl) (fun _ _ _ h => h) (Or.inl ⟨by rfl, ?_⟩) hHeld ?_ ?_
      rotate_left
      · intro w' hS_
        obtain ⟨s0_, s1_, s2_⟩ := hS_
        go_simp
        with_reducible rfl
      rotate_left
      · simp only [Act.put, List.setIfInBounds_toArray, List.set_cons_zero, List.set_cons_succ, i64_w, i32_w]
        rfl
      refine pure_ (i := 9) (N := some 45) (v := ?_) (a' := ?_) #[true, true, true, true, true, false, true, false, false, true, false, false, false] rfl rfl (by kernel_rfl) (fun _ _ _ h => h) (Or.inl ⟨by rfl, ?_⟩) ?_ ?_
      rotate_left
      · intro w'
        go_simp
        with_reducible rfl
      rotate_left
      · simp only [Act.put, List.setIfInBounds_toArray, List.set_cons_zero, List.set_cons_succ, i64_w, i32_w]
        rfl
      refine two_ (i := 5) (j := 7) (Ni := some 41) (Nj := some 43) #[true, true, true, true, true, true, true, false, false, true, false, false, false] #[true, true, true, true, true, false, true, true, false, true, false, false, false] rfl rfl rfl rfl (by kernel_rfl) (by decide) (by decide) (fun K hK => ?_) (fun K hK => ?_)
      · skip
        refine goes_ Try.func27 (by kernel_rfl) rfl #[.slice A1 l1.length k1] ?hw rfl rfl ?hx ?_
        (case hw => rfl)
        (case hx => (try simp only [List.map_toArray, List.map_cons, List.map_nil]); first | done | rfl)
        refine (admit_pairs.calls (l1.length + 1) A1 k1 l1 (prs l1) _ (Kd.C_below HR1.out B20.out) HK1.out HPF.out).mono ?_
        rintro e wqx5 ⟨vqx5, rfl, rqx5, bqx5⟩
        obtain ⟨cqx5, hqx5, tqx5⟩ := row_got (w0 := W) c1 1 rqx5 bqx5 (Below.size B20.out)
        obtain ⟨Aqx5, kqx5, rfl⟩ := Kd.R_slice rqx5
        have HPqx5 := Aside0.mk (show (row 24 k24).M wqx5 W.heap.size (fun k => cqx5 k = 1) (prs l1) (.slice Aqx5 (prs l1).length kqx5) from hqx5)
        have HXqx5 := Aside0.mk (tqx5.keep _ (blk) 3 _ _ (by decide) HX20.out)
        have Bqx5 := Aside0.mk (tqx5.far B20.out)
        clear rqx5 bqx5 hqx5 tqx5
        refine ⟨_, rfl, ?_⟩
        have hHeld := (show _ = some (Value.slice A1 l1.length k1) ∧ _ = some (Value.int IntKind.i64 q) ∧ _ = some (Value.int IntKind.i64 p) from ⟨blk_cell ((Bqx5.out.block g HG.out).trans HBK.out) 1, blk_cell (blk_at HXqx5.out) 0, blk_cell (blk_at HXqx5.out) 1⟩)
        refine hK.out _ _ hHeld (fun hHeld => ?_)
        clear hK K
        refine norm_ (a' := ?_) ?_ ?_
        rotate_left
        · show Act.put _ (some 41) _ = _
          simp only [Act.put, List.setIfInBounds_toArray, List.set_cons_zero, List.set_cons_succ, i64_w, i32_w]
          rfl
        refine one_ (i := 7) (N := some 43) #[true, true, true, true, true, true, true, true, false, true, false, false, false] rfl rfl (by kernel_rfl) (by decide) (fun K hK => ?_)
        refine lit_step (e := 24) (c := cqx5) (w0 := W) k24 2 ?hg (N := 43) ?hd ([⟨q, p⟩] : List S24) [.int .i64 q, .int .i64 p] ?hr ?hp ?hs (by simp) ?_
        (case hd => rfl)
        (case hg => rfl)
        (case hp => exact reps_one _ _ _ _)
        (case hr => first | (go_simp; done) | (go_simp; rfl))
        (case hs => exact Below.size Bqx5.out)
        intro vqx5x7 wqx5x7 cqx5x7 hqx5x7 tqx5x7
        obtain ⟨Aqx5x7, kqx5x7, rfl, -, -⟩ := row_reads hqx5x7
        have HQqx5x7 := Aside0.mk (show (row 24 k24).M wqx5x7 W.heap.size (fun k => cqx5x7 k = 2) ([⟨q, p⟩] : List S24) (.slice Aqx5x7 ([⟨q, p⟩] : List S24).length kqx5x7) from hqx5x7)
        have HXqx5x7 := Aside0.mk (tqx5x7.keep _ (blk) 3 _ _ (by decide) HXqx5.out)
        have HPqx5x7 := Aside0.mk (tqx5x7.keep _ (row 24 k24) 1 _ _ (by decide) HPqx5.out)
        have Bqx5x7 := Aside0.mk (tqx5x7.far Bqx5.out)
        clear hqx5x7 tqx5x7
        have hHeld := (show _ = some (Value.slice A1 l1.length k1) ∧ _ = some (Value.int IntKind.i64 q) ∧ _ = some (Value.int IntKind.i64 p) from ⟨blk_cell ((Bqx5x7.out.block g HG.out).trans HBK.out) 1, blk_cell (blk_at HXqx5x7.out) 0, blk_cell (blk_at HXqx5x7.out) 1⟩)
        refine hK.out _ _ hHeld (fun hHeld => ?_)
        clear hK K
        refine norm_ (a' := ?_) ?_ ?_
        rotate_left
        · show Act.put _ (some 43) _ = _
          simp only [Act.put, List.setIfInBounds_toArray, List.set_cons_zero, List.set_cons_succ, i64_w, i32_w]
          rfl
        refine one_ (i := 8) (N := some 44) #[true, true, true, true, true, true, true, true, true, true, false, false, false] rfl rfl (by kernel_rfl) (by decide) (fun K hK => ?_)
        refine app_step (e := 24) (c := cqx5x7) (w0 := W) (d := k24) (i := 1) (by rfl) (.tmp 41) (.tmp 43) 51 (.agg #[.int .i64 0, .int .i64 0]) 16 rfl Try.underlying51 info_pair rfl (by decide) (by decide) flat24 (.slice Aqx5 (prs l1).length kqx5) (prs l1) ([⟨q, p⟩] : List S24) _ _ _ rfl rfl HPqx5x7.out (row_C HQqx5x7.out) ?hs (by have := HL.out; rw [prs_len]; show (_ + 1) * 16 ≤ _; omega) ?_
        (case hs => exact Below.size Bqx5x7.out)
        intro vqx5x7x8 wqx5x7x8 cqx5x7x8 hqx5x7x8 tqx5x7x8
        obtain ⟨Aqx5x7x8, kqx5x7x8, rfl, -, -⟩ := row_reads hqx5x7x8
        have HPqx5x7x8 := Aside0.mk (show (row 24 k24).M wqx5x7x8 W.heap.size (fun k => cqx5x7x8 k = 1) (prs l1 ++ ([⟨q, p⟩] : List S24)) (.slice Aqx5x7x8 (prs l1 ++ ([⟨q, p⟩] : List S24)).length kqx5x7x8) from hqx5x7x8)
        have HXqx5x7x8 := Aside0.mk (tqx5x7x8.keep _ (blk) 3 _ _ (by decide) HXqx5x7.out)
        have HQqx5x7x8 := Aside0.mk (tqx5x7x8.keep _ (row 24 k24) 2 _ _ (by decide) HQqx5x7.out)
        have Bqx5x7x8 := Aside0.mk (tqx5x7x8.far Bqx5x7.out)
        clear hqx5x7x8 tqx5x7x8
        have hHeld := (show _ = some (Value.slice A1 l1.length k1) ∧ _ = some (Value.int IntKind.i64 q) ∧ _ = some (Value.int IntKind.i64 p) from ⟨blk_cell ((Bqx5x7x8.out.block g HG.out).trans HBK.out) 1, blk_cell (blk_at HXqx5x7x8.out) 0, blk_cell (blk_at HXqx5x7x8.out) 1⟩)
        refine hK.out _ _ hHeld (fun hHeld => ?_)
        clear hK K
        refine norm_ (a' := ?_) ?_ ?_
        rotate_left
        · show Act.put _ (some 44) _ = _
          simp only [Act.put, List.setIfInBounds_toArray, List.set_cons_zero, List.set_cons_succ, i64_w, i32_w]
          rfl
        refine one_ (i := 10) (N := some 46) #[true, true, true, true, true, true, true, true, true, true, true, false, false] rfl rfl (by kernel_rfl) (by decide) (fun K hK => ?_)
        refine goes_ Try.func26 (by kernel_rfl) rfl #[.pointer (some ⟨g, 0, none⟩), .slice Aqx5x7x8 (prs l1 ++ ([⟨q, p⟩] : List S24)).length kqx5x7x8, .int .i64 now] ?hw rfl rfl ?hx ?_
        (case hw => rfl)
        (case hx => (try simp only [List.map_toArray, List.map_cons, List.map_nil]); first | done | rfl)
        refine (fits_calls (w0 := W) (c := cqx5x7x8) (j := 1) (m := m) (sv1 := .slice A1 l1.length k1) (A2 := A2) (k2 := k2) (l2 := l2) (ps := prs l1 ++ ([⟨q, p⟩] : List S24)) now HBK.out HR2.out HL.out.2 Bqx5x7x8.out HPqx5x7x8.out (by have := HL.out; rw [List.length_append, prs_len]; show _ + 1 ≤ _; omega) HM.out HOK.out).mono ?_
        rintro e wqx5x7x8x10 ⟨rfl, cqx5x7x8x10, tqx5x7x8x10⟩
        rw [HFB.out]
        have HXqx5x7x8x10 := Aside0.mk (tqx5x7x8x10.keep _ blk 3 _ _ (by decide) HXqx5x7x8.out)
        have Bqx5x7x8x10 := Aside0.mk (tqx5x7x8x10.far Bqx5x7x8.out)
        clear tqx5x7x8x10
        refine ⟨_, rfl, ?_⟩
        have hHeld := (show _ = some (Value.slice A1 l1.length k1) ∧ _ = some (Value.int IntKind.i64 q) ∧ _ = some (Value.int IntKind.i64 p) from ⟨blk_cell ((Bqx5x7x8x10.out.block g HG.out).trans HBK.out) 1, blk_cell (blk_at HXqx5x7x8x10.out) 0, blk_cell (blk_at HXqx5x7x8x10.out) 1⟩)
        refine hK.out _ _ hHeld (fun hHeld => ?_)
        clear hK K
        refine norm_ (a' := ?_) ?_ ?_
        rotate_left
        · show Act.put _ (some 46) _ = _
          simp only [Act.put, List.setIfInBounds_toArray, List.set_cons_zero, List.set_cons_succ, i64_w, i32_w]
          rfl
        refine pure_ (i := 11) (N := some 47) (v := ?_) (a' := ?_) #[true, true, true, true, true, true, true, true, true, true, true, true, false] rfl rfl (by kernel_rfl) (fun _ _ _ h => h) (Or.inl ⟨by rfl, ?_⟩) ?_ ?_
        rotate_left
        · intro w'
          go_simp
          with_reducible rfl
        rotate_left
        · simp only [Act.put, List.setIfInBounds_toArray, List.set_cons_zero, List.set_cons_succ, i64_w, i32_w]
          rfl
        refine pure_ (i := 12) (N := some 35) (v := ?_) (a' := ?_) #[true, true, true, true, true, true, true, true, true, true, true, true, true] rfl rfl (by kernel_rfl) (fun _ _ _ h => h) (Or.inl ⟨by rfl, ?_⟩) ?_ ?_
        rotate_left
        · intro w'
          go_simp
          with_reducible rfl
        rotate_left
        · simp only [Act.put, List.setIfInBounds_toArray, List.set_cons_zero, List.set_cons_succ, i64_w, i32_w]
          rfl
        refine done_ (by kernel_rfl) ?_
        go_wp2
        go_ret
        exact ⟨by rw [HV.out]; rfl, Bqx5x7x8x10.out⟩
      · skip
        refine lit_step (e := 24) (c := c1) (w0 := W) k24 2 ?hg (N := 43) ?hd ([⟨q, p⟩] : List S24) [.int .i64 q, .int .i64 p] ?hr ?hp ?hs (by simp) ?_
        (case hd => rfl)
        (case hg => rfl)
        (case hp => exact reps_one _ _ _ _)
        (case hr => first | (go_simp; done) | (go_simp; rfl))
        (case hs => exact Below.size B20.out)
        intro vqx7 wqx7 cqx7 hqx7 tqx7
        obtain ⟨Aqx7, kqx7, rfl, -, -⟩ := row_reads hqx7
        have HQqx7 := Aside0.mk (show (row 24 k24).M wqx7 W.heap.size (fun k => cqx7 k = 2) ([⟨q, p⟩] : List S24) (.slice Aqx7 ([⟨q, p⟩] : List S24).length kqx7) from hqx7)
        have HXqx7 := Aside0.mk (tqx7.keep _ (blk) 3 _ _ (by decide) HX20.out)
        have Bqx7 := Aside0.mk (tqx7.far B20.out)
        clear hqx7 tqx7
        have hHeld := (show _ = some (Value.slice A1 l1.length k1) ∧ _ = some (Value.int IntKind.i64 q) ∧ _ = some (Value.int IntKind.i64 p) from ⟨blk_cell ((Bqx7.out.block g HG.out).trans HBK.out) 1, blk_cell (blk_at HXqx7.out) 0, blk_cell (blk_at HXqx7.out) 1⟩)
        refine hK.out _ _ hHeld (fun hHeld => ?_)
        clear hK K
        refine norm_ (a' := ?_) ?_ ?_
        rotate_left
        · show Act.put _ (some 43) _ = _
          simp only [Act.put, List.setIfInBounds_toArray, List.set_cons_zero, List.set_cons_succ, i64_w, i32_w]
          rfl
        refine one_ (i := 5) (N := some 41) #[true, true, true, true, true, true, true, true, false, true, false, false, false] rfl rfl (by kernel_rfl) (by decide) (fun K hK => ?_)
        refine goes_ Try.func27 (by kernel_rfl) rfl #[.slice A1 l1.length k1] ?hw rfl rfl ?hx ?_
        (case hw => rfl)
        (case hx => (try simp only [List.map_toArray, List.map_cons, List.map_nil]); first | done | rfl)
        refine (admit_pairs.calls (l1.length + 1) A1 k1 l1 (prs l1) _ (Kd.C_below HR1.out Bqx7.out) HK1.out HPF.out).mono ?_
        rintro e wqx7x5 ⟨vqx7x5, rfl, rqx7x5, bqx7x5⟩
        obtain ⟨cqx7x5, hqx7x5, tqx7x5⟩ := row_got (w0 := W) cqx7 1 rqx7x5 bqx7x5 (Below.size Bqx7.out)
        obtain ⟨Aqx7x5, kqx7x5, rfl⟩ := Kd.R_slice rqx7x5
        have HPqx7x5 := Aside0.mk (show (row 24 k24).M wqx7x5 W.heap.size (fun k => cqx7x5 k = 1) (prs l1) (.slice Aqx7x5 (prs l1).length kqx7x5) from hqx7x5)
        have HXqx7x5 := Aside0.mk (tqx7x5.keep _ (blk) 3 _ _ (by decide) HXqx7.out)
        have HQqx7x5 := Aside0.mk (tqx7x5.keep _ (row 24 k24) 2 _ _ (by decide) HQqx7.out)
        have Bqx7x5 := Aside0.mk (tqx7x5.far Bqx7.out)
        clear rqx7x5 bqx7x5 hqx7x5 tqx7x5
        refine ⟨_, rfl, ?_⟩
        have hHeld := (show _ = some (Value.slice A1 l1.length k1) ∧ _ = some (Value.int IntKind.i64 q) ∧ _ = some (Value.int IntKind.i64 p) from ⟨blk_cell ((Bqx7x5.out.block g HG.out).trans HBK.out) 1, blk_cell (blk_at HXqx7x5.out) 0, blk_cell (blk_at HXqx7x5.out) 1⟩)
        refine hK.out _ _ hHeld (fun hHeld => ?_)
        clear hK K
        refine norm_ (a' := ?_) ?_ ?_
        rotate_left
        · show Act.put _ (some 41) _ = _
          simp only [Act.put, List.setIfInBounds_toArray, List.set_cons_zero, List.set_cons_succ, i64_w, i32_w]
          rfl
        refine one_ (i := 8) (N := some 44) #[true, true, true, true, true, true, true, true, true, true, false, false, false] rfl rfl (by kernel_rfl) (by decide) (fun K hK => ?_)
        refine app_step (e := 24) (c := cqx7x5) (w0 := W) (d := k24) (i := 1) (by rfl) (.tmp 41) (.tmp 43) 51 (.agg #[.int .i64 0, .int .i64 0]) 16 rfl Try.underlying51 info_pair rfl (by decide) (by decide) flat24 (.slice Aqx7x5 (prs l1).length kqx7x5) (prs l1) ([⟨q, p⟩] : List S24) _ _ _ rfl rfl HPqx7x5.out (row_C HQqx7x5.out) ?hs (by have := HL.out; rw [prs_len]; show (_ + 1) * 16 ≤ _; omega) ?_
        (case hs => exact Below.size Bqx7x5.out)
        intro vqx7x5x8 wqx7x5x8 cqx7x5x8 hqx7x5x8 tqx7x5x8
        obtain ⟨Aqx7x5x8, kqx7x5x8, rfl, -, -⟩ := row_reads hqx7x5x8
        have HPqx7x5x8 := Aside0.mk (show (row 24 k24).M wqx7x5x8 W.heap.size (fun k => cqx7x5x8 k = 1) (prs l1 ++ ([⟨q, p⟩] : List S24)) (.slice Aqx7x5x8 (prs l1 ++ ([⟨q, p⟩] : List S24)).length kqx7x5x8) from hqx7x5x8)
        have HXqx7x5x8 := Aside0.mk (tqx7x5x8.keep _ (blk) 3 _ _ (by decide) HXqx7x5.out)
        have HQqx7x5x8 := Aside0.mk (tqx7x5x8.keep _ (row 24 k24) 2 _ _ (by decide) HQqx7x5.out)
        have Bqx7x5x8 := Aside0.mk (tqx7x5x8.far Bqx7x5.out)
        clear hqx7x5x8 tqx7x5x8
        have hHeld := (show _ = some (Value.slice A1 l1.length k1) ∧ _ = some (Value.int IntKind.i64 q) ∧ _ = some (Value.int IntKind.i64 p) from ⟨blk_cell ((Bqx7x5x8.out.block g HG.out).trans HBK.out) 1, blk_cell (blk_at HXqx7x5x8.out) 0, blk_cell (blk_at HXqx7x5x8.out) 1⟩)
        refine hK.out _ _ hHeld (fun hHeld => ?_)
        clear hK K
        refine norm_ (a' := ?_) ?_ ?_
        rotate_left
        · show Act.put _ (some 44) _ = _
          simp only [Act.put, List.setIfInBounds_toArray, List.set_cons_zero, List.set_cons_succ, i64_w, i32_w]
          rfl
        refine one_ (i := 10) (N := some 46) #[true, true, true, true, true, true, true, true, true, true, true, false, false] rfl rfl (by kernel_rfl) (by decide) (fun K hK => ?_)
        refine goes_ Try.func26 (by kernel_rfl) rfl #[.pointer (some ⟨g, 0, none⟩), .slice Aqx7x5x8 (prs l1 ++ ([⟨q, p⟩] : List S24)).length kqx7x5x8, .int .i64 now] ?hw rfl rfl ?hx ?_
        (case hw => rfl)
        (case hx => (try simp only [List.map_toArray, List.map_cons, List.map_nil]); first | done | rfl)
        refine (fits_calls (w0 := W) (c := cqx7x5x8) (j := 1) (m := m) (sv1 := .slice A1 l1.length k1) (A2 := A2) (k2 := k2) (l2 := l2) (ps := prs l1 ++ ([⟨q, p⟩] : List S24)) now HBK.out HR2.out HL.out.2 Bqx7x5x8.out HPqx7x5x8.out (by have := HL.out; rw [List.length_append, prs_len]; show _ + 1 ≤ _; omega) HM.out HOK.out).mono ?_
        rintro e wqx7x5x8x10 ⟨rfl, cqx7x5x8x10, tqx7x5x8x10⟩
        rw [HFB.out]
        have HXqx7x5x8x10 := Aside0.mk (tqx7x5x8x10.keep _ blk 3 _ _ (by decide) HXqx7x5x8.out)
        have Bqx7x5x8x10 := Aside0.mk (tqx7x5x8x10.far Bqx7x5x8.out)
        clear tqx7x5x8x10
        refine ⟨_, rfl, ?_⟩
        have hHeld := (show _ = some (Value.slice A1 l1.length k1) ∧ _ = some (Value.int IntKind.i64 q) ∧ _ = some (Value.int IntKind.i64 p) from ⟨blk_cell ((Bqx7x5x8x10.out.block g HG.out).trans HBK.out) 1, blk_cell (blk_at HXqx7x5x8x10.out) 0, blk_cell (blk_at HXqx7x5x8x10.out) 1⟩)
        refine hK.out _ _ hHeld (fun hHeld => ?_)
        clear hK K
        refine norm_ (a' := ?_) ?_ ?_
        rotate_left
        · show Act.put _ (some 46) _ = _
          simp only [Act.put, List.setIfInBounds_toArray, List.set_cons_zero, List.set_cons_succ, i64_w, i32_w]
          rfl
        refine pure_ (i := 11) (N := some 47) (v := ?_) (a' := ?_) #[true, true, true, true, true, true, true, true, true, true, true, true, false] rfl rfl (by kernel_rfl) (fun _ _ _ h => h) (Or.inl ⟨by rfl, ?_⟩) ?_ ?_
        rotate_left
        · intro w'
          go_simp
          with_reducible rfl
        rotate_left
        · simp only [Act.put, List.setIfInBounds_toArray, List.set_cons_zero, List.set_cons_succ, i64_w, i32_w]
          rfl
        refine pure_ (i := 12) (N := some 35) (v := ?_) (a' := ?_) #[true, true, true, true, true, true, true, true, true, true, true, true, true] rfl rfl (by kernel_rfl) (fun _ _ _ h => h) (Or.inl ⟨by rfl, ?_⟩) ?_ ?_
        rotate_left
        · intro w'
          go_simp
          with_reducible rfl
        rotate_left
        · simp only [Act.put, List.setIfInBounds_toArray, List.set_cons_zero, List.set_cons_succ, i64_w, i32_w]
          rfl
        refine done_ (by kernel_rfl) ?_
        go_wp2
        go_ret
        exact ⟨by rw [HV.out]; rfl, Bqx7x5x8x10.out⟩
end Go.Proofs.Ytmjodeijafoabaa.Admit

/- Admit: a book by colours: New, Enter (no law is stated here; each says its conditions). -/
namespace Go.Proofs.Ytmjodeijafoabaa.Admit
open Go.RowKit Go.Proofs.YtmjodeijafoabaaW.PrintWords Go.Proofs.YtmjodeijafoabaaW.PrintLast Go.Proofs.YtmjodeijafoabaaW.PrintMore Go.Proofs.Ytmjodeijafoabaa.St Go.Proofs.Ytmjodeijafoabaa.Q Go.Proofs.Ytmjodeijafoabaa.Pure
set_option linter.unusedVariables false
set_option linter.unusedSimpArgs false
attribute [local go_sem] max2_int min2_int max_two min_two max_three min_three max_four min_four

/-- A book: its block, its two rows, by colours. -/
def BK (w0 W : World) (c : Nat → Nat) (i : Nat) (m : Int) (l1 l2 : List S37) (g : Nat) : Prop :=
  ∃ A1 k1 A2 k2, blk.M W w0.heap.size (fun k => c k = i) (.cells #[.int .i64 m, .slice A1 l1.length k1, .slice A2 l2.length k2] 55 (0, 0)) (.pointer (some ⟨g, 0, none⟩)) ∧ (row 37 k37).M W w0.heap.size (fun k => c k = (i + 1)) l1 (.slice A1 l1.length k1) ∧ (row 37 k37).M W w0.heap.size (fun k => c k = (i + 2)) l2 (.slice A2 l2.length k2)
theorem BK.below {w0 W W1 : World} {c : Nat → Nat} {i : Nat} {m : Int} {l1 l2 : List S37} {g : Nat} (h : BK w0 W c i m l1 l2 g) (hb : Below W.heap.size W W1) : BK w0 W1 c i m l1 l2 g := by
  obtain ⟨A1, k1, A2, k2, h1, h2, h3⟩ := h
  exact ⟨A1, k1, A2, k2, St.below (s := blk) h1 hb, St.below (s := row 37 k37) h2 hb, St.below (s := row 37 k37) h3 hb⟩
theorem blk_put1 {w0 W : World} {c : Nat → Nat} {i : Nat} {cs : Array Value} {t : TypeId} {g : Nat} (h : blk.M W w0.heap.size (fun k => c k = i) (.cells cs t (0, 0)) (.pointer (some ⟨g, 0, none⟩))) (j : Nat) (u : Value) (hs : w0.heap.size ≤ W.heap.size) :
    ∃ c', blk.M (W.setCell ⟨g, j, none⟩ u) w0.heap.size (fun k => c' k = i) (.cells (cs.setIfInBounds j u) t (0, 0)) (.pointer (some ⟨g, 0, none⟩)) ∧ Turned c c' i w0 W (W.setCell ⟨g, j, none⟩ u) := by
  obtain ⟨g2, e1, ⟨e2, e2b⟩, e3, e4, e5⟩ := St.mine (s := blk) h
  injection e1 with e1
  injection e1 with e1
  injection e1 with e1
  subst e1
  have h2 := blk_set e5 j u
  exact turned (s := blk) ⟨g, rfl, Or.inl ⟨e2, e2b⟩, e3, blk_lt h2, h2⟩ ((Wrote.refl W _).setCell (Or.inl ⟨e2, e2b⟩) u) hs
theorem row1 (w : World) (b : Nat) (x : S37) : Reps (k37.M w b (fun _ => False)) k37.sz [x] [.int .i64 x.f0, .int .i64 x.f1.f0, .int .i64 x.f1.f1, .int .i64 x.f2] := by
  refine ⟨rfl, fun i y hy => ?_⟩
  cases i with
  | zero =>
    cases hy
    exact k37_mkM w b _ x
  | succ i => simp at hy
section
variable {P : Program} {ops : Array Oper} {o : Oper} {a : Act} {Q : Exit → Act → World → Prop} {Kc : Act → World → Prop}
theorem store_step {W w1 : World} (hw : Region.wanted o (yielded ops a.tmps) = true) (hN : o.dst = none) (hrun : (execOp a.eval o).run P W = .ok .skip w1) (h : Kc (a.put none undef) w1) : if Region.wanted o (yielded ops a.tmps) = true then Oper.wp P o a W Kc Q else Kc (a.put none undef) W := by
  rw [if_pos hw]
  unfold Oper.wp
  rw [hrun]
  show Kc (a.put o.dst undef) w1
  rw [hN]
  exact h
end
/-- What Enter answers. -/
def enterV (m : Int) (l1 l2 : List S37) (id q p now : Int) : Int :=
  if goodP q p = false ∨ now < 0 then 1 else if 0 ≤ findE id l1 0 then 5 else askV m l1 l2 q p now
def enterL (m : Int) (l1 l2 : List S37) (id q p now : Int) : List S37 := if enterV m l1 l2 id q p now = 0 then l1 ++ [⟨id, ⟨q, p⟩, -1⟩] else l1
set_option maxHeartbeats 1000000 in
set_option maxRecDepth 100000 in
theorem new_bad (m : Int) (W : World) (hm : m < 1 ∨ 64 < m) : Calls Try.prog 8 #[.int .i64 m] W fun e w' => e = .returned (.tuple #[.pointer none, .int .i64 1]) ∧ w' = W := by
  by_cases h1 : m < 1
  · have d1 : decide (m < 1) = true := decide_eq_true h1
    clear h1 hm
    go_enter Try.func8, Try.ntmps8
    go_wp2
    go_ret2
    exact ⟨rfl, rfl⟩
  · have d1 : decide (m < 1) = false := decide_eq_false h1
    have d2 : decide (64 < m) = true := decide_eq_true (by omega)
    clear h1 hm
    go_enter Try.func8, Try.ntmps8
    go_wp2
    go_ret2
    exact ⟨rfl, rfl⟩
set_option maxHeartbeats 1000000 in
set_option maxRecDepth 100000 in
theorem new_ok {w0 W : World} (c : Nat → Nat) (i : Nat) (m : Int) (hm : 1 ≤ m ∧ m ≤ 64) (hB : Below w0.heap.size w0 W) :
    Calls Try.prog 8 #[.int .i64 m] W fun e w' => ∃ g : Nat, e = .returned (.tuple #[.pointer (some ⟨g, 0, none⟩), .int .i64 0]) ∧ ∃ c', BK w0 w' c' i m [] [] g ∧ TurnedL c c' [i, (i + 1), (i + 2), (i + 3), (i + 4)] w0 W w' := by
  have HB := Aside0.mk hB
  have d1 : decide (m < 1) = false := decide_eq_false (by omega)
  have d2 : decide (64 < m) = false := decide_eq_false (by omega)
  clear hm hB
  go_enter Try.func8, Try.ntmps8
  go_wp2
  go_ret2
  have hb : Below W.heap.size W (W.alloc (.cells #[.int .i64 m, .slice none 0 0, .slice none 0 0] 55)) := below_alloc (Below.refl _ _) _
  have hX : (W.alloc (.cells #[.int .i64 m, .slice none 0 0, .slice none 0 0] 55)).heap[W.heap.size]? = some (.cells #[.int .i64 m, .slice none 0 0, .slice none 0 0] 55 (0, 0)) := by simpa using heap_alloc_new W _
  obtain ⟨c1, h1, t1⟩ := blk_new1 (w0 := w0) c i (Nat.le_refl _) hX hb HB.out.size
  exact ⟨W.heap.size, rfl, c1, ⟨none, 0, none, 0, h1, Kd.R_nil _ _ _ _ _, Kd.R_nil _ _ _ _ _⟩, (TurnedL.refl c _ w0 W).step t1 (by simp)⟩
set_option maxHeartbeats 8000000 in
set_option maxRecDepth 100000 in
theorem enter_calls {w0 W : World} {c : Nat → Nat} {i g : Nat} {m : Int} {l1 l2 : List S37} (id q p now : Int) (h : BK w0 W c i m l1 l2 g) (hB : Below w0.heap.size w0 W) (hl : l1.length ≤ 400 ∧ l2.length ≤ 900) (hm : 1 ≤ m ∧ m ≤ 64) (hok1 : Okl (prs l1)) (hok2 : Okl (prs l2)) :
    Calls Try.prog 9 #[.pointer (some ⟨g, 0, none⟩), .int .i64 id, .agg #[.int .i64 q, .int .i64 p], .int .i64 now] W fun e w' => e = .returned (.int .i64 (enterV m l1 l2 id q p now)) ∧ ∃ c', BK w0 w' c' i m (enterL m l1 l2 id q p now) l2 g ∧ TurnedL c c' [i, (i + 1), (i + 2), (i + 3), (i + 4)] w0 W w' := by
  obtain ⟨A1, k1, A2, k2, hb1, hb2, hb3⟩ := h
  have HLN := Aside0.mk hl
  have HM := Aside0.mk hm
  have HK1 := Aside0.mk hok1
  have HK2 := Aside0.mk hok2
  obtain ⟨gb, hgb⟩ : ∃ gb, goodP q p = gb := ⟨_, rfl⟩
  have GB := Aside0.mk hgb
  obtain ⟨fv, hfv⟩ : ∃ fv, findE id l1 0 = fv := ⟨_, rfl⟩
  have FV := Aside0.mk hfv
  obtain ⟨av, hav⟩ : ∃ av, askV m l1 l2 q p now = av := ⟨_, rfl⟩
  have AV := Aside0.mk hav
  have HEV := Aside0.mk (show enterV m l1 l2 id q p now = if gb = false ∨ now < 0 then 1 else if 0 ≤ fv then 5 else av from by unfold enterV; rw [hgb, hfv, hav])
  obtain ⟨ev, hev⟩ : ∃ ev, enterV m l1 l2 id q p now = ev := ⟨_, rfl⟩
  obtain ⟨el, hel⟩ : ∃ el, enterL m l1 l2 id q p now = el := ⟨_, rfl⟩
  have HEL := Aside0.mk (show el = if ev = 0 then l1 ++ [⟨id, ⟨q, p⟩, -1⟩] else l1 from by rw [← hel, ← hev]; rfl)
  rw [hev] at HEV
  rw [hev, hel]
  have M1 := Aside0.mk hb1
  have M2 := Aside0.mk hb2
  have M3 := Aside0.mk hb3
  have HB := Aside0.mk hB
  clear hgb hfv hav hev hel hb1 hb2 hb3 hB hl hm hok1 hok2
  go_enter Try.func9, Try.ntmps9
  go_upto_region 1 with (fail)
  have hbx : Below W.heap.size W (W.alloc (.cells #[.int .i64 q, .int .i64 p] 24)) := below_alloc (Below.refl _ _) _
  have hX : (W.alloc (.cells #[.int .i64 q, .int .i64 p] 24)).heap[W.heap.size]? = some (.cells #[.int .i64 q, .int .i64 p] 24 (0, 0)) := by simpa using heap_alloc_new W _
  obtain ⟨c1, h1, t1⟩ := blk_new1 (w0 := w0) c (i + 3) (Nat.le_refl _) hX hbx HB.out.size
  have HX1 := Aside0.mk h1
  have HB1 := Aside0.mk (t1.keep _ blk i _ _ (by omega) M1.out)
  have HL1 := Aside0.mk (t1.keep _ (row 37 k37) (i + 1) _ _ (by omega) M2.out)
  have HO1 := Aside0.mk (t1.keep _ (row 37 k37) (i + 2) _ _ (by omega) M3.out)
  have B1 := Aside0.mk (t1.far HB.out)
  have T1 := Aside0.mk ((TurnedL.refl c [i, (i + 1), (i + 2), (i + 3), (i + 4)] w0 W).step t1 (by simp))
  clear h1 t1 hX hbx M1 M2 M3
  generalize W.alloc (.cells #[.int .i64 q, .int .i64 p] 24) = w1 at HX1 HB1 HL1 HO1 B1 T1 ⊢
  cases gb with
  | false =>
    have HV := Aside0.mk (show ev = 1 from by rw [HEV.out, if_pos (Or.inl rfl)])
    have HVL := Aside0.mk (show el = l1 from by rw [HEL.out, HV.out, if_neg (by decide)])
    have y0 := blk_cell (blk_at HX1.out) 0
    have y1 := blk_cell (blk_at HX1.out) 1
    go_wp2_with (first | (go_at_call 22; (with_reducible refine (win_Good.calls q p _ _ (good_f q p)).mono ?_); rintro e w2 ⟨rfl, hb2⟩; rw [GB.out]; have HB2 := Aside0.mk (St.below (s := blk) HB1.out hb2); have HL2 := Aside0.mk (St.below (s := row 37 k37) HL1.out hb2); have HO2 := Aside0.mk (St.below (s := row 37 k37) HO1.out hb2); have HX2 := Aside0.mk (St.below (s := blk) HX1.out hb2); have B2 := Aside0.mk (Below.trans B1.out (Below.mono hb2 (Below.size B1.out))); have T2 := Aside0.mk (T1.out.below hb2); clear hb2; clear y0 y1))
    go_ret
    exact ⟨by rw [HV.out]; rfl, c1, by rw [HVL.out]; exact ⟨_, _, _, _, HB2.out, HL2.out, HO2.out⟩, T2.out⟩
  | true =>
    by_cases hn : now < 0
    · have pn : decide (now < 0) = true := decide_eq_true hn
      have HV := Aside0.mk (show ev = 1 from by rw [HEV.out, if_pos (Or.inr hn)])
      have HVL := Aside0.mk (show el = l1 from by rw [HEL.out, HV.out, if_neg (by decide)])
      clear hn
      have y0 := blk_cell (blk_at HX1.out) 0
      have y1 := blk_cell (blk_at HX1.out) 1
      go_wp2_with (first | (go_at_call 22; (with_reducible refine (win_Good.calls q p _ _ (good_f q p)).mono ?_); rintro e w2 ⟨rfl, hb2⟩; rw [GB.out]; have HB2 := Aside0.mk (St.below (s := blk) HB1.out hb2); have HL2 := Aside0.mk (St.below (s := row 37 k37) HL1.out hb2); have HO2 := Aside0.mk (St.below (s := row 37 k37) HO1.out hb2); have HX2 := Aside0.mk (St.below (s := blk) HX1.out hb2); have B2 := Aside0.mk (Below.trans B1.out (Below.mono hb2 (Below.size B1.out))); have T2 := Aside0.mk (T1.out.below hb2); clear hb2; clear y0 y1))
      go_ret
      exact ⟨by rw [HV.out]; rfl, c1, by rw [HVL.out]; exact ⟨_, _, _, _, HB2.out, HL2.out, HO2.out⟩, T2.out⟩
    have pn : decide (now < 0) = false := decide_eq_false hn
    have HE2 := Aside0.mk (show ev = if 0 ≤ fv then 5 else av from by rw [HEV.out, if_neg (by rintro (h | h); cases h; exact hn h)])
    clear hn
    by_cases hf : 0 ≤ fv
    · have pf : decide (0 ≤ fv) = true := decide_eq_true hf
      have HV := Aside0.mk (show ev = 5 from by rw [HE2.out, if_pos hf])
      have HVL := Aside0.mk (show el = l1 from by rw [HEL.out, HV.out, if_neg (by decide)])
      clear hf
      have y0 := blk_cell (blk_at HX1.out) 0
      have y1 := blk_cell (blk_at HX1.out) 1
      go_wp2_with (first | (go_at_call 22; (with_reducible refine (win_Good.calls q p _ _ (good_f q p)).mono ?_); rintro e w2 ⟨rfl, hb2⟩; rw [GB.out]; have HB2 := Aside0.mk (St.below (s := blk) HB1.out hb2); have HL2 := Aside0.mk (St.below (s := row 37 k37) HL1.out hb2); have HO2 := Aside0.mk (St.below (s := row 37 k37) HO1.out hb2); have HX2 := Aside0.mk (St.below (s := blk) HX1.out hb2); have B2 := Aside0.mk (Below.trans B1.out (Below.mono hb2 (Below.size B1.out))); have T2 := Aside0.mk (T1.out.below hb2); clear hb2; clear y0 y1) | (go_at_call 23; (with_reducible refine (find_calls id (blk_at HB2.out) (row_C HL2.out) (by have := HLN.out; omega)).mono ?_); rintro e w3 ⟨rfl, hb3⟩; rw [FV.out]; have HB3 := Aside0.mk (St.below (s := blk) HB2.out hb3); have HL3 := Aside0.mk (St.below (s := row 37 k37) HL2.out hb3); have HO3 := Aside0.mk (St.below (s := row 37 k37) HO2.out hb3); have HX3 := Aside0.mk (St.below (s := blk) HX2.out hb3); have B3 := Aside0.mk (Below.trans B2.out (Below.mono hb3 (Below.size B2.out))); have T3 := Aside0.mk (T2.out.below hb3); clear hb3))
      go_ret
      exact ⟨by rw [HV.out]; rfl, c1, by rw [HVL.out]; exact ⟨_, _, _, _, HB3.out, HL3.out, HO3.out⟩, T3.out⟩
    have pf : decide (0 ≤ fv) = false := decide_eq_false hf
    have HE3 := Aside0.mk (show ev = av from by rw [HE2.out, if_neg hf])
    clear hf
    by_cases ha : av = 0
    · have pa : (av != 0) = false := bne_eq_false_iff_eq.2 ha
      have HV := Aside0.mk (show ev = 0 from HE3.out.trans ha)
      obtain ⟨ls, hls⟩ : ∃ ls, l1 ++ [⟨id, ⟨q, p⟩, -1⟩] = ls := ⟨_, rfl⟩
      have HLS := Aside0.mk hls
      have HVL := Aside0.mk (show el = ls from by rw [HEL.out, HV.out, if_pos rfl, hls])
      clear ha hls
      have y0 := blk_cell (blk_at HX1.out) 0
      have y1 := blk_cell (blk_at HX1.out) 1
      go_upto_region 8 with (first | (go_at_call 22; (with_reducible refine (win_Good.calls q p _ _ (good_f q p)).mono ?_); rintro e w2 ⟨rfl, hb2⟩; rw [GB.out]; have HB2 := Aside0.mk (St.below (s := blk) HB1.out hb2); have HL2 := Aside0.mk (St.below (s := row 37 k37) HL1.out hb2); have HO2 := Aside0.mk (St.below (s := row 37 k37) HO1.out hb2); have HX2 := Aside0.mk (St.below (s := blk) HX1.out hb2); have B2 := Aside0.mk (Below.trans B1.out (Below.mono hb2 (Below.size B1.out))); have T2 := Aside0.mk (T1.out.below hb2); clear hb2; clear y0 y1) | (go_at_call 23; (with_reducible refine (find_calls id (blk_at HB2.out) (row_C HL2.out) (by have := HLN.out; omega)).mono ?_); rintro e w3 ⟨rfl, hb3⟩; rw [FV.out]; have HB3 := Aside0.mk (St.below (s := blk) HB2.out hb3); have HL3 := Aside0.mk (St.below (s := row 37 k37) HL2.out hb3); have HO3 := Aside0.mk (St.below (s := row 37 k37) HO2.out hb3); have HX3 := Aside0.mk (St.below (s := blk) HX2.out hb3); have B3 := Aside0.mk (Below.trans B2.out (Below.mono hb3 (Below.size B2.out))); have T3 := Aside0.mk (T2.out.below hb3); clear hb3; have y0 := blk_cell (blk_at HX3.out) 0; have y1 := blk_cell (blk_at HX3.out) 1) | (go_at_call 12; (with_reducible refine (ask_calls q p now (blk_at HB3.out) (row_C HL3.out) (row_le HL3.out) (row_C HO3.out) (by have := HLN.out; omega) (by have := HLN.out; omega) HM.out HK1.out HK2.out).mono ?_); rintro e w4 ⟨rfl, hb4⟩; rw [AV.out]; have HB4 := Aside0.mk (St.below (s := blk) HB3.out hb4); have HL4 := Aside0.mk (St.below (s := row 37 k37) HL3.out hb4); have HO4 := Aside0.mk (St.below (s := row 37 k37) HO3.out hb4); have HX4 := Aside0.mk (St.below (s := blk) HX3.out hb4); have B4 := Aside0.mk (Below.trans B3.out (Below.mono hb4 (Below.size B3.out))); have T4 := Aside0.mk (T3.out.below hb4); clear hb4; clear y0 y1))
      have y0 := blk_cell (blk_at HX4.out) 0
      have y1 := blk_cell (blk_at HX4.out) 1
      obtain ⟨w5, hw5⟩ : ∃ w5 : World, w4.drew = w5 := ⟨_, rfl⟩
      have hb5 : Below w4.heap.size w4 w5 := by rw [← hw5]; exact below_drew (Below.refl _ _)
      have HB5 := Aside0.mk (St.below (s := blk) HB4.out hb5)
      have HL5 := Aside0.mk (St.below (s := row 37 k37) HL4.out hb5)
      have HO5 := Aside0.mk (St.below (s := row 37 k37) HO4.out hb5)
      have HX5 := Aside0.mk (St.below (s := blk) HX4.out hb5)
      have B5 := Aside0.mk (Below.trans B4.out (Below.mono hb5 (Below.size B4.out)))
      have T5 := Aside0.mk (T4.out.below hb5)
      clear hb5 y0 y1
      refine start_ (n := 13) (S := fun w' => w'.cell? ⟨g, 1, none⟩ = some (.slice A1 l1.length k1) ∧ w'.cell? ⟨W.heap.size, 0, none⟩ = some (.int .i64 q) ∧ w'.cell? ⟨W.heap.size, 1, none⟩ = some (.int .i64 p)) (ds := [12]) #[false, false, false, false, false, false, false, false, false, false, false, false, false] (by kernel_rfl) rfl rfl (by rw [hw5]; exact ⟨blk_cell (blk_at HB5.out) 1, blk_cell (blk_at HX5.out) 0, blk_cell (blk_at HX5.out) 1⟩) (fun hHeld => ?_)
      refine pure_ (i := 0) (N := some 30) (v := ?_) (a' := ?_) #[true, false, false, false, false, false, false, false, false, false, false, false, false] rfl rfl (by kernel_rfl) (fun _ _ _ h => h) (Or.inl ⟨by rfl, ?_⟩) ?_ ?_
      rotate_left
      · intro w'
        go_simp
        with_reducible rfl
      rotate_left
      · simp only [Act.put, List.setIfInBounds_toArray, List.set_cons_zero, List.set_cons_succ, i64_w, i32_w]
        rfl
      refine pure_ (i := 1) (N := some 31) (v := ?_) (a' := ?_) #[true, true, false, false, false, false, false, false, false, false, false, false, false] rfl rfl (by kernel_rfl) (fun _ _ _ h => h) (Or.inl ⟨by rfl, ?_⟩) ?_ ?_
      rotate_left
      · intro w'
        go_simp
        with_reducible rfl
      rotate_left
      · simp only [Act.put, List.setIfInBounds_toArray, List.set_cons_zero, List.set_cons_succ, i64_w, i32_w]
        rfl
      refine pure_ (i := 2) (N := some 32) (v := ?_) (a' := ?_) #[true, true, true, false, false, false, false, false, false, false, false, false, false] rfl rfl (by kernel_rfl) (fun _ _ _ h => h) (Or.inl ⟨by rfl, ?_⟩) ?_ ?_
      rotate_left
      · intro w'
        go_simp
        with_reducible rfl
      rotate_left
      · simp only [Act.put, List.setIfInBounds_toArray, List.set_cons_zero, List.set_cons_succ, i64_w, i32_w]
        rfl
      refine pure_ (i := 3) (N := some 33) (v := ?_) (a' := ?_) #[true, true, true, true, false, false, false, false, false, false, false, false, false] rfl rfl (by kernel_rfl) (fun _ _ _ h => h) (Or.inl ⟨by rfl, ?_⟩) ?_ ?_
      rotate_left
      · intro w'
        go_simp
        with_reducible rfl
      rotate_left
      · simp only [Act.put, List.setIfInBounds_toArray, List.set_cons_zero, List.set_cons_succ, i64_w, i32_w]
        rfl
      refine take_ (i := 4) (N := some 34) (v := ?_) (a' := ?_) #[true, true, true, true, true, false, false, false, false, false, false, false, false] rfl rfl (by kernel_rfl) (fun _ _ _ h => h) (Or.inl ⟨by rfl, ?_⟩) hHeld ?_ ?_
      rotate_left
      · intro w' hS_
        obtain ⟨s0_, s1_, s2_⟩ := hS_
        go_simp
        with_reducible rfl
      rotate_left
      · simp only [Act.put, List.setIfInBounds_toArray, List.set_cons_zero, List.set_cons_succ, i64_w, i32_w]
        rfl
      refine pure_ (i := 5) (N := some 35) (v := ?_) (a' := ?_) #[true, true, true, true, true, true, false, false, false, false, false, false, false] rfl rfl (by kernel_rfl) (fun _ _ _ h => h) (Or.inl ⟨by rfl, ?_⟩) ?_ ?_
      rotate_left
      · intro w'
        go_simp
        with_reducible rfl
      rotate_left
      · simp only [Act.put, List.setIfInBounds_toArray, List.set_cons_zero, List.set_cons_succ, i64_w, i32_w]
        rfl
      refine take_ (i := 6) (N := some 36) (v := ?_) (a' := ?_) #[true, true, true, true, true, true, true, false, false, false, false, false, false] rfl rfl (by kernel_rfl) (fun _ _ _ h => h) (Or.inl ⟨by rfl, ?_⟩) hHeld ?_ ?_
      rotate_left
      · intro w' hS_
        obtain ⟨s0_, s1_, s2_⟩ := hS_
        go_simp
        with_reducible rfl
      rotate_left
      · simp only [Act.put, List.setIfInBounds_toArray, List.set_cons_zero, List.set_cons_succ, i64_w, i32_w]
        rfl
      refine pure_ (i := 7) (N := some 37) (v := ?_) (a' := ?_) #[true, true, true, true, true, true, true, true, false, false, false, false, false] rfl rfl (by kernel_rfl) (fun _ _ _ h => h) (Or.inl ⟨by rfl, ?_⟩) ?_ ?_
      rotate_left
      · intro w'
        go_simp
        with_reducible rfl
      rotate_left
      · simp only [Act.put, List.setIfInBounds_toArray, List.set_cons_zero, List.set_cons_succ, i64_w, i32_w]
        rfl
      refine one_ (i := 8) (N := some 38) #[true, true, true, true, true, true, true, true, true, false, false, false, false] rfl rfl (by kernel_rfl) (by decide) (fun K hK => ?_)
      rw [hw5]
      refine lit_step (e := 37) (c := c1) (w0 := w0) k37 (i + 4) ?hg (N := 38) ?hd ([⟨id, ⟨q, p⟩, -1⟩] : List S37) [.int .i64 id, .int .i64 q, .int .i64 p, .int .i64 (-1)] ?hr ?hp ?hs (by simp) ?_
      (case hd => rfl)
      (case hg => rfl)
      (case hp => exact row1 _ _ ⟨id, ⟨q, p⟩, -1⟩)
      (case hr => first | (go_simp; done) | (go_simp; rfl))
      (case hs => exact Below.size B5.out)
      intro v6 w6 c6 h6 t6
      obtain ⟨A6, k6, rfl, -, -⟩ := row_reads h6
      have HE6 := Aside0.mk (show (row 37 k37).M w6 w0.heap.size (fun k => c6 k = (i + 4)) ([⟨id, ⟨q, p⟩, -1⟩] : List S37) (.slice A6 ([⟨id, ⟨q, p⟩, -1⟩] : List S37).length k6) from h6)
      have HB6 := Aside0.mk (t6.keep _ (blk) i _ _ (by omega) HB5.out)
      have HL6 := Aside0.mk (t6.keep _ (row 37 k37) (i + 1) _ _ (by omega) HL5.out)
      have HO6 := Aside0.mk (t6.keep _ (row 37 k37) (i + 2) _ _ (by omega) HO5.out)
      have HX6 := Aside0.mk (t6.keep _ (blk) (i + 3) _ _ (by omega) HX5.out)
      have B6 := Aside0.mk (t6.far B5.out)
      have T6 := Aside0.mk (T5.out.step t6 (by simp))
      clear h6 t6
      have hHeld := (show _ = some (Value.slice A1 l1.length k1) ∧ _ = some (Value.int IntKind.i64 q) ∧ _ = some (Value.int IntKind.i64 p) from ⟨blk_cell (blk_at HB6.out) 1, blk_cell (blk_at HX6.out) 0, blk_cell (blk_at HX6.out) 1⟩)
      refine hK.out _ _ hHeld (fun hHeld => ?_)
      clear hK K
      refine norm_ (a' := ?_) ?_ ?_
      rotate_left
      · show Act.put _ (some 38) _ = _
        simp only [Act.put, List.setIfInBounds_toArray, List.set_cons_zero, List.set_cons_succ, i64_w, i32_w]
        rfl
      refine one_ (i := 9) (N := some 39) #[true, true, true, true, true, true, true, true, true, true, false, false, false] rfl rfl (by kernel_rfl) (by decide) (fun K hK => ?_)
      refine app_step (e := 37) (c := c6) (w0 := w0) (d := k37) (i := (i + 1)) (by rfl) (.tmp 34) (.tmp 38) 34 (.agg #[.int .i64 0, .int .i64 0, .int .i64 0, .int .i64 0]) 32 rfl Try.underlying34 info_entry rfl (by decide) (by decide) flat37 (.slice A1 l1.length k1) l1 ([⟨id, ⟨q, p⟩, -1⟩] : List S37) _ _ _ rfl rfl HL6.out (row_C HE6.out) ?hs (by have := HLN.out; show (_ + 1) * 32 ≤ _; omega) ?_
      (case hs => exact Below.size B6.out)
      intro v7 w7 c7 h7 t7
      rw [HLS.out] at h7
      obtain ⟨A7, k7, rfl, -, -⟩ := row_reads h7
      have HL7 := Aside0.mk (show (row 37 k37).M w7 w0.heap.size (fun k => c7 k = (i + 1)) ls (.slice A7 ls.length k7) from h7)
      have HB7 := Aside0.mk (t7.keep _ (blk) i _ _ (by omega) HB6.out)
      have HO7 := Aside0.mk (t7.keep _ (row 37 k37) (i + 2) _ _ (by omega) HO6.out)
      have HX7 := Aside0.mk (t7.keep _ (blk) (i + 3) _ _ (by omega) HX6.out)
      have HE7 := Aside0.mk (t7.keep _ (row 37 k37) (i + 4) _ _ (by omega) HE6.out)
      have B7 := Aside0.mk (t7.far B6.out)
      have T7 := Aside0.mk (T6.out.step t7 (by simp))
      clear h7 t7
      have hHeld := (show _ = some (Value.slice A1 l1.length k1) ∧ _ = some (Value.int IntKind.i64 q) ∧ _ = some (Value.int IntKind.i64 p) from ⟨blk_cell (blk_at HB7.out) 1, blk_cell (blk_at HX7.out) 0, blk_cell (blk_at HX7.out) 1⟩)
      refine hK.out _ _ hHeld (fun hHeld => ?_)
      clear hK K
      refine norm_ (a' := ?_) ?_ ?_
      rotate_left
      · show Act.put _ (some 39) _ = _
        simp only [Act.put, List.setIfInBounds_toArray, List.set_cons_zero, List.set_cons_succ, i64_w, i32_w]
        rfl
      refine pure_ (i := 10) (N := some 40) (v := ?_) (a' := ?_) #[true, true, true, true, true, true, true, true, true, true, true, false, false] rfl rfl (by kernel_rfl) (fun _ _ _ h => h) (Or.inl ⟨by rfl, ?_⟩) ?_ ?_
      rotate_left
      · intro w'
        go_simp
        with_reducible rfl
      rotate_left
      · simp only [Act.put, List.setIfInBounds_toArray, List.set_cons_zero, List.set_cons_succ, i64_w, i32_w]
        rfl
      refine pure_ (i := 11) (N := some 41) (v := ?_) (a' := ?_) #[true, true, true, true, true, true, true, true, true, true, true, true, false] rfl rfl (by kernel_rfl) (fun _ _ _ h => h) (Or.inl ⟨by rfl, ?_⟩) ?_ ?_
      rotate_left
      · intro w'
        go_simp
        with_reducible rfl
      rotate_left
      · simp only [Act.put, List.setIfInBounds_toArray, List.set_cons_zero, List.set_cons_succ, i64_w, i32_w]
        rfl
      refine last_ (i := 12) (N := none) #[true, true, true, true, true, true, true, true, true, true, true, true, true] rfl rfl (by kernel_rfl) (by decide) (fun K hK => ?_)
      have z1 := blk_cell (blk_at HB7.out) 1
      have f1 := blk_frozen (blk_at HB7.out) 1
      refine store_step (w1 := w7.setCell ⟨g, 1, none⟩ (.slice A7 ls.length k7)) ?hw rfl ?hr ?_
      (case hw => rfl)
      (case hr => go_simp)
      obtain ⟨c8, h8, t8⟩ := blk_put1 HB7.out 1 (.slice A7 ls.length k7) (Below.size B7.out)
      clear z1 f1
      generalize w7.setCell ⟨g, 1, none⟩ (.slice A7 ls.length k7) = w8 at h8 t8 ⊢
      have HB8 := Aside0.mk (show (blk).M w8 w0.heap.size (fun k => c8 k = i) (.cells #[.int .i64 m, .slice A7 ls.length k7, .slice A2 l2.length k2] 55 (0, 0)) (.pointer (some ⟨g, 0, none⟩)) from h8)
      have HL8 := Aside0.mk (t8.keep _ (row 37 k37) (i + 1) _ _ (by omega) HL7.out)
      have HO8 := Aside0.mk (t8.keep _ (row 37 k37) (i + 2) _ _ (by omega) HO7.out)
      have HX8 := Aside0.mk (t8.keep _ (blk) (i + 3) _ _ (by omega) HX7.out)
      have HE8 := Aside0.mk (t8.keep _ (row 37 k37) (i + 4) _ _ (by omega) HE7.out)
      have B8 := Aside0.mk (t8.far B7.out)
      have T8 := Aside0.mk (T7.out.step t8 (by simp))
      clear h8 t8
      refine hK.out _ _ ?_
      clear hK K hHeld
      refine norm_ (a' := ?_) ?_ ?_
      rotate_left
      · show Act.put _ (none) _ = _
        simp only [Act.put, List.setIfInBounds_toArray, List.set_cons_zero, List.set_cons_succ, i64_w, i32_w]
        rfl
      refine done_ (by kernel_rfl) ?_
      go_wp2
      go_ret
      exact ⟨by rw [HV.out]; rfl, c8, by rw [HVL.out]; exact ⟨_, _, _, _, HB8.out, HL8.out, HO8.out⟩, T8.out⟩
    · have pa : (av != 0) = true := bne_iff_ne.2 ha
      have HV := Aside0.mk (show ev = av from HE3.out)
      have HVL := Aside0.mk (show el = l1 from by rw [HEL.out, HE3.out, if_neg ha])
      clear ha
      have y0 := blk_cell (blk_at HX1.out) 0
      have y1 := blk_cell (blk_at HX1.out) 1
      go_wp2_with (first | (go_at_call 22; (with_reducible refine (win_Good.calls q p _ _ (good_f q p)).mono ?_); rintro e w2 ⟨rfl, hb2⟩; rw [GB.out]; have HB2 := Aside0.mk (St.below (s := blk) HB1.out hb2); have HL2 := Aside0.mk (St.below (s := row 37 k37) HL1.out hb2); have HO2 := Aside0.mk (St.below (s := row 37 k37) HO1.out hb2); have HX2 := Aside0.mk (St.below (s := blk) HX1.out hb2); have B2 := Aside0.mk (Below.trans B1.out (Below.mono hb2 (Below.size B1.out))); have T2 := Aside0.mk (T1.out.below hb2); clear hb2; clear y0 y1) | (go_at_call 23; (with_reducible refine (find_calls id (blk_at HB2.out) (row_C HL2.out) (by have := HLN.out; omega)).mono ?_); rintro e w3 ⟨rfl, hb3⟩; rw [FV.out]; have HB3 := Aside0.mk (St.below (s := blk) HB2.out hb3); have HL3 := Aside0.mk (St.below (s := row 37 k37) HL2.out hb3); have HO3 := Aside0.mk (St.below (s := row 37 k37) HO2.out hb3); have HX3 := Aside0.mk (St.below (s := blk) HX2.out hb3); have B3 := Aside0.mk (Below.trans B2.out (Below.mono hb3 (Below.size B2.out))); have T3 := Aside0.mk (T2.out.below hb3); clear hb3; have y0 := blk_cell (blk_at HX3.out) 0; have y1 := blk_cell (blk_at HX3.out) 1) | (go_at_call 12; (with_reducible refine (ask_calls q p now (blk_at HB3.out) (row_C HL3.out) (row_le HL3.out) (row_C HO3.out) (by have := HLN.out; omega) (by have := HLN.out; omega) HM.out HK1.out HK2.out).mono ?_); rintro e w4 ⟨rfl, hb4⟩; rw [AV.out]; have HB4 := Aside0.mk (St.below (s := blk) HB3.out hb4); have HL4 := Aside0.mk (St.below (s := row 37 k37) HL3.out hb4); have HO4 := Aside0.mk (St.below (s := row 37 k37) HO3.out hb4); have HX4 := Aside0.mk (St.below (s := blk) HX3.out hb4); have B4 := Aside0.mk (Below.trans B3.out (Below.mono hb4 (Below.size B3.out))); have T4 := Aside0.mk (T3.out.below hb4); clear hb4))
      go_ret
      exact ⟨by rw [HV.out]; rfl, c1, by rw [HVL.out]; exact ⟨_, _, _, _, HB4.out, HL4.out, HO4.out⟩, T4.out⟩
end Go.Proofs.Ytmjodeijafoabaa.Admit

/- Admit: one entry taken out of a row (no law is stated here; each says its conditions). -/
namespace Go.Proofs.Ytmjodeijafoabaa.Admit
open Go.RowKit Go.Proofs.YtmjodeijafoabaaW.PrintWords Go.Proofs.YtmjodeijafoabaaW.PrintLast Go.Proofs.YtmjodeijafoabaaW.PrintMore Go.Proofs.Ytmjodeijafoabaa.St Go.Proofs.Ytmjodeijafoabaa.Q Go.Proofs.Ytmjodeijafoabaa.Pure
set_option linter.unusedVariables false
set_option linter.unusedSimpArgs false
attribute [local go_sem] max2_int min2_int max_two min_two max_three min_three max_four min_four

theorem info_size37 : (Try.prog.info? 37).map (·.size) = some k37.sz := by kernel_rfl
/-- 'clear' of one entry. -/
theorem run_clear4 (w : World) (ty : TypeId) (b o c : Nat) (hc : ∀ j, j < 4 → (w.cell? ⟨b, o + j, none⟩).isSome = true) (hf : ∀ j, j < 4 → w.frozen? ⟨b, o + j, none⟩ = false) :
    (Builtin.clear_ #[34] ty #[.slice (some ⟨b, o, none⟩) 1 c]).run Try.prog w = .ok (.tuple #[]) (w.setCells b o (List.replicate 4 (.int .i64 0))) := by
  have hv : ∀ w, (zeroValue 37).run Try.prog w = .ok (.agg #[.int .i64 0, .int .i64 0, .int .i64 0, .int .i64 0]) w := fun _ => by kernel_rfl
  have hzc : (Builtin.zeroCells (Value.agg #[.int .i64 0, .int .i64 0, .int .i64 0, .int .i64 0]).cells 1).toList = [Value.int .i64 0, .int .i64 0, .int .i64 0, .int .i64 0] := by kernel_rfl
  have hst := run_storeCells_cells (P := Try.prog) b o [Value.int .i64 0, .int .i64 0, .int .i64 0, .int .i64 0] 0 w (by simpa using hc) (by simpa using hf) (by intro v hv'; simp at hv'; subst hv'; rfl)
  simp only [Nat.add_zero] at hst
  show _ = Result.ok (Value.tuple #[]) (w.setCells b o [Value.int .i64 0, .int .i64 0, .int .i64 0, .int .i64 0])
  simp [Builtin.clear_, run_underlying Try.underlying34, hv, hzc, hst]
theorem row_clear4 {W : World} {b g m n c : Nat} {ok : Nat → Prop} {l : List S37} (h : k37.R 37 W b ok (.slice (some ⟨g, 0, none⟩) m c) l) (hm : m + 1 = n) (hn : n ≤ c) :
    (∀ ty : TypeId, (Builtin.clear_ #[34] ty #[.slice (some ⟨g, m * 4, none⟩) (n - m) (c - m)]).run Try.prog W = .ok (.tuple #[]) (W.setCells g (m * 4) (List.replicate 4 (.int .i64 0)))) ∧
    k37.R 37 (W.setCells g (m * 4) (List.replicate 4 (.int .i64 0))) b ok (.slice (some ⟨g, 0, none⟩) m c) l ∧ W.grownBy (W.setCells g (m * 4) (List.replicate 4 (.int .i64 0))) (some g) := by
  have hT := row_tail h (List.replicate 4 (.int .i64 0)) (by rw [List.length_replicate]; show m * 4 + 4 ≤ c * 4; omega)
  rw [show m * k37.sz = m * 4 from rfl, List.length_replicate] at hT
  exact ⟨fun ty => by rw [show n - m = 1 by omega]; exact run_clear4 W ty g _ _ (fun j hj => (hT.2.2 j hj).1) (fun j hj => (hT.2.2 j hj).2), hT.1, hT.2.1⟩
set_option maxHeartbeats 1000000 in
set_option maxRecDepth 100000 in
theorem delete_calls {w : World} {b : Nat} {ok : Nat → Prop} {l : List S37} {g n c : Nat} (i : Nat) (hR : k37.R 37 w b ok (.slice (some ⟨g, 0, none⟩) n c) l) (hb : b ≤ w.heap.size) (hi : i < n) :
    Calls Try.prog 24 #[.slice (some ⟨g, 0, none⟩) n c, .int .i64 (i : Int), .int .i64 ((i : Int) + 1)] w fun e w' => e = .returned (.slice (some ⟨g, 0, none⟩) (n - 1) c) ∧ k37.R 37 w' b ok (.slice (some ⟨g, 0, none⟩) (n - 1) c) (l.eraseIdx i) ∧ Wrote w w' ok := by
  obtain ⟨hn, hnc, hC⟩ := Kd.R_reads' hR
  subst hn
  have hmax : l.length ≤ 9223372036854775807 := by have := Kd.C_max hC; omega
  have HR := Aside0.mk hR
  have q1 : ((i : Int) == (i : Int) + 1) = false := beq_eq_false_iff_ne.mpr (by omega)
  have e1 : (i ≤ c) = True := eq_true (by omega)
  have e2 : (0 ≤ (i : Int) + 1 ∧ (i : Int) + 1 ≤ (l.length : Int)) = True := eq_true ⟨by omega, by omega⟩
  have e3 : (l.length ≤ c) = True := eq_true (by omega)
  clear hR hC
  go_enter Try.func24, Try.ntmps24
  go_wp2
  go_still_tail 6, (by kernel_rfl)
  change wpList _ _ _ _ _ w.drew
  have HW := Aside0.mk (Kd.R_drew HR.out)
  have HB := Aside0.mk (below_drew (Below.refl b w))
  have HV := Aside0.mk ((Wrote.refl w ok).drew)
  generalize w.drew = w2 at HW HB HV ⊢
  go_wp2_with (first | ((with_reducible refine gate_builtin (b := .append) (xs := #[.tmp 22, .tmp 25]) rfl ?_); at_builtin; refine Kd.R_delete k37 (w0 := w) b rfl (.tmp 22) (.tmp 25) 34 37 rfl Try.underlying34 info_size37 (g := g) (n := l.length) (c := c) (k := i) (m := l.length - (i + 1)) (c2 := c - (i + 1)) (A := if c = i + 1 then some ⟨g, 0, none⟩ else some ⟨g, (i + 1) * 4, none⟩) rfl rfl (by rw [show (i + 1) * k37.sz = (i + 1) * 4 from rfl]; simp [Addr.add]) rfl HW.out hi HB.out (Nat.le_trans hb HB.out.size) ?_; intro w3 hO hB3 hG; have HO := Aside0.mk hO; have HB3 := Aside0.mk hB3; have HG := Aside0.mk hG; obtain ⟨hcl, hT1, hT2⟩ := row_clear4 HO.out (n := l.length) (by omega) hnc; have HT1 := Aside0.mk hT1; have HT2 := Aside0.mk hT2; clear hT1 hT2 hO hB3 hG))
  · subst h
    go_ret
    exact ⟨rfl, HT1.out, (HV.out.grown HG.out (fun k hk => by cases hk; exact Or.inl (HR.out.1 g rfl))).grown HT2.out (fun k hk => by cases hk; exact Or.inl (HR.out.1 g rfl))⟩
  · go_ret
    exact ⟨rfl, HT1.out, (HV.out.grown HG.out (fun k hk => by cases hk; exact Or.inl (HR.out.1 g rfl))).grown HT2.out (fun k hk => by cases hk; exact Or.inl (HR.out.1 g rfl))⟩
theorem delete_C {w0 W : World} {c : Nat → Nat} {i g k : Nat} {l : List S37} (j : Nat) (h : (row 37 k37).M W w0.heap.size (fun k => c k = i) l (.slice (some ⟨g, 0, none⟩) l.length k)) (hj : j < l.length) (hs : w0.heap.size ≤ W.heap.size) :
    Calls Try.prog 24 #[.slice (some ⟨g, 0, none⟩) l.length k, .int .i64 (j : Int), .int .i64 ((j : Int) + 1)] W fun e w' => e = .returned (.slice (some ⟨g, 0, none⟩) (l.length - 1) k) ∧ ∃ c', (row 37 k37).M w' w0.heap.size (fun k => c' k = i) (l.eraseIdx j) (.slice (some ⟨g, 0, none⟩) (l.length - 1) k) ∧ Turned c c' i w0 W w' :=
  (delete_calls j (St.mine (s := row 37 k37) h) hs hj).mono (fun e w' ⟨he, h1, h2⟩ => ⟨he, turned (s := row 37 k37) (Kd.R_mono h1 (fun k hk => Or.inl hk)) h2 hs⟩)
end Go.Proofs.Ytmjodeijafoabaa.Admit

/- Admit: Leave (no law is stated here; each says its conditions). -/
namespace Go.Proofs.Ytmjodeijafoabaa.Admit
open Go.RowKit Go.Proofs.YtmjodeijafoabaaW.PrintWords Go.Proofs.YtmjodeijafoabaaW.PrintLast Go.Proofs.YtmjodeijafoabaaW.PrintMore Go.Proofs.Ytmjodeijafoabaa.St Go.Proofs.Ytmjodeijafoabaa.Q Go.Proofs.Ytmjodeijafoabaa.Pure
set_option linter.unusedVariables false
set_option linter.unusedSimpArgs false
attribute [local go_sem] max2_int min2_int max_two min_two max_three min_three max_four min_four

/-- What Leave answers, who is live, who lingers then. -/
def leaveV (l1 : List S37) (id till now : Int) : Int := if till < 0 ∨ now < 0 then 1 else if findE id l1 0 < 0 then 2 else 0
def leaveL (l1 : List S37) (id till now : Int) : List S37 := if leaveV l1 id till now = 0 then l1.eraseIdx (findE id l1 0).toNat else l1
def leaveO (l1 l2 : List S37) (id till now : Int) : List S37 := if leaveV l1 id till now = 0 ∧ now < till then l2 ++ [⟨id, (l1.getD (findE id l1 0).toNat z4).f1, till⟩] else l2
theorem add_base (gl n : Nat) : (⟨gl, 0, none⟩ : Addr).add n = ⟨gl, n, none⟩ := by
  by_cases h : n = 0
  · subst h; rfl
  · simp [Addr.add, h]
theorem held_e {w0 w : World} {c : Nat → Nat} {i g gl k k1 k2 n2 : Nat} {m x1 x2 : Int} {x0 x3 : Int} {A2 : Option Addr} {l1 : List S37} (hB : blk.M w w0.heap.size (fun k => c k = i) (.cells #[.int .i64 m, .slice (some ⟨gl, 0, none⟩) l1.length k1, .slice A2 n2 k2] 55 (0, 0)) (.pointer (some ⟨g, 0, none⟩)))
    (hL : (row 37 k37).M w w0.heap.size (fun k => c k = (i + 1)) l1 (.slice (some ⟨gl, 0, none⟩) l1.length k1)) (hk : k < l1.length) (hx : l1.getD k z4 = ⟨x0, ⟨x1, x2⟩, x3⟩) :
    w.cell? ⟨g, 1, none⟩ = some (.slice (some ⟨gl, 0, none⟩) l1.length k1) ∧ w.cell? ⟨g, 2, none⟩ = some (.slice A2 n2 k2) ∧ w.cell? ⟨gl, k * 4 + 1, none⟩ = some (.int .i64 x1) ∧ w.cell? ⟨gl, k * 4 + 1 + 1, none⟩ = some (.int .i64 x2) := by
  obtain ⟨ad, e, z0, z1, z2, z3⟩ := read_e (row_C hL) hk
  cases e
  rw [hx, add_base] at z1 z2
  exact ⟨blk_cell (blk_at hB) 1, blk_cell (blk_at hB) 2, z1, z2⟩
set_option maxHeartbeats 8000000 in
set_option maxRecDepth 100000 in
theorem leave_calls {w0 W : World} {c : Nat → Nat} {i g : Nat} {m : Int} {l1 l2 : List S37} (id till now : Int) (h : BK w0 W c i m l1 l2 g) (hB : Below w0.heap.size w0 W) (hl : l1.length ≤ 400 ∧ l2.length ≤ 900) :
    Calls Try.prog 10 #[.pointer (some ⟨g, 0, none⟩), .int .i64 id, .int .i64 till, .int .i64 now] W fun e w' => e = .returned (.int .i64 (leaveV l1 id till now)) ∧ ∃ c', BK w0 w' c' i m (leaveL l1 id till now) (leaveO l1 l2 id till now) g ∧ TurnedL c c' [i, (i + 1), (i + 2), (i + 3), (i + 4)] w0 W w' := by
  obtain ⟨A1, k1, A2, k2, hb1, hb2, hb3⟩ := h
  have HLN := Aside0.mk hl
  have hl400 : l1.length ≤ 400 := hl.1
  obtain ⟨ev, hev⟩ : ∃ ev, leaveV l1 id till now = ev := ⟨_, rfl⟩
  obtain ⟨el, hel⟩ : ∃ el, leaveL l1 id till now = el := ⟨_, rfl⟩
  obtain ⟨eo, heo⟩ : ∃ eo, leaveO l1 l2 id till now = eo := ⟨_, rfl⟩
  have HEV := Aside0.mk (show ev = if till < 0 ∨ now < 0 then 1 else if findE id l1 0 < 0 then 2 else 0 from by rw [← hev]; rfl)
  have HEL := Aside0.mk (show el = if ev = 0 then l1.eraseIdx (findE id l1 0).toNat else l1 from by rw [← hel, ← hev]; rfl)
  have HEO := Aside0.mk (show eo = if ev = 0 ∧ now < till then l2 ++ [⟨id, (l1.getD (findE id l1 0).toNat z4).f1, till⟩] else l2 from by rw [← heo, ← hev]; rfl)
  rw [hev, hel, heo]
  have T0 := Aside0.mk (TurnedL.refl c [i, (i + 1), (i + 2), (i + 3), (i + 4)] w0 W)
  have M1 := Aside0.mk hb1
  have M2 := Aside0.mk hb2
  have M3 := Aside0.mk hb3
  have HB := Aside0.mk hB
  have HFC := Aside0.mk (find_cases id l1 0)
  obtain ⟨fv, hfv⟩ : ∃ fv, findE id l1 0 = fv := ⟨_, rfl⟩
  have FV := Aside0.mk hfv
  rw [hfv] at HEV HEL HEO HFC
  clear hev hel heo hb1 hb2 hb3 hB hl hfv
  by_cases ht : till < 0
  · have pt : decide (till < 0) = true := decide_eq_true ht
    have HV := Aside0.mk (show ev = 1 from by rw [HEV.out, if_pos (Or.inl ht)])
    have HVL := Aside0.mk (show el = l1 from by rw [HEL.out, HV.out, if_neg (by decide)])
    have HVO := Aside0.mk (show eo = l2 from by rw [HEO.out, HV.out, if_neg (fun e => absurd e.1 (by decide))])
    clear ht
    go_enter Try.func10, Try.ntmps10
    go_wp2
    go_ret
    exact ⟨by rw [HV.out]; rfl, c, by rw [HVL.out, HVO.out]; exact ⟨_, _, _, _, M1.out, M2.out, M3.out⟩, T0.out⟩
  have pt : decide (till < 0) = false := decide_eq_false ht
  by_cases hn : now < 0
  · have pn : decide (now < 0) = true := decide_eq_true hn
    have HV := Aside0.mk (show ev = 1 from by rw [HEV.out, if_pos (Or.inr hn)])
    have HVL := Aside0.mk (show el = l1 from by rw [HEL.out, HV.out, if_neg (by decide)])
    have HVO := Aside0.mk (show eo = l2 from by rw [HEO.out, HV.out, if_neg (fun e => absurd e.1 (by decide))])
    clear ht hn
    go_enter Try.func10, Try.ntmps10
    go_wp2
    go_ret
    exact ⟨by rw [HV.out]; rfl, c, by rw [HVL.out, HVO.out]; exact ⟨_, _, _, _, M1.out, M2.out, M3.out⟩, T0.out⟩
  have pn : decide (now < 0) = false := decide_eq_false hn
  have HE2 := Aside0.mk (show ev = if fv < 0 then 2 else 0 from by rw [HEV.out, if_neg (by omega)])
  clear ht hn
  rcases HFC.out with ⟨k, hkl, hfe, -, -⟩ | ⟨hfe, -⟩
  rotate_left
  · subst hfe
    have HV := Aside0.mk (show ev = 2 from by rw [HE2.out, if_pos (by decide)])
    have HVL := Aside0.mk (show el = l1 from by rw [HEL.out, HV.out, if_neg (by decide)])
    have HVO := Aside0.mk (show eo = l2 from by rw [HEO.out, HV.out, if_neg (fun e => absurd e.1 (by decide))])
    go_enter Try.func10, Try.ntmps10
    go_wp2_with (first | (go_at_call 23; (with_reducible refine (find_calls id (blk_at M1.out) (row_C M2.out) (by have := HLN.out; omega)).mono ?_); rintro e w3 ⟨rfl, hb3⟩; rw [FV.out]; have HB3 := Aside0.mk (St.below (s := blk) M1.out hb3); have HL3 := Aside0.mk (St.below (s := row 37 k37) M2.out hb3); have HO3 := Aside0.mk (St.below (s := row 37 k37) M3.out hb3); have B3 := Aside0.mk (Below.trans HB.out (Below.mono hb3 (Below.size HB.out))); have T3 := Aside0.mk (T0.out.below hb3); clear hb3))
    go_ret
    exact ⟨by rw [HV.out]; rfl, c, by rw [HVL.out, HVO.out]; exact ⟨_, _, _, _, HB3.out, HL3.out, HO3.out⟩, T3.out⟩
  rw [Nat.zero_add] at hfe
  subst hfe
  have HV := Aside0.mk (show ev = 0 from by rw [HE2.out, if_neg (by omega)])
  obtain ⟨le, hle⟩ : ∃ le, l1.eraseIdx k = le := ⟨_, rfl⟩
  have HEE := Aside0.mk hle
  have HEN := Aside0.mk (show l1.length - 1 = le.length from by rw [← hle, List.length_eraseIdx]; rw [if_pos hkl])
  have HVL := Aside0.mk (show el = le from by rw [HEL.out, HV.out, if_pos rfl, Int.toNat_natCast, hle])
  clear hle
  obtain ⟨gl, kk, hA, -⟩ := Kd.R_form M2.out (show 0 < l1.length by omega)
  injection hA with hA1 hA2 hA3
  subst hA1
  subst hA3
  clear hA2
  have bk : (0 ≤ (k : Int) ∧ (k : Int) < (l1.length : Int)) := by omega
  have pk : decide ((k : Int) < 0) = false := decide_eq_false (by omega)
  have hwk : wrap64 ((k : Int) + 1) = (k : Int) + 1 := by unfold wrap64; omega
  by_cases hg : now < till
  · have pg : decide (now < till) = true := decide_eq_true hg
    obtain ⟨⟨x0, ⟨x1, x2⟩, x3⟩, hx⟩ : ∃ x, l1.getD k z4 = x := ⟨_, rfl⟩
    have HX := Aside0.mk hx
    obtain ⟨ls, hls⟩ : ∃ ls, l2 ++ [⟨id, ⟨x1, x2⟩, till⟩] = ls := ⟨_, rfl⟩
    have HLS := Aside0.mk hls
    have HVO := Aside0.mk (show eo = ls from by rw [HEO.out, HV.out, if_pos ⟨rfl, hg⟩, Int.toNat_natCast, hx, hls])
    clear hx hls hg
    go_enter Try.func10, Try.ntmps10
    go_upto_region 7 with (first | (go_at_call 23; (with_reducible refine (find_calls id (blk_at M1.out) (row_C M2.out) (by have := HLN.out; omega)).mono ?_); rintro e w3 ⟨rfl, hb3⟩; rw [FV.out]; have HB3 := Aside0.mk (St.below (s := blk) M1.out hb3); have HL3 := Aside0.mk (St.below (s := row 37 k37) M2.out hb3); have HO3 := Aside0.mk (St.below (s := row 37 k37) M3.out hb3); have B3 := Aside0.mk (Below.trans HB.out (Below.mono hb3 (Below.size HB.out))); have T3 := Aside0.mk (T0.out.below hb3); clear hb3))
    obtain ⟨w5, hw5⟩ : ∃ w5 : World, w3.drew = w5 := ⟨_, rfl⟩
    have hb5 : Below w3.heap.size w3 w5 := by rw [← hw5]; exact below_drew (Below.refl _ _)
    have HB5 := Aside0.mk (St.below (s := blk) HB3.out hb5)
    have HL5 := Aside0.mk (St.below (s := row 37 k37) HL3.out hb5)
    have HO5 := Aside0.mk (St.below (s := row 37 k37) HO3.out hb5)
    have B5 := Aside0.mk (Below.trans B3.out (Below.mono hb5 (Below.size B3.out)))
    have T5 := Aside0.mk (T3.out.below hb5)
    clear hb5
    refine start_ (n := 21) (S := fun w' => w'.cell? ⟨g, 1, none⟩ = some (.slice (some ⟨gl, 0, none⟩) l1.length k1) ∧ w'.cell? ⟨g, 2, none⟩ = some (.slice A2 l2.length k2) ∧ w'.cell? ⟨gl, k * 4 + 1, none⟩ = some (.int .i64 x1) ∧ w'.cell? ⟨gl, k * 4 + 1 + 1, none⟩ = some (.int .i64 x2)) (ds := [20]) #[false, false, false, false, false, false, false, false, false, false, false, false, false, false, false, false, false, false, false, false, false] (by kernel_rfl) rfl rfl (by rw [hw5]; exact held_e HB5.out HL5.out hkl HX.out) (fun hHeld => ?_)
    refine pure_ (i := 0) (N := some 24) (v := ?_) (a' := ?_) #[true, false, false, false, false, false, false, false, false, false, false, false, false, false, false, false, false, false, false, false, false] rfl rfl (by kernel_rfl) (fun _ _ _ h => h) (Or.inl ⟨by rfl, ?_⟩) ?_ ?_
    rotate_left
    · intro w'
      go_simp
      with_reducible rfl
    rotate_left
    · simp only [Act.put, List.setIfInBounds_toArray, List.set_cons_zero, List.set_cons_succ, i64_w, i32_w]
      rfl
    refine pure_ (i := 1) (N := some 25) (v := ?_) (a' := ?_) #[true, true, false, false, false, false, false, false, false, false, false, false, false, false, false, false, false, false, false, false, false] rfl rfl (by kernel_rfl) (fun _ _ _ h => h) (Or.inl ⟨by rfl, ?_⟩) ?_ ?_
    rotate_left
    · intro w'
      go_simp
      with_reducible rfl
    rotate_left
    · simp only [Act.put, List.setIfInBounds_toArray, List.set_cons_zero, List.set_cons_succ, i64_w, i32_w]
      rfl
    refine pure_ (i := 2) (N := some 26) (v := ?_) (a' := ?_) #[true, true, true, false, false, false, false, false, false, false, false, false, false, false, false, false, false, false, false, false, false] rfl rfl (by kernel_rfl) (fun _ _ _ h => h) (Or.inl ⟨by rfl, ?_⟩) ?_ ?_
    rotate_left
    · intro w'
      go_simp
      with_reducible rfl
    rotate_left
    · simp only [Act.put, List.setIfInBounds_toArray, List.set_cons_zero, List.set_cons_succ, i64_w, i32_w]
      rfl
    refine pure_ (i := 3) (N := some 27) (v := ?_) (a' := ?_) #[true, true, true, true, false, false, false, false, false, false, false, false, false, false, false, false, false, false, false, false, false] rfl rfl (by kernel_rfl) (fun _ _ _ h => h) (Or.inl ⟨by rfl, ?_⟩) ?_ ?_
    rotate_left
    · intro w'
      go_simp
      with_reducible rfl
    rotate_left
    · simp only [Act.put, List.setIfInBounds_toArray, List.set_cons_zero, List.set_cons_succ, i64_w, i32_w]
      rfl
    refine take_ (i := 4) (N := some 28) (v := ?_) (a' := ?_) #[true, true, true, true, true, false, false, false, false, false, false, false, false, false, false, false, false, false, false, false, false] rfl rfl (by kernel_rfl) (fun _ _ _ h => h) (Or.inl ⟨by rfl, ?_⟩) hHeld ?_ ?_
    rotate_left
    · intro w' hS_
      obtain ⟨s0_, s1_, s2_, s3_⟩ := hS_
      go_simp
      with_reducible rfl
    rotate_left
    · simp only [Act.put, List.setIfInBounds_toArray, List.set_cons_zero, List.set_cons_succ, i64_w, i32_w]
      rfl
    refine pure_ (i := 5) (N := some 29) (v := ?_) (a' := ?_) #[true, true, true, true, true, true, false, false, false, false, false, false, false, false, false, false, false, false, false, false, false] rfl rfl (by kernel_rfl) (fun _ _ _ h => h) (Or.inl ⟨by rfl, ?_⟩) ?_ ?_
    rotate_left
    · intro w'
      go_simp
      with_reducible rfl
    rotate_left
    · simp only [Act.put, List.setIfInBounds_toArray, List.set_cons_zero, List.set_cons_succ, i64_w, i32_w]
      rfl
    refine pure_ (i := 6) (N := some 30) (v := ?_) (a' := ?_) #[true, true, true, true, true, true, true, false, false, false, false, false, false, false, false, false, false, false, false, false, false] rfl rfl (by kernel_rfl) (fun _ _ _ h => h) (Or.inl ⟨by rfl, ?_⟩) ?_ ?_
    rotate_left
    · intro w'
      go_simp
      with_reducible rfl
    rotate_left
    · simp only [Act.put, List.setIfInBounds_toArray, List.set_cons_zero, List.set_cons_succ, i64_w, i32_w]
      rfl
    refine pure_ (i := 7) (N := some 31) (v := ?_) (a' := ?_) #[true, true, true, true, true, true, true, true, false, false, false, false, false, false, false, false, false, false, false, false, false] rfl rfl (by kernel_rfl) (fun _ _ _ h => h) (Or.inl ⟨by rfl, ?_⟩) ?_ ?_
    rotate_left
    · intro w'
      go_simp
      with_reducible rfl
    rotate_left
    · simp only [Act.put, List.setIfInBounds_toArray, List.set_cons_zero, List.set_cons_succ, i64_w, i32_w]
      rfl
    refine pure_ (i := 8) (N := some 32) (v := ?_) (a' := ?_) #[true, true, true, true, true, true, true, true, true, false, false, false, false, false, false, false, false, false, false, false, false] rfl rfl (by kernel_rfl) (fun _ _ _ h => h) (Or.inl ⟨by rfl, ?_⟩) ?_ ?_
    rotate_left
    · intro w'
      go_simp
      with_reducible rfl
    rotate_left
    · simp only [Act.put, List.setIfInBounds_toArray, List.set_cons_zero, List.set_cons_succ, i64_w, i32_w]
      rfl
    refine take_ (i := 9) (N := some 33) (v := ?_) (a' := ?_) #[true, true, true, true, true, true, true, true, true, true, false, false, false, false, false, false, false, false, false, false, false] rfl rfl (by kernel_rfl) (fun _ _ _ h => h) (Or.inl ⟨by rfl, ?_⟩) hHeld ?_ ?_
    rotate_left
    · intro w' hS_
      obtain ⟨s0_, s1_, s2_, s3_⟩ := hS_
      go_simp
      with_reducible rfl
    rotate_left
    · simp only [Act.put, List.setIfInBounds_toArray, List.set_cons_zero, List.set_cons_succ, i64_w, i32_w]
      rfl
    refine pure_ (i := 10) (N := some 34) (v := ?_) (a' := ?_) #[true, true, true, true, true, true, true, true, true, true, true, false, false, false, false, false, false, false, false, false, false] rfl rfl (by kernel_rfl) (fun _ _ _ h => h) (Or.inl ⟨by rfl, ?_⟩) ?_ ?_
    rotate_left
    · intro w'
      go_simp
      with_reducible rfl
    rotate_left
    · simp only [Act.put, List.setIfInBounds_toArray, List.set_cons_zero, List.set_cons_succ, i64_w, i32_w]
      rfl
    refine pure_ (i := 11) (N := some 35) (v := ?_) (a' := ?_) #[true, true, true, true, true, true, true, true, true, true, true, true, false, false, false, false, false, false, false, false, false] rfl rfl (by kernel_rfl) (fun _ _ _ h => h) (Or.inl ⟨by rfl, ?_⟩) ?_ ?_
    rotate_left
    · intro w'
      go_simp
      with_reducible rfl
    rotate_left
    · simp only [Act.put, List.setIfInBounds_toArray, List.set_cons_zero, List.set_cons_succ, i64_w, i32_w]
      rfl
    refine pure_ (i := 12) (N := some 36) (v := ?_) (a' := ?_) #[true, true, true, true, true, true, true, true, true, true, true, true, true, false, false, false, false, false, false, false, false] rfl rfl (by kernel_rfl) (fun _ _ _ h => h) (Or.inl ⟨by rfl, ?_⟩) ?_ ?_
    rotate_left
    · intro w'
      go_simp
      with_reducible rfl
    rotate_left
    · simp only [Act.put, List.setIfInBounds_toArray, List.set_cons_zero, List.set_cons_succ, i64_w, i32_w]
      rfl
    refine take_ (i := 13) (N := some 37) (v := ?_) (a' := ?_) #[true, true, true, true, true, true, true, true, true, true, true, true, true, true, false, false, false, false, false, false, false] rfl rfl (by kernel_rfl) (fun _ _ _ h => h) (Or.inl ⟨by rfl, ?_⟩) hHeld ?_ ?_
    rotate_left
    · intro w' hS_
      obtain ⟨s0_, s1_, s2_, s3_⟩ := hS_
      go_simp
      with_reducible rfl
    rotate_left
    · simp only [Act.put, List.setIfInBounds_toArray, List.set_cons_zero, List.set_cons_succ, i64_w, i32_w]
      rfl
    refine pure_ (i := 14) (N := some 38) (v := ?_) (a' := ?_) #[true, true, true, true, true, true, true, true, true, true, true, true, true, true, true, false, false, false, false, false, false] rfl rfl (by kernel_rfl) (fun _ _ _ h => h) (Or.inl ⟨by rfl, ?_⟩) ?_ ?_
    rotate_left
    · intro w'
      go_simp
      with_reducible rfl
    rotate_left
    · simp only [Act.put, List.setIfInBounds_toArray, List.set_cons_zero, List.set_cons_succ, i64_w, i32_w]
      rfl
    refine pure_ (i := 15) (N := some 39) (v := ?_) (a' := ?_) #[true, true, true, true, true, true, true, true, true, true, true, true, true, true, true, true, false, false, false, false, false] rfl rfl (by kernel_rfl) (fun _ _ _ h => h) (Or.inl ⟨by rfl, ?_⟩) ?_ ?_
    rotate_left
    · intro w'
      go_simp
      with_reducible rfl
    rotate_left
    · simp only [Act.put, List.setIfInBounds_toArray, List.set_cons_zero, List.set_cons_succ, i64_w, i32_w]
      rfl
    refine one_ (i := 16) (N := some 40) #[true, true, true, true, true, true, true, true, true, true, true, true, true, true, true, true, true, false, false, false, false] rfl rfl (by kernel_rfl) (by decide) (fun K hK => ?_)
    rw [hw5]
    refine lit_step (e := 37) (c := c) (w0 := w0) k37 (i + 4) ?hg (N := 40) ?hd ([⟨id, ⟨x1, x2⟩, till⟩] : List S37) [.int .i64 id, .int .i64 x1, .int .i64 x2, .int .i64 till] ?hr ?hp ?hs (by simp) ?_
    (case hd => rfl)
    (case hg => rfl)
    (case hp => exact row1 _ _ ⟨id, ⟨x1, x2⟩, till⟩)
    (case hr => first | (go_simp; done) | (go_simp; rfl))
    (case hs => exact Below.size B5.out)
    intro v6 w6 c6 h6 t6
    obtain ⟨A6, k6, rfl, -, -⟩ := row_reads h6
    have HE6 := Aside0.mk (show (row 37 k37).M w6 w0.heap.size (fun k => c6 k = (i + 4)) ([⟨id, ⟨x1, x2⟩, till⟩] : List S37) (.slice A6 ([⟨id, ⟨x1, x2⟩, till⟩] : List S37).length k6) from h6)
    have HB6 := Aside0.mk (t6.keep _ (blk) i _ _ (by omega) HB5.out)
    have HL6 := Aside0.mk (t6.keep _ (row 37 k37) (i + 1) _ _ (by omega) HL5.out)
    have HO6 := Aside0.mk (t6.keep _ (row 37 k37) (i + 2) _ _ (by omega) HO5.out)
    have B6 := Aside0.mk (t6.far B5.out)
    have T6 := Aside0.mk (T5.out.step t6 (by simp))
    clear h6 t6
    have hHeld := held_e HB6.out HL6.out hkl HX.out
    refine hK.out _ _ hHeld (fun hHeld => ?_)
    clear hK K
    refine norm_ (a' := ?_) ?_ ?_
    rotate_left
    · show Act.put _ (some 40) _ = _
      simp only [Act.put, List.setIfInBounds_toArray, List.set_cons_zero, List.set_cons_succ, i64_w, i32_w]
      rfl
    refine one_ (i := 17) (N := some 41) #[true, true, true, true, true, true, true, true, true, true, true, true, true, true, true, true, true, true, false, false, false] rfl rfl (by kernel_rfl) (by decide) (fun K hK => ?_)
    refine app_step (e := 37) (c := c6) (w0 := w0) (d := k37) (i := (i + 2)) (by rfl) (.tmp 28) (.tmp 40) 34 (.agg #[.int .i64 0, .int .i64 0, .int .i64 0, .int .i64 0]) 32 rfl Try.underlying34 info_entry rfl (by decide) (by decide) flat37 (.slice A2 l2.length k2) l2 ([⟨id, ⟨x1, x2⟩, till⟩] : List S37) _ _ _ rfl rfl HO6.out (row_C HE6.out) ?hs (by have := HLN.out; show (_ + 1) * 32 ≤ _; omega) ?_
    (case hs => exact Below.size B6.out)
    intro v7 w7 c7 h7 t7
    rw [HLS.out] at h7
    obtain ⟨A7, k7, rfl, -, -⟩ := row_reads h7
    have HO7 := Aside0.mk (show (row 37 k37).M w7 w0.heap.size (fun k => c7 k = (i + 2)) ls (.slice A7 ls.length k7) from h7)
    have HB7 := Aside0.mk (t7.keep _ (blk) i _ _ (by omega) HB6.out)
    have HL7 := Aside0.mk (t7.keep _ (row 37 k37) (i + 1) _ _ (by omega) HL6.out)
    have HE7 := Aside0.mk (t7.keep _ (row 37 k37) (i + 4) _ _ (by omega) HE6.out)
    have B7 := Aside0.mk (t7.far B6.out)
    have T7 := Aside0.mk (T6.out.step t7 (by simp))
    clear h7 t7
    have hHeld := held_e HB7.out HL7.out hkl HX.out
    refine hK.out _ _ hHeld (fun hHeld => ?_)
    clear hK K
    refine norm_ (a' := ?_) ?_ ?_
    rotate_left
    · show Act.put _ (some 41) _ = _
      simp only [Act.put, List.setIfInBounds_toArray, List.set_cons_zero, List.set_cons_succ, i64_w, i32_w]
      rfl
    refine pure_ (i := 18) (N := some 42) (v := ?_) (a' := ?_) #[true, true, true, true, true, true, true, true, true, true, true, true, true, true, true, true, true, true, true, false, false] rfl rfl (by kernel_rfl) (fun _ _ _ h => h) (Or.inl ⟨by rfl, ?_⟩) ?_ ?_
    rotate_left
    · intro w'
      go_simp
      with_reducible rfl
    rotate_left
    · simp only [Act.put, List.setIfInBounds_toArray, List.set_cons_zero, List.set_cons_succ, i64_w, i32_w]
      rfl
    refine pure_ (i := 19) (N := some 43) (v := ?_) (a' := ?_) #[true, true, true, true, true, true, true, true, true, true, true, true, true, true, true, true, true, true, true, true, false] rfl rfl (by kernel_rfl) (fun _ _ _ h => h) (Or.inl ⟨by rfl, ?_⟩) ?_ ?_
    rotate_left
    · intro w'
      go_simp
      with_reducible rfl
    rotate_left
    · simp only [Act.put, List.setIfInBounds_toArray, List.set_cons_zero, List.set_cons_succ, i64_w, i32_w]
      rfl
    refine last_ (i := 20) (N := none) #[true, true, true, true, true, true, true, true, true, true, true, true, true, true, true, true, true, true, true, true, true] rfl rfl (by kernel_rfl) (by decide) (fun K hK => ?_)
    have z2 := blk_cell (blk_at HB7.out) 2
    have f2 := blk_frozen (blk_at HB7.out) 2
    refine store_step (w1 := w7.setCell ⟨g, 2, none⟩ (.slice A7 ls.length k7)) ?hw rfl ?hr ?_
    (case hw => rfl)
    (case hr => go_simp)
    obtain ⟨c8, h8, t8⟩ := blk_put1 HB7.out 2 (.slice A7 ls.length k7) (Below.size B7.out)
    clear z2 f2
    generalize w7.setCell ⟨g, 2, none⟩ (.slice A7 ls.length k7) = w8 at h8 t8 ⊢
    have HB8 := Aside0.mk (show (blk).M w8 w0.heap.size (fun k => c8 k = i) (.cells #[.int .i64 m, .slice (some ⟨gl, 0, none⟩) l1.length k1, .slice A7 ls.length k7] 55 (0, 0)) (.pointer (some ⟨g, 0, none⟩)) from h8)
    have HL8 := Aside0.mk (t8.keep _ (row 37 k37) (i + 1) _ _ (by omega) HL7.out)
    have HO8 := Aside0.mk (t8.keep _ (row 37 k37) (i + 2) _ _ (by omega) HO7.out)
    have HE8 := Aside0.mk (t8.keep _ (row 37 k37) (i + 4) _ _ (by omega) HE7.out)
    have B8 := Aside0.mk (t8.far B7.out)
    have T8 := Aside0.mk (T7.out.step t8 (by simp))
    clear h8 t8
    refine hK.out _ _ ?_
    clear hK K hHeld
    refine norm_ (a' := ?_) ?_ ?_
    rotate_left
    · show Act.put _ (none) _ = _
      simp only [Act.put, List.setIfInBounds_toArray, List.set_cons_zero, List.set_cons_succ, i64_w, i32_w]
      rfl
    refine done_ (by kernel_rfl) ?_
    go_upto_region 8 with (fail)
    have z1 := blk_cell (blk_at HB8.out) 1
    go_upto_region 9 with (first | (go_at_call 24; (with_reducible refine (delete_C k HL8.out hkl (Below.size B8.out)).mono ?_); rintro e w9 ⟨rfl, c9, h9, t9⟩; rw [HEE.out] at h9; rw [HEN.out] at h9 ⊢; have HL9 := Aside0.mk (show (row 37 k37).M w9 w0.heap.size (fun k => c9 k = (i + 1)) le (.slice (some ⟨gl, 0, none⟩) le.length k1) from h9); have HB9 := Aside0.mk (t9.keep _ (blk) i _ _ (by omega) HB8.out); have HO9 := Aside0.mk (t9.keep _ (row 37 k37) (i + 2) _ _ (by omega) HO8.out); have B9 := Aside0.mk (t9.far B8.out); have T9 := Aside0.mk (T8.out.step t9 (by simp)); clear h9 t9 z1; have z1 := blk_cell (blk_at HB9.out) 1; have f1 := blk_frozen (blk_at HB9.out) 1))
    clear z1 f1
    obtain ⟨c10, h10, t10⟩ := blk_put1 HB9.out 1 (.slice (some ⟨gl, 0, none⟩) le.length k1) (Below.size B9.out)
    generalize w9.setCell ⟨g, 1, none⟩ (.slice (some ⟨gl, 0, none⟩) le.length k1) = w10 at h10 t10 ⊢
    have HB10 := Aside0.mk (show (blk).M w10 w0.heap.size (fun k => c10 k = i) (.cells #[.int .i64 m, .slice (some ⟨gl, 0, none⟩) le.length k1, .slice A7 ls.length k7] 55 (0, 0)) (.pointer (some ⟨g, 0, none⟩)) from h10)
    have HL10 := Aside0.mk (t10.keep _ (row 37 k37) (i + 1) _ _ (by omega) HL9.out)
    have HO10 := Aside0.mk (t10.keep _ (row 37 k37) (i + 2) _ _ (by omega) HO9.out)
    have B10 := Aside0.mk (t10.far B9.out)
    have T10 := Aside0.mk (T9.out.step t10 (by simp))
    clear h10 t10
    go_wp2
    go_ret
    exact ⟨by rw [HV.out]; rfl, c10, by rw [HVL.out, HVO.out]; exact ⟨_, _, _, _, HB10.out, HL10.out, HO10.out⟩, T10.out⟩
  · have pg : decide (now < till) = false := decide_eq_false hg
    have HVO := Aside0.mk (show eo = l2 from by rw [HEO.out, if_neg (fun e => hg e.2)])
    clear hg
    go_enter Try.func10, Try.ntmps10
    go_upto_region 8 with (first | (go_at_call 23; (with_reducible refine (find_calls id (blk_at M1.out) (row_C M2.out) (by have := HLN.out; omega)).mono ?_); rintro e w3 ⟨rfl, hb3⟩; rw [FV.out]; have HB3 := Aside0.mk (St.below (s := blk) M1.out hb3); have HL3 := Aside0.mk (St.below (s := row 37 k37) M2.out hb3); have HO3 := Aside0.mk (St.below (s := row 37 k37) M3.out hb3); have B3 := Aside0.mk (Below.trans HB.out (Below.mono hb3 (Below.size HB.out))); have T3 := Aside0.mk (T0.out.below hb3); clear hb3))
    have z1 := blk_cell (blk_at HB3.out) 1
    go_upto_region 9 with (first | (go_at_call 24; (with_reducible refine (delete_C k HL3.out hkl (Below.size B3.out)).mono ?_); rintro e w9 ⟨rfl, c9, h9, t9⟩; rw [HEE.out] at h9; rw [HEN.out] at h9 ⊢; have HL9 := Aside0.mk (show (row 37 k37).M w9 w0.heap.size (fun k => c9 k = (i + 1)) le (.slice (some ⟨gl, 0, none⟩) le.length k1) from h9); have HB9 := Aside0.mk (t9.keep _ (blk) i _ _ (by omega) HB3.out); have HO9 := Aside0.mk (t9.keep _ (row 37 k37) (i + 2) _ _ (by omega) HO3.out); have B9 := Aside0.mk (t9.far B3.out); have T9 := Aside0.mk (T3.out.step t9 (by simp)); clear h9 t9 z1; have z1 := blk_cell (blk_at HB9.out) 1; have f1 := blk_frozen (blk_at HB9.out) 1))
    clear z1 f1
    obtain ⟨c10, h10, t10⟩ := blk_put1 HB9.out 1 (.slice (some ⟨gl, 0, none⟩) le.length k1) (Below.size B9.out)
    generalize w9.setCell ⟨g, 1, none⟩ (.slice (some ⟨gl, 0, none⟩) le.length k1) = w10 at h10 t10 ⊢
    have HB10 := Aside0.mk (show (blk).M w10 w0.heap.size (fun k => c10 k = i) (.cells #[.int .i64 m, .slice (some ⟨gl, 0, none⟩) le.length k1, .slice A2 l2.length k2] 55 (0, 0)) (.pointer (some ⟨g, 0, none⟩)) from h10)
    have HL10 := Aside0.mk (t10.keep _ (row 37 k37) (i + 1) _ _ (by omega) HL9.out)
    have HO10 := Aside0.mk (t10.keep _ (row 37 k37) (i + 2) _ _ (by omega) HO9.out)
    have B10 := Aside0.mk (t10.far B9.out)
    have T10 := Aside0.mk (T9.out.step t10 (by simp))
    clear h10 t10
    go_wp2
    go_ret
    exact ⟨by rw [HV.out]; rfl, c10, by rw [HVL.out, HVO.out]; exact ⟨_, _, _, _, HB10.out, HL10.out, HO10.out⟩, T10.out⟩
end Go.Proofs.Ytmjodeijafoabaa.Admit

/- Admit: what holds of a book in the laws; awake (no law is stated here; each says its conditions). -/
namespace Go.Proofs.Ytmjodeijafoabaa.Admit
open Go.RowKit Go.Proofs.YtmjodeijafoabaaW.PrintWords Go.Proofs.YtmjodeijafoabaaW.PrintLast Go.Proofs.YtmjodeijafoabaaW.PrintMore Go.Proofs.Ytmjodeijafoabaa.St Go.Proofs.Ytmjodeijafoabaa.Q Go.Proofs.Ytmjodeijafoabaa.Pure
set_option linter.unusedVariables false
set_option linter.unusedSimpArgs false
attribute [local go_sem] max2_int min2_int max_two min_two max_three min_three max_four min_four

/-- What holds of a book, so many have left. -/
def Inv (l1 l2 : List S37) (j : Nat) : Prop := l1.length ≤ 32 ∧ l2.length ≤ j ∧ Okl (prs l1) ∧ Okl (prs l2)
theorem inv_new : Inv [] [] 0 := ⟨by simp, by simp, fun x hx => by simp [prs] at hx, fun x hx => by simp [prs] at hx⟩
theorem Inv.more {l1 l2 : List S37} {j : Nat} (h : Inv l1 l2 j) : Inv l1 l2 (j + 1) := ⟨h.1, Nat.le_succ_of_le h.2.1, h.2.2.1, h.2.2.2⟩
theorem ask_zero {m : Int} {l1 l2 : List S37} {q p now : Int} (h : askV m l1 l2 q p now = 0) : goodP q p = true ∧ l1.length < 32 := by
  unfold askV at h
  by_cases h1 : goodP q p = false ∨ now < 0
  · rw [if_pos h1] at h; cases h
  · rw [if_neg h1] at h
    by_cases h2 : 32 ≤ l1.length ∨ 63 ≤ l1.length + (ling now l2).length
    · rw [if_pos h2] at h; cases h
    · refine ⟨?_, by omega⟩
      cases hg : goodP q p with
      | true => rfl
      | false => exact absurd (Or.inl hg) h1
theorem enter_zero {m : Int} {l1 l2 : List S37} {id q p now : Int} (h : enterV m l1 l2 id q p now = 0) : goodP q p = true ∧ l1.length < 32 := by
  unfold enterV at h
  by_cases h1 : goodP q p = false ∨ now < 0
  · rw [if_pos h1] at h; cases h
  · rw [if_neg h1] at h
    by_cases h2 : 0 ≤ findE id l1 0
    · rw [if_pos h2] at h; cases h
    · rw [if_neg h2] at h; exact ask_zero h
theorem Inv.enter {m : Int} {l1 l2 : List S37} {j : Nat} (h : Inv l1 l2 j) (id q p now : Int) : Inv (enterL m l1 l2 id q p now) l2 j := by
  unfold enterL
  by_cases h0 : enterV m l1 l2 id q p now = 0
  · rw [if_pos h0]
    obtain ⟨hg, hl⟩ := enter_zero h0
    refine ⟨by rw [List.length_append]; simp; omega, h.2.1, fun x hx => ?_, h.2.2.2⟩
    unfold prs at hx
    rw [List.map_append, List.mem_append] at hx
    rcases hx with hx | hx
    · exact h.2.2.1 x hx
    · simp at hx
      rw [hx]
      exact good_ok hg
  · rw [if_neg h0]; exact h
theorem mem_prs {l : List S37} {k : Nat} (hk : k < l.length) : (l.getD k z4).f1 ∈ prs l := by
  rw [List.getD_eq_getElem?_getD, List.getElem?_eq_getElem hk]
  exact List.mem_map.2 ⟨l[k], List.getElem_mem hk, rfl⟩
theorem Inv.leave {l1 l2 : List S37} {j : Nat} (h : Inv l1 l2 j) (id till now : Int) : Inv (leaveL l1 id till now) (leaveO l1 l2 id till now) (j + 1) := by
  unfold leaveL leaveO
  by_cases h0 : leaveV l1 id till now = 0
  · have hf : ∃ k, k < l1.length ∧ (findE id l1 0).toNat = k := by
      rcases find_cases id l1 0 with ⟨k, hk, he, _⟩ | ⟨he, _⟩
      · exact ⟨k, hk, by rw [he]; omega⟩
      · unfold leaveV at h0
        rw [he] at h0
        by_cases h1 : till < 0 ∨ now < 0
        · rw [if_pos h1] at h0; cases h0
        · rw [if_neg h1, if_pos (by decide)] at h0; cases h0
    obtain ⟨k, hk, hke⟩ := hf
    rw [if_pos h0, hke]
    refine ⟨Nat.le_trans (List.length_eraseIdx_le _ _) h.1, ?_, fun x hx => ?_, fun x hx => ?_⟩
    · split
      · rw [List.length_append]; simp; have := h.2.1; omega
      · have := h.2.1; omega
    · obtain ⟨y, hy, rfl⟩ := List.mem_map.1 hx
      exact h.2.2.1 _ (List.mem_map.2 ⟨y, List.mem_of_mem_eraseIdx hy, rfl⟩)
    · split at hx
      · unfold prs at hx
        rw [List.map_append, List.mem_append] at hx
        rcases hx with hx | hx
        · exact h.2.2.2 x hx
        · simp at hx
          rw [hx]
          exact h.2.2.1 _ (mem_prs hk)
      · exact h.2.2.2 x hx
  · rw [if_neg h0, if_neg (fun e => h0 e.1)]
    exact h.more
section
variable {w0 W : World} {c : Nat → Nat} {i g : Nat} {m : Int} {l1 l2 : List S37}
theorem BK.live (h : BK w0 W c i m l1 l2 g) (hl : l1.length ≤ 1000) :
    Calls Try.prog 11 #[.pointer (some ⟨g, 0, none⟩)] W fun e w' => ∃ A k, e = .returned (.slice A l1.length k) ∧ k37.C w' A l1.length l1 ∧ Below W.heap.size W w' := by
  obtain ⟨A1, k1, A2, k2, h1, h2, h3⟩ := h
  refine (live_calls (blk_at h1) (row_C h2) (row_le h2) hl).mono ?_
  rintro e w' ⟨v, rfl, hv, hb⟩
  obtain ⟨A, k, rfl, _, hc⟩ := row_reads hv
  exact ⟨A, k, rfl, hc, hb⟩
theorem BK.ask (q p now : Int) (h : BK w0 W c i m l1 l2 g) {j : Nat} (hi : Inv l1 l2 j) (hj : j ≤ 900) (hm : 1 ≤ m ∧ m ≤ 64) :
    Calls Try.prog 12 #[.pointer (some ⟨g, 0, none⟩), .agg #[.int .i64 q, .int .i64 p], .int .i64 now] W fun e w' => e = .returned (.int .i64 (askV m l1 l2 q p now)) ∧ Below W.heap.size W w' := by
  obtain ⟨A1, k1, A2, k2, h1, h2, h3⟩ := h
  exact ask_calls q p now (blk_at h1) (row_C h2) (row_le h2) (row_C h3) (by have := hi.1; omega) (by have := hi.2.1; omega) hm hi.2.2.1 hi.2.2.2
theorem BK.enter (id q p now : Int) (h : BK w0 W c i m l1 l2 g) (hB : Below w0.heap.size w0 W) {j : Nat} (hi : Inv l1 l2 j) (hj : j ≤ 900) (hm : 1 ≤ m ∧ m ≤ 64) {r : Int} {l : List S37} (hr : enterV m l1 l2 id q p now = r) (hl : enterL m l1 l2 id q p now = l) :
    Calls Try.prog 9 #[.pointer (some ⟨g, 0, none⟩), .int .i64 id, .agg #[.int .i64 q, .int .i64 p], .int .i64 now] W fun e w' => e = .returned (.int .i64 r) ∧ ∃ c', BK w0 w' c' i m l l2 g ∧ TurnedL c c' [i, i + 1, i + 2, i + 3, i + 4] w0 W w' := by
  subst hr; subst hl
  exact enter_calls id q p now h hB ⟨by have := hi.1; omega, by have := hi.2.1; omega⟩ hm hi.2.2.1 hi.2.2.2
theorem BK.leave (id till now : Int) (h : BK w0 W c i m l1 l2 g) (hB : Below w0.heap.size w0 W) {j : Nat} (hi : Inv l1 l2 j) (hj : j ≤ 900) :
    Calls Try.prog 10 #[.pointer (some ⟨g, 0, none⟩), .int .i64 id, .int .i64 till, .int .i64 now] W fun e w' => e = .returned (.int .i64 (leaveV l1 id till now)) ∧ ∃ c', BK w0 w' c' i m (leaveL l1 id till now) (leaveO l1 l2 id till now) g ∧ TurnedL c c' [i, i + 1, i + 2, i + 3, i + 4] w0 W w' :=
  leave_calls id till now h hB ⟨by have := hi.1; omega, by have := hi.2.1; omega⟩
end
theorem aw1v : enterV 1 [] [] 1 1 2 0 = 0 := by decide +kernel
theorem aw1 : enterL 1 [] [] 1 1 2 0 = ([⟨1, ⟨1, 2⟩, -1⟩] : List S37) := by unfold enterL; rw [if_pos aw1v]; rfl
theorem aw2v : enterV 1 ([⟨1, ⟨1, 2⟩, -1⟩] : List S37) [] 2 1 2 0 = 7 := by decide +kernel
theorem aw2 : enterL 1 ([⟨1, ⟨1, 2⟩, -1⟩] : List S37) [] 2 1 2 0 = ([⟨1, ⟨1, 2⟩, -1⟩] : List S37) := by unfold enterL; rw [if_neg (by rw [aw2v]; decide)]
theorem inv_one : Inv ([⟨1, ⟨1, 2⟩, -1⟩] : List S37) [] 0 := by
  have h := Inv.enter (m := 1) inv_new 1 1 2 0
  rwa [aw1] at h
set_option maxHeartbeats 4000000 in
set_option maxRecDepth 100000 in
theorem awake_calls (w : World) : Calls Try.prog 7 #[] w fun e w' => e = .returned (.bool true) ∧ Below w.heap.size w w' := by
  go_enter Try.func7, Try.ntmps7
  go_wp2_with (first | (go_at_call 8; (with_reducible refine (new_ok (w0 := w) (fun _ => 9) 0 1 (by decide) (Below.refl _ _)).mono ?_); rintro e w2 ⟨g, rfl, c2, h2, t2⟩; have H2 := Aside0.mk h2; have B2 := Aside0.mk (t2.far (Below.refl _ _)); clear h2 t2) | (go_at_call 9; (with_reducible refine (BK.enter 1 1 2 0 H2.out B2.out (j := 0) inv_new (by decide) (by decide) (r := 0) (l := ([⟨1, ⟨1, 2⟩, -1⟩] : List S37)) aw1v aw1).mono ?_); rintro e w3 ⟨rfl, c3, h3, t3⟩; have H3 := Aside0.mk h3; have B3 := Aside0.mk (t3.far B2.out); clear h3 t3) | (go_at_call 9; (with_reducible refine (BK.enter 2 1 2 0 H3.out B3.out (j := 0) inv_one (by decide) (by decide) (r := 7) (l := ([⟨1, ⟨1, 2⟩, -1⟩] : List S37)) aw2v aw2).mono ?_); rintro e w4 ⟨rfl, c4, h4, t4⟩; have H4 := Aside0.mk h4; have B4 := Aside0.mk (t4.far B3.out); clear h4 t4) | (go_at_call 11; (with_reducible refine (BK.live H4.out (by decide)).mono ?_); rintro e w5 ⟨A5, k5, rfl, hc5, hb5⟩; have H5 := Aside0.mk (H4.out.below hb5); have B5 := Aside0.mk (Below.trans B4.out (Below.mono hb5 (Below.size B4.out))); clear hb5) | (go_at_call 11; (with_reducible refine (BK.live H5.out (by decide)).mono ?_); rintro e w6 ⟨A6, k6, rfl, hc6, hb6⟩; obtain ⟨ad6, e6, z60, -, -, -⟩ := read_e hc6 (show 0 < 1 by decide); subst e6; have z61 : w6.cell? ad6 = some (.int .i64 1) := (by have h := z60; rw [show 0 * 4 = 0 from rfl, Addr.add_zero'] at h; exact h); clear z60; have B6 := Aside0.mk (Below.trans B5.out (Below.mono hb6 (Below.size B5.out))); clear hb6))
  go_ret
  exact ⟨rfl, B6.out⟩
end Go.Proofs.Ytmjodeijafoabaa.Admit
