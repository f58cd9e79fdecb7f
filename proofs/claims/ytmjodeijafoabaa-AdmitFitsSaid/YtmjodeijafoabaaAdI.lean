/- Admit: what holds of a book in the laws; awake (no law is stated here; each says its conditions). -/
import Derived.Test.YtmjodeijafoabaaSt
import Derived.Test.YtmjodeijafoabaaReg
import Derived.Test.YtmjodeijafoabaaQt
import Derived.Test.YtmjodeijafoabaaAdH
import Derived.Deep.CutBlock
import Derived.Deep.CutRange
namespace Go.Proofs.Ytmjodeijafoabaa.Admit
open Go.RowKit Go.Proofs.YtmjodeijafoabaaW.PrintWords Go.Proofs.YtmjodeijafoabaaW.PrintLast Go.Proofs.YtmjodeijafoabaaW.PrintMore Go.Proofs.Ytmjodeijafoabaa.St Go.Proofs.Ytmjodeijafoabaa.Q Go.Proofs.Ytmjodeijafoabaa.Pure
set_option linter.unusedVariables false
set_option linter.unusedSimpArgs false
attribute [local go_sem] max2_int min2_int max_two min_two max_three min_three max_four min_four

/-- What holds of a book, so many have left. -/
def Inv (l1 l2 : List S37) (j : Nat) : Prop := l1.length ≤ 32 ∧ l2.length ≤ j ∧ Okl (prs l1) ∧ Okl (prs l2)
theorem inv_new : Inv [] [] 0 := ⟨by simp, by simp, fun x hx => by simp [prs] at hx, fun x hx => by simp [prs] at hx⟩
theorem Inv.more {l1 l2 : List S37} {j : Nat} (h : Inv l1 l2 j) : Inv l1 l2 (j + 1) := ⟨h.1, Nat.le_succ_of_le h.2.1, h.2.2.1, h.2.2.2⟩
theorem ask_zero {m : Int} {l1 l2 : List S37} {q p now : Int} (h : askV m l1 l2 q p now = 0) : goodP q p = true ∧ l1.length < 32 := by
  unfold askV at h
  by_cases h1 : goodP q p = false ∨ now < 0
  · rw [if_pos h1] at h; cases h
  · rw [if_neg h1] at h
    by_cases h2 : 32 ≤ l1.length ∨ 63 ≤ l1.length + (ling now l2).length
    · rw [if_pos h2] at h; cases h
    · refine ⟨?_, by omega⟩
      cases hg : goodP q p with
      | true => rfl
      | false => exact absurd (Or.inl hg) h1
theorem enter_zero {m : Int} {l1 l2 : List S37} {id q p now : Int} (h : enterV m l1 l2 id q p now = 0) : goodP q p = true ∧ l1.length < 32 := by
  unfold enterV at h
  by_cases h1 : goodP q p = false ∨ now < 0
  · rw [if_pos h1] at h; cases h
  · rw [if_neg h1] at h
    by_cases h2 : 0 ≤ findE id l1 0
    · rw [if_pos h2] at h; cases h
    · rw [if_neg h2] at h; exact ask_zero h
theorem Inv.enter {m : Int} {l1 l2 : List S37} {j : Nat} (h : Inv l1 l2 j) (id q p now : Int) : Inv (enterL m l1 l2 id q p now) l2 j := by
  unfold enterL
  by_cases h0 : enterV m l1 l2 id q p now = 0
  · rw [if_pos h0]
    obtain ⟨hg, hl⟩ := enter_zero h0
    refine ⟨by rw [List.length_append]; simp; omega, h.2.1, fun x hx => ?_, h.2.2.2⟩
    unfold prs at hx
    rw [List.map_append, List.mem_append] at hx
    rcases hx with hx | hx
    · exact h.2.2.1 x hx
    · simp at hx
      rw [hx]
      exact good_ok hg
  · rw [if_neg h0]; exact h
theorem mem_prs {l : List S37} {k : Nat} (hk : k < l.length) : (l.getD k z4).f1 ∈ prs l := by
  rw [List.getD_eq_getElem?_getD, List.getElem?_eq_getElem hk]
  exact List.mem_map.2 ⟨l[k], List.getElem_mem hk, rfl⟩
theorem Inv.leave {l1 l2 : List S37} {j : Nat} (h : Inv l1 l2 j) (id till now : Int) : Inv (leaveL l1 id till now) (leaveO l1 l2 id till now) (j + 1) := by
  unfold leaveL leaveO
  by_cases h0 : leaveV l1 id till now = 0
  · have hf : ∃ k, k < l1.length ∧ (findE id l1 0).toNat = k := by
      rcases find_cases id l1 0 with ⟨k, hk, he, _⟩ | ⟨he, _⟩
      · exact ⟨k, hk, by rw [he]; omega⟩
      · unfold leaveV at h0
        rw [he] at h0
        by_cases h1 : till < 0 ∨ now < 0
        · rw [if_pos h1] at h0; cases h0
        · rw [if_neg h1, if_pos (by decide)] at h0; cases h0
    obtain ⟨k, hk, hke⟩ := hf
    rw [if_pos h0, hke]
    refine ⟨Nat.le_trans (List.length_eraseIdx_le _ _) h.1, ?_, fun x hx => ?_, fun x hx => ?_⟩
    · split
      · rw [List.length_append]; simp; have := h.2.1; omega
      · have := h.2.1; omega
    · obtain ⟨y, hy, rfl⟩ := List.mem_map.1 hx
      exact h.2.2.1 _ (List.mem_map.2 ⟨y, List.mem_of_mem_eraseIdx hy, rfl⟩)
    · split at hx
      · unfold prs at hx
        rw [List.map_append, List.mem_append] at hx
        rcases hx with hx | hx
        · exact h.2.2.2 x hx
        · simp at hx
          rw [hx]
          exact h.2.2.1 _ (mem_prs hk)
      · exact h.2.2.2 x hx
  · rw [if_neg h0, if_neg (fun e => h0 e.1)]
    exact h.more
section
variable {w0 W : World} {c : Nat → Nat} {i g : Nat} {m : Int} {l1 l2 : List S37}
theorem BK.live (h : BK w0 W c i m l1 l2 g) (hl : l1.length ≤ 1000) :
    Calls Try.prog 11 #[.pointer (some ⟨g, 0, none⟩)] W fun e w' => ∃ A k, e = .returned (.slice A l1.length k) ∧ k37.C w' A l1.length l1 ∧ Below W.heap.size W w' := by
  obtain ⟨A1, k1, A2, k2, h1, h2, h3⟩ := h
  refine (live_calls (blk_at h1) (row_C h2) (row_le h2) hl).mono ?_
  rintro e w' ⟨v, rfl, hv, hb⟩
  obtain ⟨A, k, rfl, _, hc⟩ := row_reads hv
  exact ⟨A, k, rfl, hc, hb⟩
theorem BK.ask (q p now : Int) (h : BK w0 W c i m l1 l2 g) {j : Nat} (hi : Inv l1 l2 j) (hj : j ≤ 900) (hm : 1 ≤ m ∧ m ≤ 64) :
    Calls Try.prog 12 #[.pointer (some ⟨g, 0, none⟩), .agg #[.int .i64 q, .int .i64 p], .int .i64 now] W fun e w' => e = .returned (.int .i64 (askV m l1 l2 q p now)) ∧ Below W.heap.size W w' := by
  obtain ⟨A1, k1, A2, k2, h1, h2, h3⟩ := h
  exact ask_calls q p now (blk_at h1) (row_C h2) (row_le h2) (row_C h3) (by have := hi.1; omega) (by have := hi.2.1; omega) hm hi.2.2.1 hi.2.2.2
theorem BK.enter (id q p now : Int) (h : BK w0 W c i m l1 l2 g) (hB : Below w0.heap.size w0 W) {j : Nat} (hi : Inv l1 l2 j) (hj : j ≤ 900) (hm : 1 ≤ m ∧ m ≤ 64) {r : Int} {l : List S37} (hr : enterV m l1 l2 id q p now = r) (hl : enterL m l1 l2 id q p now = l) :
    Calls Try.prog 9 #[.pointer (some ⟨g, 0, none⟩), .int .i64 id, .agg #[.int .i64 q, .int .i64 p], .int .i64 now] W fun e w' => e = .returned (.int .i64 r) ∧ ∃ c', BK w0 w' c' i m l l2 g ∧ TurnedL c c' [i, i + 1, i + 2, i + 3, i + 4] w0 W w' := by
  subst hr; subst hl
  exact enter_calls id q p now h hB ⟨by have := hi.1; omega, by have := hi.2.1; omega⟩ hm hi.2.2.1 hi.2.2.2
theorem BK.leave (id till now : Int) (h : BK w0 W c i m l1 l2 g) (hB : Below w0.heap.size w0 W) {j : Nat} (hi : Inv l1 l2 j) (hj : j ≤ 900) :
    Calls Try.prog 10 #[.pointer (some ⟨g, 0, none⟩), .int .i64 id, .int .i64 till, .int .i64 now] W fun e w' => e = .returned (.int .i64 (leaveV l1 id till now)) ∧ ∃ c', BK w0 w' c' i m (leaveL l1 id till now) (leaveO l1 l2 id till now) g ∧ TurnedL c c' [i, i + 1, i + 2, i + 3, i + 4] w0 W w' :=
  leave_calls id till now h hB ⟨by have := hi.1; omega, by have := hi.2.1; omega⟩
end
theorem aw1v : enterV 1 [] [] 1 1 2 0 = 0 := by decide +kernel
theorem aw1 : enterL 1 [] [] 1 1 2 0 = ([⟨1, ⟨1, 2⟩, -1⟩] : List S37) := by unfold enterL; rw [if_pos aw1v]; rfl
theorem aw2v : enterV 1 ([⟨1, ⟨1, 2⟩, -1⟩] : List S37) [] 2 1 2 0 = 7 := by decide +kernel
theorem aw2 : enterL 1 ([⟨1, ⟨1, 2⟩, -1⟩] : List S37) [] 2 1 2 0 = ([⟨1, ⟨1, 2⟩, -1⟩] : List S37) := by unfold enterL; rw [if_neg (by rw [aw2v]; decide)]
theorem inv_one : Inv ([⟨1, ⟨1, 2⟩, -1⟩] : List S37) [] 0 := by
  have h := Inv.enter (m := 1) inv_new 1 1 2 0
  rwa [aw1] at h
set_option maxHeartbeats 4000000 in
set_option maxRecDepth 100000 in
theorem awake_calls (w : World) : Calls Try.prog 7 #[] w fun e w' => e = .returned (.bool true) ∧ Below w.heap.size w w' := by
  go_enter Try.func7, Try.ntmps7
  go_wp2_with (first | (go_at_call 8; (with_reducible refine (new_ok (w0 := w) (fun _ => 9) 0 1 (by decide) (Below.refl _ _)).mono ?_); rintro e w2 ⟨g, rfl, c2, h2, t2⟩; have H2 := Aside0.mk h2; have B2 := Aside0.mk (t2.far (Below.refl _ _)); clear h2 t2) | (go_at_call 9; (with_reducible refine (BK.enter 1 1 2 0 H2.out B2.out (j := 0) inv_new (by decide) (by decide) (r := 0) (l := ([⟨1, ⟨1, 2⟩, -1⟩] : List S37)) aw1v aw1).mono ?_); rintro e w3 ⟨rfl, c3, h3, t3⟩; have H3 := Aside0.mk h3; have B3 := Aside0.mk (t3.far B2.out); clear h3 t3) | (go_at_call 9; (with_reducible refine (BK.enter 2 1 2 0 H3.out B3.out (j := 0) inv_one (by decide) (by decide) (r := 7) (l := ([⟨1, ⟨1, 2⟩, -1⟩] : List S37)) aw2v aw2).mono ?_); rintro e w4 ⟨rfl, c4, h4, t4⟩; have H4 := Aside0.mk h4; have B4 := Aside0.mk (t4.far B3.out); clear h4 t4) | (go_at_call 11; (with_reducible refine (BK.live H4.out (by decide)).mono ?_); rintro e w5 ⟨A5, k5, rfl, hc5, hb5⟩; have H5 := Aside0.mk (H4.out.below hb5); have B5 := Aside0.mk (Below.trans B4.out (Below.mono hb5 (Below.size B4.out))); clear hb5) | (go_at_call 11; (with_reducible refine (BK.live H5.out (by decide)).mono ?_); rintro e w6 ⟨A6, k6, rfl, hc6, hb6⟩; obtain ⟨ad6, e6, z60, -, -, -⟩ := read_e hc6 (show 0 < 1 by decide); subst e6; have z61 : w6.cell? ad6 = some (.int .i64 1) := (by have h := z60; rw [show 0 * 4 = 0 from rfl, Addr.add_zero'] at h; exact h); clear z60; have B6 := Aside0.mk (Below.trans B5.out (Below.mono hb6 (Below.size B5.out))); clear hb6))
  go_ret
  exact ⟨rfl, B6.out⟩
end Go.Proofs.Ytmjodeijafoabaa.Admit
