/- Admit: who is counted goes on to fit as time goes on (no law is stated here; each says its conditions). -/
import Derived.Test.YtmjodeijafoabaaAdK
namespace Go.Proofs.Ytmjodeijafoabaa.Admit
open Go.RowKit Go.Proofs.YtmjodeijafoabaaW.PrintWords Go.Proofs.YtmjodeijafoabaaW.PrintLast Go.Proofs.YtmjodeijafoabaaW.PrintMore Go.Proofs.Ytmjodeijafoabaa.St Go.Proofs.Ytmjodeijafoabaa.Q Go.Proofs.Ytmjodeijafoabaa.Pure
set_option linter.unusedVariables false
set_option linter.unusedSimpArgs false

theorem fits_all (m : Int) (l : List S24) : fits m l = true ↔ ∀ x ∈ l, total x l - takesv x x < m * roomv x := by
  rw [fits_iff]
  constructor
  · intro h x hx
    obtain ⟨pre, post, rfl⟩ := List.append_of_mem hx
    have h1 := h pre post x rfl
    rw [total_app, total]
    omega
  · intro h pre post x e
    subst e
    have h1 := h x (by simp)
    rw [total_app, total] at h1
    omega
theorem total_perm (x : S24) {a b : List S24} (h : a.Perm b) : total x a = total x b := by
  induction h with
  | nil => rfl
  | cons y _ ih => rw [total, total, ih]
  | swap y z l => rw [total, total, total, total]; omega
  | trans _ _ ih1 ih2 => exact ih1.trans ih2
theorem fits_perm {m : Int} {a b : List S24} (h : a.Perm b) (hf : fits m a = true) : fits m b = true := by
  rw [fits_all] at hf ⊢
  intro x hx
  rw [← total_perm x h]
  exact hf x (h.mem_iff.2 hx)
theorem fits_less {m : Int} {a b : List S24} {y : S24} (h : Okl (a ++ y :: b)) (hf : fits m (a ++ y :: b) = true) : fits m (a ++ b) = true := by
  rw [fits_iff] at hf ⊢
  intro pre post x e
  have hy : okv y.f0 y.f1 := h y (by simp)
  have hx : okv x.f0 x.f1 := h x (by
    have : x ∈ a ++ b := by rw [e]; simp
    rcases List.mem_append.1 this with r | r <;> simp [r])
  have ht := takes_bd hy hx
  rcases List.append_eq_append_iff.1 e with ⟨c, h1, h2⟩ | ⟨c, h1, h2⟩
  · -- pre = a ++ c, b = c ++ x :: post
    subst h1
    have := hf (a ++ y :: c) post x (by rw [h2]; simp)
    rw [total_app, total] at this
    rw [total_app]
    omega
  · -- a = pre ++ c, x :: post = c ++ b
    cases c with
    | nil =>
      simp only [List.append_nil] at h1
      subst h1
      simp only [List.nil_append] at h2
      subst h2
      have := hf (a ++ [y]) post x (by simp)
      rw [total_app, total, total] at this
      omega
    | cons z c =>
      simp only [List.cons_append, List.cons.injEq] at h2
      obtain ⟨rfl, rfl⟩ := h2
      subst h1
      have := hf pre (c ++ y :: b) x (by simp)
      rw [total_app, total] at this
      rw [total_app]
      omega
theorem fits_sub {m : Int} {a b : List S24} (h : List.Sublist a b) : ∀ pre : List S24, Okl (pre ++ b) → fits m (pre ++ b) = true → fits m (pre ++ a) = true := by
  induction h with
  | slnil => intro pre _ h; exact h
  | cons x _ ih =>
    intro pre ho hf
    exact ih pre (fun y hy => ho y (by rcases List.mem_append.1 hy with h | h <;> simp [h])) (fits_less ho hf)
  | cons_cons x _ ih =>
    intro pre ho hf
    have := ih (pre ++ [x]) (by simpa using ho) (by simpa using hf)
    simpa using this
theorem fitB_sub {m : Int} {a b : List S24} (h : List.Sublist a b) (ho : Okl b) (hf : fitB m b = true) : fitB m a = true := by
  rw [fitB_eq, Bool.and_eq_true, decide_eq_true_eq] at hf ⊢
  exact ⟨Nat.le_trans h.length_le hf.1, fits_sub h [] ho hf.2⟩
theorem fitB_perm {m : Int} {a b : List S24} (h : a.Perm b) (hf : fitB m a = true) : fitB m b = true := by
  rw [fitB_eq, Bool.and_eq_true, decide_eq_true_eq] at hf ⊢
  exact ⟨by rw [← h.length_eq]; exact hf.1, fits_perm h hf.2⟩
theorem ling_later {now now' : Int} (h : now ≤ now') (l : List S37) : List.Sublist (ling now' l) (ling now l) := by
  have e : ling now' l = (ling now l).filter (fun x => decide (now' < x.f2)) := by
    unfold ling
    rw [List.filter_filter]
    apply List.filter_congr
    intro x _
    by_cases h1 : now' < x.f2
    · rw [decide_eq_true h1, decide_eq_true (show now < x.f2 by omega)]; rfl
    · rw [decide_eq_false h1]; rfl
  rw [e]
  exact List.filter_sublist
theorem okc {l1 l2 : List S37} {j : Nat} (h : Inv l1 l2 j) (now : Int) : Okl (prs l1 ++ prs (ling now l2)) := by
  intro x hx
  rcases List.mem_append.1 hx with hx | hx
  · exact h.2.2.1 x hx
  · obtain ⟨y, hy, rfl⟩ := List.mem_map.1 hx
    exact h.2.2.2 _ (List.mem_map.2 ⟨y, (List.mem_filter.1 hy).1, rfl⟩)
/-- All that are counted fit. -/
def AllFit (m : Int) (l1 l2 : List S37) (now : Int) : Prop := fitB m (prs l1 ++ prs (ling now l2)) = true
theorem allfit_new (m now : Int) : AllFit m [] [] now := rfl
theorem AllFit.later {m : Int} {l1 l2 : List S37} {now now' : Int} {j : Nat} (h : AllFit m l1 l2 now) (hi : Inv l1 l2 j) (hn : now ≤ now') : AllFit m l1 l2 now' :=
  fitB_sub ((List.Sublist.refl _).append ((ling_later hn l2).map _)) (okc hi now) h
theorem AllFit.tells {m : Int} {l1 l2 : List S37} {now : Int} (h : AllFit m l1 l2 now) : allR m (prs l1 ++ prs (ling now l2)) = (true, 0) := by
  unfold AllFit fitB at h
  rw [Bool.and_eq_true] at h
  exact Prod.ext h.1 (eq_of_beq h.2)
theorem ask_fits {m : Int} {l1 l2 : List S37} {q p now : Int} (h : askV m l1 l2 q p now = 0) : fitB m (prs l1 ++ [⟨q, p⟩] ++ prs (ling now l2)) = true := by
  unfold askV at h
  by_cases h1 : goodP q p = false ∨ now < 0
  · rw [if_pos h1] at h; cases h
  · rw [if_neg h1] at h
    by_cases h2 : 32 ≤ l1.length ∨ 63 ≤ l1.length + (ling now l2).length
    · rw [if_pos h2] at h; cases h
    · rw [if_neg h2] at h
      by_cases h3 : fitB m (prs l1 ++ [⟨q, p⟩] ++ prs (ling now l2)) = true
      · exact h3
      · rw [if_neg h3] at h; cases h
theorem AllFit.enter {m : Int} {l1 l2 : List S37} {now : Int} (h : AllFit m l1 l2 now) (id q p : Int) : AllFit m (enterL m l1 l2 id q p now) l2 now := by
  unfold enterL
  by_cases h0 : enterV m l1 l2 id q p now = 0
  · rw [if_pos h0]
    have ha : askV m l1 l2 q p now = 0 := by
      unfold enterV at h0
      by_cases h1 : goodP q p = false ∨ now < 0
      · rw [if_pos h1] at h0; cases h0
      · rw [if_neg h1] at h0
        by_cases h2 : 0 ≤ findE id l1 0
        · rw [if_pos h2] at h0; cases h0
        · rw [if_neg h2] at h0; exact h0
    have hf := ask_fits ha
    unfold AllFit
    rw [show prs (l1 ++ [⟨id, ⟨q, p⟩, -1⟩]) = prs l1 ++ [⟨q, p⟩] from by unfold prs; rw [List.map_append]; rfl]
    exact hf
  · rw [if_neg h0]; exact h
theorem AllFit.change {m : Int} {l1 l2 : List S37} {now : Int} (h : AllFit m l1 l2 now) (id q p : Int) : AllFit m (changeL m l1 l2 id q p now) l2 now := by
  unfold changeL
  by_cases h0 : changeV m l1 l2 id q p now = 0
  · rw [if_pos h0]
    unfold AllFit
    rw [show prs (l1.set (findE id l1 0).toNat ⟨(l1.getD (findE id l1 0).toNat z4).f0, ⟨q, p⟩, (l1.getD (findE id l1 0).toNat z4).f2⟩) = (prs l1).set (findE id l1 0).toNat ⟨q, p⟩ from by unfold prs; rw [List.map_set]]
    unfold changeV at h0
    by_cases h1 : goodP q p = false ∨ now < 0
    · rw [if_pos h1] at h0; cases h0
    · rw [if_neg h1] at h0
      by_cases h2 : findE id l1 0 < 0
      · rw [if_pos h2] at h0; cases h0
      · rw [if_neg h2] at h0
        by_cases h3 : fitB m ((prs l1).set (findE id l1 0).toNat ⟨q, p⟩ ++ prs (ling now l2)) = true
        · exact h3
        · rw [if_neg h3] at h0; cases h0
  · rw [if_neg h0]; exact h
theorem Inv.change {m : Int} {l1 l2 : List S37} {j : Nat} (h : Inv l1 l2 j) (id q p now : Int) : Inv (changeL m l1 l2 id q p now) l2 j := by
  unfold changeL
  by_cases h0 : changeV m l1 l2 id q p now = 0
  · rw [if_pos h0]
    have hg : goodP q p = true := by
      unfold changeV at h0
      by_cases h1 : goodP q p = false ∨ now < 0
      · rw [if_pos h1] at h0; cases h0
      · cases hg : goodP q p with
        | true => rfl
        | false => exact absurd (Or.inl hg) h1
    refine ⟨by rw [List.length_set]; exact h.1, h.2.1, fun x hx => ?_, h.2.2.2⟩
    obtain ⟨y, hy, rfl⟩ := List.mem_map.1 hx
    rcases List.mem_or_eq_of_mem_set hy with hy | hy
    · exact h.2.2.1 _ (List.mem_map.2 ⟨y, hy, rfl⟩)
    · rw [hy]; exact good_ok hg
  · rw [if_neg h0]; exact h
theorem leave_at {l1 : List S37} {id till now : Int} (h0 : leaveV l1 id till now = 0) : ∃ k, k < l1.length ∧ (findE id l1 0).toNat = k := by
  rcases find_cases id l1 0 with ⟨k, hk, he, _⟩ | ⟨he, _⟩
  · exact ⟨k, hk, by rw [he]; omega⟩
  · unfold leaveV at h0
    rw [he] at h0
    by_cases h1 : till < 0 ∨ now < 0
    · rw [if_pos h1] at h0; cases h0
    · rw [if_neg h1, if_pos (by decide)] at h0; cases h0
theorem AllFit.leave {m : Int} {l1 l2 : List S37} {now : Int} {j : Nat} (h : AllFit m l1 l2 now) (hi : Inv l1 l2 j) (id till : Int) : AllFit m (leaveL l1 id till now) (leaveO l1 l2 id till now) now := by
  unfold leaveL leaveO
  by_cases h0 : leaveV l1 id till now = 0
  · obtain ⟨k, hk, hke⟩ := leave_at h0
    rw [if_pos h0, hke]
    have hsp : l1 = l1.take k ++ l1.getD k z4 :: l1.drop (k + 1) := by rw [← Mine.drop_at (Mine.getD_at z4 hk), List.take_append_drop]
    have her : l1.eraseIdx k = l1.take k ++ l1.drop (k + 1) := List.eraseIdx_eq_take_drop_succ _ _
    by_cases ht : now < till
    · rw [if_pos ⟨h0, ht⟩]
      unfold AllFit
      refine fitB_perm ?_ h
      have e1 : ling now (l2 ++ [⟨id, (l1.getD k z4).f1, till⟩]) = ling now l2 ++ [⟨id, (l1.getD k z4).f1, till⟩] := by
        unfold ling
        rw [List.filter_append]
        simp [ht]
      have e2 : prs l1 = prs (l1.take k) ++ (l1.getD k z4).f1 :: prs (l1.drop (k + 1)) := by
        conv => lhs; rw [hsp]
        unfold prs
        rw [List.map_append, List.map_cons]
      have e3 : prs (l1.eraseIdx k) = prs (l1.take k) ++ prs (l1.drop (k + 1)) := by rw [her]; unfold prs; rw [List.map_append]
      have e4 : prs (ling now l2 ++ [⟨id, (l1.getD k z4).f1, till⟩]) = prs (ling now l2) ++ [(l1.getD k z4).f1] := by unfold prs; rw [List.map_append]; rfl
      rw [e1, e2, e3, e4]
      refine (List.perm_middle.append_right _).trans ?_
      rw [← List.append_assoc, List.cons_append]
      exact (List.perm_append_singleton _ _).symm
    · rw [if_neg (fun e => ht e.2)]
      exact fitB_sub (List.Sublist.append ((List.eraseIdx_sublist _ _).map _) (List.Sublist.refl _)) (okc hi now) h
  · rw [if_neg h0, if_neg (fun e => h0 e.1)]; exact h
end Go.Proofs.Ytmjodeijafoabaa.Admit
