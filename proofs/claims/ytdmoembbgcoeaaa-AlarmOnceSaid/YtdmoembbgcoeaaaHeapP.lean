/- The heap over lists alone: what a hole leaves, what going up and down keeps (no law is stated here; each says its conditions). -/
import Derived.Test.YtdmoembbgcoeaaaHeap2
namespace Go.Proofs.Ytdmoembbgcoeaaa.Heap
set_option linter.unusedVariables false
theorem lt_irr (gr : Bool) (a : Int × Int) : lt gr a a = false := by unfold lt; rw [if_pos rfl]; exact decide_eq_false (by omega)
theorem lt_def (gr : Bool) (a b : Int × Int) : lt gr a b = true ↔ (a.2 = b.2 ∧ a.1 < b.1) ∨ (gr = false ∧ a.2 < b.2) ∨ (gr = true ∧ b.2 < a.2) := by
  unfold lt
  by_cases h : a.2 = b.2
  · rw [if_pos h, decide_eq_true_eq]
    constructor
    · exact fun h1 => Or.inl ⟨h, h1⟩
    · rintro (⟨_, h1⟩ | ⟨_, h1⟩ | ⟨_, h1⟩)
      · exact h1
      · omega
      · omega
  · rw [if_neg h]
    cases gr
    · simp [h]
    · simp [h]; omega
theorem lt_no (gr : Bool) (a b : Int × Int) : lt gr a b = false ↔ (a.2 = b.2 ∧ b.1 ≤ a.1) ∨ (gr = false ∧ b.2 < a.2) ∨ (gr = true ∧ a.2 < b.2) := by
  rw [← Bool.not_eq_true, lt_def]
  cases gr <;> simp <;> omega
/-- What does not come ahead does not, through a third one. -/
theorem nlt_trans {gr : Bool} {a b c : Int × Int} (h1 : lt gr a b = false) (h2 : lt gr b c = false) : lt gr a c = false := by
  rw [lt_no] at *
  cases gr <;> simp at * <;> omega
theorem lt_asym {gr : Bool} {a b : Int × Int} (h : lt gr a b = true) : lt gr b a = false := by
  rw [lt_def] at h
  rw [lt_no]
  cases gr <;> simp at * <;> omega
theorem lt_eq {gr : Bool} {a b : Int × Int} (h1 : lt gr a b = false) (h2 : lt gr b a = false) : a = b := by
  rw [lt_no] at *
  obtain ⟨a1, a2⟩ := a
  obtain ⟨b1, b2⟩ := b
  cases gr <;> simp at * <;> omega

def at_ (l : List (Int × Int)) (j : Nat) : Int × Int := l.getD j (0, 0)
theorem at_set_same {l : List (Int × Int)} {k : Nat} (h : k < l.length) (y : Int × Int) : at_ (l.set k y) k = y := by
  unfold at_
  rw [List.getD_eq_getElem?_getD, List.getElem?_set_self h]
  rfl
theorem at_set_other {l : List (Int × Int)} {k j : Nat} (h : j ≠ k) (y : Int × Int) : at_ (l.set k y) j = at_ l j := by
  unfold at_
  rw [List.getD_eq_getElem?_getD, List.getElem?_set_ne (fun e => h e.symm), List.getD_eq_getElem?_getD]
theorem at_mem {l : List (Int × Int)} {k : Nat} (h : k < l.length) : at_ l k ∈ l := by
  unfold at_
  rw [List.getD_eq_getElem?_getD, List.getElem?_eq_getElem h]
  exact List.getElem_mem h
theorem mem_at {l : List (Int × Int)} {y : Int × Int} (h : y ∈ l) : ∃ k, k < l.length ∧ at_ l k = y := by
  obtain ⟨k, hk, e⟩ := List.getElem_of_mem h
  refine ⟨k, hk, ?_⟩
  unfold at_
  rw [List.getD_eq_getElem?_getD, List.getElem?_eq_getElem hk]
  exact e

/-- Each is where its place says, but one that is to be put at k. -/
structure Hole (x : H) (k : Nat) (y : Int × Int) : Prop where
  lt : k < x.l.length
  fwd : ∀ j, j < x.l.length → j ≠ k → x.f (at_ x.l j).1 = some (j : Int) ∧ (at_ x.l j).1 ≠ y.1
  dom : ∀ a, (x.f a).isSome = true → a = y.1 ∨ ∃ j, j < x.l.length ∧ j ≠ k ∧ (at_ x.l j).1 = a
  size : x.sz + 1 = x.l.length + if (x.f y.1).isSome then 1 else 0
/-- Each is where its place says. -/
structure Full (x : H) : Prop where
  fwd : ∀ j, j < x.l.length → x.f (at_ x.l j).1 = some (j : Int)
  dom : ∀ a, (x.f a).isSome = true → ∃ j, j < x.l.length ∧ (at_ x.l j).1 = a
  size : x.sz = x.l.length
/-- None is ahead of the one above it. -/
def Ord (gr : Bool) (l : List (Int × Int)) : Prop := ∀ j, 0 < j → j < l.length → lt gr (at_ l j) (at_ l ((j - 1) / 2)) = false
/-- The same, but around k. -/
structure Near (gr : Bool) (l : List (Int × Int)) (k : Nat) : Prop where
  far : ∀ j, 0 < j → j < l.length → j ≠ k → (j - 1) / 2 ≠ k → lt gr (at_ l j) (at_ l ((j - 1) / 2)) = false
  kids : 0 < k → ∀ c, 0 < c → c < l.length → (c - 1) / 2 = k → lt gr (at_ l c) (at_ l ((k - 1) / 2)) = false
section
variable {x : H} {k p : Nat} {y : Int × Int} {gr : Bool}
/-- One that is elsewhere is put at the hole: the hole is where it was. -/
theorem Hole.move (h : Hole x k y) (hp : p < x.l.length) (hne : p ≠ k) : Hole (putH x k (at_ x.l p)) p y ∧ ((putH x k (at_ x.l p)).l.set p y).Perm (x.l.set k y) := by
  have hpf := h.fwd p hp hne
  have hs : (x.f (at_ x.l p).1).isSome = true := by rw [hpf.1]; rfl
  have hl : (putH x k (at_ x.l p)).l = x.l.set k (at_ x.l p) := rfl
  have hf : (putH x k (at_ x.l p)).f = upd x.f (at_ x.l p).1 (k : Int) := rfl
  have hz : (putH x k (at_ x.l p)).sz = x.sz := by show (if _ then _ else _) = _; rw [if_pos hs]
  refine ⟨⟨by rw [hl, List.length_set]; exact hp, fun j hj hjp => ?_, fun a ha => ?_, ?_⟩, ?_⟩
  · rw [hl, List.length_set] at hj
    rw [hl, hf]
    by_cases e : j = k
    · subst e
      rw [at_set_same h.lt, upd_same]
      exact ⟨rfl, hpf.2⟩
    · have hj2 := h.fwd j hj e
      rw [at_set_other e]
      refine ⟨?_, hj2.2⟩
      rw [upd_other, hj2.1]
      intro e2
      have := hj2.1
      rw [e2, hpf.1] at this
      injection this with this
      omega
  · rw [hf] at ha
    by_cases e : a = (at_ x.l p).1
    · refine Or.inr ⟨k, by rw [hl, List.length_set]; exact h.lt, hne.symm, ?_⟩
      rw [hl, at_set_same h.lt, e]
    · rw [upd_other e] at ha
      rcases h.dom a ha with r | ⟨j, hj, hjk, r⟩
      · exact Or.inl r
      · refine Or.inr ⟨j, by rw [hl, List.length_set]; exact hj, fun e2 => ?_, by rw [hl, at_set_other hjk]; exact r⟩
        subst e2
        exact e r.symm
  · rw [hz, hl, List.length_set, hf, upd_other (fun e => hpf.2 e.symm)]
    exact h.size
  · rw [hl]
    have e1 : at_ (x.l.set k y) p = at_ x.l p := at_set_other hne y
    have e2 : at_ (x.l.set k y) k = y := at_set_same h.lt y
    have hk' : k < (x.l.set k y).length := by rw [List.length_set]; exact h.lt
    have hp' : p < (x.l.set k y).length := by rw [List.length_set]; exact hp
    have := List.set_set_perm hk' hp'
    have g1 : (x.l.set k y)[p] = at_ x.l p := by rw [← e1]; unfold at_; rw [List.getD_eq_getElem?_getD, List.getElem?_eq_getElem hp']; rfl
    have g2 : (x.l.set k y)[k] = y := by rw [List.getElem_set_self]
    rw [g1, g2, List.set_set] at this
    exact this
/-- The one itself is put at the hole. -/
theorem Hole.fill (h : Hole x k y) : Full (putH x k y) := by
  have hl : (putH x k y).l = x.l.set k y := rfl
  have hf : (putH x k y).f = upd x.f y.1 (k : Int) := rfl
  refine ⟨fun j hj => ?_, fun a ha => ?_, ?_⟩
  · rw [hl, List.length_set] at hj
    rw [hl, hf]
    by_cases e : j = k
    · subst e
      rw [at_set_same h.lt, upd_same]
    · have := h.fwd j hj e
      rw [at_set_other e, upd_other this.2]
      exact this.1
  · rw [hf] at ha
    by_cases e : a = y.1
    · exact ⟨k, by rw [hl, List.length_set]; exact h.lt, by rw [hl, at_set_same h.lt, e]⟩
    · rw [upd_other e] at ha
      rcases h.dom a ha with r | ⟨j, hj, hjk, r⟩
      · exact absurd r e
      · exact ⟨j, by rw [hl, List.length_set]; exact hj, by rw [hl, at_set_other hjk]; exact r⟩
  · have h1 := h.size
    show (if (x.f y.1).isSome then x.sz else x.sz + 1) = (x.l.set k y).length
    rw [List.length_set]
    cases hs : (x.f y.1).isSome
    · rw [hs] at h1
      simp at h1 ⊢
      omega
    · rw [hs] at h1
      simp at h1 ⊢
      omega
theorem Hole.sz_le (h : Hole x k y) (hl : x.l.length ≤ 1024) (z : Int × Int) (hz : z = y ∨ (x.f z.1).isSome = true) : (if (x.f z.1).isSome then x.sz else x.sz + 1) ≤ 2000 := by
  have h1 := h.size
  split at h1 <;> split <;> omega
/-- Up: the hole goes to the one above, which comes down. -/
theorem Near.up {l : List (Int × Int)} (h : Near gr l k) (hk : 0 < k) (hl : k < l.length) : Near gr (l.set k (at_ l ((k - 1) / 2))) ((k - 1) / 2) := by
  refine ⟨fun j h0 hj hne hpn => ?_, fun hp c h0 hc hcp => ?_⟩
  · rw [List.length_set] at hj
    by_cases e : j = k
    · subst e
      exact absurd rfl hpn
    · rw [at_set_other e]
      by_cases e2 : (j - 1) / 2 = k
      · rw [e2, at_set_same hl]
        exact h.kids hk j h0 hj e2
      · rw [at_set_other e2]
        exact h.far j h0 hj e e2
  · rw [List.length_set] at hc
    have hpp : ((k - 1) / 2 - 1) / 2 ≠ k := by omega
    have hup := h.far ((k - 1) / 2) hp (by omega) (by omega) hpp
    rw [at_set_other hpp]
    by_cases e : c = k
    · subst e
      rw [at_set_same hl]
      exact hup
    · rw [at_set_other e]
      have := h.far c h0 hc e (by omega)
      rw [hcp] at this
      exact nlt_trans this hup
/-- Down: the hole goes to a kid that no other one is ahead of. -/
theorem Near.down {l : List (Int × Int)} {q : Nat} (h : Near gr l k) (hq0 : 0 < q) (hq : q < l.length) (hqk : (q - 1) / 2 = k) (hk : k < l.length)
    (hbest : ∀ c, 0 < c → c < l.length → (c - 1) / 2 = k → lt gr (at_ l c) (at_ l q) = false) : Near gr (l.set k (at_ l q)) q := by
  refine ⟨fun j h0 hj hne hpn => ?_, fun _ c h0 hc hcp => ?_⟩
  · rw [List.length_set] at hj
    by_cases e : j = k
    · subst e
      rw [at_set_same hk, at_set_other (by omega)]
      exact h.kids h0 q hq0 hq hqk
    · rw [at_set_other e]
      by_cases e2 : (j - 1) / 2 = k
      · rw [e2, at_set_same hk]
        exact hbest j h0 hj e2
      · rw [at_set_other e2]
        exact h.far j h0 hj e e2
  · rw [List.length_set] at hc
    rw [hqk, at_set_same hk, at_set_other (by omega)]
    have := h.far c h0 hc (by omega) (by omega)
    rw [hcp] at this
    exact this
/-- Put where it belongs. -/
theorem Near.fill {l : List (Int × Int)} (h : Near gr l k) (hk : k < l.length) (hup : 0 < k → lt gr y (at_ l ((k - 1) / 2)) = false) (hdn : ∀ c, 0 < c → c < l.length → (c - 1) / 2 = k → lt gr (at_ l c) y = false) : Ord gr (l.set k y) := by
  intro j h0 hj
  rw [List.length_set] at hj
  by_cases e : j = k
  · subst e
    rw [at_set_same hk, at_set_other (by omega)]
    exact hup h0
  · rw [at_set_other e]
    by_cases e2 : (j - 1) / 2 = k
    · rw [e2, at_set_same hk]
      exact hdn j h0 hj e2
    · rw [at_set_other e2]
      exact h.far j h0 hj e e2
/-- Of a heap all is in order around each place. -/
theorem Ord.near {l : List (Int × Int)} (h : Ord gr l) (hk : k < l.length) : Near gr l k :=
  ⟨fun j h0 hj _ _ => h j h0 hj, fun hk0 c h0 hc hck => by
    have h1 := h c h0 hc
    rw [hck] at h1
    exact nlt_trans h1 (h k hk0 hk)⟩
theorem Near.set {l : List (Int × Int)} (h : Near gr l k) (z : Int × Int) : Near gr (l.set k z) k :=
  ⟨fun j h0 hj h1 h2 => by rw [List.length_set] at hj; rw [at_set_other h1, at_set_other h2]; exact h.far j h0 hj h1 h2, fun hk c h0 hc hck => by
    rw [List.length_set] at hc
    rw [at_set_other (by omega), at_set_other (by omega)]
    exact h.kids hk c h0 hc hck⟩
/-- The first of a heap: none is ahead of it. -/
theorem Ord.top {l : List (Int × Int)} (h : Ord gr l) : ∀ j, j < l.length → lt gr (at_ l j) (at_ l 0) = false := by
  intro j
  induction j using Nat.strongRecOn with
  | _ j ih =>
    intro hj
    rcases Nat.eq_zero_or_pos j with rfl | h0
    · exact lt_irr _ _
    · exact nlt_trans (h j h0 hj) (ih ((j - 1) / 2) (by omega) (by omega))
end
end Go.Proofs.Ytdmoembbgcoeaaa.Heap
