/- HeapKeys, what it tells in plain words: who is held with which key, who is least (no law is stated here; no condition). -/
import Derived.Test.YtkpjijbkiambiaaSortsP
namespace Go.Proofs.Ytkpjijbkiambiaa.Heap
open Go.RowKit Go.Proofs.YtkpjijbkiambiaaW.PrintWords Go.Proofs.YtkpjijbkiambiaaW.PrintLast Go.Proofs.YtkpjijbkiambiaaW.PrintMore Go.Proofs.Ytkpjijbkiambiaa.St Go.Proofs.Ytkpjijbkiambiaa.Q
set_option linter.unusedVariables false
set_option linter.unusedSimpArgs false

/-- Block bm is a map of ids to keys. -/
def NowIs (w : World) (bm : Nat) (f : Int → Option Int) (sz : Nat) : Prop := ∃ D : DataW Unit, w.ownsMap Try.prog 3 (plainElem Try.prog 2) bm sz D ∧ Sees D f ∧ Go.Maps.size D = sz
theorem NowIs.lt {w : World} {bm sz : Nat} {f : Int → Option Int} (h : NowIs w bm f sz) : bm < w.heap.size := by
  obtain ⟨D, ⟨es, clock, h1, _⟩, _⟩ := h
  exact (Array.getElem?_eq_some_iff.1 h1).1
theorem NowIs.move {w w1 : World} {bm sz : Nat} {f : Int → Option Int} (h : NowIs w bm f sz) (e : w1.heap[bm]? = w.heap[bm]?) : NowIs w1 bm f sz := by
  obtain ⟨D, ⟨es, clock, h1, h2, h3, h4⟩, k1, k2⟩ := h
  exact ⟨D, ⟨es, clock, e.trans h1, h2, h3, h4⟩, k1, k2⟩
theorem NowIs.stored {w w1 : World} {bm sz n : Nat} {f : Int → Option Int} {D : DataW Unit} {a i : Int} (ho : w.ownsMap Try.prog 3 (plainElem Try.prog 2) bm sz D) (hs : Sees D f) (he : Go.Maps.size D = sz) (h1 : w1.ownsMap Try.prog 3 (plainElem Try.prog 2) bm n (D.put (kl a) (.lit (.int .i64 i)))) :
    NowIs w1 bm (upd f a i) (if (f a).isSome then sz else sz + 1) := by
  have hz : Go.Maps.size (D.put (kl a) (.lit (.int .i64 i))) = if (f a).isSome then sz else sz + 1 := by rw [Go.Maps.size_put (ho.tidy law), (hs a).1, he]
  exact ⟨_, by have := ownsMap_tight h1; rwa [hz] at this, hs.put ho.isMap a i, hz⟩
theorem zero64 (w : World) : (zeroValue 2).run Try.prog w = .ok (.int .i64 0) w := by kernel_rfl

/-- The heap holds just who was told a key, each with the last one. -/
structure Holds (x : H) (f : Int → Option Int) (sz : Nat) : Prop where
  gr : x.great = false
  room : x.room = 100
  ok : Ok x
  fwd : ∀ y ∈ x.l, f y.1 = some y.2
  bwd : ∀ a v, f a = some v → (a, v) ∈ x.l
  len : x.l.length = sz
  dom : ∀ a, (f a).isSome = true → ∃ k : Nat, k < 16 ∧ a = (k : Int)
section
variable {x x' : H} {f : Int → Option Int} {sz : Nat} {id key : Int}
theorem holds_new : Holds (newH 100 false) (fun _ => none) 0 :=
  ⟨rfl, by decide, ok_new 100 false, fun y hy => absurd hy (List.not_mem_nil), fun a v h => absurd h (by simp), rfl, fun a h => absurd h (by simp)⟩
theorem Holds.free (h : Holds x f sz) (hf : f id = none) : x.f id = none := none_of h.ok (fun y hy e => by
  have h1 := h.fwd y hy
  rw [e, hf] at h1
  cases h1)
theorem Holds.put (h : Holds x f sz) (hf : f id = none) (hd : ∃ k : Nat, k < 16 ∧ id = (k : Int)) (g : x'.great = x.great) (r : x'.room = x.room) (o : Ok x') (p : x'.l.Perm (x.l ++ [(id, key)])) : Holds x' (upd f id key) (sz + 1) := by
  refine ⟨g.trans h.gr, r.trans h.room, o, fun y hy => ?_, fun a v ha => ?_, by rw [p.length_eq, List.length_append, h.len]; rfl, fun a ha => ?_⟩
  · rcases List.mem_append.1 (p.mem_iff.1 hy) with h1 | h1
    · have h2 := h.fwd y h1
      rw [upd_other (fun e => by rw [e, hf] at h2; cases h2)]
      exact h2
    · obtain rfl := List.mem_singleton.1 h1
      exact upd_same f id key
  · by_cases c : a = id
    · subst c
      rw [upd_same] at ha
      cases ha
      exact p.mem_iff.2 (List.mem_append_right _ (List.mem_singleton.2 rfl))
    · rw [upd_other c] at ha
      exact p.mem_iff.2 (List.mem_append_left _ (h.bwd a v ha))
  · by_cases c : a = id
    · rw [c]
      exact hd
    · rw [upd_other c] at ha
      exact h.dom a ha
theorem ids_apart {x : H} (h : Ok x) {i j : Nat} (hi : i < x.l.length) (hj : j < x.l.length) (e : (at_ x.l i).1 = (at_ x.l j).1) : i = j := by
  have h1 := h.1.fwd i hi
  have h2 := h.1.fwd j hj
  rw [e, h2] at h1
  injection h1 with h1
  omega
theorem Holds.at (h : Holds x f sz) {v : Int} (hf : f id = some v) : ∃ j, j < x.l.length ∧ at_ x.l j = (id, v) := mem_at (h.bwd id v hf)
theorem Holds.set (h : Holds x f sz) {v : Int} {j : Nat} (hj : j < x.l.length) (e : at_ x.l j = (id, v)) (g : x'.great = x.great) (r : x'.room = x.room) (o : Ok x') (p : x'.l.Perm (x.l.set j (id, key))) : Holds x' (upd f id key) sz := by
  have hfid : f id = some v := by
    have h1 := h.fwd _ (at_mem hj)
    rw [e] at h1
    exact h1
  have hmem : ∀ y, y ∈ x.l.set j (id, key) ↔ (y = (id, key) ∨ ∃ k, k < x.l.length ∧ k ≠ j ∧ at_ x.l k = y) := by
    intro y
    constructor
    · intro hy
      obtain ⟨k, hk, rfl⟩ := mem_at hy
      have hk2 : k < x.l.length := by rw [List.length_set] at hk; exact hk
      by_cases c : k = j
      · subst c
        exact Or.inl (by unfold at_; rw [List.getD_eq_getElem?_getD, List.getElem?_set_self hk2]; rfl)
      · exact Or.inr ⟨k, hk2, c, (at_set_other c _).symm⟩
    · rintro (rfl | ⟨k, hk, hkj, rfl⟩)
      · have h1 : at_ (x.l.set j (id, key)) j = (id, key) := by unfold at_; rw [List.getD_eq_getElem?_getD, List.getElem?_set_self hj]; rfl
        have h2 : at_ (x.l.set j (id, key)) j ∈ x.l.set j (id, key) := at_mem (by rw [List.length_set]; exact hj)
        rwa [h1] at h2
      · rw [← at_set_other hkj (id, key)]
        exact at_mem (by rw [List.length_set]; exact hk)
  refine ⟨g.trans h.gr, r.trans h.room, o, fun y hy => ?_, fun a u ha => ?_, by rw [p.length_eq, List.length_set, h.len], fun a ha => ?_⟩
  · rcases (hmem y).1 (p.mem_iff.1 hy) with rfl | ⟨k, hk, hkj, rfl⟩
    · exact upd_same f id key
    · rw [upd_other (fun e2 => hkj (ids_apart h.ok hk hj (by rw [e2, e])))]
      exact h.fwd _ (at_mem hk)
  · refine p.mem_iff.2 ((hmem _).2 ?_)
    by_cases c : a = id
    · subst c
      rw [upd_same] at ha
      cases ha
      exact Or.inl rfl
    · rw [upd_other c] at ha
      obtain ⟨k, hk, e2⟩ := mem_at (h.bwd a u ha)
      refine Or.inr ⟨k, hk, fun e3 => ?_, e2⟩
      rw [e3, e] at e2
      exact c (congrArg Prod.fst e2).symm
  · by_cases c : a = id
    · rw [c]
      exact h.dom id (by rw [hfid]; rfl)
    · rw [upd_other c] at ha
      exact h.dom a ha
end
/-- The least of those below n. -/
def BestOk (f : Int → Option Int) (n : Nat) (b : Int) : Prop :=
  (b = -1 ∧ ∀ k : Nat, k < n → f (k : Int) = none) ∨ ∃ (j : Nat) (v : Int), j < n ∧ b = (j : Int) ∧ f (j : Int) = some v ∧ ∀ k : Nat, k < n → ∀ u, f (k : Int) = some u → k ≠ j → lt false ((j : Int), v) ((k : Int), u) = true
theorem best_none {f : Int → Option Int} {n : Nat} {b : Int} (h : BestOk f n b) (hf : f (n : Int) = none) : BestOk f (n + 1) b := by
  rcases h with ⟨h1, h2⟩ | ⟨j, v, h1, h2, h3, h4⟩
  · refine Or.inl ⟨h1, fun k hk => ?_⟩
    by_cases c : k = n
    · rw [c]; exact hf
    · exact h2 k (by omega)
  · refine Or.inr ⟨j, v, by omega, h2, h3, fun k hk u hu hkj => ?_⟩
    by_cases c : k = n
    · rw [c, hf] at hu; cases hu
    · exact h4 k (by omega) u hu hkj
theorem best_first {f : Int → Option Int} {n : Nat} {u : Int} (h : BestOk f n (-1)) (hf : f (n : Int) = some u) : BestOk f (n + 1) (n : Int) := by
  rcases h with ⟨h1, h2⟩ | ⟨j, v, h1, h2, h3, h4⟩
  · refine Or.inr ⟨n, u, by omega, rfl, hf, fun k hk w hw hkj => ?_⟩
    rw [h2 k (by omega)] at hw
    cases hw
  · omega
theorem lt_f {a b : Int × Int} : lt false a b = true ↔ (a.2 < b.2 ∨ (a.2 = b.2 ∧ a.1 < b.1)) := by
  unfold lt
  by_cases c : a.2 = b.2
  · rw [if_pos c, decide_eq_true_eq]
    exact ⟨fun h => Or.inr ⟨c, h⟩, fun h => h.elim (fun h2 => by omega) (fun h2 => h2.2)⟩
  · rw [if_neg c]
    simp only [bne_iff_ne, ne_eq, decide_eq_false_iff_not, Decidable.not_not]
    exact ⟨fun h => Or.inl h, fun h => h.elim id (fun h2 => absurd h2.1 c)⟩
theorem best_less {f : Int → Option Int} {n j : Nat} {u v : Int} (h : BestOk f n (j : Int)) (hf : f (n : Int) = some u) (hj : f (j : Int) = some v) (hlt : u < v) : BestOk f (n + 1) (n : Int) := by
  rcases h with ⟨h1, h2⟩ | ⟨j', v', h1, h2, h3, h4⟩
  · omega
  · obtain rfl : j = j' := by omega
    rw [hj] at h3
    cases h3
    refine Or.inr ⟨n, u, by omega, rfl, hf, fun k hk w hw hkj => lt_f.2 ?_⟩
    show u < w ∨ (u = w ∧ (n : Int) < (k : Int))
    by_cases c : k = j
    · subst c
      rw [hj] at hw
      cases hw
      exact Or.inl hlt
    · rcases lt_f.1 (h4 k (by omega) w hw c) with h5 | ⟨h5, _⟩
      · have h5 : v < w := h5
        exact Or.inl (by omega)
      · have h5 : v = w := h5
        exact Or.inl (by omega)
theorem best_same {f : Int → Option Int} {n j : Nat} {u v : Int} (h : BestOk f n (j : Int)) (hf : f (n : Int) = some u) (hj : f (j : Int) = some v) (hlt : ¬ u < v) : BestOk f (n + 1) (j : Int) := by
  rcases h with ⟨h1, h2⟩ | ⟨j', v', h1, h2, h3, h4⟩
  · omega
  · obtain rfl : j = j' := by omega
    rw [hj] at h3
    cases h3
    refine Or.inr ⟨j, v, by omega, rfl, hj, fun k hk w hw hkj => ?_⟩
    by_cases c : k = n
    · subst c
      rw [hf] at hw
      cases hw
      refine lt_f.2 ?_
      show v < u ∨ (v = u ∧ (j : Int) < (k : Int))
      by_cases d : v = u
      · exact Or.inr ⟨d, by omega⟩
      · exact Or.inl (by omega)
    · exact h4 k (by omega) w hw hkj
theorem best_of {f : Int → Option Int} {n : Nat} {b : Int} (h : BestOk f n b) : b = -1 ∨ ∃ (j : Nat) (v : Int), j < n ∧ b = (j : Int) ∧ f (j : Int) = some v := by
  rcases h with ⟨h1, _⟩ | ⟨j, v, h1, h2, h3, _⟩
  · exact Or.inl h1
  · exact Or.inr ⟨j, v, h1, h2, h3⟩
/-- Who is first is the least. -/
theorem Holds.top {x : H} {f : Int → Option Int} {sz : Nat} (h : Holds x f sz) (h0 : 0 < sz) {b : Int} (hb : BestOk f 16 b) : ∃ (j : Nat) (v : Int), j < 16 ∧ b = (j : Int) ∧ f (j : Int) = some v ∧ 0 < x.l.length ∧ at_ x.l 0 = ((j : Int), v) := by
  rcases hb with ⟨h1, h2⟩ | ⟨j, v, h1, h2, h3, h4⟩
  · have hl : 0 < x.l.length := by rw [h.len]; exact h0
    have h5 := h.fwd _ (at_mem hl)
    obtain ⟨k, hk, e⟩ := h.dom _ (by rw [h5]; rfl)
    rw [e, h2 k hk] at h5
    cases h5
  · refine ⟨j, v, h1, h2, h3, ?_⟩
    refine h.ok.top_is (List.Perm.refl _) ((j : Int), v) (h.bwd _ _ h3) (fun y hy hne => ?_)
    have h5 := h.fwd y hy
    obtain ⟨k, hk, e⟩ := h.dom _ (by rw [h5]; rfl)
    obtain ⟨y1, y2⟩ := y
    simp only at e h5
    subst e
    rw [h.gr]
    refine h4 k hk y2 h5 (fun c => hne ?_)
    subst c
    rw [h3] at h5
    cases h5
    rfl
/-- An id's last four bits. -/
theorem low4 (a : Int) : ∃ k : Nat, k < 16 ∧ Go.bits .and .i64 a 15 = (k : Int) := by
  have h2 : (BitVec.ofInt 64 a &&& BitVec.ofInt 64 15).toNat < 16 := by
    rw [BitVec.toNat_and]
    have h : (BitVec.ofInt 64 15).toNat = 15 := by decide
    rw [h]
    exact Nat.lt_of_le_of_lt Nat.and_le_right (by decide)
  refine ⟨(BitVec.ofInt 64 a &&& BitVec.ofInt 64 15).toNat, h2, ?_⟩
  show Go.IntKind.wrap .i64 (((BitVec.ofInt 64 a &&& BitVec.ofInt 64 15).toNat : Nat) : Int) = _
  generalize (BitVec.ofInt 64 a &&& BitVec.ofInt 64 15).toNat = k at h2
  have h3 : ∀ k < 16, Go.IntKind.wrap .i64 ((k : Nat) : Int) = (k : Int) := by decide
  exact h3 k h2
end Go.Proofs.Ytkpjijbkiambiaa.Heap
