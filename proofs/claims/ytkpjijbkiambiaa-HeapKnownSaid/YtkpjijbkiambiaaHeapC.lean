/- The heap's methods told by the plain list of what it holds, and by colours (no law is stated here; each says its conditions). -/
import Derived.Test.YtkpjijbkiambiaaAll1
namespace Go.Proofs.Ytkpjijbkiambiaa.Heap
open Go.RowKit Go.Proofs.YtkpjijbkiambiaaW.PrintWords Go.Proofs.YtkpjijbkiambiaaW.PrintLast Go.Proofs.YtkpjijbkiambiaaW.PrintMore Go.Proofs.Ytkpjijbkiambiaa.St Go.Proofs.Ytkpjijbkiambiaa.Q
set_option linter.unusedVariables false
set_option linter.unusedSimpArgs false

/-- A heap that holds the items of m: (m, great, room). -/
def hp : St (List (Int × Int) × Bool × Int) where
  M := fun w b ok t v => ∃ x : H, x.great = t.2.1 ∧ x.room = t.2.2 ∧ Ok x ∧ x.l.Perm t.1 ∧ heap.M w b ok x v
  mono := fun h ⟨x, e1, e2, e3, e4, e5⟩ => ⟨x, e1, e2, e3, e4, heap.mono h e5⟩
  move := fun h ⟨x, e1, e2, e3, e4, e5⟩ => ⟨x, e1, e2, e3, e4, heap.move h e5⟩
  bound := fun ⟨x, e1, e2, e3, e4, e5⟩ => ⟨x, e1, e2, e3, e4, heap.bound e5⟩
/-- A block that holds something. -/
def blk : St Obj where
  M := fun w b ok o v => ∃ g : Nat, v = .pointer (some ⟨g, 0, none⟩) ∧ ok g ∧ b ≤ g ∧ g < w.heap.size ∧ w.heap[g]? = some o
  mono := fun h ⟨g, e1, e2, e3, e4, e5⟩ => ⟨g, e1, h g e2, e3, e4, e5⟩
  move := fun h ⟨g, e1, e2, e3, e4, e5⟩ => ⟨g, e1, e2, e3, size_same (h g e2) e4, (h g e2).trans e5⟩
  bound := fun ⟨g, e1, e2, e3, e4, e5⟩ => ⟨g, e1, ⟨e2, e3, e4⟩, e3, e4, e5⟩
section
variable {w0 W W1 : World} {c : Nat → Nat} {i : Nat} {m : List (Int × Int)} {gr : Bool} {rm : Int} {v : Value}
theorem newC (c : Nat → Nat) (i : Nat) (n : Int) (gr : Bool) (hB : Below w0.heap.size w0 W) :
    Calls Try.prog 9 #[.int .i64 n, .bool gr] W fun e w' => ∃ g : Nat, e = .returned (.pointer (some ⟨g, 0, none⟩)) ∧ ∃ c', hp.M w' w0.heap.size (fun k => c' k = i) ([], gr, clamp n) (.pointer (some ⟨g, 0, none⟩)) ∧ Turned c c' i w0 W w' :=
  (new_calls n gr W).mono (fun e w' ⟨g, h1, h2, h3⟩ => ⟨g, h1, turned_new (s := hp) (x := ([], gr, clamp n)) (⟨newH n gr, rfl, rfl, ok_new n gr, List.Perm.refl _, h2⟩) h3 hB.size (fun ⟨x, e1, e2, e3, e4, e5⟩ => ⟨x, e1, e2, e3, e4, heap_lower e5 hB.size⟩)⟩)
theorem putC (id key : Int) (h : hp.M W w0.heap.size (fun k => c k = i) (m, gr, rm) v) (hs : w0.heap.size ≤ W.heap.size) (hw : (Lit.int .i64 id).wf = true) (hn : ∀ y ∈ m, y.1 ≠ id) (hr : (m.length : Int) < rm) (hr2 : m.length < 1024) :
    Calls Try.prog 11 #[v, .int .i64 id, .int .i64 key] W fun e w' => e = .returned (.int .i64 0) ∧ ∃ c', hp.M w' w0.heap.size (fun k => c' k = i) (m ++ [(id, key)], gr, rm) v ∧ Turned c c' i w0 W w' := by
  obtain ⟨x, e1, e2, hO, hp1, hM⟩ := h
  have hl : x.l.length = m.length := hp1.length_eq
  refine (put_in id key (St.mine (s := heap) hM) hw hO (none_of hO (fun y hy => hn y (hp1.mem_iff.1 hy))) (by rw [e2]; show ¬ _ = rm; omega) (by omega)).mono ?_
  rintro e w' ⟨h1, ⟨x', g1, g2, g3, g4, g5⟩, h3⟩
  exact ⟨h1, turned (s := hp) ⟨x', g1.trans e1, g2.trans e2, g3, g4.trans (hp1.append_right _), g5⟩ h3 hs⟩
theorem busyC (id key u : Int) (h : hp.M W w0.heap.size (fun k => c k = i) (m, gr, rm) v) (hw : (Lit.int .i64 id).wf = true) (hn : (id, u) ∈ m) :
    Calls Try.prog 11 #[v, .int .i64 id, .int .i64 key] W fun e w' => e = .returned (.int .i64 5) ∧ w' = W := by
  obtain ⟨x, e1, e2, hO, hp1, hM⟩ := h
  obtain ⟨j, hj, e⟩ := mem_at (hp1.mem_iff.2 hn)
  have hf := hO.1.fwd j hj
  rw [e] at hf
  exact put_busy id key hM hw (by rw [show x.f id = some (j : Int) from hf]; rfl)
theorem fullC (id key : Int) (h : hp.M W w0.heap.size (fun k => c k = i) (m, gr, rm) v) (hw : (Lit.int .i64 id).wf = true) (hn : ∀ y ∈ m, y.1 ≠ id) (hr : (m.length : Int) = rm) :
    Calls Try.prog 11 #[v, .int .i64 id, .int .i64 key] W fun e w' => e = .returned (.int .i64 3) ∧ ∃ n, w' = W.drewN n := by
  obtain ⟨x, e1, e2, hO, hp1, hM⟩ := h
  have hl : x.l.length = m.length := hp1.length_eq
  exact put_full id key hM hw (none_of hO (fun y hy => hn y (hp1.mem_iff.1 hy))) (by rw [e2]; show _ = rm; omega)
theorem set_missC (id key : Int) (h : hp.M W w0.heap.size (fun k => c k = i) (m, gr, rm) v) (hw : (Lit.int .i64 id).wf = true) (hn : ∀ y ∈ m, y.1 ≠ id) :
    Calls Try.prog 10 #[v, .int .i64 id, .int .i64 key] W fun e w' => e = .returned (.int .i64 2) ∧ w' = W := by
  obtain ⟨x, e1, e2, hO, hp1, hM⟩ := h
  exact set_miss id key hM hw (none_of hO (fun y hy => hn y (hp1.mem_iff.1 hy)))
theorem perm_put {l : List (Int × Int)} {j : Nat} (hj : j < l.length) (z : Int × Int) : (at_ l j :: l.set j z).Perm (z :: l) := by
  induction l generalizing j with
  | nil => exact absurd hj (Nat.not_lt_zero j)
  | cons a t ih =>
    cases j with
    | zero => exact List.Perm.swap _ _ _
    | succ j =>
      have h1 := ih (j := j) (by simpa using hj)
      exact ((List.Perm.swap _ _ _).trans (h1.cons a)).trans (List.Perm.swap _ _ _)
theorem setC (id key u : Int) (p q : List (Int × Int)) (h : hp.M W w0.heap.size (fun k => c k = i) (p ++ (id, u) :: q, gr, rm) v) (hs : w0.heap.size ≤ W.heap.size) (hw : (Lit.int .i64 id).wf = true) :
    Calls Try.prog 10 #[v, .int .i64 id, .int .i64 key] W fun e w' => e = .returned (.int .i64 0) ∧ ∃ c', hp.M w' w0.heap.size (fun k => c' k = i) (p ++ (id, key) :: q, gr, rm) v ∧ Turned c c' i w0 W w' := by
  obtain ⟨x, e1, e2, hO, hp1, hM⟩ := h
  obtain ⟨j, hj, e⟩ := mem_at (hp1.mem_iff.2 (show (id, u) ∈ p ++ (id, u) :: q by simp))
  refine (set_hit id key (St.mine (s := heap) hM) hw hO j hj (by rw [e])).mono ?_
  rintro e0 w' ⟨h1, ⟨x', g1, g2, g3, g4, g5⟩, h3⟩
  have hperm : x'.l.Perm (p ++ (id, key) :: q) := by
    have k1 := perm_put hj (id, key)
    rw [e] at k1
    have k2 : (((id, u) : Int × Int) :: x.l.set j (id, key)).Perm ((id, u) :: (p ++ (id, key) :: q)) := by
      refine k1.trans ((hp1.cons (id, key)).trans ?_)
      exact ((List.perm_middle (a := (id, u)) (l₁ := p) (l₂ := q)).cons (id, key)).trans ((List.Perm.swap _ _ _).trans ((List.perm_middle (a := (id, key)) (l₁ := p) (l₂ := q)).symm.cons (id, u)))
    exact g4.trans ((List.perm_cons _).1 k2)
  exact ⟨h1, turned (s := hp) ⟨x', g1.trans e1, g2.trans e2, g3, hperm, g5⟩ h3 hs⟩
theorem drop_missC (id : Int) (h : hp.M W w0.heap.size (fun k => c k = i) (m, gr, rm) v) (hw : (Lit.int .i64 id).wf = true) (hn : ∀ y ∈ m, y.1 ≠ id) :
    Calls Try.prog 16 #[v, .int .i64 id] W fun e w' => e = .returned (.bool false) ∧ w' = W := by
  obtain ⟨x, e1, e2, hO, hp1, hM⟩ := h
  exact drop_miss id hM hw (none_of hO (fun y hy => hn y (hp1.mem_iff.1 hy)))
theorem dropC (id u : Int) (p q : List (Int × Int)) (h : hp.M W w0.heap.size (fun k => c k = i) (p ++ (id, u) :: q, gr, rm) v) (hs : w0.heap.size ≤ W.heap.size) (hw : (Lit.int .i64 id).wf = true) :
    Calls Try.prog 16 #[v, .int .i64 id] W fun e w' => e = .returned (.bool true) ∧ ∃ c', hp.M w' w0.heap.size (fun k => c' k = i) (p ++ q, gr, rm) v ∧ Turned c c' i w0 W w' := by
  obtain ⟨x, e1, e2, hO, hp1, hM⟩ := h
  obtain ⟨j, hj, e⟩ := mem_at (hp1.mem_iff.2 (show (id, u) ∈ p ++ (id, u) :: q by simp))
  refine (drop_hit id (St.mine (s := heap) hM) hw hO j hj (by rw [e])).mono ?_
  rintro e0 w' ⟨h1, ⟨x', g1, g2, g3, g4, g5⟩, h3⟩
  rw [e] at g4
  exact ⟨h1, turned (s := hp) ⟨x', g1.trans e1, g2.trans e2, g3, (List.perm_cons _).1 (g4.trans (hp1.trans List.perm_middle)), g5⟩ h3 hs⟩
/-- Who comes first of all. -/
def FirstOf (gr : Bool) (m : List (Int × Int)) (z : Int × Int) : Prop := z ∈ m ∧ ∀ y ∈ m, y ≠ z → lt gr z y = true
theorem popC (z : Int × Int) (p q : List (Int × Int)) (h : hp.M W w0.heap.size (fun k => c k = i) (p ++ z :: q, gr, rm) v) (hs : w0.heap.size ≤ W.heap.size) (hz : FirstOf gr (p ++ z :: q) z) :
    Calls Try.prog 14 #[v] W fun e w' => e = .returned (.tuple #[.agg #[.int .i64 z.1, .int .i64 z.2], .bool true]) ∧ ∃ c', hp.M w' w0.heap.size (fun k => c' k = i) (p ++ q, gr, rm) v ∧ Turned c c' i w0 W w' := by
  obtain ⟨x, e1, e2, hO, hp1, hM⟩ := h
  have e1 : x.great = gr := e1
  obtain ⟨h0, e⟩ := hO.top_is hp1 z hz.1 (by rw [e1]; exact hz.2)
  refine (pop_some (St.mine (s := heap) hM) hO h0).mono ?_
  rintro e0 w' ⟨h1, ⟨x', g1, g2, g3, g4, g5⟩, h3⟩
  rw [e] at g4 h1
  exact ⟨h1, turned (s := hp) ⟨x', g1.trans e1, g2.trans e2, g3, (List.perm_cons _).1 (g4.trans (hp1.trans List.perm_middle)), g5⟩ h3 hs⟩
theorem pop_noneC (h : hp.M W w0.heap.size (fun k => c k = i) ([], gr, rm) v) :
    Calls Try.prog 14 #[v] W fun e w' => e = .returned (.tuple #[.agg #[.int .i64 0, .int .i64 0], .bool false]) ∧ Below W.heap.size W w' := by
  obtain ⟨x, e1, e2, hO, hp1, hM⟩ := h
  exact pop_none hM hp1.length_eq
theorem topC (z : Int × Int) (h : hp.M W w0.heap.size (fun k => c k = i) (m, gr, rm) v) (hz : FirstOf gr m z) :
    Calls Try.prog 12 #[v] W fun e w' => e = .returned (.tuple #[.agg #[.int .i64 z.1, .int .i64 z.2], .bool true]) ∧ Below W.heap.size W w' := by
  obtain ⟨x, e1, e2, hO, hp1, hM⟩ := h
  have e1 : x.great = gr := e1
  obtain ⟨h0, e⟩ := hO.top_is hp1 z hz.1 (by rw [e1]; exact hz.2)
  have := top_some hM h0
  rwa [e] at this
theorem top_noneC (h : hp.M W w0.heap.size (fun k => c k = i) ([], gr, rm) v) :
    Calls Try.prog 12 #[v] W fun e w' => e = .returned (.tuple #[.agg #[.int .i64 0, .int .i64 0], .bool false]) ∧ Below W.heap.size W w' := by
  obtain ⟨x, e1, e2, hO, hp1, hM⟩ := h
  exact top_none hM hp1.length_eq
theorem key_missC (id : Int) (h : hp.M W w0.heap.size (fun k => c k = i) (m, gr, rm) v) (hw : (Lit.int .i64 id).wf = true) (hn : ∀ y ∈ m, y.1 ≠ id) :
    Calls Try.prog 17 #[v, .int .i64 id] W fun e w' => e = .returned (.tuple #[.int .i64 0, .bool false]) ∧ w' = W := by
  obtain ⟨x, e1, e2, hO, hp1, hM⟩ := h
  exact key_miss id hM hw (none_of hO (fun y hy => hn y (hp1.mem_iff.1 hy)))
theorem keyC (id u : Int) (h : hp.M W w0.heap.size (fun k => c k = i) (m, gr, rm) v) (hw : (Lit.int .i64 id).wf = true) (hn : (id, u) ∈ m) :
    Calls Try.prog 17 #[v, .int .i64 id] W fun e w' => e = .returned (.tuple #[.int .i64 u, .bool true]) ∧ w' = W := by
  obtain ⟨x, e1, e2, hO, hp1, hM⟩ := h
  obtain ⟨j, hj, e⟩ := mem_at (hp1.mem_iff.2 hn)
  have hf := hO.1.fwd j hj
  rw [e] at hf
  have := key_hit id hM hw j hj hf
  rwa [e] at this
theorem lenC (h : hp.M W w0.heap.size (fun k => c k = i) (m, gr, rm) v) :
    Calls Try.prog 13 #[v] W fun e w' => e = .returned (.int .i64 (m.length : Int)) ∧ w' = W := by
  obtain ⟨x, e1, e2, hO, hp1, hM⟩ := h
  have := len_calls hM
  rwa [hp1.length_eq] at this
theorem allC (z : Int × Int) (h : hp.M W w0.heap.size (fun k => c k = i) ([z], gr, rm) v) (j : Nat) (hs : w0.heap.size ≤ W.heap.size) :
    Calls Try.prog 15 #[v] W fun e w' => ∃ (a : Addr) (k : Nat), e = .returned (.slice (some a) 1 k) ∧ ∃ c', (row 32 KI).M w' w0.heap.size (fun k => c' k = j) [z] (.slice (some a) 1 k) ∧ Turned c c' j w0 W w' := by
  obtain ⟨x, e1, e2, hO, hp1, hM⟩ := h
  refine (all_one hM (List.perm_singleton.1 hp1)).mono ?_
  rintro e w' ⟨a, k, h1, h2, h3⟩
  exact ⟨a, k, h1, turned_new (s := row 32 KI) (Kd.R_mono (Kd.R_bound h2) (fun k hk => hk.2.1)) h3 hs (fun h => Kd.R_lower h hs)⟩
theorem read_item {A : Option Addr} {l : List (Int × Int)} (h : KI.C W A l.length l) {j : Nat} (hj : j < l.length) :
    ∃ ad, A = some ad ∧ W.cell? (ad.add (j * 2)) = some (.int .i64 (l.getD j (0, 0)).1) ∧ W.cell? ⟨(ad.add (j * 2)).block, (ad.add (j * 2)).off + 1, none⟩ = some (.int .i64 (l.getD j (0, 0)).2) := by
  obtain ⟨ad, c, e, _, hK, hc0⟩ := Kd.C_get h (0, 0) (j : Int) (by omega) (by omega)
  rw [Int.toNat_natCast] at hK hc0
  have hc : ∀ i u, c[i]? = some u → W.cell? (ad.add (j * 2 + i)) = some u := hc0
  obtain ⟨_, _, rfl, rfl, rfl⟩ := hK
  exact ⟨ad, e, hc 0 _ rfl, by rw [← add_field _ _ 1 (by omega)]; exact hc 1 _ rfl⟩
/-- A new block, its own colour. -/
theorem blk_new1 (c : Nat → Nat) (i : Nat) {o : Obj} {g : Nat} (hg : W.heap.size ≤ g) (hX : W1.heap[g]? = some o) (hb : Below W.heap.size W W1) (hs : w0.heap.size ≤ W.heap.size) : ∃ c', blk.M W1 w0.heap.size (fun k => c' k = i) o (.pointer (some ⟨g, 0, none⟩)) ∧ Turned c c' i w0 W W1 :=
  turned_new (s := blk) ⟨g, rfl, hg, hg, (Array.getElem?_eq_some_iff.1 hX).1, hX⟩ hb hs (fun ⟨g2, e1, e2, e3, e4, e5⟩ => ⟨g2, e1, e2, Nat.le_trans hs e3, e4, e5⟩)
theorem blk_at {o : Obj} {g : Nat} (h : blk.M W w0.heap.size (fun k => c k = i) o (.pointer (some ⟨g, 0, none⟩))) : W.heap[g]? = some o := by
  obtain ⟨g2, e1, _, _, _, e5⟩ := h
  injection e1 with e1
  injection e1 with e1
  injection e1 with e1
  subst e1
  exact e5
end
end Go.Proofs.Ytkpjijbkiambiaa.Heap
