/- A map from numbers to numbers as a state, by colours (no law is stated here; each says its conditions). -/
import Derived.Test.YtmjmfkbdnhdafaaRobP
import Derived.Test.YtmjmfkbdnhdafaaReg
import Derived.Maps.OwnSet
import Derived.Maps.OwnOps
import Derived.Maps.Views
namespace Go.Proofs.Ytmjmfkbdnhdafaa.Robin
open Go.RowKit Go.Proofs.YtmjmfkbdnhdafaaW.PrintWords Go.Proofs.YtmjmfkbdnhdafaaW.PrintLast Go.Proofs.YtmjmfkbdnhdafaaW.PrintMore Go.Proofs.Ytmjmfkbdnhdafaa.St Go.Proofs.Ytmjmfkbdnhdafaa.Q Go.Proofs.Ytmjmfkbdnhdafaa.Fifo
open Go.Maps (Keyed)
set_option linter.unusedVariables false
set_option linter.unusedSimpArgs false

theorem law : Keyed Try.prog 3 := Go.Maps.int_keyed Try.underlying3
theorem zero64 (w : World) : (zeroValue 2).run Try.prog w = .ok (.int .i64 0) w := by kernel_rfl
def kl (a : Int) : Lit := .int .i64 a
theorem kl_key (a : Int) : WideAt.IsKeyLit (kl a) := trivial
theorem kl_ne {a b : Int} (h : a ≠ b) : kl a ≠ kl b := fun e => h (by injection e)
def Tells (D : DataW Unit) (f : Int → Int) : Prop := ∀ a : Int, D.atKey (kl a) (.lit (.int .i64 0)) = .lit (.int .i64 (f a))
theorem tells_empty : Tells (.map []) (fun _ => 0) := fun a => rfl
theorem Tells.put {D : DataW Unit} {f : Int → Int} (h : Tells D f) (hm : Go.Maps.IsMap D) (a i : Int) : Tells (D.put (kl a) (.lit (.int .i64 i))) (fun b => if b = a then i else f b) := by
  intro b
  show _ = DataW.lit (.int .i64 (if b = a then i else f b))
  by_cases e : b = a
  · subst e
    rw [if_pos rfl]
    exact Go.Maps.atKey_put_same hm (kl_key b) _ _
  · rw [if_neg e, Go.Maps.atKey_put_other (kl_ne e)]
    exact h b
/-- Its block, of at most so many keys. -/
def cmap : St ((Int → Int) × Nat) where
  M := fun w b ok x v => ∃ (bm : Nat) (D : DataW Unit), v = .map (some bm) ∧ (ok bm ∧ b ≤ bm ∧ bm < w.heap.size) ∧ w.ownsMap Try.prog 3 (plainElem Try.prog 2) bm x.2 D ∧ Tells D x.1
  mono := fun h ⟨bm, D, e, ⟨h1, h2⟩, h3⟩ => ⟨bm, D, e, ⟨h _ h1, h2⟩, h3⟩
  move := fun h ⟨bm, D, e, ⟨h1, h2, h3⟩, ⟨es, clock, k1, k2⟩, h5⟩ => ⟨bm, D, e, ⟨h1, h2, size_same (h bm h1) h3⟩, ⟨es, clock, (h bm h1).trans k1, k2⟩, h5⟩
  bound := fun ⟨bm, D, e, ⟨h1, h2, h3⟩, h4⟩ => ⟨bm, D, e, ⟨⟨h1, h2, h3⟩, h2, h3⟩, h4⟩
section
variable {w0 W W1 : World} {c : Nat → Nat} {i bm n : Nat} {f : Int → Int}
theorem cmap_own (h : cmap.M W w0.heap.size (fun k => c k = i) (f, n) (.map (some bm))) : ∃ D : DataW Unit, W.ownsMap Try.prog 3 (plainElem Try.prog 2) bm n D ∧ Tells D f := by
  obtain ⟨b2, D, e, _, h3, h4⟩ := h
  injection e with e
  injection e with e
  subst e
  exact ⟨D, h3, h4⟩
theorem cmap_new (c : Nat → Nat) (i : Nat) (hs : w0.heap.size ≤ W.heap.size) : ∃ c', cmap.M (W.alloc (.map #[] 0)) w0.heap.size (fun k => c' k = i) (fun _ => 0, 0) (.map (some W.heap.size)) ∧ Turned c c' i w0 W (W.alloc (.map #[] 0)) :=
  turned_new (s := cmap) ⟨W.heap.size, .map [], rfl, ⟨Nat.le_refl _, Nat.le_refl _, by rw [show (W.alloc (.map #[] 0)).heap.size = W.heap.size + 1 from Array.size_push _]; exact Nat.lt_succ_self _⟩, World.ownsMap_made W _ _ _, tells_empty⟩ (below_alloc (Below.refl _ _) (.map #[] 0)) hs
    (fun ⟨b2, D, e, ⟨h1, h2, h3⟩, h4⟩ => ⟨b2, D, e, ⟨h1, Nat.le_trans hs h2, h3⟩, h4⟩)
theorem cmap_put {D : DataW Unit} {a z : Int} {n1 : Nat} (h : cmap.M W w0.heap.size (fun k => c k = i) (f, n) (.map (some bm))) (ho : W.ownsMap Try.prog 3 (plainElem Try.prog 2) bm n D) (ht : Tells D f)
    (h1 : W1.ownsMap Try.prog 3 (plainElem Try.prog 2) bm n1 (D.put (kl a) (.lit (.int .i64 z)))) (hG : W.grownBy W1 (some bm)) (hs : w0.heap.size ≤ W.heap.size) :
    ∃ c', cmap.M W1 w0.heap.size (fun k => c' k = i) (fun b => if b = a then z else f b, n1) (.map (some bm)) ∧ Turned c c' i w0 W W1 := by
  obtain ⟨b2, D2, e, ⟨h2, h3, h4⟩, _⟩ := St.mine (s := cmap) h
  injection e with e
  injection e with e
  subst e
  have hl : bm < W1.heap.size := by
    obtain ⟨es, clock, k1, _⟩ := h1
    exact (Array.getElem?_eq_some_iff.1 k1).1
  exact turned (s := cmap) ⟨bm, _, rfl, ⟨Or.inl h2, h3, hl⟩, h1, ht.put ho.isMap a z⟩ ((Wrote.refl W _).grown hG (fun k hk => by cases hk; exact Or.inl h2)) hs
end
/-- A block that holds something. -/
def blk : St Obj where
  M := fun w b ok o v => ∃ g : Nat, v = .pointer (some ⟨g, 0, none⟩) ∧ ok g ∧ b ≤ g ∧ g < w.heap.size ∧ w.heap[g]? = some o
  mono := fun h ⟨g, e1, e2, e3, e4, e5⟩ => ⟨g, e1, h g e2, e3, e4, e5⟩
  move := fun h ⟨g, e1, e2, e3, e4, e5⟩ => ⟨g, e1, e2, e3, size_same (h g e2) e4, (h g e2).trans e5⟩
  bound := fun ⟨g, e1, e2, e3, e4, e5⟩ => ⟨g, e1, ⟨e2, e3, e4⟩, e3, e4, e5⟩
theorem blk_new1 {w0 W W1 : World} (c : Nat → Nat) (i : Nat) {o : Obj} {g : Nat} (hg : W.heap.size ≤ g) (hX : W1.heap[g]? = some o) (hb : Below W.heap.size W W1) (hs : w0.heap.size ≤ W.heap.size) : ∃ c', blk.M W1 w0.heap.size (fun k => c' k = i) o (.pointer (some ⟨g, 0, none⟩)) ∧ Turned c c' i w0 W W1 :=
  turned_new (s := blk) ⟨g, rfl, hg, hg, (Array.getElem?_eq_some_iff.1 hX).1, hX⟩ hb hs (fun ⟨g2, e1, e2, e3, e4, e5⟩ => ⟨g2, e1, e2, Nat.le_trans hs e3, e4, e5⟩)
theorem blk_at {w0 W : World} {c : Nat → Nat} {i : Nat} {o : Obj} {g : Nat} (h : blk.M W w0.heap.size (fun k => c k = i) o (.pointer (some ⟨g, 0, none⟩))) : W.heap[g]? = some o := by
  obtain ⟨g2, e1, _, _, _, e5⟩ := h
  injection e1 with e1
  injection e1 with e1
  injection e1 with e1
  subst e1
  exact e5
/-- A copy that is told by another row. -/
theorem crow_of_row {w : World} {b : Nat} {ok : Nat → Prop} {xs : List Int} {v : Value} (h : (row 3 (Kd.int .i64)).M w b ok xs v) : (crow .i64).M w b ok xs v := crow_of_R h
end Go.Proofs.Ytmjmfkbdnhdafaa.Robin
