/- The heap's state: what its block, its row of items and its map of places hold (no law is stated here; no condition). -/
import Derived.Test.YtdmoembbgcoeaaaProg
import Derived.Test.YtdmoembbgcoeaaaSt
import Derived.Maps.OwnSet
import Derived.Maps.OwnOps
import Derived.Maps.Views
namespace Go.Proofs.Ytdmoembbgcoeaaa.Heap
open Go.RowKit Go.Proofs.YtdmoembbgcoeaaaW.PrintWords Go.Proofs.YtdmoembbgcoeaaaW.PrintLast Go.Proofs.YtdmoembbgcoeaaaW.PrintMore Go.Proofs.Ytdmoembbgcoeaaa.St
open Go.Maps (Keyed)
set_option linter.unusedVariables false
set_option linter.unusedSimpArgs false

/-- An item: its id, its key. -/
def KI : Kd (Int × Int) := Kd.pair (Kd.int .i64) (Kd.int .i64)
def cellsOf (x : Int × Int) : List Value := [.int .i64 x.1, .int .i64 x.2]
section
variable {W : World} {base g n cap : Nat} {ok : Nat → Prop} {xs : List (Int × Int)}
theorem item_get (h : KI.R 62 W base ok (.slice (some ⟨g, 0, none⟩) n cap) xs) {j : Nat} (hj : j < n) :
    (W.cell? ⟨g, j * 2, none⟩ = some (.int .i64 (xs.getD j (0, 0)).1) ∧ W.cell? ⟨g, j * 2 + 1, none⟩ = some (.int .i64 (xs.getD j (0, 0)).2)) ∧ W.frozen? ⟨g, j * 2, none⟩ = false ∧ W.frozen? ⟨g, j * 2 + 1, none⟩ = false := by
  obtain ⟨c, _, hM, hcell, hfr⟩ := Kd.R_elem h (0, 0) (j : Int) (by omega) (by omega)
  rw [Int.toNat_natCast] at hM hcell hfr
  obtain ⟨_, _, rfl, rfl, rfl⟩ := hM
  exact ⟨⟨hcell 0 _ rfl, hcell 1 _ rfl⟩, hfr 0, hfr 1⟩
theorem item_set (h : KI.R 62 W base ok (.slice (some ⟨g, 0, none⟩) n cap) xs) {j f : Nat} (hj : j < n) (hf : f < 2) (u : Value) (x' : Int × Int) (hx : cellsOf x' = (cellsOf (xs.getD j (0, 0))).set f u) :
    KI.R 62 (W.setCell ⟨g, j * 2 + f, none⟩ u) base ok (.slice (some ⟨g, 0, none⟩) n cap) (xs.set j x') ∧ W.grownBy (W.setCell ⟨g, j * 2 + f, none⟩ u) (some g) := by
  obtain ⟨c, hcl, hM, hcell, hfr⟩ := Kd.R_elem h (0, 0) (j : Int) (by omega) (by omega)
  obtain ⟨_, _, rfl, rfl, rfl⟩ := hM
  have hM2 : KI.M W base (fun _ => False) x' ((cellsOf (xs.getD (j : Int).toNat (0, 0))).take f ++ [u] ++ (cellsOf (xs.getD (j : Int).toNat (0, 0))).drop (f + 1)) := by
    rw [Int.toNat_natCast]
    have e : (cellsOf (xs.getD j (0, 0))).take f ++ [u] ++ (cellsOf (xs.getD j (0, 0))).drop (f + 1) = cellsOf x' := by
      rw [hx]
      have h3 : f = 0 ∨ f = 1 := by omega
      rcases h3 with rfl | rfl <;> rfl
    rw [e]
    exact ⟨[.int .i64 x'.1], [.int .i64 x'.2], rfl, rfl, rfl⟩
  have h2 := Kd.R_seg h (j : Int) (by omega) (by omega) hcl hcell (seg := [u]) (j := f) (by show f + 1 ≤ 2; omega) hM2 (fun _ hk => hk.elim)
  rw [Int.toNat_natCast] at h2
  exact h2
theorem flat_item : ∀ (w : World) (b : Nat) (x : Int × Int) (cs : List Value), KI.K w x cs → KI.M w b (fun _ => False) x cs := by
  rintro w b x cs ⟨c1, c2, rfl, h1, h2⟩
  exact ⟨c1, c2, rfl, h1, h2⟩
end

/-! The map of places: what it tells of each id -/
theorem law : Keyed Try.prog 3 := Go.Maps.int_keyed Try.underlying3
theorem zeroE (w : World) : (zeroValue 3).run Try.prog w = .ok (.int .i64 0) w := by kernel_rfl
def kl (a : Int) : Lit := .int .i64 a
theorem kl_key (a : Int) : WideAt.IsKeyLit (kl a) := trivial
theorem kl_ne {a b : Int} (h : a ≠ b) : kl a ≠ kl b := fun e => h (by injection e)
def Sees (D : DataW Unit) (f : Int → Option Int) : Prop := ∀ a : Int, Go.Maps.has D (kl a) = (f a).isSome ∧ ∀ i, f a = some i → ∀ z, D.atKey (kl a) z = .lit (.int .i64 i)
/-- A place told anew, one struck. -/
def upd (f : Int → Option Int) (a i : Int) : Int → Option Int := fun b => if b = a then some i else f b
def cut (f : Int → Option Int) (a : Int) : Int → Option Int := fun b => if b = a then none else f b
theorem upd_same (f : Int → Option Int) (a i : Int) : upd f a i a = some i := if_pos rfl
theorem upd_other {f : Int → Option Int} {a b i : Int} (h : b ≠ a) : upd f a i b = f b := if_neg h
theorem cut_same (f : Int → Option Int) (a : Int) : cut f a a = none := if_pos rfl
theorem cut_other {f : Int → Option Int} {a b : Int} (h : b ≠ a) : cut f a b = f b := if_neg h
theorem Sees.put {D : DataW Unit} {f : Int → Option Int} (h : Sees D f) (hm : Go.Maps.IsMap D) (a i : Int) : Sees (D.put (kl a) (.lit (.int .i64 i))) (upd f a i) := by
  intro b
  by_cases e : b = a
  · subst e
    refine ⟨by rw [Go.Maps.has_put_same hm (kl_key b), upd_same]; rfl, fun j hj z => ?_⟩
    rw [upd_same] at hj
    cases hj
    exact Go.Maps.atKey_put_same hm (kl_key b) _ z
  · refine ⟨by rw [Go.Maps.has_put_other (kl_ne e), upd_other e]; exact (h b).1, fun j hj z => ?_⟩
    rw [upd_other e] at hj
    rw [Go.Maps.atKey_put_other (kl_ne e)]
    exact (h b).2 j hj z
theorem Sees.del {D : DataW Unit} {f : Int → Option Int} (h : Sees D f) (a : Int) : Sees (D.del (kl a)) (cut f a) := by
  intro b
  by_cases e : b = a
  · subst e
    refine ⟨by rw [Go.Maps.has_del_same, cut_same]; rfl, fun j hj z => ?_⟩
    rw [cut_same] at hj
    cases hj
  · refine ⟨by rw [Go.Maps.has_del_other (kl_ne e), cut_other e]; exact (h b).1, fun j hj z => ?_⟩
    rw [cut_other e] at hj
    rw [Go.Maps.atKey_del_other (kl_ne e)]
    exact (h b).2 j hj z
theorem sees_empty : Sees (.map []) (fun _ => none) := fun a => ⟨rfl, fun i hi => by cases hi⟩
/-- Block bm is a map of sz places, which are f's. -/
def MapIs (w : World) (bm : Nat) (f : Int → Option Int) (sz : Nat) : Prop := ∃ D : DataW Unit, w.ownsMap Try.prog 3 (plainElem Try.prog 3) bm sz D ∧ Sees D f ∧ Go.Maps.size D = sz
theorem ownsMap_tight {w : World} {P : Program} {k : TypeId} {R : Value → Option (DataW Unit × List MemPlace)} {b n : Nat} {D : DataW Unit} (h : w.ownsMap P k R b n D) : w.ownsMap P k R b (Go.Maps.size D) D := by
  obtain ⟨es, clock, h1, h2, h3, rfl⟩ := h
  exact ⟨es, clock, h1, h2, by rw [Go.Maps.size_eq, length_read]; exact Nat.le_refl _, rfl⟩
theorem MapIs.lt {w : World} {bm sz : Nat} {f : Int → Option Int} (h : MapIs w bm f sz) : bm < w.heap.size := by
  obtain ⟨D, ⟨es, clock, h1, _⟩, _⟩ := h
  exact (Array.getElem?_eq_some_iff.1 h1).1
theorem MapIs.move {w w1 : World} {bm sz : Nat} {f : Int → Option Int} (h : MapIs w bm f sz) (e : w1.heap[bm]? = w.heap[bm]?) : MapIs w1 bm f sz := by
  obtain ⟨D, ⟨es, clock, h1, h2, h3, h4⟩, k1, k2⟩ := h
  exact ⟨D, ⟨es, clock, e.trans h1, h2, h3, h4⟩, k1, k2⟩
/-- It is no row. -/
theorem MapIs.ne {w : World} {bm sz g : Nat} {f : Int → Option Int} {cs : Array Value} {t : TypeId} (h : MapIs w bm f sz) (hg : w.heap[g]? = some (.cells cs t (0, 0))) : bm ≠ g := by
  rintro rfl
  obtain ⟨D, ⟨es, clock, h1, _⟩, _⟩ := h
  rw [hg] at h1
  cases h1
theorem size_stored {D : DataW Unit} {f : Int → Option Int} {sz n : Nat} {a i : Int} {w : World} {bm : Nat} (ho : w.ownsMap Try.prog 3 (plainElem Try.prog 3) bm n D) (hs : Sees D f) (he : Go.Maps.size D = sz) :
    Go.Maps.size (D.put (kl a) (.lit (.int .i64 i))) = if (f a).isSome then sz else sz + 1 := by
  rw [Go.Maps.size_put (ho.tidy law), (hs a).1, he]
theorem MapIs.stored {w w1 : World} {bm sz n : Nat} {f : Int → Option Int} {D : DataW Unit} {a i : Int} (ho : w.ownsMap Try.prog 3 (plainElem Try.prog 3) bm sz D) (hs : Sees D f) (he : Go.Maps.size D = sz) (h1 : w1.ownsMap Try.prog 3 (plainElem Try.prog 3) bm n (D.put (kl a) (.lit (.int .i64 i)))) :
    MapIs w1 bm (upd f a i) (if (f a).isSome then sz else sz + 1) :=
  ⟨_, by have := ownsMap_tight h1; rwa [size_stored ho hs he] at this, hs.put ho.isMap a i, size_stored ho hs he⟩
theorem MapIs.struck {w w1 : World} {bm sz n : Nat} {f : Int → Option Int} {D : DataW Unit} {a : Int} (ho : w.ownsMap Try.prog 3 (plainElem Try.prog 3) bm sz D) (hs : Sees D f) (he : Go.Maps.size D = sz) (hf : (f a).isSome = true) (h1 : w1.ownsMap Try.prog 3 (plainElem Try.prog 3) bm n (D.del (kl a))) :
    MapIs w1 bm (cut f a) (sz - 1) := by
  have h2 := Go.Maps.size_del (ho.tidy law) (k := kl a)
  rw [(hs a).1, hf, he] at h2
  simp only [if_true] at h2
  have h3 : Go.Maps.size (D.del (kl a)) = sz - 1 := by omega
  exact ⟨_, by have := ownsMap_tight h1; rwa [h3] at this, hs.del a, h3⟩

/-- Room for what is new. -/
def more (w : World) (ok : Nat → Prop) : Nat → Prop := fun k => ok k ∨ w.heap.size ≤ k
/-- What a heap holds. -/
structure H where
  room : Int
  great : Bool
  l : List (Int × Int)
  f : Int → Option Int
  sz : Nat
/-- What a heap's blocks hold. -/
def At (w : World) (b : Nat) (ok : Nat → Prop) (x : H) (g : Nat) (sv : Value) (bm : Nat) : Prop :=
  (ok g ∧ b ≤ g ∧ w.heap[g]? = some (.cells #[.int .i64 x.room, .bool x.great, sv, .map (some bm)] 74 (0, 0))) ∧ (ok bm ∧ b ≤ bm ∧ MapIs w bm x.f x.sz) ∧
    KI.R 62 w b (fun k => ok k ∧ k ≠ g ∧ k ≠ bm) sv x.l ∧ (∀ y ∈ x.l, (Lit.int .i64 y.1).wf = true) ∧ x.l.length ≤ 1024 ∧ x.sz ≤ 2000
def heap : St H where
  M := fun w b ok x v => ∃ g sv bm, v = .pointer (some ⟨g, 0, none⟩) ∧ At w b ok x g sv bm
  mono := fun h ⟨g, sv, bm, e, ⟨h1, h2, h3⟩, ⟨m1, m2, m3⟩, h5, h6⟩ => ⟨g, sv, bm, e, ⟨h _ h1, h2, h3⟩, ⟨h _ m1, m2, m3⟩, Kd.R_mono h5 (fun k hk => ⟨h k hk.1, hk.2⟩), h6⟩
  move := fun h ⟨g, sv, bm, e, ⟨h1, h2, h3⟩, ⟨m1, m2, m3⟩, h5, h6⟩ => ⟨g, sv, bm, e, ⟨h1, h2, (h g h1).trans h3⟩, ⟨m1, m2, m3.move (h bm m1)⟩, Kd.R_move h5 (fun k hk => h k hk.1), h6⟩
  bound := fun ⟨g, sv, bm, e, ⟨h1, h2, h3⟩, ⟨m1, m2, m3⟩, h5, h6⟩ => ⟨g, sv, bm, e, ⟨⟨h1, h2, blk_lt h3⟩, h2, h3⟩, ⟨⟨m1, m2, m3.lt⟩, m2, m3⟩, Kd.R_mono (Kd.R_bound h5) (fun k hk => ⟨⟨hk.1.1, hk.2.1, hk.2.2.1⟩, hk.1.2⟩), h6⟩
section
variable {w w1 : World} {b : Nat} {ok : Nat → Prop} {x : H} {v sv : Value} {g bm : Nat}
theorem At.c0 (h : At w b ok x g sv bm) : w.cell? ⟨g, 0, none⟩ = some (.int .i64 x.room) := blk_cell h.1.2.2 0
theorem At.c1 (h : At w b ok x g sv bm) : w.cell? ⟨g, 1, none⟩ = some (.bool x.great) := blk_cell h.1.2.2 1
theorem At.c2 (h : At w b ok x g sv bm) : w.cell? ⟨g, 2, none⟩ = some sv := blk_cell h.1.2.2 2
theorem At.c3 (h : At w b ok x g sv bm) : w.cell? ⟨g, 3, none⟩ = some (.map (some bm)) := blk_cell h.1.2.2 3
theorem At.f2 (h : At w b ok x g sv bm) : w.frozen? ⟨g, 2, none⟩ = false := blk_frozen h.1.2.2 2
theorem At.row (h : At w b ok x g sv bm) : KI.R 62 w b (fun k => ok k ∧ k ≠ g ∧ k ≠ bm) sv x.l := h.2.2.1
theorem At.map (h : At w b ok x g sv bm) : MapIs w bm x.f x.sz := h.2.1.2.2
theorem At.glt (h : At w b ok x g sv bm) : g < w.heap.size := blk_lt h.1.2.2
theorem At.ne (h : At w b ok x g sv bm) : bm ≠ g := h.map.ne h.1.2.2
theorem At.len (h : At w b ok x g sv bm) : x.l.length ≤ 1024 := h.2.2.2.2.1
theorem At.wf (h : At w b ok x g sv bm) : ∀ y ∈ x.l, (Lit.int .i64 y.1).wf = true := h.2.2.2.1
theorem At.toM (h : At w b ok x g sv bm) : heap.M w b ok x (.pointer (some ⟨g, 0, none⟩)) := ⟨g, sv, bm, rfl, h⟩
/-- The same in another world, where these blocks are as they were. -/
theorem At.move (h : At w b ok x g sv bm) (e : ∀ k, ok k → w1.heap[k]? = w.heap[k]?) : At w1 b ok x g sv bm :=
  ⟨⟨h.1.1, h.1.2.1, (e g h.1.1).trans h.1.2.2⟩, ⟨h.2.1.1, h.2.1.2.1, h.2.1.2.2.move (e bm h.2.1.1)⟩, Kd.R_move h.2.2.1 (fun k hk => e k hk.1), h.2.2.2⟩
theorem At.mono {ok1 : Nat → Prop} (h : At w b ok x g sv bm) (e : ∀ k, ok k → ok1 k) : At w b ok1 x g sv bm :=
  ⟨⟨e _ h.1.1, h.1.2⟩, ⟨e _ h.2.1.1, h.2.1.2⟩, Kd.R_mono h.2.2.1 (fun k hk => ⟨e k hk.1, hk.2⟩), h.2.2.2⟩
theorem At.below (h : At w b ok x g sv bm) (hb : Below w.heap.size w w1) : At w1 b ok x g sv bm := by
  obtain ⟨h1, ⟨m1, m2, m3⟩, h5, h6⟩ := h
  exact ⟨⟨h1.1, h1.2.1, (hb.block g (blk_lt h1.2.2)).trans h1.2.2⟩, ⟨m1, m2, m3.move (hb.block bm m3.lt)⟩, Kd.R_below h5 hb, h6⟩
theorem At.form (h : At w b ok x g sv bm) (hl : 0 < x.l.length) : ∃ g2 c, sv = .slice (some ⟨g2, 0, none⟩) x.l.length c ∧ ok g2 ∧ g2 ≠ g ∧ g2 ≠ bm := by
  obtain ⟨g2, c, e, _⟩ := Kd.R_form h.row hl
  subst e
  have := h.row.1 g2 rfl
  exact ⟨g2, c, rfl, this.1, this.2.1, this.2.2⟩
/-- An item's cell is written. -/
theorem At.item {g2 c j f : Nat} (h : At w b ok x g (.slice (some ⟨g2, 0, none⟩) x.l.length c) bm) (hj : j < x.l.length) (hf : f < 2) (u : Value) (y : Int × Int) (hy : cellsOf y = (cellsOf (x.l.getD j (0, 0))).set f u) (hw : (Lit.int .i64 y.1).wf = true) :
    At (w.setCell ⟨g2, j * 2 + f, none⟩ u) b ok { x with l := x.l.set j y } g (.slice (some ⟨g2, 0, none⟩) (x.l.set j y).length c) bm := by
  have h2 := item_set h.row hj hf u y hy
  have hne := (h.row.1 g2 rfl).2
  have hb := (Below.heap_setCell w ⟨g2, j * 2 + f, none⟩ u g (fun e => hne.1 e.symm)).trans h.1.2.2
  have hm := Below.heap_setCell w ⟨g2, j * 2 + f, none⟩ u bm (fun e => hne.2 e.symm)
  refine ⟨⟨h.1.1, h.1.2.1, by rw [List.length_set]; exact hb⟩, ⟨h.2.1.1, h.2.1.2.1, h.map.move hm⟩, by rw [List.length_set]; exact h2.1, fun z hz => ?_, by rw [List.length_set]; exact h.len, h.2.2.2.2.2⟩
  rcases List.mem_or_eq_of_mem_set hz with hz | rfl
  · exact h.wf z hz
  · exact hw
/-- The map is written. -/
theorem At.mapped {f' : Int → Option Int} {sz' : Nat} (h : At w b ok x g sv bm) (hg : w.grownBy w1 (some bm)) (hm : MapIs w1 bm f' sz') (hs : sz' ≤ 2000) : At w1 b ok { x with f := f', sz := sz' } g sv bm := by
  refine ⟨⟨h.1.1, h.1.2.1, (hg.block g h.glt (fun e => h.ne (by injection e with e; exact e.symm))).trans h.1.2.2⟩, ⟨h.2.1.1, h.2.1.2.1, hm⟩, Kd.R_step h.row (fun k hk hl => hg.block k hl (fun e => hk.2.2 (by injection e))), h.wf, h.len, hs⟩
/-- A whole item is written. -/
theorem At.item2 {g2 c j : Nat} (h : At w b ok x g (.slice (some ⟨g2, 0, none⟩) x.l.length c) bm) (hj : j < x.l.length) (y : Int × Int) (hw : (Lit.int .i64 y.1).wf = true) :
    At ((w.setCell ⟨g2, j * 2, none⟩ (.int .i64 y.1)).setCell ⟨g2, j * 2 + 1, none⟩ (.int .i64 y.2)) b ok { x with l := x.l.set j y } g (.slice (some ⟨g2, 0, none⟩) x.l.length c) bm := by
  have h1 := h.item hj (f := 0) (by omega) (.int .i64 y.1) (y.1, (x.l.getD j (0, 0)).2) rfl hw
  have hj2 : j < (x.l.set j (y.1, (x.l.getD j (0, 0)).2)).length := by rw [List.length_set]; exact hj
  have h2 := h1.item (x := { x with l := x.l.set j (y.1, (x.l.getD j (0, 0)).2) }) hj2 (f := 1) (by omega) (.int .i64 y.2) y (by
    show cellsOf y = (cellsOf ((x.l.set j (y.1, (x.l.getD j (0, 0)).2)).getD j (0, 0))).set 1 (.int .i64 y.2)
    rw [List.getD_eq_getElem?_getD, List.getElem?_set_self hj]
    rfl) hw
  simp only [List.set_set] at h2
  rw [show (x.l.set j y).length = x.l.length from List.length_set] at h2
  exact h2
end
end Go.Proofs.Ytdmoembbgcoeaaa.Heap
