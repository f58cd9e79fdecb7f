/- Several texts in one (no law is stated here; each says its conditions). -/
import Derived.Test.YtjeflmdfnfgacaaProg
import Derived.Test.YtjeflmdfnfgacaaSt
import Derived.Maps.OwnSet
import Derived.Maps.OwnOps
import Derived.Maps.Views
import Derived.Test.YtjeflmdfnfgacaaQx12
import Derived.Test.YtjeflmdfnfgacaaQx14
import Derived.Test.YtjeflmdfnfgacaaQx10
import Derived.StillTailTactics
import Derived.Deep.DeepCutAuto
/- The heap's state: what its block, its row of items and its map of places hold (no law is stated here; no condition). -/
namespace Go.Proofs.Ytjeflmdfnfgacaa.Heap
open Go.RowKit Go.Proofs.YtjeflmdfnfgacaaW.PrintWords Go.Proofs.YtjeflmdfnfgacaaW.PrintLast Go.Proofs.YtjeflmdfnfgacaaW.PrintMore Go.Proofs.Ytjeflmdfnfgacaa.St
open Go.Maps (Keyed)
set_option linter.unusedVariables false
set_option linter.unusedSimpArgs false

/-- An item: its id, its key. -/
def KI : Kd (Int × Int) := Kd.pair (Kd.int .i64) (Kd.int .i64)
def cellsOf (x : Int × Int) : List Value := [.int .i64 x.1, .int .i64 x.2]
section
variable {W : World} {base g n cap : Nat} {ok : Nat → Prop} {xs : List (Int × Int)}
theorem item_get (h : KI.R 61 W base ok (.slice (some ⟨g, 0, none⟩) n cap) xs) {j : Nat} (hj : j < n) :
    (W.cell? ⟨g, j * 2, none⟩ = some (.int .i64 (xs.getD j (0, 0)).1) ∧ W.cell? ⟨g, j * 2 + 1, none⟩ = some (.int .i64 (xs.getD j (0, 0)).2)) ∧ W.frozen? ⟨g, j * 2, none⟩ = false ∧ W.frozen? ⟨g, j * 2 + 1, none⟩ = false := by
  obtain ⟨c, _, hM, hcell, hfr⟩ := Kd.R_elem h (0, 0) (j : Int) (by omega) (by omega)
  rw [Int.toNat_natCast] at hM hcell hfr
  obtain ⟨_, _, rfl, rfl, rfl⟩ := hM
  exact ⟨⟨hcell 0 _ rfl, hcell 1 _ rfl⟩, hfr 0, hfr 1⟩
theorem item_set (h : KI.R 61 W base ok (.slice (some ⟨g, 0, none⟩) n cap) xs) {j f : Nat} (hj : j < n) (hf : f < 2) (u : Value) (x' : Int × Int) (hx : cellsOf x' = (cellsOf (xs.getD j (0, 0))).set f u) :
    KI.R 61 (W.setCell ⟨g, j * 2 + f, none⟩ u) base ok (.slice (some ⟨g, 0, none⟩) n cap) (xs.set j x') ∧ W.grownBy (W.setCell ⟨g, j * 2 + f, none⟩ u) (some g) := by
  obtain ⟨c, hcl, hM, hcell, hfr⟩ := Kd.R_elem h (0, 0) (j : Int) (by omega) (by omega)
  obtain ⟨_, _, rfl, rfl, rfl⟩ := hM
  have hM2 : KI.M W base (fun _ => False) x' ((cellsOf (xs.getD (j : Int).toNat (0, 0))).take f ++ [u] ++ (cellsOf (xs.getD (j : Int).toNat (0, 0))).drop (f + 1)) := by
    rw [Int.toNat_natCast]
    have e : (cellsOf (xs.getD j (0, 0))).take f ++ [u] ++ (cellsOf (xs.getD j (0, 0))).drop (f + 1) = cellsOf x' := by
      rw [hx]
      have h3 : f = 0 ∨ f = 1 := by omega
      rcases h3 with rfl | rfl <;> rfl
    rw [e]
    exact ⟨[.int .i64 x'.1], [.int .i64 x'.2], rfl, rfl, rfl⟩
  have h2 := Kd.R_seg h (j : Int) (by omega) (by omega) hcl hcell (seg := [u]) (j := f) (by show f + 1 ≤ 2; omega) hM2 (fun _ hk => hk.elim)
  rw [Int.toNat_natCast] at h2
  exact h2
theorem flat_item : ∀ (w : World) (b : Nat) (x : Int × Int) (cs : List Value), KI.K w x cs → KI.M w b (fun _ => False) x cs := by
  rintro w b x cs ⟨c1, c2, rfl, h1, h2⟩
  exact ⟨c1, c2, rfl, h1, h2⟩
end

/-! The map of places: what it tells of each id -/
theorem law : Keyed Try.prog 3 := Go.Maps.int_keyed Try.underlying3
theorem zeroE (w : World) : (zeroValue 3).run Try.prog w = .ok (.int .i64 0) w := by kernel_rfl
def kl (a : Int) : Lit := .int .i64 a
theorem kl_key (a : Int) : WideAt.IsKeyLit (kl a) := trivial
theorem kl_ne {a b : Int} (h : a ≠ b) : kl a ≠ kl b := fun e => h (by injection e)
def Sees (D : DataW Unit) (f : Int → Option Int) : Prop := ∀ a : Int, Go.Maps.has D (kl a) = (f a).isSome ∧ ∀ i, f a = some i → ∀ z, D.atKey (kl a) z = .lit (.int .i64 i)
/-- A place told anew, one struck. -/
def upd (f : Int → Option Int) (a i : Int) : Int → Option Int := fun b => if b = a then some i else f b
def cut (f : Int → Option Int) (a : Int) : Int → Option Int := fun b => if b = a then none else f b
theorem upd_same (f : Int → Option Int) (a i : Int) : upd f a i a = some i := if_pos rfl
theorem upd_other {f : Int → Option Int} {a b i : Int} (h : b ≠ a) : upd f a i b = f b := if_neg h
theorem cut_same (f : Int → Option Int) (a : Int) : cut f a a = none := if_pos rfl
theorem cut_other {f : Int → Option Int} {a b : Int} (h : b ≠ a) : cut f a b = f b := if_neg h
theorem Sees.put {D : DataW Unit} {f : Int → Option Int} (h : Sees D f) (hm : Go.Maps.IsMap D) (a i : Int) : Sees (D.put (kl a) (.lit (.int .i64 i))) (upd f a i) := by
  intro b
  by_cases e : b = a
  · subst e
    refine ⟨by rw [Go.Maps.has_put_same hm (kl_key b), upd_same]; rfl, fun j hj z => ?_⟩
    rw [upd_same] at hj
    cases hj
    exact Go.Maps.atKey_put_same hm (kl_key b) _ z
  · refine ⟨by rw [Go.Maps.has_put_other (kl_ne e), upd_other e]; exact (h b).1, fun j hj z => ?_⟩
    rw [upd_other e] at hj
    rw [Go.Maps.atKey_put_other (kl_ne e)]
    exact (h b).2 j hj z
theorem Sees.del {D : DataW Unit} {f : Int → Option Int} (h : Sees D f) (a : Int) : Sees (D.del (kl a)) (cut f a) := by
  intro b
  by_cases e : b = a
  · subst e
    refine ⟨by rw [Go.Maps.has_del_same, cut_same]; rfl, fun j hj z => ?_⟩
    rw [cut_same] at hj
    cases hj
  · refine ⟨by rw [Go.Maps.has_del_other (kl_ne e), cut_other e]; exact (h b).1, fun j hj z => ?_⟩
    rw [cut_other e] at hj
    rw [Go.Maps.atKey_del_other (kl_ne e)]
    exact (h b).2 j hj z
theorem sees_empty : Sees (.map []) (fun _ => none) := fun a => ⟨rfl, fun i hi => by cases hi⟩
/-- Block bm is a map of sz places, which are f's. -/
def MapIs (w : World) (bm : Nat) (f : Int → Option Int) (sz : Nat) : Prop := ∃ D : DataW Unit, w.ownsMap Try.prog 3 (plainElem Try.prog 3) bm sz D ∧ Sees D f ∧ Go.Maps.size D = sz
theorem ownsMap_tight {w : World} {P : Program} {k : TypeId} {R : Value → Option (DataW Unit × List MemPlace)} {b n : Nat} {D : DataW Unit} (h : w.ownsMap P k R b n D) : w.ownsMap P k R b (Go.Maps.size D) D := by
  obtain ⟨es, clock, h1, h2, h3, rfl⟩ := h
  exact ⟨es, clock, h1, h2, by rw [Go.Maps.size_eq, length_read]; exact Nat.le_refl _, rfl⟩
theorem MapIs.lt {w : World} {bm sz : Nat} {f : Int → Option Int} (h : MapIs w bm f sz) : bm < w.heap.size := by
  obtain ⟨D, ⟨es, clock, h1, _⟩, _⟩ := h
  exact (Array.getElem?_eq_some_iff.1 h1).1
theorem MapIs.move {w w1 : World} {bm sz : Nat} {f : Int → Option Int} (h : MapIs w bm f sz) (e : w1.heap[bm]? = w.heap[bm]?) : MapIs w1 bm f sz := by
  obtain ⟨D, ⟨es, clock, h1, h2, h3, h4⟩, k1, k2⟩ := h
  exact ⟨D, ⟨es, clock, e.trans h1, h2, h3, h4⟩, k1, k2⟩
/-- It is no row. -/
theorem MapIs.ne {w : World} {bm sz g : Nat} {f : Int → Option Int} {cs : Array Value} {t : TypeId} (h : MapIs w bm f sz) (hg : w.heap[g]? = some (.cells cs t (0, 0))) : bm ≠ g := by
  rintro rfl
  obtain ⟨D, ⟨es, clock, h1, _⟩, _⟩ := h
  rw [hg] at h1
  cases h1
theorem size_stored {D : DataW Unit} {f : Int → Option Int} {sz n : Nat} {a i : Int} {w : World} {bm : Nat} (ho : w.ownsMap Try.prog 3 (plainElem Try.prog 3) bm n D) (hs : Sees D f) (he : Go.Maps.size D = sz) :
    Go.Maps.size (D.put (kl a) (.lit (.int .i64 i))) = if (f a).isSome then sz else sz + 1 := by
  rw [Go.Maps.size_put (ho.tidy law), (hs a).1, he]
theorem MapIs.stored {w w1 : World} {bm sz n : Nat} {f : Int → Option Int} {D : DataW Unit} {a i : Int} (ho : w.ownsMap Try.prog 3 (plainElem Try.prog 3) bm sz D) (hs : Sees D f) (he : Go.Maps.size D = sz) (h1 : w1.ownsMap Try.prog 3 (plainElem Try.prog 3) bm n (D.put (kl a) (.lit (.int .i64 i)))) :
    MapIs w1 bm (upd f a i) (if (f a).isSome then sz else sz + 1) :=
  ⟨_, by have := ownsMap_tight h1; rwa [size_stored ho hs he] at this, hs.put ho.isMap a i, size_stored ho hs he⟩
theorem MapIs.struck {w w1 : World} {bm sz n : Nat} {f : Int → Option Int} {D : DataW Unit} {a : Int} (ho : w.ownsMap Try.prog 3 (plainElem Try.prog 3) bm sz D) (hs : Sees D f) (he : Go.Maps.size D = sz) (hf : (f a).isSome = true) (h1 : w1.ownsMap Try.prog 3 (plainElem Try.prog 3) bm n (D.del (kl a))) :
    MapIs w1 bm (cut f a) (sz - 1) := by
  have h2 := Go.Maps.size_del (ho.tidy law) (k := kl a)
  rw [(hs a).1, hf, he] at h2
  simp only [if_true] at h2
  have h3 : Go.Maps.size (D.del (kl a)) = sz - 1 := by omega
  exact ⟨_, by have := ownsMap_tight h1; rwa [h3] at this, hs.del a, h3⟩

/-- Room for what is new. -/
def more (w : World) (ok : Nat → Prop) : Nat → Prop := fun k => ok k ∨ w.heap.size ≤ k
/-- What a heap holds. -/
structure H where
  room : Int
  great : Bool
  l : List (Int × Int)
  f : Int → Option Int
  sz : Nat
/-- What a heap's blocks hold. -/
def At (w : World) (b : Nat) (ok : Nat → Prop) (x : H) (g : Nat) (sv : Value) (bm : Nat) : Prop :=
  (ok g ∧ b ≤ g ∧ w.heap[g]? = some (.cells #[.int .i64 x.room, .bool x.great, sv, .map (some bm)] 69 (0, 0))) ∧ (ok bm ∧ b ≤ bm ∧ MapIs w bm x.f x.sz) ∧
    KI.R 61 w b (fun k => ok k ∧ k ≠ g ∧ k ≠ bm) sv x.l ∧ (∀ y ∈ x.l, (Lit.int .i64 y.1).wf = true) ∧ x.l.length ≤ 1024 ∧ x.sz ≤ 2000
def heap : St H where
  M := fun w b ok x v => ∃ g sv bm, v = .pointer (some ⟨g, 0, none⟩) ∧ At w b ok x g sv bm
  mono := fun h ⟨g, sv, bm, e, ⟨h1, h2, h3⟩, ⟨m1, m2, m3⟩, h5, h6⟩ => ⟨g, sv, bm, e, ⟨h _ h1, h2, h3⟩, ⟨h _ m1, m2, m3⟩, Kd.R_mono h5 (fun k hk => ⟨h k hk.1, hk.2⟩), h6⟩
  move := fun h ⟨g, sv, bm, e, ⟨h1, h2, h3⟩, ⟨m1, m2, m3⟩, h5, h6⟩ => ⟨g, sv, bm, e, ⟨h1, h2, (h g h1).trans h3⟩, ⟨m1, m2, m3.move (h bm m1)⟩, Kd.R_move h5 (fun k hk => h k hk.1), h6⟩
  bound := fun ⟨g, sv, bm, e, ⟨h1, h2, h3⟩, ⟨m1, m2, m3⟩, h5, h6⟩ => ⟨g, sv, bm, e, ⟨⟨h1, h2, blk_lt h3⟩, h2, h3⟩, ⟨⟨m1, m2, m3.lt⟩, m2, m3⟩, Kd.R_mono (Kd.R_bound h5) (fun k hk => ⟨⟨hk.1.1, hk.2.1, hk.2.2.1⟩, hk.1.2⟩), h6⟩
section
variable {w w1 : World} {b : Nat} {ok : Nat → Prop} {x : H} {v sv : Value} {g bm : Nat}
theorem At.c0 (h : At w b ok x g sv bm) : w.cell? ⟨g, 0, none⟩ = some (.int .i64 x.room) := blk_cell h.1.2.2 0
theorem At.c1 (h : At w b ok x g sv bm) : w.cell? ⟨g, 1, none⟩ = some (.bool x.great) := blk_cell h.1.2.2 1
theorem At.c2 (h : At w b ok x g sv bm) : w.cell? ⟨g, 2, none⟩ = some sv := blk_cell h.1.2.2 2
theorem At.c3 (h : At w b ok x g sv bm) : w.cell? ⟨g, 3, none⟩ = some (.map (some bm)) := blk_cell h.1.2.2 3
theorem At.f2 (h : At w b ok x g sv bm) : w.frozen? ⟨g, 2, none⟩ = false := blk_frozen h.1.2.2 2
theorem At.row (h : At w b ok x g sv bm) : KI.R 61 w b (fun k => ok k ∧ k ≠ g ∧ k ≠ bm) sv x.l := h.2.2.1
theorem At.map (h : At w b ok x g sv bm) : MapIs w bm x.f x.sz := h.2.1.2.2
theorem At.glt (h : At w b ok x g sv bm) : g < w.heap.size := blk_lt h.1.2.2
theorem At.ne (h : At w b ok x g sv bm) : bm ≠ g := h.map.ne h.1.2.2
theorem At.len (h : At w b ok x g sv bm) : x.l.length ≤ 1024 := h.2.2.2.2.1
theorem At.wf (h : At w b ok x g sv bm) : ∀ y ∈ x.l, (Lit.int .i64 y.1).wf = true := h.2.2.2.1
theorem At.toM (h : At w b ok x g sv bm) : heap.M w b ok x (.pointer (some ⟨g, 0, none⟩)) := ⟨g, sv, bm, rfl, h⟩
/-- The same in another world, where these blocks are as they were. -/
theorem At.move (h : At w b ok x g sv bm) (e : ∀ k, ok k → w1.heap[k]? = w.heap[k]?) : At w1 b ok x g sv bm :=
  ⟨⟨h.1.1, h.1.2.1, (e g h.1.1).trans h.1.2.2⟩, ⟨h.2.1.1, h.2.1.2.1, h.2.1.2.2.move (e bm h.2.1.1)⟩, Kd.R_move h.2.2.1 (fun k hk => e k hk.1), h.2.2.2⟩
theorem At.mono {ok1 : Nat → Prop} (h : At w b ok x g sv bm) (e : ∀ k, ok k → ok1 k) : At w b ok1 x g sv bm :=
  ⟨⟨e _ h.1.1, h.1.2⟩, ⟨e _ h.2.1.1, h.2.1.2⟩, Kd.R_mono h.2.2.1 (fun k hk => ⟨e k hk.1, hk.2⟩), h.2.2.2⟩
theorem At.below (h : At w b ok x g sv bm) (hb : Below w.heap.size w w1) : At w1 b ok x g sv bm := by
  obtain ⟨h1, ⟨m1, m2, m3⟩, h5, h6⟩ := h
  exact ⟨⟨h1.1, h1.2.1, (hb.block g (blk_lt h1.2.2)).trans h1.2.2⟩, ⟨m1, m2, m3.move (hb.block bm m3.lt)⟩, Kd.R_below h5 hb, h6⟩
theorem At.form (h : At w b ok x g sv bm) (hl : 0 < x.l.length) : ∃ g2 c, sv = .slice (some ⟨g2, 0, none⟩) x.l.length c ∧ ok g2 ∧ g2 ≠ g ∧ g2 ≠ bm := by
  obtain ⟨g2, c, e, _⟩ := Kd.R_form h.row hl
  subst e
  have := h.row.1 g2 rfl
  exact ⟨g2, c, rfl, this.1, this.2.1, this.2.2⟩
/-- An item's cell is written. -/
theorem At.item {g2 c j f : Nat} (h : At w b ok x g (.slice (some ⟨g2, 0, none⟩) x.l.length c) bm) (hj : j < x.l.length) (hf : f < 2) (u : Value) (y : Int × Int) (hy : cellsOf y = (cellsOf (x.l.getD j (0, 0))).set f u) (hw : (Lit.int .i64 y.1).wf = true) :
    At (w.setCell ⟨g2, j * 2 + f, none⟩ u) b ok { x with l := x.l.set j y } g (.slice (some ⟨g2, 0, none⟩) (x.l.set j y).length c) bm := by
  have h2 := item_set h.row hj hf u y hy
  have hne := (h.row.1 g2 rfl).2
  have hb := (Below.heap_setCell w ⟨g2, j * 2 + f, none⟩ u g (fun e => hne.1 e.symm)).trans h.1.2.2
  have hm := Below.heap_setCell w ⟨g2, j * 2 + f, none⟩ u bm (fun e => hne.2 e.symm)
  refine ⟨⟨h.1.1, h.1.2.1, by rw [List.length_set]; exact hb⟩, ⟨h.2.1.1, h.2.1.2.1, h.map.move hm⟩, by rw [List.length_set]; exact h2.1, fun z hz => ?_, by rw [List.length_set]; exact h.len, h.2.2.2.2.2⟩
  rcases List.mem_or_eq_of_mem_set hz with hz | rfl
  · exact h.wf z hz
  · exact hw
/-- The map is written. -/
theorem At.mapped {f' : Int → Option Int} {sz' : Nat} (h : At w b ok x g sv bm) (hg : w.grownBy w1 (some bm)) (hm : MapIs w1 bm f' sz') (hs : sz' ≤ 2000) : At w1 b ok { x with f := f', sz := sz' } g sv bm := by
  refine ⟨⟨h.1.1, h.1.2.1, (hg.block g h.glt (fun e => h.ne (by injection e with e; exact e.symm))).trans h.1.2.2⟩, ⟨h.2.1.1, h.2.1.2.1, hm⟩, Kd.R_step h.row (fun k hk hl => hg.block k hl (fun e => hk.2.2 (by injection e))), h.wf, h.len, hs⟩
/-- A whole item is written. -/
theorem At.item2 {g2 c j : Nat} (h : At w b ok x g (.slice (some ⟨g2, 0, none⟩) x.l.length c) bm) (hj : j < x.l.length) (y : Int × Int) (hw : (Lit.int .i64 y.1).wf = true) :
    At ((w.setCell ⟨g2, j * 2, none⟩ (.int .i64 y.1)).setCell ⟨g2, j * 2 + 1, none⟩ (.int .i64 y.2)) b ok { x with l := x.l.set j y } g (.slice (some ⟨g2, 0, none⟩) x.l.length c) bm := by
  have h1 := h.item hj (f := 0) (by omega) (.int .i64 y.1) (y.1, (x.l.getD j (0, 0)).2) rfl hw
  have hj2 : j < (x.l.set j (y.1, (x.l.getD j (0, 0)).2)).length := by rw [List.length_set]; exact hj
  have h2 := h1.item (x := { x with l := x.l.set j (y.1, (x.l.getD j (0, 0)).2) }) hj2 (f := 1) (by omega) (.int .i64 y.2) y (by
    show cellsOf y = (cellsOf ((x.l.set j (y.1, (x.l.getD j (0, 0)).2)).getD j (0, 0))).set 1 (.int .i64 y.2)
    rw [List.getD_eq_getElem?_getD, List.getElem?_set_self hj]
    rfl) hw
  simp only [List.set_set] at h2
  rw [show (x.l.set j y).length = x.l.length from List.length_set] at h2
  exact h2
end
end Go.Proofs.Ytjeflmdfnfgacaa.Heap

/- The heap's methods: compare, put (no law is stated here; each says its conditions). -/
namespace Go.Proofs.Ytjeflmdfnfgacaa.Heap
open Go.RowKit Go.Proofs.YtjeflmdfnfgacaaW.PrintWords Go.Proofs.YtjeflmdfnfgacaaW.PrintLast Go.Proofs.YtjeflmdfnfgacaaW.PrintMore Go.Proofs.Ytjeflmdfnfgacaa.St Go.Proofs.Ytjeflmdfnfgacaa.Q
set_option linter.unusedVariables false
set_option linter.unusedSimpArgs false
attribute [local go_sem] max2_int min2_int max_two min_two max_three min_three max_four min_four

/-- What comes ahead of what. -/
def lt (great : Bool) (a b : Int × Int) : Bool := if a.2 = b.2 then decide (a.1 < b.1) else (decide (a.2 < b.2) != great)
/-- A comparison of two numbers. -/
def cmpi (a b : Int) : Int := if a < b then -1 else if a > b then 1 else 0
def keyv (great : Bool) (a b : Int × Int) : Int := if great then -(cmpi a.2 b.2) else cmpi a.2 b.2
def cmpv (great : Bool) (a b : Int × Int) : Int := if keyv great a b = 0 then cmpi a.1 b.1 else keyv great a b
theorem cmpi_64 (a b : Int) : cmp_Compare_int64.f a b = some (cmpi a b) := by
  unfold cmp_Compare_int64.f cmp_isNaN_int64.f cmpi
  simp
  split <;> try rfl
  split <;> rfl
theorem cmpi_int (a b : Int) : cmp_Compare_int.f a b = some (cmpi a b) := by
  unfold cmp_Compare_int.f cmp_isNaN_int.f cmpi
  simp
  split <;> try rfl
  split <;> rfl
theorem or_two (a b : Int) : cmp_Or_int.f 4 [a, b] = some (if a = 0 then b else a) := by
  unfold cmp_Or_int.f
  rw [cmp_Or_int.l0.eq_2, if_pos (by simp), if_pos (by omega), if_pos (by simp)]
  rw [show rd [a, b] 0 = a from rfl]
  by_cases h : a = 0
  · rw [if_pos h, if_pos h, show wrap64 (0 + 1) = 1 from by unfold wrap64; omega, cmp_Or_int.l0.eq_2, if_pos (by simp), if_pos (by omega), if_pos (by simp), show rd [a, b] 1 = b from rfl]
    by_cases h2 : b = 0
    · rw [if_pos h2, show wrap64 (1 + 1) = 2 from by unfold wrap64; omega, cmp_Or_int.l0.eq_2, if_neg (by simp), h2]
    · rw [if_neg h2]
  · rw [if_neg h, if_neg h]
theorem cmpi_bound (a b : Int) : -1 ≤ cmpi a b ∧ cmpi a b ≤ 1 := by
  unfold cmpi
  by_cases h : a < b
  · rw [if_pos h]; omega
  · rw [if_neg h]
    by_cases h2 : a > b
    · rw [if_pos h2]; omega
    · rw [if_neg h2]; omega
theorem cmpi_neg (a b : Int) : cmpi a b < 0 ↔ a < b := by
  unfold cmpi
  by_cases h : a < b
  · rw [if_pos h]; simp [h]
  · rw [if_neg h]
    by_cases h2 : a > b
    · rw [if_pos h2]; simp [h]
    · rw [if_neg h2]; simp [h]
theorem cmpi_pos (a b : Int) : 0 < cmpi a b ↔ b < a := by
  unfold cmpi
  by_cases h : a < b
  · rw [if_pos h]; exact ⟨fun h3 => by omega, fun h3 => by omega⟩
  · rw [if_neg h]
    by_cases h2 : a > b
    · rw [if_pos h2]; simp; exact h2
    · rw [if_neg h2]; simp; omega
theorem cmpi_zero (a b : Int) : cmpi a b = 0 ↔ a = b := by
  have h1 := cmpi_neg a b
  have h2 := cmpi_pos a b
  omega
theorem lt_iff (great : Bool) (a b : Int × Int) : decide (cmpv great a b < 0) = lt great a b := by
  have n1 := cmpi_neg a.2 b.2
  have p1 := cmpi_pos a.2 b.2
  have z1 := cmpi_zero a.2 b.2
  have n2 := cmpi_neg a.1 b.1
  unfold cmpv keyv lt
  generalize cmpi a.2 b.2 = p at *
  generalize cmpi a.1 b.1 = q at *
  cases great
  · simp only [Bool.false_eq_true, if_false]
    by_cases h : a.2 = b.2
    · rw [if_pos (z1.2 h), if_pos h]
      exact decide_eq_decide.2 n2
    · rw [if_neg (fun e => h (z1.1 e)), if_neg h]
      by_cases c : a.2 < b.2
      · rw [decide_eq_true (n1.2 c), decide_eq_true c]; rfl
      · rw [decide_eq_false (fun e => c (n1.1 e)), decide_eq_false c]; rfl
  · simp only [if_true]
    by_cases h : a.2 = b.2
    · rw [if_pos (by have := z1.2 h; omega), if_pos h]
      exact decide_eq_decide.2 n2
    · rw [if_neg (fun e => h (z1.1 (by omega))), if_neg h]
      by_cases c : a.2 < b.2
      · have := n1.2 c
        rw [decide_eq_false (by omega), decide_eq_true c]
        rfl
      · have := p1.2 (by omega)
        rw [decide_eq_true (by omega), decide_eq_false c]
        rfl
set_option maxHeartbeats 1000000 in
set_option maxRecDepth 100000 in
theorem compare_up {w : World} {b : Nat} {ok : Nat → Prop} {x : H} {v : Value} (y z : Int × Int) (hM : heap.M w b ok x v) (hgr : x.great = false) :
    Calls Try.prog 32 #[v, .agg #[.int .i64 y.1, .int .i64 y.2], .agg #[.int .i64 z.1, .int .i64 z.2]] w fun e w' => e = .returned (.int .i64 (cmpv x.great y z)) ∧ Below w.heap.size w w' := by
  obtain ⟨g, sv, bm, rfl, hA⟩ := hM
  have HA := Aside0.mk hA
  have HK := Aside0.mk (cmpi_64 y.2 z.2)
  have HI := Aside0.mk (cmpi_int y.1 z.1)
  have hkb := cmpi_bound y.2 z.2
  have hib := cmpi_bound y.1 z.1
  have hv : cmpv x.great y z = if (if x.great = true then -(cmpi y.2 z.2) else cmpi y.2 z.2) = 0 then cmpi y.1 z.1 else (if x.great = true then -(cmpi y.2 z.2) else cmpi y.2 z.2) := rfl
  rw [hgr] at hv ⊢
  simp only [if_true, Bool.false_eq_true, if_false] at hv
  have HV := Aside0.mk hv
  have HGR := Aside0.mk hgr
  clear hv hgr
  generalize cmpv false y z = r at HV
  generalize cmpi y.2 z.2 = p at HK HV hkb
  generalize cmpi y.1 z.1 = q at HI HV hib
  have HO := Aside0.mk (or_two (p) q)
  rw [← HV.out] at HO
  obtain ⟨y1, y2⟩ := y
  obtain ⟨z1, z2⟩ := z
  clear hA
  go_enter Try.func32, Try.ntmps32
  go_wp2_with (first | ((with_reducible refine gate_dst (N := 4) rfl ?_); refine box_event ?hg (N := 4) ?hd (cs := #[.int .i64 y1, .int .i64 y2]) (t := 61) ?hr ?_; (case hd => rfl); (case hg => rfl); (case hr => first | (go_simp; done) | (go_simp; rfl)); intro g4 hg4 w4 hx4 hb4; have HX4 := Aside0.mk hx4; have HB4 := Aside0.mk hb4; have HG4 := Aside0.mk hg4; clear hx4 hb4 hg4) | ((with_reducible refine gate_dst (N := 5) rfl ?_); refine box_event ?hg (N := 5) ?hd (cs := #[.int .i64 z1, .int .i64 z2]) (t := 61) ?hr ?_; (case hd => rfl); (case hg => rfl); (case hr => first | (go_simp; done) | (go_simp; rfl)); intro g5 hg5 w5 hx5 hb5; have HX5 := Aside0.mk hx5; have HB5 := Aside0.mk (HB4.out.trans (hb5.mono HB4.out.size)); have HX45 := Aside0.mk ((hb5.block g4 (blk_lt HX4.out)).trans HX4.out); have hc1 := blk_cell HX45.out 1; have hc2 := blk_cell HX5.out 1; clear hx5 hb5 hg5) | (go_at_call 35; (with_reducible refine (cmp_Compare_int64.calls _ _ p _ HK.out).mono ?_); rintro e w6 ⟨rfl, ⟨nd6, hw6⟩⟩; have hc3 : w6.cell? ⟨g, 1, none⟩ = some (.bool false) := (by rw [hw6, ← HGR.out]; exact (HA.out.below HB5.out).c1); have HB6 := Aside0.mk (show Below w.heap.size w w6 from by rw [hw6]; exact pw_below_drewN HB5.out nd6); have HX46 := Aside0.mk (show w6.heap[g4]? = some (.cells #[.int .i64 y1, .int .i64 y2] 61 (0, 0)) from by rw [hw6]; exact HX45.out); have HX56 := Aside0.mk (show w6.heap[g5]? = some (.cells #[.int .i64 z1, .int .i64 z2] 61 (0, 0)) from by rw [hw6]; exact HX5.out); have hc4 := blk_cell HX46.out 0; have hc5 := blk_cell HX56.out 0; clear hw6) | (go_at_call 36; (with_reducible refine (cmp_Compare_int.calls _ _ q _ HI.out).mono ?_); rintro e w7 ⟨rfl, ⟨nd7, hw7⟩⟩; have HB7 := Aside0.mk (show Below w.heap.size w w7 from by rw [hw7]; exact pw_below_drewN HB6.out nd7); have HL := Aside0.mk (show (Kd.int .i64).C (w7.alloc (.cells #[.int .i64 (p), .int .i64 q] 3)) (some ⟨w7.heap.size, 0, none⟩) ([p, q] : List Int).length [p, q] from (Kd.R_reads' (lit_R .i64 w7 3 (Nat.le_refl _) [p, q] (by simp))).2.2); clear hw7) | (go_at_call 34; (with_reducible refine (show Calls Try.prog 34 #[.slice (some ⟨w7.heap.size, 0, none⟩) 2 2] (w7.alloc (.cells #[.int .i64 (p), .int .i64 q] 3)) _ from cmp_Or_int.calls 4 (some ⟨w7.heap.size, 0, none⟩) 2 [p, q] r _ HL.out (by simp) HO.out).mono ?_); rintro e w8 ⟨rfl, ⟨nd8, hw8⟩⟩; have HB8 := Aside0.mk (show Below w.heap.size w w8 from by rw [hw8]; exact pw_below_drewN (HB7.out.alloc HB7.out.size _) nd8); clear hw8))
  go_ret
  exact ⟨rfl, HB8.out⟩
set_option maxHeartbeats 1000000 in
set_option maxRecDepth 100000 in
theorem compare_down {w : World} {b : Nat} {ok : Nat → Prop} {x : H} {v : Value} (y z : Int × Int) (hM : heap.M w b ok x v) (hgr : x.great = true) :
    Calls Try.prog 32 #[v, .agg #[.int .i64 y.1, .int .i64 y.2], .agg #[.int .i64 z.1, .int .i64 z.2]] w fun e w' => e = .returned (.int .i64 (cmpv x.great y z)) ∧ Below w.heap.size w w' := by
  obtain ⟨g, sv, bm, rfl, hA⟩ := hM
  have HA := Aside0.mk hA
  have HK := Aside0.mk (cmpi_64 y.2 z.2)
  have HI := Aside0.mk (cmpi_int y.1 z.1)
  have hkb := cmpi_bound y.2 z.2
  have hib := cmpi_bound y.1 z.1
  have hv : cmpv x.great y z = if (if x.great = true then -(cmpi y.2 z.2) else cmpi y.2 z.2) = 0 then cmpi y.1 z.1 else (if x.great = true then -(cmpi y.2 z.2) else cmpi y.2 z.2) := rfl
  rw [hgr] at hv ⊢
  simp only [if_true, Bool.false_eq_true, if_false] at hv
  have HV := Aside0.mk hv
  have HGR := Aside0.mk hgr
  clear hv hgr
  generalize cmpv true y z = r at HV
  generalize cmpi y.2 z.2 = p at HK HV hkb
  generalize cmpi y.1 z.1 = q at HI HV hib
  have HO := Aside0.mk (or_two (-p) q)
  rw [← HV.out] at HO
  obtain ⟨y1, y2⟩ := y
  obtain ⟨z1, z2⟩ := z
  clear hA
  go_enter Try.func32, Try.ntmps32
  go_wp2_with (first | ((with_reducible refine gate_dst (N := 4) rfl ?_); refine box_event ?hg (N := 4) ?hd (cs := #[.int .i64 y1, .int .i64 y2]) (t := 61) ?hr ?_; (case hd => rfl); (case hg => rfl); (case hr => first | (go_simp; done) | (go_simp; rfl)); intro g4 hg4 w4 hx4 hb4; have HX4 := Aside0.mk hx4; have HB4 := Aside0.mk hb4; have HG4 := Aside0.mk hg4; clear hx4 hb4 hg4) | ((with_reducible refine gate_dst (N := 5) rfl ?_); refine box_event ?hg (N := 5) ?hd (cs := #[.int .i64 z1, .int .i64 z2]) (t := 61) ?hr ?_; (case hd => rfl); (case hg => rfl); (case hr => first | (go_simp; done) | (go_simp; rfl)); intro g5 hg5 w5 hx5 hb5; have HX5 := Aside0.mk hx5; have HB5 := Aside0.mk (HB4.out.trans (hb5.mono HB4.out.size)); have HX45 := Aside0.mk ((hb5.block g4 (blk_lt HX4.out)).trans HX4.out); have hc1 := blk_cell HX45.out 1; have hc2 := blk_cell HX5.out 1; clear hx5 hb5 hg5) | (go_at_call 35; (with_reducible refine (cmp_Compare_int64.calls _ _ p _ HK.out).mono ?_); rintro e w6 ⟨rfl, ⟨nd6, hw6⟩⟩; have hc3 : w6.cell? ⟨g, 1, none⟩ = some (.bool true) := (by rw [hw6, ← HGR.out]; exact (HA.out.below HB5.out).c1); have HB6 := Aside0.mk (show Below w.heap.size w w6 from by rw [hw6]; exact pw_below_drewN HB5.out nd6); have HX46 := Aside0.mk (show w6.heap[g4]? = some (.cells #[.int .i64 y1, .int .i64 y2] 61 (0, 0)) from by rw [hw6]; exact HX45.out); have HX56 := Aside0.mk (show w6.heap[g5]? = some (.cells #[.int .i64 z1, .int .i64 z2] 61 (0, 0)) from by rw [hw6]; exact HX5.out); have hc4 := blk_cell HX46.out 0; have hc5 := blk_cell HX56.out 0; clear hw6) | (go_at_call 36; (with_reducible refine (cmp_Compare_int.calls _ _ q _ HI.out).mono ?_); rintro e w7 ⟨rfl, ⟨nd7, hw7⟩⟩; have HB7 := Aside0.mk (show Below w.heap.size w w7 from by rw [hw7]; exact pw_below_drewN HB6.out nd7); have HL := Aside0.mk (show (Kd.int .i64).C (w7.alloc (.cells #[.int .i64 (-p), .int .i64 q] 3)) (some ⟨w7.heap.size, 0, none⟩) ([-p, q] : List Int).length [-p, q] from (Kd.R_reads' (lit_R .i64 w7 3 (Nat.le_refl _) [-p, q] (by simp))).2.2); clear hw7) | (go_at_call 34; (with_reducible refine (show Calls Try.prog 34 #[.slice (some ⟨w7.heap.size, 0, none⟩) 2 2] (w7.alloc (.cells #[.int .i64 (-p), .int .i64 q] 3)) _ from cmp_Or_int.calls 4 (some ⟨w7.heap.size, 0, none⟩) 2 [-p, q] r _ HL.out (by simp) HO.out).mono ?_); rintro e w8 ⟨rfl, ⟨nd8, hw8⟩⟩; have HB8 := Aside0.mk (show Below w.heap.size w w8 from by rw [hw8]; exact pw_below_drewN (HB7.out.alloc HB7.out.size _) nd8); clear hw8))
  go_ret
  exact ⟨rfl, HB8.out⟩
theorem compare_calls {w : World} {b : Nat} {ok : Nat → Prop} {x : H} {v : Value} (y z : Int × Int) (hM : heap.M w b ok x v) :
    Calls Try.prog 32 #[v, .agg #[.int .i64 y.1, .int .i64 y.2], .agg #[.int .i64 z.1, .int .i64 z.2]] w fun e w' => e = .returned (.int .i64 (cmpv x.great y z)) ∧ Below w.heap.size w w' := by
  cases h : x.great with
  | false => have := compare_up y z hM h; rwa [h] at this
  | true => have := compare_down y z hM h; rwa [h] at this
end Go.Proofs.Ytjeflmdfnfgacaa.Heap

/- The heap's methods: put (no law is stated here; each says its conditions). -/
namespace Go.Proofs.Ytjeflmdfnfgacaa.Heap
open Go.RowKit Go.Proofs.YtjeflmdfnfgacaaW.PrintWords Go.Proofs.YtjeflmdfnfgacaaW.PrintLast Go.Proofs.YtjeflmdfnfgacaaW.PrintMore Go.Proofs.Ytjeflmdfnfgacaa.St Go.Proofs.Ytjeflmdfnfgacaa.Q
set_option linter.unusedVariables false
set_option linter.unusedSimpArgs false
attribute [local go_sem] max2_int min2_int max_two min_two max_three min_three max_four min_four

/-- What put leaves. -/
def putH (x : H) (i : Nat) (y : Int × Int) : H := { x with l := x.l.set i y, f := upd x.f y.1 (i : Int), sz := if (x.f y.1).isSome then x.sz else x.sz + 1 }
set_option maxHeartbeats 1000000 in
set_option maxRecDepth 100000 in
theorem put_calls {w : World} {b : Nat} {ok : Nat → Prop} {x : H} {v : Value} (i : Nat) (y : Int × Int) (hM : heap.M w b ok x v) (hi : i < x.l.length) (hw : (Lit.int .i64 y.1).wf = true) (hs : (if (x.f y.1).isSome then x.sz else x.sz + 1) ≤ 2000) :
    Calls Try.prog 33 #[v, .int .i64 (i : Int), .agg #[.int .i64 y.1, .int .i64 y.2]] w fun e w' => e = .returned (.tuple #[]) ∧ heap.M w' b (more w ok) (putH x i y) v ∧ Wrote w w' ok := by
  obtain ⟨g, sv, bm, rfl, hA⟩ := hM
  obtain ⟨g2, c, rfl, hg2, hn2, hn3⟩ := hA.form (by omega)
  have HA := Aside0.mk hA
  have HI := Aside0.mk hi
  have HW := Aside0.mk hw
  have HS := Aside0.mk hs
  obtain ⟨y1, y2⟩ := y
  have hlt : (i : Int) < (x.l.length : Int) := by omega
  clear hA hw hs
  go_enter Try.func33, Try.ntmps33
  go_upto_region 1 with (first | ((with_reducible refine gate_dst (N := 5) rfl ?_); refine box_event ?hg (N := 5) ?hd (cs := #[.int .i64 y1, .int .i64 y2]) (t := 61) ?hr ?_; (case hd => rfl); (case hg => rfl); (case hr => first | (go_simp; done) | (go_simp; rfl)); intro g5 hg5 w5 hx5 hb5; have HX5 := Aside0.mk hx5; have HB5 := Aside0.mk hb5; have HG5 := Aside0.mk hg5; have HA5 := Aside0.mk (HA.out.below hb5); have hc1 := blk_cell hx5 0; have hc2 := blk_cell hx5 1; have hc3 := HA5.out.c2; clear hx5 hb5 hg5))
  go_still_tail 7, (by kernel_rfl)
  change wpList _ _ _ _ _ w5.drew
  obtain ⟨w6, hw6⟩ : ∃ w6 : World, w5.drew = w6 := ⟨_, rfl⟩
  rw [hw6]
  have hb6 : Below w5.heap.size w5 w6 := by rw [← hw6]; exact below_drew (Below.refl _ _)
  have HA6 := Aside0.mk (HA5.out.below hb6)
  have HB6 := Aside0.mk (HB5.out.trans (hb6.mono HB5.out.size))
  have HX6 := Aside0.mk ((hb6.block g5 (blk_lt HX5.out)).trans HX5.out)
  clear hw6 hb6 hc1 hc2 hc3
  obtain ⟨⟨k1, k2⟩, k3, k4⟩ := item_get HA6.out.row hi
  go_upto_region 2 with (fail)
  have hA7 := HA6.out.item2 hi (y1, y2) HW.out
  have hW7 : Wrote w ((w6.setCell ⟨g2, i * 2, none⟩ (.int .i64 y1)).setCell ⟨g2, i * 2 + 1, none⟩ (.int .i64 y2)) ok := ((Wrote.of_below HB6.out ok).setCell (Or.inl hg2) _).setCell (Or.inl hg2) _
  have hX7 : ((w6.setCell ⟨g2, i * 2, none⟩ (.int .i64 y1)).setCell ⟨g2, i * 2 + 1, none⟩ (.int .i64 y2)).heap[g5]? = some (.cells #[.int .i64 y1, .int .i64 y2] 61 (0, 0)) := by
    have hne : g5 ≠ g2 := by have h1 := Kd.R_lt HA.out.row g2 rfl; have h2 := HG5.out; omega
    exact blk_far (blk_far HX6.out hne _) hne _
  clear k1 k2 k3 k4
  generalize ((w6.setCell ⟨g2, i * 2, none⟩ (.int .i64 y1)).setCell ⟨g2, i * 2 + 1, none⟩ (.int .i64 y2)) = w7 at hA7 hW7 hX7 ⊢
  have HA7 := Aside0.mk hA7
  have HW7 := Aside0.mk hW7
  have hc1 := blk_cell hX7 0
  have hc3 := hA7.c3
  clear hA7 hW7 hX7
  go_still_tail 7, (by kernel_rfl)
  change wpList _ _ _ _ _ w7.drew
  obtain ⟨w8, hw8⟩ : ∃ w8 : World, w7.drew = w8 := ⟨_, rfl⟩
  rw [hw8]
  have hb8 : Below w7.heap.size w7 w8 := by rw [← hw8]; exact below_drew (Below.refl _ _)
  have HA8 := Aside0.mk (HA7.out.below hb8)
  have HW8 := Aside0.mk (show Wrote w w8 ok from by rw [← hw8]; exact HW7.out.drew)
  clear hw8 hb8 hc1 hc3
  obtain ⟨D, hown, hsees, hsize⟩ := HA8.out.map
  have HD := Aside0.mk hsees
  have HZ := Aside0.mk hsize
  have HN := Aside0.mk hown
  clear hown hsees hsize
  go_wp2_with (first | (at_mapUpdate; refine wpList_mapUpdate_own _ rfl _ _ _ 66 rfl 3 3 law Try.underlying66 _ bm _ D rfl HN.out (by have := HA8.out.2.2.2.2.2; unfold maxLen; show x.sz < _; have : x.sz ≤ 2000 := this; omega) _ _ (kl y1) rfl rfl (Go.Maps.keyOf_int_mk Try.underlying3 HW.out) _ [] (plainElem_int Try.underlying3 (WalkArith.wf_i64 (by have := HA.out.len; have := HI.out; omega))) ?_; intro w9 hown9 hgrow9; have HM9 := Aside0.mk (MapIs.stored HN.out HD.out HZ.out hown9); have HG9 := Aside0.mk hgrow9; clear hown9 hgrow9))
  go_end0
  exact ⟨rfl, heap.mono (fun _ hk => Or.inl hk) (HA8.out.mapped HG9.out HM9.out HS.out).toM, HW8.out.grown HG9.out (fun k hk => by cases hk; exact Or.inl HA8.out.2.1.1)⟩
end Go.Proofs.Ytjeflmdfnfgacaa.Heap
