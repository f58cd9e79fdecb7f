/- PokePlays: what the law's own rows hold beside the pokes (no law is stated here; no condition). -/
import Derived.Test.YteihnocbeaaokaaAllP
namespace Go.Proofs.Yteihnocbeaaokaa.Poke
open Go.RowKit Go.Proofs.YteihnocbeaaokaaW.PrintWords Go.Proofs.YteihnocbeaaokaaW.PrintLast Go.Proofs.YteihnocbeaaokaaW.PrintMore Go.Proofs.Yteihnocbeaaokaa.St Go.Proofs.Yteihnocbeaaokaa.Q
set_option linter.unusedVariables false
set_option linter.unusedSimpArgs false

/-- A block of numbers. -/
def Arr (W : World) (g t : Nat) (k : IntKind) (n : Nat) (f : Nat → Int) : Prop := ∃ cs : Array Value, W.heap[g]? = some (.cells cs t (0, 0)) ∧ ∀ i : Nat, i < n → cs[i]? = some (.int k (f i))
def upf (f : Nat → Int) (i : Nat) (u : Int) : Nat → Int := fun k => if k = i then u else f k
section
variable {W W1 : World} {g t n : Nat} {k : IntKind} {f f' : Nat → Int}
theorem Arr.move (h : Arr W g t k n f) (e : W1.heap[g]? = W.heap[g]?) : Arr W1 g t k n f := by
  obtain ⟨cs, h1, h2⟩ := h
  exact ⟨cs, e.trans h1, h2⟩
theorem Arr.far {g' i : Nat} (h : Arr W g t k n f) (hne : g ≠ g') (u : Value) : Arr (W.setCell ⟨g', i, none⟩ u) g t k n f := h.move (Below.heap_setCell _ _ _ g hne)
theorem Arr.set {i : Nat} (h : Arr W g t k n f) (hi : i < n) (u : Int) : Arr (W.setCell ⟨g, i, none⟩ (.int k u)) g t k n (upf f i u) := by
  obtain ⟨cs, h1, h2⟩ := h
  refine ⟨_, blk_set h1 i _, fun j hj => ?_⟩
  by_cases c : i = j
  · subst c
    have h4 : i < cs.size := (Array.getElem?_eq_some_iff.1 (h2 i hi)).1
    rw [Array.getElem?_setIfInBounds_self_of_lt h4]
    show _ = some (Value.int k (if i = i then u else f i))
    rw [if_pos rfl]
  · rw [Array.getElem?_setIfInBounds_ne c, h2 j hj]
    show _ = some (Value.int k (if j = i then u else f j))
    rw [if_neg (fun e => c e.symm)]
theorem Arr.congr (h : Arr W g t k n f) (e : ∀ i, i < n → f i = f' i) : Arr W g t k n f' := by
  obtain ⟨cs, h1, h2⟩ := h
  exact ⟨cs, h1, fun i hi => by rw [h2 i hi, e i hi]⟩
theorem Arr.cell (h : Arr W g t k n f) {i : Nat} (hi : i < n) : W.cell? ⟨g, i, none⟩ = some (.int k (f i)) ∧ W.frozen? ⟨g, i, none⟩ = false := by
  obtain ⟨cs, h1, h2⟩ := h
  exact ⟨(blk_cell h1 i).trans (h2 i hi), blk_frozen h1 i⟩
theorem Arr.lt (h : Arr W g t k n f) : g < W.heap.size := by
  obtain ⟨cs, h1, _⟩ := h
  exact blk_lt h1
end
/-- The law's own blocks. -/
structure Bl (w : World) (gw gf gc gx : Nat) : Prop where
  bw : w.heap.size ≤ gw
  bf : w.heap.size ≤ gf
  bc : w.heap.size ≤ gc
  bx : w.heap.size ≤ gx
  wf : gw ≠ gf
  wc : gw ≠ gc
  wx : gw ≠ gx
  fc : gf ≠ gc
  fx : gf ≠ gx
  cx : gc ≠ gx
def okB (w : World) (gw gf gc gx : Nat) (k : Nat) : Prop := w.heap.size ≤ k ∧ k ≠ gw ∧ k ≠ gf ∧ k ≠ gc ∧ k ≠ gx
/-- The pokes hold p; the law's rows tell what, who, how often; the box holds the act. -/
structure PI (w : World) (n : Nat) (v : Value) (gw gf gc gx : Nat) (o c t h : Int) (p : List S56) (fw ff fc : Nat → Int) (W : World) : Prop where
  len : p.length = n
  st : poke.M W w.heap.size (okB w gw gf gc gx) p v
  aw : Arr W gw 42 .i64 n fw
  af : Arr W gf 43 .u64 n ff
  ac : Arr W gc 44 .i64 n fc
  box : W.heap[gx]? = some (.cells #[.int .i64 o, .int .i64 c, .int .i64 t, .int .i64 h] 46 (0, 0))
  far : Below w.heap.size w W
def F0 (p : List S56) (k : Nat) : Int := (p.getD k z56).f0
def F1 (p : List S56) (k : Nat) : Int := (p.getD k z56).f1
def F2 (p : List S56) (k : Nat) : Int := (p.getD k z56).f2
section
variable {w W W1 : World} {n : Nat} {v : Value} {gw gf gc gx : Nat} {o c t h : Int} {p p' : List S56} {fw ff fc fw' ff' fc' : Nat → Int}
theorem PI.call (a : PI w n v gw gf gc gx o c t h p fw ff fc W) (hl : p'.length = p.length) (hM : poke.M W1 w.heap.size (okB w gw gf gc gx) p' v) (hw : Wrote W W1 (okB w gw gf gc gx)) : PI w n v gw gf gc gx o c t h p' fw ff fc W1 :=
  ⟨hl.trans a.len, hM, a.aw.move (hw.block gw a.aw.lt (fun e => e.2.1 rfl)), a.af.move (hw.block gf a.af.lt (fun e => e.2.2.1 rfl)), a.ac.move (hw.block gc a.ac.lt (fun e => e.2.2.2.1 rfl)), (hw.block gx (blk_lt a.box) (fun e => e.2.2.2.2 rfl)).trans a.box, hw.below a.far (fun _ hk => hk.1)⟩
theorem PI.setw (a : PI w n v gw gf gc gx o c t h p fw ff fc W) (hB : Bl w gw gf gc gx) {i : Nat} (hi : i < n) (u : Int) : PI w n v gw gf gc gx o c t h p (upf fw i u) ff fc (W.setCell ⟨gw, i, none⟩ (.int .i64 u)) :=
  ⟨a.len, poke.move (fun k hk => Below.heap_setCell _ _ _ k hk.2.1) a.st, a.aw.set hi u, a.af.far (fun e => hB.wf e.symm) _, a.ac.far (fun e => hB.wc e.symm) _, blk_far a.box (fun e => hB.wx e.symm) _, a.far.setCell hB.bw _⟩
theorem PI.setf (a : PI w n v gw gf gc gx o c t h p fw ff fc W) (hB : Bl w gw gf gc gx) {i : Nat} (hi : i < n) (u : Int) : PI w n v gw gf gc gx o c t h p fw (upf ff i u) fc (W.setCell ⟨gf, i, none⟩ (.int .u64 u)) :=
  ⟨a.len, poke.move (fun k hk => Below.heap_setCell _ _ _ k hk.2.2.1) a.st, a.aw.far hB.wf _, a.af.set hi u, a.ac.far (fun e => hB.fc e.symm) _, blk_far a.box (fun e => hB.fx e.symm) _, a.far.setCell hB.bf _⟩
theorem PI.setc (a : PI w n v gw gf gc gx o c t h p fw ff fc W) (hB : Bl w gw gf gc gx) {i : Nat} (hi : i < n) (u : Int) : PI w n v gw gf gc gx o c t h p fw ff (upf fc i u) (W.setCell ⟨gc, i, none⟩ (.int .i64 u)) :=
  ⟨a.len, poke.move (fun k hk => Below.heap_setCell _ _ _ k hk.2.2.2.1) a.st, a.aw.far hB.wc _, a.af.far hB.fc _, a.ac.set hi u, blk_far a.box (fun e => hB.cx e.symm) _, a.far.setCell hB.bc _⟩
theorem PI.drewN (a : PI w n v gw gf gc gx o c t h p fw ff fc W) (m : Nat) : PI w n v gw gf gc gx o c t h p fw ff fc (W.drewN m) :=
  ⟨a.len, poke.move (fun _ _ => rfl) a.st, a.aw.move rfl, a.af.move rfl, a.ac.move rfl, a.box, a.far.trans ⟨rfl, rfl, rfl, Nat.le_refl _, fun _ _ => rfl⟩⟩
theorem PI.below (a : PI w n v gw gf gc gx o c t h p fw ff fc W) (hb : Below W.heap.size W W1) : PI w n v gw gf gc gx o c t h p fw ff fc W1 :=
  ⟨a.len, poke.mono (fun _ hk => hk.1) (poke.move (fun k hk => hb.block k hk.2.2) (poke.bound a.st)), a.aw.move (hb.block _ a.aw.lt), a.af.move (hb.block _ a.af.lt), a.ac.move (hb.block _ a.ac.lt), (hb.block _ (blk_lt a.box)).trans a.box, a.far.trans (hb.mono a.far.size)⟩
theorem PI.congr (a : PI w n v gw gf gc gx o c t h p fw ff fc W) (e0 : ∀ i, i < n → fw i = fw' i) (e1 : ∀ i, i < n → ff i = ff' i) (e2 : ∀ i, i < n → fc i = fc' i) : PI w n v gw gf gc gx o c t h p fw' ff' fc' W :=
  ⟨a.len, a.st, a.aw.congr e0, a.af.congr e1, a.ac.congr e2, a.box, a.far⟩
theorem PI.act (a : PI w n v gw gf gc gx o c t h p fw ff fc W) : W.cell? ⟨gx, 0, none⟩ = some (.int .i64 o) ∧ W.cell? ⟨gx, 1, none⟩ = some (.int .i64 c) ∧ W.cell? ⟨gx, 2, none⟩ = some (.int .i64 t) ∧ W.cell? ⟨gx, 3, none⟩ = some (.int .i64 h) :=
  ⟨blk_cell a.box 0, blk_cell a.box 1, blk_cell a.box 2, blk_cell a.box 3⟩
theorem PI.cells (a : PI w n v gw gf gc gx o c t h p fw ff fc W) {k : Nat} (hk : k < n) : (W.cell? ⟨gw, k, none⟩ = some (.int .i64 (fw k)) ∧ W.frozen? ⟨gw, k, none⟩ = false) ∧ (W.cell? ⟨gf, k, none⟩ = some (.int .u64 (ff k)) ∧ W.frozen? ⟨gf, k, none⟩ = false) ∧ (W.cell? ⟨gc, k, none⟩ = some (.int .i64 (fc k)) ∧ W.frozen? ⟨gc, k, none⟩ = false) :=
  ⟨a.aw.cell hk, a.af.cell hk, a.ac.cell hk⟩
theorem PI.drew (a : PI w n v gw gf gc gx o c t h p fw ff fc W) : PI w n v gw gf gc gx o c t h p fw ff fc W.drew :=
  ⟨a.len, poke.move (fun _ _ => rfl) a.st, a.aw.move rfl, a.af.move rfl, a.ac.move rfl, a.box, below_drew a.far⟩
theorem PI.m (a : PI w n v gw gf gc gx o c t h p fw ff fc W) : poke.M W w.heap.size (okB w gw gf gc gx) p v := a.st
end
theorem set_at {p : List S56} {j k : Nat} (hj : j < p.length) (x : S56) : (p.set j x).getD k z56 = if k = j then x else p.getD k z56 := by
  by_cases e : k = j
  · subst e
    rw [if_pos rfl, List.getD_eq_getElem?_getD, List.getElem?_set_self hj]
    rfl
  · rw [if_neg e, List.getD_eq_getElem?_getD, List.getElem?_set_ne (fun e2 => e e2.symm), ← List.getD_eq_getElem?_getD]
/-- What a box's being told anew does to the law's rows. -/
theorem rows_set {p : List S56} {j : Nat} (hj : j < p.length) (x : S56) (i : Nat) : F0 (p.set j x) i = upf (F0 p) j x.f0 i ∧ F1 (p.set j x) i = upf (F1 p) j x.f1 i ∧ F2 (p.set j x) i = upf (F2 p) j x.f2 i := by
  unfold F0 F1 F2 upf
  rw [set_at hj]
  by_cases c : i = j
  · rw [if_pos c, if_pos c, if_pos c, if_pos c]
    exact ⟨rfl, rfl, rfl⟩
  · rw [if_neg c, if_neg c, if_neg c, if_neg c]
    exact ⟨rfl, rfl, rfl⟩
theorem upf_same (f : Nat → Int) (j i : Nat) : upf f j (f j) i = f i := by
  unfold upf
  by_cases c : i = j
  · rw [if_pos c, c]
  · rw [if_neg c]
theorem bit_at (c : Nat) (hc : c < 64) : bitv (c : Int) = Go.IntKind.u64.wrap (2 ^ min c 64) := by
  have h : ∀ c < 64, bitv ((c : Nat) : Int) = Go.IntKind.u64.wrap (2 ^ min c 64) := by decide +kernel
  exact h c hc
end Go.Proofs.Yteihnocbeaaokaa.Poke
