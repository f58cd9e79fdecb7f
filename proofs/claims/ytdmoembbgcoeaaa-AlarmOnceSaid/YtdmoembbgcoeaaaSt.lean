/- States of mine: what a pointer leads to, held by somebody alone; colours of blocks, so that what one holds nobody else writes (no law is stated here; no condition). -/
import Derived.Test.YtdmoembbgcoeaaaWMore
namespace Go.Proofs.Ytdmoembbgcoeaaa.St
open Go.RowKit Go.Proofs.YtdmoembbgcoeaaaW.PrintWords
set_option linter.unusedVariables false

/-- A state: what a value leads to, in blocks from base on that are ok. -/
structure St (α : Type) where
  M : World → Nat → (Nat → Prop) → α → Value → Prop
  mono : ∀ {w : World} {b : Nat} {ok ok' : Nat → Prop} {x : α} {v : Value}, (∀ k, ok k → ok' k) → M w b ok x v → M w b ok' x v
  move : ∀ {w w1 : World} {b : Nat} {ok : Nat → Prop} {x : α} {v : Value}, (∀ k, ok k → w1.heap[k]? = w.heap[k]?) → M w b ok x v → M w1 b ok x v
  bound : ∀ {w : World} {b : Nat} {ok : Nat → Prop} {x : α} {v : Value}, M w b ok x v → M w b (fun k => ok k ∧ b ≤ k ∧ k < w.heap.size) x v

/-- A call (or a store) that writes what is ok, and makes new blocks. -/
structure Wrote (W W' : World) (ok : Nat → Prop) : Prop where
  os : W'.os = W.os
  tape : W'.tape = W.tape
  output : W'.output = W.output
  size : W.heap.size ≤ W'.heap.size
  block : ∀ k, k < W.heap.size → ¬ ok k → W'.heap[k]? = W.heap[k]?

section
variable {W W1 W2 : World} {ok ok' : Nat → Prop}
theorem Wrote.refl (W : World) (ok : Nat → Prop) : Wrote W W ok := ⟨rfl, rfl, rfl, Nat.le_refl _, fun _ _ _ => rfl⟩
theorem Wrote.of_below (h : Below W.heap.size W W1) (ok : Nat → Prop) : Wrote W W1 ok := ⟨h.os, h.tape, h.output, h.size, fun k hk _ => h.block k hk⟩
theorem Wrote.trans (h : Wrote W W1 ok) (k : Wrote W1 W2 ok') (hs : ∀ k, ok' k → ok k ∨ W.heap.size ≤ k) : Wrote W W2 ok :=
  ⟨k.os.trans h.os, k.tape.trans h.tape, k.output.trans h.output, Nat.le_trans h.size k.size, fun j hj hn =>
    (k.block j (Nat.lt_of_lt_of_le hj h.size) (fun h2 => (hs j h2).elim hn (fun h3 => by omega))).trans (h.block j hj hn)⟩
theorem Wrote.weaken (h : Wrote W W1 ok') (hs : ∀ k, ok' k → ok k) : Wrote W W1 ok := ⟨h.os, h.tape, h.output, h.size, fun k hk hn => h.block k hk (fun h2 => hn (hs k h2))⟩
theorem Wrote.drewN (h : Wrote W W1 ok) (n : Nat) : Wrote W (W1.drewN n) ok := ⟨h.os, h.tape, h.output, h.size, h.block⟩
theorem Wrote.drew (h : Wrote W W1 ok) : Wrote W W1.drew ok := ⟨h.os, h.tape, h.output, h.size, h.block⟩
theorem Wrote.alloc (h : Wrote W W1 ok) (o : Obj) : Wrote W (W1.alloc o) ok :=
  h.trans (Wrote.of_below (below_alloc (Below.refl _ _) o) (fun _ => False)) (fun _ hk => hk.elim)
theorem Wrote.setCell (h : Wrote W W1 ok) {p : Addr} (hp : ok p.block ∨ W.heap.size ≤ p.block) (u : Value) : Wrote W (W1.setCell p u) ok :=
  h.trans (ok' := fun k => k = p.block) ⟨rfl, rfl, rfl, by simp [World.setCell], fun k _ hk => Below.heap_setCell W1 p u k hk⟩ (fun k hk => by subst hk; exact hp)
theorem Wrote.grown {row : Option Nat} (h : Wrote W W1 ok) (hg : W1.grownBy W2 row) (hr : ∀ k, row = some k → ok k ∨ W.heap.size ≤ k) : Wrote W W2 ok :=
  h.trans (ok' := fun k => row = some k) ⟨hg.os, hg.tape, hg.output, hg.size, fun k hk hn => hg.block k hk (fun e => hn e.symm)⟩ (fun k hk => hr k hk)
/-- Below the law's first block nothing has turned. -/
theorem Wrote.below {w0 : World} (h : Wrote W W1 ok) (hb : Below w0.heap.size w0 W) (hok : ∀ k, ok k → w0.heap.size ≤ k) : Below w0.heap.size w0 W1 :=
  hb.trans ⟨h.os, h.tape, h.output, h.size, fun k hk => h.block k (Nat.lt_of_lt_of_le hk hb.size) (fun h2 => by have := hok k h2; omega)⟩
variable {α : Type} {s : St α} {b : Nat} {x : α} {v : Value}
/-- Who is not written stays. -/
theorem St.stays (h : s.M W b ok' x v) (hw : Wrote W W1 ok) (hd : ∀ k, ok' k → ¬ ok k) : s.M W1 b ok' x v :=
  s.mono (fun _ hk => hk.1) (s.move (fun k hk => hw.block k hk.2.2 (hd k hk.1)) (s.bound h))
end

/-- Colours: of each block, whose it is; what is new is i's. -/
def col (c : Nat → Nat) (W : World) (i : Nat) : Nat → Nat := fun k => if k < W.heap.size then c k else i
section
variable {W W1 : World} {c : Nat → Nat} {i j : Nat} {α : Type} {s : St α} {b : Nat} {x : α} {v : Value}
theorem col_mine (h : s.M W1 b (fun k => c k = i ∨ W.heap.size ≤ k) x v) : s.M W1 b (fun k => col c W i k = i) x v :=
  s.mono (fun k hk => by
    unfold col
    split
    · rcases hk with h | h
      · exact h
      · omega
    · rfl) h
theorem col_other (h : s.M W b (fun k => c k = j) x v) (hw : Wrote W W1 (fun k => c k = i)) (hne : j ≠ i) : s.M W1 b (fun k => col c W i k = j) x v :=
  s.mono (fun k hk => by
    unfold col
    rw [if_pos hk.2.2]
    exact hk.1) (s.move (fun k hk => hw.block k hk.2.2 (fun e => hne (hk.1.symm.trans e))) (s.bound h))
end

theorem cell_same {w w1 : World} {a : Addr} (h : w1.heap[a.block]? = w.heap[a.block]?) : w1.cell? a = w.cell? a := by
  unfold World.cell?
  rw [h]
theorem size_same {w w1 : World} {b : Nat} (h : w1.heap[b]? = w.heap[b]?) (hb : b < w.heap.size) : b < w1.heap.size := by
  rw [Array.getElem?_eq_getElem hb] at h
  exact (Array.getElem?_eq_some_iff.1 h).1
/-- What a step on i's blocks leaves to the others. -/
structure Turned (c c' : Nat → Nat) (i : Nat) (w0 W W' : World) : Prop where
  far : Below w0.heap.size w0 W → Below w0.heap.size w0 W'
  keep : ∀ (α : Type) (s : St α) (j : Nat) (y : α) (u : Value), j ≠ i → s.M W w0.heap.size (fun k => c k = j) y u → s.M W' w0.heap.size (fun k => c' k = j) y u
section
variable {w0 W W1 : World} {c : Nat → Nat} {i : Nat} {α : Type} {s : St α} {x x1 : α} {v v1 : Value}
/-- i's own blocks, above a law's first. -/
def mineOf (c : Nat → Nat) (i : Nat) (w0 : World) : Nat → Prop := fun k => c k = i ∧ w0.heap.size ≤ k
theorem St.mine (h : s.M W w0.heap.size (fun k => c k = i) x v) : s.M W w0.heap.size (mineOf c i w0) x v := s.mono (fun k hk => ⟨hk.1, hk.2.1⟩) (s.bound h)
theorem turned (h : s.M W1 w0.heap.size (fun k => mineOf c i w0 k ∨ W.heap.size ≤ k) x v) (hw : Wrote W W1 (mineOf c i w0)) (hs : w0.heap.size ≤ W.heap.size) :
    ∃ c', s.M W1 w0.heap.size (fun k => c' k = i) x v ∧ Turned c c' i w0 W W1 := by
  refine ⟨col c W i, col_mine (s.mono (fun k hk => hk.imp_left And.left) h), fun hb => hw.below hb (fun k hk => hk.2), fun α s j y u hne hm => ?_⟩
  exact col_other hm (hw.weaken (fun k hk => hk.1)) hne
/-- What was made anew. -/
theorem turned_new (h : s.M W1 W.heap.size (fun k => W.heap.size ≤ k) x v) (hb : Below W.heap.size W W1) (hs : w0.heap.size ≤ W.heap.size) (hl : s.M W1 W.heap.size (fun k => W.heap.size ≤ k) x v → s.M W1 w0.heap.size (fun k => W.heap.size ≤ k) x v) :
    ∃ c', s.M W1 w0.heap.size (fun k => c' k = i) x v ∧ Turned c c' i w0 W W1 :=
  ⟨col c W i, col_mine (s.mono (fun k hk => Or.inr hk) (hl h)), fun hB => hB.trans (hb.mono hB.size), fun α s j y u hne hm => col_other hm (Wrote.of_below hb (fun k => c k = i)) hne⟩
/-- A step that writes nothing of before. -/
theorem St.below (h : s.M W w0.heap.size (fun k => c k = i) x v) (hb : Below W.heap.size W W1) : s.M W1 w0.heap.size (fun k => c k = i) x v :=
  s.mono (fun _ hk => hk.1) (s.move (fun k hk => hb.block k hk.2.2) (s.bound h))
theorem St.drewN (h : s.M W w0.heap.size (fun k => c k = i) x v) (n : Nat) : s.M (W.drewN n) w0.heap.size (fun k => c k = i) x v := s.move (w := W) (w1 := W.drewN n) (fun _ _ => rfl) h
end

/-- What steps on several colours leave to the others. -/
structure TurnedL (c c' : Nat → Nat) (js : List Nat) (w0 W W' : World) : Prop where
  far : Below w0.heap.size w0 W → Below w0.heap.size w0 W'
  keep : ∀ (α : Type) (s : St α) (j : Nat) (y : α) (u : Value), j ∉ js → s.M W w0.heap.size (fun k => c k = j) y u → s.M W' w0.heap.size (fun k => c' k = j) y u
theorem TurnedL.refl (c : Nat → Nat) (js : List Nat) (w0 W : World) : TurnedL c c js w0 W W := ⟨id, fun _ _ _ _ _ _ h => h⟩
theorem TurnedL.step {c c1 c2 : Nat → Nat} {js : List Nat} {i : Nat} {w0 W W1 W2 : World} (h : TurnedL c c1 js w0 W W1) (k : Turned c1 c2 i w0 W1 W2) (hi : i ∈ js) : TurnedL c c2 js w0 W W2 :=
  ⟨fun hb => k.far (h.far hb), fun α s j y u hj hm => k.keep α s j y u (fun e => hj (e ▸ hi)) (h.keep α s j y u hj hm)⟩
theorem TurnedL.below {c c1 : Nat → Nat} {js : List Nat} {w0 W W1 W2 : World} (h : TurnedL c c1 js w0 W W1) (hb : Below W1.heap.size W1 W2) : TurnedL c c1 js w0 W W2 :=
  ⟨fun hB => (h.far hB).trans (hb.mono (h.far hB).size), fun α s j y u hj hm => s.mono (fun _ hk => hk.1) (s.move (fun k hk => hb.block k hk.2.2) (s.bound (h.keep α s j y u hj hm)))⟩

/-- A row written out, new. -/
theorem lit_R (k : IntKind) (w : World) (e : Nat) {base : Nat} (hb : base ≤ w.heap.size) (xs : List Int) (hm : xs.length ≤ 9223372036854775807) :
    (Kd.int k).R e (w.alloc (.cells (nums k xs).toArray e)) base (fun i => w.heap.size ≤ i) (.slice (some ⟨w.heap.size, 0, none⟩) xs.length xs.length) xs := by
  have h2 := World.ownsRow_lit (base := base) (e := e) (size := 1) w (nums k xs).toArray xs.length hb (by simpa [maxLen] using hm) (by simp [nums])
  have h3 : (w.alloc (.cells (nums k xs).toArray e)).ownsRow base e 1 (.slice (some ⟨w.heap.size, 0, none⟩) xs.length xs.length) xs.length (nums k xs) := by simpa using h2
  exact Kd.R_of_own h3 (fun i hi => by
    have : w.heap.size = i := by simpa [Value.ownBlock] using hi
    omega)

/-- Cells of a row of one's own behind its length are written. -/
theorem row_tail {α : Type} {d : Kd α} {e : Nat} {W : World} {base g m c : Nat} {ok : Nat → Prop} {xs : List α} (h : d.R e W base ok (.slice (some ⟨g, 0, none⟩) m c) xs) (vs : List Value) (hm : m * d.sz + vs.length ≤ c * d.sz) :
    d.R e (W.setCells g (m * d.sz) vs) base ok (.slice (some ⟨g, 0, none⟩) m c) xs ∧ W.grownBy (W.setCells g (m * d.sz) vs) (some g) ∧ (∀ j, j < vs.length → (W.cell? ⟨g, m * d.sz + j, none⟩).isSome = true ∧ W.frozen? ⟨g, m * d.sz + j, none⟩ = false) := by
  obtain ⟨hok, inner, ho, hr⟩ := h
  obtain ⟨ho1, ho2⟩ := ho
  rcases ho2 with ⟨hv, _⟩ | ⟨g', cap, cur, hv, hb, hh, hnc, hcm, hcs, htake⟩
  · cases hv
  · injection hv with ha hn hc
    injection ha with ha
    injection ha with hg
    subst hg; subst hc
    have hlen : xs.length * d.sz = inner.length := hr.1.symm
    obtain ⟨s1, s2, s3, s4⟩ := setCells_same g vs (m * d.sz) W
    have hmx : m = xs.length := hn
    obtain ⟨cur', h3, h4, h5⟩ := setCells_row vs (m * d.sz) W cur hh (by rw [hcs]; exact hm)
    refine ⟨⟨hok, inner, ⟨ho1, .inr ⟨g, c, cur', by rw [hmx], hb, h3, hnc, hcm, by rw [h4, hcs], ?_⟩⟩, hr.imp_ (fun p cs hp => Kd.M_step hp (fun k hk _ => setCells_far vs (m * d.sz) k (fun e => hk.2 (by rw [e]; rfl))))⟩, ⟨s1, s2, s3, by rw [s4]; exact Nat.le_refl _, fun k _ hk => setCells_far vs (m * d.sz) k (fun e => hk (by rw [e]))⟩, fun j hj => ⟨?_, blk_frozen hh _⟩⟩
    · rw [h5, ← htake, hmx]
      have hcl : cur.toList.length = c * d.sz := by simpa using hcs
      rw [List.append_assoc, List.take_append_of_le_length (by rw [List.length_take, hcl]; exact Nat.le_min.2 ⟨Nat.le_refl _, Nat.mul_le_mul_right _ hnc⟩), List.take_take, Nat.min_self]
    · rw [blk_cell hh]
      rw [Array.getElem?_eq_getElem (by rw [hcs]; omega)]
      rfl

/-- A row of numbers that is only read, in blocks of one's own. -/
def crow (k : IntKind) : St (List Int) where
  M := fun w b ok x v => ∃ A c, v = .slice A x.length c ∧ x.length ≤ c ∧ (Kd.int k).C w A x.length x ∧ ∀ a, A = some a → ok a.block ∧ b ≤ a.block ∧ a.block < w.heap.size
  mono := fun h ⟨A, c, h1, h2, h3, h4⟩ => ⟨A, c, h1, h2, h3, fun a ha => ⟨h _ (h4 a ha).1, (h4 a ha).2⟩⟩
  move := fun {w w1 b ok x v} h ⟨A, c, h1, h2, h3, h4⟩ => ⟨A, c, h1, h2, ⟨h3.1, h3.2.1, fun hp => by
    obtain ⟨ad, hA, hr⟩ := h3.2.2 hp
    refine ⟨ad, hA, fun j p hj => ?_⟩
    obtain ⟨cs, k1, k2, k3⟩ := hr j p hj
    refine ⟨cs, k1, k2, fun i u hu => ?_⟩
    rw [← k3 i u hu]
    have hb : (ad.add (j * (Kd.int k).sz + i)).block = ad.block := add_block _ _
    exact cell_same ((congrArg (fun q => w1.heap[q]?) hb).trans ((h _ (h4 ad hA).1).trans (congrArg (fun q => w.heap[q]?) hb).symm))⟩,
    fun a ha => ⟨(h4 a ha).1, (h4 a ha).2.1, size_same (h _ (h4 a ha).1) (h4 a ha).2.2⟩⟩
  bound := fun ⟨A, c, h1, h2, h3, h4⟩ => ⟨A, c, h1, h2, h3, fun a ha => ⟨h4 a ha, (h4 a ha).2⟩⟩

/-- A row of one's own is a state. -/
def row {α : Type} (e : Nat) (d : Kd α) : St (List α) where
  M := fun w b ok x v => d.R e w b ok v x
  mono := fun h k => Kd.R_mono k h
  move := fun h k => Kd.R_move k h
  bound := fun h => Kd.R_mono (Kd.R_bound h) (fun _ hk => ⟨hk.1, hk.2.1, hk.2.2.1⟩)
section
variable {α : Type} {d : Kd α} {e : Nat} {w0 W W1 : World} {c : Nat → Nat} {i : Nat} {xs ys : List α} {u u1 : Value}
theorem row_ready (h : (row e d).M W w0.heap.size (fun k => c k = i) xs u) : d.R e W w0.heap.size (fun k => mineOf c i w0 k ∨ W.heap.size ≤ k) u xs := Kd.R_mono (St.mine (s := row e d) h) (fun k hk => Or.inl hk)
theorem row_turned (h : (row e d).M W w0.heap.size (fun k => c k = i) xs u) (hO : d.R e W1 w0.heap.size (fun k => mineOf c i w0 k ∨ W.heap.size ≤ k) u1 ys) (hG : W.grownBy W1 u.ownBlock) (hs : w0.heap.size ≤ W.heap.size) :
    ∃ c', (row e d).M W1 w0.heap.size (fun k => c' k = i) ys u1 ∧ Turned c c' i w0 W W1 :=
  turned (s := row e d) hO ((Wrote.refl W _).grown hG (fun k hk => Or.inl ((show d.R e W w0.heap.size (mineOf c i w0) u xs from St.mine (s := row e d) h).1 k hk))) hs
/-- A row made anew takes a colour. -/
theorem row_new (c : Nat → Nat) (i : Nat) (hO : d.R e W1 w0.heap.size (fun k => W.heap.size ≤ k) u ys) (hb : Below W.heap.size W W1) (hs : w0.heap.size ≤ W.heap.size) :
    ∃ c', (row e d).M W1 w0.heap.size (fun k => c' k = i) ys u ∧ Turned c c' i w0 W W1 :=
  turned (s := row e d) (c := c) (i := i) (Kd.R_mono hO (fun k hk => Or.inr hk)) (Wrote.of_below hb _) hs
end
section
variable {k : IntKind} {e : Nat} {w : World} {b n c : Nat} {ok : Nat → Prop} {xs : List Int} {v : Value} {A : Option Addr}
theorem crow_of_R (h : (Kd.int k).R e w b ok v xs) : (crow k).M w b ok xs v := by
  obtain ⟨A, c, rfl⟩ := Kd.R_slice h
  obtain ⟨h1, h2, h3⟩ := Kd.R_reads' h
  exact ⟨A, c, rfl, h2, h3, fun a ha => by
    subst ha
    exact ⟨h.1 _ rfl, Kd.R_base h _ rfl, Kd.R_lt h _ rfl⟩⟩
theorem crow_nil (k : IntKind) (w : World) (b : Nat) (ok : Nat → Prop) : (crow k).M w b ok [] (.slice none 0 0) := ⟨none, 0, rfl, Nat.le_refl _, Kd.C_nil _ _, fun a ha => by cases ha⟩
theorem crow_take {m : Nat} (h : (crow k).M w b ok xs (.slice A n c)) (hm : m ≤ xs.length) : (crow k).M w b ok (xs.take m) (.slice A m c) := by
  obtain ⟨A', c', he, h2, h3, h4⟩ := h
  injection he with e1 e2 e3
  subst e1; subst e3
  have hl : (xs.take m).length = m := by rw [List.length_take]; omega
  exact ⟨A, c, by rw [hl], by omega, Kd.C_take h3 hm, h4⟩
theorem crow_drop {m : Nat} (h : (crow k).M w b ok xs (.slice A n c)) (hm : m ≤ xs.length) : (crow k).M w b ok (xs.drop m) (.slice (if c = m then A else A.map (·.add (m * 1))) (xs.length - m) (c - m)) := by
  obtain ⟨A', c', he, h2, h3, h4⟩ := h
  injection he with e1 e2 e3
  subst e1; subst e3
  have hl : (xs.drop m).length = xs.length - m := List.length_drop
  refine ⟨if c = m then A else A.map (·.add (m * 1)), c - m, by rw [hl], by omega, Kd.C_drop h3 hm h2, fun a ha => ?_⟩
  split at ha
  · exact h4 a ha
  · cases A with
    | none => cases ha
    | some a0 =>
      have hb : a = a0.add (m * 1) := by simpa using ha.symm
      rw [hb, add_block]
      exact h4 a0 rfl
theorem crow_reads (h : (crow k).M w b ok xs v) : ∃ A c, v = .slice A xs.length c ∧ xs.length ≤ c ∧ (Kd.int k).C w A xs.length xs := by
  obtain ⟨A, c, h1, h2, h3, _⟩ := h
  exact ⟨A, c, h1, h2, h3⟩
end
end Go.Proofs.Ytdmoembbgcoeaaa.St
