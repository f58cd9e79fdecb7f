/- Rank as it lies in memory: its block, the row of entries, the heap of Dues (no law is stated here; each says its conditions). -/
import Derived.Test.YtjeflmdfnfgacaaRankP
namespace Go.Proofs.Ytjeflmdfnfgacaa.Rank
open Go.RowKit Go.Proofs.YtjeflmdfnfgacaaW.PrintWords Go.Proofs.YtjeflmdfnfgacaaW.PrintLast Go.Proofs.YtjeflmdfnfgacaaW.PrintMore Go.Proofs.Ytjeflmdfnfgacaa.St Go.Proofs.Ytjeflmdfnfgacaa.Q Go.Proofs.Ytjeflmdfnfgacaa.Heap
set_option linter.unusedVariables false
set_option linter.unusedSimpArgs false

section
variable {w : World} {b : Nat} {ok : Nat → Prop} {m m' : List (Int × Int)} {gr : Bool} {rm : Int} {v : Value}
theorem hp_perm (h : hp.M w b ok (m, gr, rm) v) (hp' : m.Perm m') : hp.M w b ok (m', gr, rm) v := by
  obtain ⟨x, e1, e2, e3, e4, e5⟩ := h
  exact ⟨x, e1, e2, e3, e4.trans hp', e5⟩
theorem hput (id key : Int) (h : hp.M w b ok (m, gr, rm) v) (hw : (Lit.int .i64 id).wf = true) (hn : ∀ y ∈ m, y.1 ≠ id) (hr : (m.length : Int) < rm) (hr2 : m.length < 1024) :
    Calls Try.prog 24 #[v, .int .i64 id, .int .i64 key] w fun e w' => e = .returned (.int .i64 0) ∧ hp.M w' b (more w ok) (m ++ [(id, key)], gr, rm) v ∧ Wrote w w' ok := by
  obtain ⟨x, e1, e2, hO, hp1, hM⟩ := h
  have hl : x.l.length = m.length := hp1.length_eq
  refine (put_in id key hM hw hO (none_of hO (fun y hy => hn y (hp1.mem_iff.1 hy))) (by rw [e2]; show ¬ _ = rm; omega) (by omega)).mono ?_
  rintro e w' ⟨h1, ⟨x', g1, g2, g3, g4, g5⟩, h3⟩
  exact ⟨h1, ⟨x', g1.trans e1, g2.trans e2, g3, g4.trans (hp1.append_right _), g5⟩, h3⟩
theorem hdrop_miss (id : Int) (h : hp.M w b ok (m, gr, rm) v) (hw : (Lit.int .i64 id).wf = true) (hn : ∀ y ∈ m, y.1 ≠ id) :
    Calls Try.prog 22 #[v, .int .i64 id] w fun e w' => e = .returned (.bool false) ∧ w' = w := by
  obtain ⟨x, e1, e2, hO, hp1, hM⟩ := h
  exact drop_miss id hM hw (none_of hO (fun y hy => hn y (hp1.mem_iff.1 hy)))
theorem hdrop (id u : Int) (p q : List (Int × Int)) (h : hp.M w b ok (p ++ (id, u) :: q, gr, rm) v) (hw : (Lit.int .i64 id).wf = true) :
    Calls Try.prog 22 #[v, .int .i64 id] w fun e w' => e = .returned (.bool true) ∧ hp.M w' b (more w ok) (p ++ q, gr, rm) v ∧ Wrote w w' ok := by
  obtain ⟨x, e1, e2, hO, hp1, hM⟩ := h
  obtain ⟨j, hj, e⟩ := mem_at (hp1.mem_iff.2 (show (id, u) ∈ p ++ (id, u) :: q by simp))
  refine (drop_hit id hM hw hO j hj (by rw [e])).mono ?_
  rintro e0 w' ⟨h1, ⟨x', g1, g2, g3, g4, g5⟩, h3⟩
  rw [e] at g4
  exact ⟨h1, ⟨x', g1.trans e1, g2.trans e2, g3, (List.perm_cons _).1 (g4.trans (hp1.trans List.perm_middle)), g5⟩, h3⟩
theorem htop (z : Int × Int) (h : hp.M w b ok (m, gr, rm) v) (hz : FirstOf gr m z) :
    Calls Try.prog 25 #[v] w fun e w' => e = .returned (.tuple #[.agg #[.int .i64 z.1, .int .i64 z.2], .bool true]) ∧ Below w.heap.size w w' := by
  obtain ⟨x, e1, e2, hO, hp1, hM⟩ := h
  have e1 : x.great = gr := e1
  obtain ⟨h0, e⟩ := hO.top_is hp1 z hz.1 (by rw [e1]; exact hz.2)
  have := top_some hM h0
  rwa [e] at this
theorem htop_none (h : hp.M w b ok ([], gr, rm) v) :
    Calls Try.prog 25 #[v] w fun e w' => e = .returned (.tuple #[.agg #[.int .i64 0, .int .i64 0], .bool false]) ∧ Below w.heap.size w w' := by
  obtain ⟨x, e1, e2, hO, hp1, hM⟩ := h
  exact top_none hM hp1.length_eq
end
/-- What lies in memory: the row l, the mask m, the Dues q. -/
structure PAt (w : World) (b : Nat) (ok : Nat → Prop) (l : List Ent) (m : Nat) (q : List (Int × Int)) (g gl cap : Nat) (dv : Value) : Prop where
  okg : ok g
  lo : b ≤ g
  lt : g < w.heap.size
  okl : ok gl
  ne : gl ≠ g
  ltl : gl < w.heap.size
  blk : w.heap[g]? = some (.cells #[.slice (some ⟨gl, 0, none⟩) l.length cap, .int .u64 (m : Int), dv] 57 (0, 0))
  row : KE.R 29 w b (fun k => ok k ∧ k ≠ g) (.slice (some ⟨gl, 0, none⟩) l.length cap) l
  hp : hp.M w b (fun k => ok k ∧ k ≠ g ∧ k ≠ gl) (q, true, 64) dv
  n1 : 1 ≤ l.length
  n64 : l.length ≤ 64
section
variable {w w1 : World} {b : Nat} {ok ok1 : Nat → Prop} {l : List Ent} {m : Nat} {q q' : List (Int × Int)} {g gl cap : Nat} {dv : Value}
theorem PAt.mono (h : PAt w b ok l m q g gl cap dv) (hok : ∀ k, ok k → ok1 k) : PAt w b ok1 l m q g gl cap dv :=
  ⟨hok _ h.okg, h.lo, h.lt, hok _ h.okl, h.ne, h.ltl, h.blk, Kd.R_mono h.row (fun k hk => ⟨hok k hk.1, hk.2⟩), Heap.hp.mono (fun k hk => ⟨hok k hk.1, hk.2⟩) h.hp, h.n1, h.n64⟩
theorem PAt.move (h : PAt w b ok l m q g gl cap dv) (hb : ∀ k, ok k → w1.heap[k]? = w.heap[k]?) : PAt w1 b ok l m q g gl cap dv :=
  ⟨h.okg, h.lo, blk_lt ((hb g h.okg).trans h.blk), h.okl, h.ne, size_same (hb gl h.okl) h.ltl, (hb g h.okg).trans h.blk, Kd.R_move h.row (fun k hk => hb k hk.1), Heap.hp.move (fun k hk => hb k hk.1) h.hp, h.n1, h.n64⟩
theorem PAt.bound (h : PAt w b ok l m q g gl cap dv) : PAt w b (fun k => ok k ∧ b ≤ k ∧ k < w.heap.size) l m q g gl cap dv :=
  ⟨⟨h.okg, h.lo, h.lt⟩, h.lo, h.lt, ⟨h.okl, Kd.R_base h.row gl rfl, h.ltl⟩, h.ne, h.ltl, h.blk, Kd.R_mono (Kd.R_bound h.row) (fun k hk => ⟨⟨hk.1.1, hk.2.1, hk.2.2.1⟩, hk.1.2⟩), Heap.hp.mono (fun k hk => ⟨⟨hk.1.1, hk.2.1, hk.2.2⟩, hk.1.2⟩) (Heap.hp.bound h.hp), h.n1, h.n64⟩
/-- More blocks are made: it stands. -/
theorem PAt.far (h : PAt w b ok l m q g gl cap dv) (hb : Below w.heap.size w w1) : PAt w1 b (more w ok) l m q g gl cap dv :=
  (h.bound.move (fun k hk => hb.block k hk.2.2)).mono (fun k hk => Or.inl hk.1)
theorem PAt.below (h : PAt w b ok l m q g gl cap dv) (hb : Below w.heap.size w w1) : PAt w1 b ok l m q g gl cap dv :=
  (h.bound.move (fun k hk => hb.block k hk.2.2)).mono (fun k hk => hk.1)
theorem PAt.c0 (h : PAt w b ok l m q g gl cap dv) : w.cell? ⟨g, 0, none⟩ = some (.slice (some ⟨gl, 0, none⟩) l.length cap) := blk_cell h.blk 0
theorem PAt.c1 (h : PAt w b ok l m q g gl cap dv) : w.cell? ⟨g, 1, none⟩ = some (.int .u64 (m : Int)) := blk_cell h.blk 1
theorem PAt.c2 (h : PAt w b ok l m q g gl cap dv) : w.cell? ⟨g, 2, none⟩ = some dv := blk_cell h.blk 2
theorem PAt.f1 (h : PAt w b ok l m q g gl cap dv) : w.frozen? ⟨g, 1, none⟩ = false := blk_frozen h.blk 1
/-- The mask is written. -/
theorem PAt.setM (h : PAt w b ok l m q g gl cap dv) (m' : Nat) : PAt (w.setCell ⟨g, 1, none⟩ (.int .u64 (m' : Int))) b ok l m' q g gl cap dv := by
  have h9 := blk_put h.blk 1 (.int .u64 (m' : Int)) (cs' := #[.slice (some ⟨gl, 0, none⟩) l.length cap, .int .u64 (m' : Int), dv]) rfl
  exact ⟨h.okg, h.lo, blk_lt h9, h.okl, h.ne, by simp [World.setCell]; exact h.ltl, h9, Kd.R_mono (Kd.R_move (Kd.R_bound h.row) (fun k hk => Below.heap_setCell _ _ _ k hk.1.2)) (fun k hk => hk.1), Heap.hp.mono (fun k hk => hk.1) (Heap.hp.move (fun k hk => Below.heap_setCell _ _ _ k hk.1.2.1) (Heap.hp.bound h.hp)), h.n1, h.n64⟩
/-- An entry is written. -/
theorem PAt.putE (h : PAt w b ok l m q g gl cap dv) {j : Nat} (hj : j < l.length) (x : Ent) :
    PAt (((w.setCell ⟨gl, j * 3, none⟩ (.int .i64 x.1)).setCell ⟨gl, j * 3 + 1, none⟩ (.int .i64 x.2.1)).setCell ⟨gl, j * 3 + 2, none⟩ (.bool x.2.2)) b ok (l.set j x) m q g gl cap dv := by
  have hE := ent_put h.row hj x
  have e : ∀ k, k ≠ gl → (((w.setCell ⟨gl, j * 3, none⟩ (.int .i64 x.1)).setCell ⟨gl, j * 3 + 1, none⟩ (.int .i64 x.2.1)).setCell ⟨gl, j * 3 + 2, none⟩ (.bool x.2.2)).heap[k]? = w.heap[k]? := fun k hk => by
    rw [Below.heap_setCell _ _ _ k hk, Below.heap_setCell _ _ _ k hk, Below.heap_setCell _ _ _ k hk]
  have hg := (e g (fun hh => h.ne hh.symm)).trans h.blk
  refine ⟨h.okg, h.lo, blk_lt hg, h.okl, h.ne, by simp [World.setCell]; exact h.ltl, by rw [List.length_set]; exact hg, by rw [List.length_set]; exact hE, Heap.hp.move (fun k hk => e k hk.2.2) h.hp, by rw [List.length_set]; exact h.n1, by rw [List.length_set]; exact h.n64⟩
/-- The heap behind it has turned. -/
theorem PAt.turnH (h : PAt w b ok l m q g gl cap dv) (hH : Heap.hp.M w1 b (more w (fun k => ok k ∧ k ≠ g ∧ k ≠ gl)) (q', true, 64) dv) (hW : Wrote w w1 (fun k => ok k ∧ k ≠ g ∧ k ≠ gl)) : PAt w1 b (more w ok) l m q' g gl cap dv ∧ Wrote w w1 ok := by
  have hg := (hW.block g h.lt (fun hk => hk.2.1 rfl)).trans h.blk
  refine ⟨⟨Or.inl h.okg, h.lo, blk_lt hg, Or.inl h.okl, h.ne, Nat.lt_of_lt_of_le h.ltl hW.size, hg, ?_, ?_, h.n1, h.n64⟩, hW.weaken (fun k hk => hk.1)⟩
  · have h2 : (St.row 29 KE).M w b (fun k => k = gl) l (.slice (some ⟨gl, 0, none⟩) l.length cap) :=
      ⟨fun k hk => by cases hk; rfl, h.row.2.imp_ (fun _ _ hp => by rw [ke_open hp]; exact ke_mk _ _ _ _)⟩
    exact Kd.R_mono (St.stays (s := St.row 29 KE) h2 hW (fun k hk hn => hn.2.2 hk)) (fun k hk => by rw [hk]; exact ⟨Or.inl h.okl, h.ne⟩)
  · refine Heap.hp.mono (fun k hk => ?_) hH
    rcases hk with hk | hk
    · exact ⟨Or.inl hk.1, hk.2⟩
    · exact ⟨Or.inr hk, fun e => by have := h.lt; omega, fun e => by have := h.ltl; omega⟩
theorem PAt.perm (h : PAt w b ok l m q g gl cap dv) (hq : q.Perm q') : PAt w b ok l m q' g gl cap dv :=
  ⟨h.okg, h.lo, h.lt, h.okl, h.ne, h.ltl, h.blk, h.row, hp_perm h.hp hq, h.n1, h.n64⟩
end
/-- Who runs on each CPU. -/
def rank : St (List (Option Ent)) where
  M := fun w b ok s v => ∃ g gl cap m dv, v = .pointer (some ⟨g, 0, none⟩) ∧ PAt w b ok (ents s) m (dues 0 s) g gl cap dv ∧ IdleIs m s
  mono := fun h ⟨g, gl, cap, m, dv, e, h1, h2⟩ => ⟨g, gl, cap, m, dv, e, h1.mono h, h2⟩
  move := fun h ⟨g, gl, cap, m, dv, e, h1, h2⟩ => ⟨g, gl, cap, m, dv, e, h1.move h, h2⟩
  bound := fun ⟨g, gl, cap, m, dv, e, h1, h2⟩ => ⟨g, gl, cap, m, dv, e, h1.bound, h2⟩
end Go.Proofs.Ytjeflmdfnfgacaa.Rank
