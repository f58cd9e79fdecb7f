/- Steps that make rows or append to them, told over coloured states: at a plain list of operations, and in a region that draws its order (no law is stated here; each says its conditions). -/
import Derived.Test.YtdmoembbgcoeaaaSt
import Derived.Test.YtdmoembbgcoeaaaMine
namespace Go.Proofs.Ytdmoembbgcoeaaa.St
open Go.RowKit Go.Proofs.YtdmoembbgcoeaaaW.PrintWords Go.Proofs.YtdmoembbgcoeaaaW.PrintLast
set_option linter.unusedVariables false
/-- The block of this number in a function's text. -/
def subBlock (n : Nat) : Code → Option Code
  | .block k c => if k == n then some (.block k c) else subBlock n c
  | .seq a b => match subBlock n a with
    | some c => some c
    | none => subBlock n b
  | .loop c => subBlock n c
  | .scope c => subBlock n c
  | .cond _ a b => match subBlock n a with
    | some c => some c
    | none => subBlock n b
  | _ => none
section
variable {P : Program} {ops : Array Oper} {o : Oper} {a : Act} {Q : Exit → Act → World → Prop} {rest : List Oper} {Kc : Act → World → Prop} {α : Type} {e : Nat} {w0 W : World} {c : Nat → Nat}

/-- A row written out: it takes colour i. -/
theorem lit_list (d : Kd α) (i : Nat) (hgd : o.guard = none) {N : Tmp} (hd : o.dst = some N) (xs : List α) (inner : List Value)
    (hrun : (execOp a.eval o).run P W = .ok (.value (.slice (some ⟨W.heap.size, 0, none⟩) xs.length xs.length)) (W.alloc (.cells inner.toArray e)))
    (hrep : Reps (d.M W W.heap.size (fun _ => False)) d.sz xs inner) (hs : w0.heap.size ≤ W.heap.size) (hm : xs.length ≤ 9223372036854775807)
    (h : ∀ v1 w1 c1, (row e d).M w1 w0.heap.size (fun k => c1 k = i) xs v1 → Turned c c1 i w0 W w1 → wpList P ops Q rest (a.put o.dst v1) w1) : wpList P ops Q (o :: rest) a W := by
  refine Kd.R_lit d (w0 := W) W.heap.size e hgd hd (ok := fun k => W.heap.size ≤ k) (okp := fun _ => False) hrun hrep (fun _ h => h.elim) (Nat.le_refl _) (Below.refl _ _) (Nat.le_refl _) hm ?_
  intro v1 w1 hR hB _ _
  obtain ⟨c1, h1, h2⟩ := row_new (w0 := w0) c i (Kd.R_lower hR hs) hB hs
  exact h _ _ _ h1 h2
theorem lit_step (d : Kd α) (i : Nat) (hw : Region.wanted o (yielded ops a.tmps) = true) {N : Tmp} (hd : o.dst = some N) (xs : List α) (inner : List Value)
    (hrun : (execOp a.eval o).run P W = .ok (.value (.slice (some ⟨W.heap.size, 0, none⟩) xs.length xs.length)) (W.alloc (.cells inner.toArray e)))
    (hrep : Reps (d.M W W.heap.size (fun _ => False)) d.sz xs inner) (hs : w0.heap.size ≤ W.heap.size) (hm : xs.length ≤ 9223372036854775807)
    (h : ∀ v1 w1 c1, (row e d).M w1 w0.heap.size (fun k => c1 k = i) xs v1 → Turned c c1 i w0 W w1 → Kc (a.put o.dst v1) w1) : if Region.wanted o (yielded ops a.tmps) = true then Oper.wp P o a W Kc Q else Kc (a.put o.dst undef) W := by
  refine Kd.R_lit_step d (w0 := W) W.heap.size e hw hd (ok := fun k => W.heap.size ≤ k) (okp := fun _ => False) hrun hrep (fun _ h => h.elim) (Nat.le_refl _) (Below.refl _ _) (Nat.le_refl _) hm ?_
  intro v1 w1 hR hB _ _
  obtain ⟨c1, h1, h2⟩ := row_new (w0 := w0) c i (Kd.R_lower hR hs) hB hs
  exact h _ _ _ h1 h2

theorem reps_nums (k : IntKind) (w : World) (b : Nat) (ok : Nat → Prop) (xs : List Int) : Reps ((Kd.int k).M w b ok) (Kd.int k).sz xs (nums k xs) := by
  refine ⟨by simp [nums, show (Kd.int k).sz = 1 from rfl], fun i p hp => ?_⟩
  obtain ⟨hl, rfl⟩ := List.getElem?_eq_some_iff.1 hp
  show ((nums k xs).drop (i * 1)).take 1 = [.int k _]
  rw [Nat.mul_one]
  have hl' : i < (nums k xs).length := by simpa [nums] using hl
  rw [List.drop_eq_getElem_cons hl', List.take_succ_cons, List.take_zero]
  exact congrArg (fun v => [v]) (List.getElem_map _)
/-- Cells of a kind without rows inside are as_ held as they are read. -/
def Flat (d : Kd α) : Prop := ∀ (w : World) (b : Nat) (x : α) (cs : List Value), d.K w x cs → d.M w b (fun _ => False) x cs
theorem flat_int (k : IntKind) : Flat (Kd.int k) := fun _ _ _ _ h => h
theorem flat_bool : Flat Kd.bool := fun _ _ _ _ h => h

/-- A row of colour i, another row appended to it. -/
theorem app_list {d : Kd α} {i : Nat} (hgd : o.guard = none) (s x : Operand) (t : TypeId) (z : Value) (bytes : Nat)
    (ho : o.op = .call { callee := .builtin .append, args := #[s, x], argTypes := #[t, t] })
    (ht : P.underlying t = some (.slice e)) (hinfo : (P.info? e).map (fun i => (i.zero, i.size, i.bytes)) = some (some z, d.sz, bytes)) (hz : z.cells.size = d.sz) (hs0 : 0 < d.sz) (hb0 : 0 < bytes) (hf : Flat d)
    (v : Value) (xs ys : List α) (A : Option Addr) (m k : Nat) (hs : a.eval s = v) (hx : a.eval x = .slice A m k)
    (HO : (row e d).M W w0.heap.size (fun k => c k = i) xs v) (HR : d.C W A m ys) (hb : w0.heap.size ≤ W.heap.size) (hl : (xs.length + m) * bytes ≤ 140737488355328)
    (h : ∀ v1 w1 c1, (row e d).M w1 w0.heap.size (fun k => c1 k = i) (xs ++ ys) v1 → Turned c c1 i w0 W w1 → wpList P ops Q rest (a.put o.dst v1) w1) : wpList P ops Q (o :: rest) a W := by
  refine Kd.R_append_rows d (w0 := W) w0.heap.size hgd s x t e z bytes ho ht hinfo hz hs0 hb0 v xs ys A m k (fun k => mineOf c i w0 k ∨ W.heap.size ≤ k) (fun _ => False) hs hx (row_ready HO) HR (fun y cs hy => hf W _ y cs hy) (fun _ h => h.elim) (fun _ hk => Or.inr hk) (Below.refl _ _) hb hl ?_
  intro v1 w1 hR hB hG _
  obtain ⟨c1, h1, h2⟩ := row_turned HO hR hG hb
  exact h _ _ _ h1 h2
theorem app_step {d : Kd α} {i : Nat} (hw : Region.wanted o (yielded ops a.tmps) = true) (s x : Operand) (t : TypeId) (z : Value) (bytes : Nat)
    (ho : o.op = .call { callee := .builtin .append, args := #[s, x], argTypes := #[t, t] })
    (ht : P.underlying t = some (.slice e)) (hinfo : (P.info? e).map (fun i => (i.zero, i.size, i.bytes)) = some (some z, d.sz, bytes)) (hz : z.cells.size = d.sz) (hs0 : 0 < d.sz) (hb0 : 0 < bytes) (hf : Flat d)
    (v : Value) (xs ys : List α) (A : Option Addr) (m k : Nat) (hs : a.eval s = v) (hx : a.eval x = .slice A m k)
    (HO : (row e d).M W w0.heap.size (fun k => c k = i) xs v) (HR : d.C W A m ys) (hb : w0.heap.size ≤ W.heap.size) (hl : (xs.length + m) * bytes ≤ 140737488355328)
    (h : ∀ v1 w1 c1, (row e d).M w1 w0.heap.size (fun k => c1 k = i) (xs ++ ys) v1 → Turned c c1 i w0 W w1 → Kc (a.put o.dst v1) w1) : if Region.wanted o (yielded ops a.tmps) = true then Oper.wp P o a W Kc Q else Kc (a.put o.dst undef) W := by
  refine Kd.R_append_rows_step d (w0 := W) w0.heap.size hw s x t e z bytes ho ht hinfo hz hs0 hb0 v xs ys A m k (fun k => mineOf c i w0 k ∨ W.heap.size ≤ k) (fun _ => False) hs hx (row_ready HO) HR (fun y cs hy => hf W _ y cs hy) (fun _ h => h.elim) (fun _ hk => Or.inr hk) (Below.refl _ _) hb hl ?_
  intro v1 w1 hR hB hG _
  obtain ⟨c1, h1, h2⟩ := row_turned HO hR hG hb
  exact h _ _ _ h1 h2
/-- A row that is held is read, whatever its elements. -/
theorem row_reads {d : Kd α} {w : World} {b : Nat} {ok : Nat → Prop} {xs : List α} {v : Value} (h : (row e d).M w b ok xs v) : ∃ A k, v = .slice A xs.length k ∧ xs.length ≤ k ∧ d.C w A xs.length xs := by
  obtain ⟨A, k, rfl⟩ := Kd.R_slice h
  obtain ⟨h1, h2, h3⟩ := Kd.R_reads' h
  exact ⟨A, k, rfl, h2, h3⟩
end
section
variable {P : Program} {k : IntKind} {w : World} {b : Nat} {ok : Nat → Prop} {xs : List Int}
/-- 'xs[m:]' of a row that is only read: the walk's own equation, and what the new slice holds. -/
theorem crow_from (t e : TypeId) {i : TypeInfo} (ht : P.underlying t = some (.slice e)) (hi : P.info? e = some i) (hsz : i.size = 1) (A : Option Addr) (c m : Nat) (xs : List Int) (hm : m ≤ xs.length) :
    ∃ A', (∀ W : World, (Instr.slice t (.slice A xs.length c) (some (.int .i64 (m : Int))) none none).run P W = .ok (.slice A' (xs.length - m) (c - m)) W) ∧
      (∀ (w : World) (b : Nat) (ok : Nat → Prop), (crow k).M w b ok xs (.slice A xs.length c) → (crow k).M w b ok (xs.drop m) (.slice A' (xs.length - m) (c - m))) ∧
      (∀ w : World, xs.length ≤ c → (Kd.int k).C w A xs.length xs → (Kd.int k).C w A' (xs.length - m) (xs.drop m)) := by
  refine ⟨if c = m then A else A.map (·.add (m * 1)), fun W => ?_, fun w b ok h => crow_drop h hm, fun w hc h => ?_⟩
  · have h := cut_from t e .i64 ht hi 1 hsz A xs.length c (m : Int) (by omega) (by omega) W
    rwa [Int.toNat_natCast] at h
  · have h2 := Kd.C_drop h hm hc
    rwa [List.length_drop] at h2
/-- 'xs[:m]' of a row that is only read. -/
theorem crow_to (t e : TypeId) {i : TypeInfo} (ht : P.underlying t = some (.slice e)) (hi : P.info? e = some i) (A : Option Addr) (c m : Nat) (xs : List Int) (hm : m ≤ xs.length) (hc : xs.length ≤ c) :
    (∀ W : World, (Instr.slice t (.slice A xs.length c) none (some (.int .i64 (m : Int))) none).run P W = .ok (.slice A m c) W) ∧
      (∀ (w : World) (b : Nat) (ok : Nat → Prop), (crow k).M w b ok xs (.slice A xs.length c) → (crow k).M w b ok (xs.take m) (.slice A m c)) ∧
      (∀ w : World, (Kd.int k).C w A xs.length xs → (Kd.int k).C w A m (xs.take m)) := by
  refine ⟨fun W => ?_, fun w b ok h => crow_take h hm, fun w h => ?_⟩
  · have h := cut_to t e .i64 ht hi A xs.length c (m : Int) (by omega) (by omega) hc W
    rwa [Int.toNat_natCast] at h
  · have h2 := Kd.C_take h hm
    rwa [List.length_take, Nat.min_eq_left hm] at h2
end
section
variable {k : IntKind} {w : World} {b : Nat} {ok : Nat → Prop} {xs : List Int} {A : Option Addr} {n c : Nat}
theorem crow_C (h : (crow k).M w b ok xs (.slice A n c)) : (Kd.int k).C w A xs.length xs := by
  obtain ⟨A', c', he, _, h3⟩ := crow_reads h
  injection he with e1 _ _
  rw [e1]
  exact h3
theorem crow_le (h : (crow k).M w b ok xs (.slice A n c)) : xs.length ≤ c := by
  obtain ⟨A', c', he, h2, _⟩ := crow_reads h
  injection he with _ _ e3
  rw [e3]
  exact h2
theorem crow_cell {a : Addr} (h : (crow k).M w b ok xs (.slice (some a) n c)) {j : Nat} (hj : j < xs.length) : w.cell? (a.add j) = some (.int k (xs.getD j 0)) := by
  obtain ⟨ad, e, hc⟩ := Mine.read_at (crow_C h) hj
  cases e
  exact hc
theorem crow_cell0 {a : Addr} (h : (crow k).M w b ok xs (.slice (some a) n c)) (hj : 0 < xs.length) : w.cell? a = some (.int k (xs.getD 0 0)) := by
  have := crow_cell h hj
  rwa [Addr.add_zero'] at this
theorem row_C {α : Type} {d : Kd α} {e : Nat} {ys : List α} (h : (row e d).M w b ok ys (.slice A n c)) : d.C w A ys.length ys := by
  obtain ⟨A', c', he, _, h3⟩ := row_reads h
  injection he with e1 _ _
  rw [e1]
  exact h3
theorem row_le {α : Type} {d : Kd α} {e : Nat} {ys : List α} (h : (row e d).M w b ok ys (.slice A n c)) : ys.length ≤ c := by
  obtain ⟨A', c', he, h2, _⟩ := row_reads h
  injection he with _ _ e3
  rw [e3]
  exact h2
end
/-- Colours named anew. -/
theorem recol {α : Type} (s : St α) {w : World} {b : Nat} {c c' : Nat → Nat} {i i' : Nat} {x : α} {v : Value} (h : s.M w b (fun k => c k = i) x v) (hc : ∀ k, c k = i → c' k = i') : s.M w b (fun k => c' k = i') x v := s.mono hc h
end Go.Proofs.Ytdmoembbgcoeaaa.St
