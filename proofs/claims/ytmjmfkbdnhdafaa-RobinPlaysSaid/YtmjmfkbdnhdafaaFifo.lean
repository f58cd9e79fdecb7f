/- The row of numbers behind a pointer (fifo): what it holds, and what each of its methods turns (no law is stated here; each says its conditions). -/
import Derived.Test.YtmjmfkbdnhdafaaSt
import Derived.Test.YtmjmfkbdnhdafaaQx3
import Derived.Test.YtmjmfkbdnhdafaaQx8
namespace Go.Proofs.Ytmjmfkbdnhdafaa.Fifo
open Go.RowKit Go.Proofs.YtmjmfkbdnhdafaaW.PrintWords Go.Proofs.YtmjmfkbdnhdafaaW.PrintLast Go.Proofs.YtmjmfkbdnhdafaaW.PrintMore Go.Proofs.Ytmjmfkbdnhdafaa.St Go.Proofs.Ytmjmfkbdnhdafaa.Q
set_option linter.unusedVariables false
set_option linter.unusedSimpArgs false
attribute [local go_sem] max2_int min2_int max_two min_two max_three min_three max_four min_four

theorem info_int : (Try.prog.info? 3).map (fun i => (i.zero, i.size, i.bytes)) = some (some (.int .i64 0), 1, 8) := by kernel_rfl
theorem info_size : (Try.prog.info? 3).map (·.size) = some 1 := by kernel_rfl

/-- What a fifo's block holds. -/
def At (w : World) (b : Nat) (ok : Nat → Prop) (x : Int × List Int) (g : Nat) (sv : Value) : Prop :=
  ok g ∧ b ≤ g ∧ g < w.heap.size ∧ w.heap[g]? = some (.cells #[.int .i64 x.1, sv] 50 (0, 0)) ∧ (Kd.int .i64).R 3 w b (fun k => ok k ∧ k ≠ g) sv x.2 ∧ 1 ≤ x.1 ∧ x.1 ≤ 256 ∧ (x.2.length : Int) ≤ x.1
def fifo : St (Int × List Int) where
  M := fun w b ok x v => ∃ g sv, v = .pointer (some ⟨g, 0, none⟩) ∧ At w b ok x g sv
  mono := fun h ⟨g, sv, e, h1, h2, h3, h4, h5, h6⟩ => ⟨g, sv, e, h _ h1, h2, h3, h4, Kd.R_mono h5 (fun k hk => ⟨h k hk.1, hk.2⟩), h6⟩
  move := fun h ⟨g, sv, e, h1, h2, h3, h4, h5, h6⟩ => ⟨g, sv, e, h1, h2, blk_lt ((h g h1).trans h4), (h g h1).trans h4, Kd.R_move h5 (fun k hk => h k hk.1), h6⟩
  bound := fun ⟨g, sv, e, h1, h2, h3, h4, h5, h6⟩ => ⟨g, sv, e, ⟨h1, h2, h3⟩, h2, h3, h4, Kd.R_mono (Kd.R_bound h5) (fun k hk => ⟨⟨hk.1.1, hk.2.1, hk.2.2.1⟩, hk.1.2⟩), h6⟩

section
variable {w : World} {b : Nat} {ok : Nat → Prop} {room : Int} {l : List Int} {v : Value} {g : Nat} {sv : Value}
theorem At.c0 (h : At w b ok (room, l) g sv) : w.cell? ⟨g, 0, none⟩ = some (.int .i64 room) := blk_cell h.2.2.2.1 0
theorem At.c1 (h : At w b ok (room, l) g sv) : w.cell? ⟨g, 1, none⟩ = some sv := blk_cell h.2.2.2.1 1
theorem At.f1 (h : At w b ok (room, l) g sv) : w.frozen? ⟨g, 1, none⟩ = false := blk_frozen h.2.2.2.1 1
theorem At.c1' {w1 : World} (h : At w b ok (room, l) g sv) (e : w1.heap[g]? = w.heap[g]?) : w1.cell? ⟨g, 1, none⟩ = some sv := blk_cell (e.trans h.2.2.2.1) 1
theorem At.f1' {w1 : World} (h : At w b ok (room, l) g sv) (e : w1.heap[g]? = w.heap[g]?) : w1.frozen? ⟨g, 1, none⟩ = false := blk_frozen (e.trans h.2.2.2.1) 1
theorem At.row (h : At w b ok (room, l) g sv) : (Kd.int .i64).R 3 w b (fun k => ok k ∧ k ≠ g) sv l := h.2.2.2.2.1
theorem At.len (h : At w b ok (room, l) g sv) : l.length ≤ 256 := by have := h.2.2.2.2.2; simp only at this; omega
theorem At.put {w1 : World} {sv1 : Value} {l1 : List Int} {ok1 : Nat → Prop} (h : At w b ok (room, l) g sv) (hok : ∀ k, ok k → ok1 k) (hb : w1.heap[g]? = w.heap[g]?) (hr : (Kd.int .i64).R 3 w1 b (fun k => ok1 k ∧ k ≠ g) sv1 l1) (hl : (l1.length : Int) ≤ room) :
    fifo.M (w1.setCell ⟨g, 1, none⟩ sv1) b ok1 (room, l1) (.pointer (some ⟨g, 0, none⟩)) := by
  obtain ⟨h1, h2, h3, h4, h5, h6, h7, h8⟩ := h
  have h9 := blk_put (hb.trans h4) 1 sv1 (cs' := #[.int .i64 room, sv1]) rfl
  exact ⟨g, sv1, rfl, hok _ h1, h2, blk_lt h9, h9, Kd.R_far hr (fun k hk => hk.2) _, h6, h7, hl⟩
end
end Go.Proofs.Ytmjmfkbdnhdafaa.Fifo
