/- One fifo alone: what its methods turn, above a law's first block (no law is stated here; each says its conditions). -/
import Derived.Test.YtmjmfkbdnhdafaaFifo3
namespace Go.Proofs.Ytmjmfkbdnhdafaa.Fifo
open Go.RowKit Go.Proofs.YtmjmfkbdnhdafaaW.PrintWords Go.Proofs.YtmjmfkbdnhdafaaW.PrintLast Go.Proofs.YtmjmfkbdnhdafaaW.PrintMore Go.Proofs.Ytmjmfkbdnhdafaa.St Go.Proofs.Ytmjmfkbdnhdafaa.Q
set_option linter.unusedVariables false
set_option linter.unusedSimpArgs false
attribute [local go_sem] max2_int min2_int max_two min_two max_three min_three max_four min_four


/-- One fifo, of the law's own. -/
structure Own (w0 W : World) (room : Int) (l : List Int) (v : Value) : Prop where
  st : fifo.M W w0.heap.size (fun k => w0.heap.size ≤ k) (room, l) v
  far : Below w0.heap.size w0 W
section
variable {w0 W : World} {room : Int} {l : List Int} {v : Value}
theorem Own.len_le (h : Own w0 W room l v) : (l.length : Int) ≤ room := by obtain ⟨⟨g, sv, _, hA⟩, _⟩ := h; exact hA.2.2.2.2.2.2.2
theorem Own.drewN (h : Own w0 W room l v) (n : Nat) : Own w0 (W.drewN n) room l v := ⟨fifo_drewN h.st n, pw_below_drewN h.far n⟩
theorem Own.below {W1 : World} (h : Own w0 W room l v) (hb : Below W.heap.size W W1) : Own w0 W1 room l v :=
  ⟨fifo.mono (fun _ hk => hk.1) (fifo.move (fun k hk => hb.block k hk.2.2) (fifo.bound h.st)), h.far.trans (hb.mono h.far.size)⟩
theorem Own.wrote {W1 : World} {l1 : List Int} (h : Own w0 W room l v) (h1 : fifo.M W1 w0.heap.size (more W (fun k => w0.heap.size ≤ k)) (room, l1) v) (hw : Wrote W W1 (fun k => w0.heap.size ≤ k)) : Own w0 W1 room l1 v :=
  ⟨fifo.mono (fun k hk => hk.elim id (fun h2 => Nat.le_trans h.far.size h2)) h1, hw.below h.far (fun _ hk => hk)⟩
theorem put1 (x : Int) (h : Own w0 W room l v) : Calls Try.prog 18 #[v, .int .i64 x] W fun e w' => e = .returned (.bool (decide ((l.length : Int) ≠ room))) ∧ Own w0 w' room (putl room l x) v :=
  (put_calls x h.st).mono fun e w' ⟨he, hM, hW⟩ => ⟨he, h.wrote hM hW⟩
theorem turn1 (h : Own w0 W room l v) : Calls Try.prog 23 #[v] W fun e w' => e = .returned (.bool (some_ l)) ∧ Own w0 w' room (rot l) v :=
  (turn_calls h.st).mono fun e w' ⟨he, hM, hW⟩ => ⟨he, h.wrote hM hW⟩
theorem get1 (h : Own w0 W room l v) : Calls Try.prog 29 #[v] W fun e w' => e = .returned (.tuple #[.int .i64 (front l), .bool (some_ l)]) ∧ Own w0 w' room l.tail v :=
  (get_calls h.st).mono fun e w' ⟨he, hM, hW⟩ => ⟨he, h.wrote (fifo.mono (fun _ hk => Or.inl hk) hM) hW⟩
theorem drop1 (x : Int) (h : Own w0 W room l v) : Calls Try.prog 22 #[v, .int .i64 x] W fun e w' => e = .returned (.bool (decide (x ∈ l))) ∧ Own w0 w' room (l.erase x) v :=
  (drop_calls x h.st).mono fun e w' ⟨he, hM, hW⟩ => ⟨he, h.wrote (fifo.mono (fun _ hk => Or.inl hk) hM) hW⟩
theorem place1 (x : Int) (h : Own w0 W room l v) : Calls Try.prog 17 #[v, .int .i64 x] W fun e w' => e = .returned (.int .i64 (placeOf l x)) ∧ Own w0 w' room l v ∧ ∃ nd, w' = W.drewN nd :=
  (place_calls x h.st).mono fun e w' ⟨he, nd, hw⟩ => ⟨he, hw ▸ h.drewN nd, nd, hw⟩
theorem all1 (h : Own w0 W room l v) : Calls Try.prog 19 #[v] W fun e w' => ∃ v1, e = .returned v1 ∧ (Kd.int .i64).R 3 w' W.heap.size (fun k => W.heap.size ≤ k) v1 l ∧ Own w0 w' room l v ∧ Below W.heap.size W w' :=
  (all_calls h.st).mono fun e w' ⟨v1, he, hR, hb⟩ => ⟨v1, he, hR, h.below hb, hb⟩
theorem new1 (n : Int) (hB : Below w0.heap.size w0 W) : Calls Try.prog 16 #[.int .i64 n] W fun e w' => ∃ g : Nat, e = .returned (.pointer (some ⟨g, 0, none⟩)) ∧ Own w0 w' (clamp n) [] (.pointer (some ⟨g, 0, none⟩)) :=
  (new_calls n W).mono fun e w' ⟨g, he, hM, hb⟩ => ⟨g, he, ⟨by
    obtain ⟨g1, sv, e1, h1, h2, h3, h4, h5, h6⟩ := fifo.mono (ok' := fun k => w0.heap.size ≤ k) (fun k hk => Nat.le_trans hB.size hk) hM
    exact ⟨g1, sv, e1, h1, h1, h3, h4, Kd.R_lower h5 hB.size, h6⟩, hB.trans (hb.mono hB.size)⟩⟩
end
end Go.Proofs.Ytmjmfkbdnhdafaa.Fifo
