/- A fifo beside others: what its methods turn, by colours (no law is stated here; each says its conditions). -/
import Derived.Test.YtmjmfkbdnhdafaaFifo4
namespace Go.Proofs.Ytmjmfkbdnhdafaa.Fifo
open Go.RowKit Go.Proofs.YtmjmfkbdnhdafaaW.PrintWords Go.Proofs.YtmjmfkbdnhdafaaW.PrintLast Go.Proofs.YtmjmfkbdnhdafaaW.PrintMore Go.Proofs.Ytmjmfkbdnhdafaa.St Go.Proofs.Ytmjmfkbdnhdafaa.Q
set_option linter.unusedVariables false
set_option linter.unusedSimpArgs false
attribute [local go_sem] max2_int min2_int max_two min_two max_three min_three max_four min_four



section
variable {w0 W : World} {c : Nat → Nat} {i : Nat} {room : Int} {l : List Int} {v : Value}
theorem fifo_size (h : fifo.M W w0.heap.size (fun k => c k = i) (room, l) v) : w0.heap.size ≤ W.heap.size := by
  obtain ⟨g, sv, _, _, h2, h3, _⟩ := h
  omega
theorem fifo_len {b : Nat} {ok : Nat → Prop} (h : fifo.M W b ok (room, l) v) : (l.length : Int) ≤ room ∧ l.length ≤ 256 := by
  obtain ⟨g, sv, _, hA⟩ := h
  exact ⟨hA.2.2.2.2.2.2.2, hA.len⟩
theorem putC (x : Int) (h : fifo.M W w0.heap.size (fun k => c k = i) (room, l) v) : Calls Try.prog 18 #[v, .int .i64 x] W fun e w' => e = .returned (.bool (decide ((l.length : Int) ≠ room))) ∧ ∃ c', fifo.M w' w0.heap.size (fun k => c' k = i) (room, putl room l x) v ∧ Turned c c' i w0 W w' :=
  (put_calls x (St.mine h)).mono fun e w' ⟨he, hM, hW⟩ => ⟨he, turned hM hW (fifo_size h)⟩
theorem turnC (h : fifo.M W w0.heap.size (fun k => c k = i) (room, l) v) : Calls Try.prog 23 #[v] W fun e w' => e = .returned (.bool (some_ l)) ∧ ∃ c', fifo.M w' w0.heap.size (fun k => c' k = i) (room, rot l) v ∧ Turned c c' i w0 W w' :=
  (turn_calls (St.mine h)).mono fun e w' ⟨he, hM, hW⟩ => ⟨he, turned hM hW (fifo_size h)⟩
theorem getC (h : fifo.M W w0.heap.size (fun k => c k = i) (room, l) v) : Calls Try.prog 29 #[v] W fun e w' => e = .returned (.tuple #[.int .i64 (front l), .bool (some_ l)]) ∧ ∃ c', fifo.M w' w0.heap.size (fun k => c' k = i) (room, l.tail) v ∧ Turned c c' i w0 W w' :=
  (get_calls (St.mine h)).mono fun e w' ⟨he, hM, hW⟩ => ⟨he, turned (fifo.mono (fun _ hk => Or.inl hk) hM) hW (fifo_size h)⟩
theorem dropC (x : Int) (h : fifo.M W w0.heap.size (fun k => c k = i) (room, l) v) : Calls Try.prog 22 #[v, .int .i64 x] W fun e w' => e = .returned (.bool (decide (x ∈ l))) ∧ ∃ c', fifo.M w' w0.heap.size (fun k => c' k = i) (room, l.erase x) v ∧ Turned c c' i w0 W w' :=
  (drop_calls x (St.mine h)).mono fun e w' ⟨he, hM, hW⟩ => ⟨he, turned (fifo.mono (fun _ hk => Or.inl hk) hM) hW (fifo_size h)⟩
theorem newC (c : Nat → Nat) (i : Nat) (n : Int) (hB : Below w0.heap.size w0 W) : Calls Try.prog 16 #[.int .i64 n] W fun e w' => ∃ g : Nat, e = .returned (.pointer (some ⟨g, 0, none⟩)) ∧ ∃ c', fifo.M w' w0.heap.size (fun k => c' k = i) (clamp n, []) (.pointer (some ⟨g, 0, none⟩)) ∧ Turned c c' i w0 W w' :=
  (new_calls n W).mono fun e w' ⟨g, he, hM, hb⟩ => ⟨g, he, turned_new hM hb hB.size (fun ⟨g1, sv, e1, h1, h2, h3, h4, h5, h6⟩ => ⟨g1, sv, e1, h1, Nat.le_trans hB.size h2, h3, h4, Kd.R_lower h5 hB.size, h6⟩)⟩
end
end Go.Proofs.Ytmjmfkbdnhdafaa.Fifo
