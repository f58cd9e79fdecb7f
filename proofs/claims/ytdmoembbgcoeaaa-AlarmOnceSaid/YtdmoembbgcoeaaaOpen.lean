/- How an argument of a law is opened: what can be read as data is a value of the kind that the walks speak of (no law is stated here; no condition). -/
import Derived.Test.YtdmoembbgcoeaaaWMore
import Derived.Deep.Slices
import Derived.ChangeSame
import Derived.Carry
import Derived.OpenShut
namespace Go.Proofs.Ytdmoembbgcoeaaa.Open
open Go.RowKit Go.Proofs.YtdmoembbgcoeaaaW.PrintWords Go.ChangeShapes Go.WideShapes Go.Deep
set_option linter.unusedVariables false

/-- Cells of type t that can be read as data are a value of the kind d, and it is good. -/
def Opens {α : Type} (P : Program) (t : TypeId) (d : Kd α) (good : α → Prop) : Prop :=
  ∀ {H : Type} (enc : TypeId × Value → H) (w : World) (base : Nat) (spare : Nat → Bool) (held : Bool) (n : Nat) (cs : List Value) (x : DataW H × List MemPlace),
    DataW.trod enc P w base spare held n t cs = some x → ∃ a : α, d.K w a cs ∧ good a

theorem opens_int {P : Program} {t : TypeId} {k : IntKind} (ht : P.underlying t = some (.int k)) : Opens P t (Kd.int k) (fun n => (Lit.int k n).wf = true) := by
  intro H enc w base spare held n cs x h
  obtain ⟨m, rfl, _, hm⟩ := DataW.trod_int ht h
  exact ⟨m, rfl, hm⟩

theorem opens_bool {P : Program} {t : TypeId} (ht : P.underlying t = some .bool) : Opens P t Kd.bool (fun _ => True) := by
  intro H enc w base spare held n cs x h
  obtain ⟨m, rfl, _⟩ := DataW.trod_bool ht h
  exact ⟨m, rfl, trivial⟩

/-- A list out of what is known of each place. -/
theorem list_of {α : Type} {p : Nat → α → Prop} : ∀ (m : Nat), (∀ i, i < m → ∃ a, p i a) → ∃ l : List α, l.length = m ∧ ∀ i a, l[i]? = some a → p i a
  | 0, _ => ⟨[], rfl, fun i a h => by simp at h⟩
  | m + 1, h => by
    obtain ⟨l, hl, hp⟩ := list_of m (fun i hi => h i (by omega))
    obtain ⟨a, ha⟩ := h m (by omega)
    refine ⟨l ++ [a], by simp [hl], fun i b hb => ?_⟩
    rcases Nat.lt_or_ge i l.length with hi | hi
    · rw [List.getElem?_append_left hi] at hb
      exact hp i b hb
    · rw [List.getElem?_append_right hi] at hb
      have h0 : i - l.length = 0 := by
        rcases Nat.eq_zero_or_pos (i - l.length) with h0 | h0
        · exact h0
        · rw [List.getElem?_eq_none (by simp; omega)] at hb; cases hb
      rw [h0] at hb
      have : a = b := by simpa using hb
      subst this
      rw [show i = m by omega]
      exact ha

/-- A slice argument: its elements, a list; each is good. -/
theorem open_row {α : Type} {P : Program} {d : Kd α} {good : α → Prop} {t e : TypeId} {H : Type} {enc : TypeId × Value → H} {w : World} {base : Nat} {spare : Nat → Bool} {held : Bool} {A : Option Addr} {len cap : Nat} {x : DataW H} {ps : List MemPlace}
    (ht : P.underlying t = some (.slice e)) (hsz : P.cellsOf e = d.sz) (he : Opens P e d good) (h : DataW.Trod enc P w base spare held t (.slice A len cap) x ps) :
    ∃ l : List α, l.length = len ∧ Kd.C d w A l.length l ∧ l.length ≤ cap ∧ ∀ a ∈ l, good a := by
  obtain ⟨fuel, hf⟩ := h
  rcases open_slice ht hf with ⟨hcs, _⟩ | ⟨a, len', cap', m, n, D, Pl, hcs, _, hl, hm, hmm, _, hi⟩
  · simp only [Value.cells, List.cons.injEq, Value.slice.injEq, and_true] at hcs
    obtain ⟨rfl, rfl, rfl⟩ := hcs
    exact ⟨[], rfl, Kd.C_nil d w, Nat.le_refl _, fun a ha => by cases ha⟩
  · simp only [Value.cells, List.cons.injEq, Value.slice.injEq, and_true] at hcs
    obtain ⟨rfl, rfl, rfl⟩ := hcs
    have hlm : len ≤ m := by
      rw [hmm]
      split
      · exact hl
      · exact Nat.le_refl _
    have hp : ∀ i, i < len → ∃ b : α, (∃ cs : List Value, cs.length = d.sz ∧ d.K w b cs ∧ ∀ j u, cs[j]? = some u → w.cell? (a.add (i * d.sz + j)) = some u) ∧ good b := by
      intro i hlt
      obtain ⟨cs', hc, ht'⟩ := hi i (by omega)
      obtain ⟨b, hK, hg⟩ := he enc w base spare held n cs' _ ht'
      obtain ⟨_, hcl, hat⟩ := World.cells?_some hc
      refine ⟨b, ⟨cs', d.K_len hK, hK, fun j u hu => ?_⟩, hg⟩
      have hj : j < P.cellsOf e := by rw [hsz, ← d.K_len hK]; exact (List.getElem?_eq_some_iff.1 hu).1
      rw [hsz] at hat hj
      have := hat j hj
      rw [← Go.Deep.add_add, this, hu]
    obtain ⟨l, hll, hp'⟩ := list_of len hp
    refine ⟨l, hll, ⟨rfl, ?_, fun _ => ⟨a, rfl, fun j p hj => ?_⟩⟩, by omega, fun b hb => ?_⟩
    · have : len ≤ maxLen := by omega
      unfold maxLen at this
      omega
    · obtain ⟨⟨cs, h1, h2, h3⟩, _⟩ := hp' j p hj
      exact ⟨cs, h1, h2, h3⟩
    · obtain ⟨j, hj⟩ := List.getElem?_of_mem hb
      exact (hp' j b hj).2

/-- A struct argument, by value. -/
theorem open_struct {α : Type} {P : Program} {d : Kd α} {good : α → Prop} {t : TypeId} {H : Type} {enc : TypeId × Value → H} {w : World} {base : Nat} {spare : Nat → Bool} {held : Bool} {cs : Array Value} {x : DataW H} {ps : List MemPlace}
    (he : Opens P t d good) (h : DataW.Trod enc P w base spare held t (.agg cs) x ps) : ∃ a : α, d.K w a cs.toList ∧ good a := by
  obtain ⟨fuel, hf⟩ := h
  exact he enc w base spare held fuel cs.toList _ hf

/-- The places of what was opened are elder than the world's end. -/
theorem open_lt {P : Program} {t : TypeId} {H : Type} {enc : TypeId × Value → H} {w : World} {base : Nat} {spare : Nat → Bool} {held : Bool} {v : Value} {x : DataW H} {ps : List MemPlace}
    (h : DataW.Trod enc P w base spare held t v x ps) : ∀ y ∈ ps, y.block < w.heap.size := by
  obtain ⟨m, hm⟩ := h
  exact DataW.trod_lt m _ _ _ hm

end Go.Proofs.Ytdmoembbgcoeaaa.Open
