/- Alarm: a row of rings put in order by the library's sort (no law is stated here; each says its conditions). -/
import Derived.Test.YtdmoembbgcoeaaaHeapC
import Derived.Test.YtdmoembbgcoeaaaSortP
import Derived.Shelf.SlSortCmp.NoneTotal
namespace Go.Proofs.Ytdmoembbgcoeaaa.Alarm
open Go.RowKit Go.Proofs.YtdmoembbgcoeaaaW.PrintWords Go.Proofs.YtdmoembbgcoeaaaW.PrintLast Go.Proofs.YtdmoembbgcoeaaaW.PrintMore Go.Proofs.Ytdmoembbgcoeaaa.St Go.Proofs.Ytdmoembbgcoeaaa.Q Go.Proofs.Ytdmoembbgcoeaaa.Heap
open Go.Sort (HoldsK putRowK grow flatK)
set_option linter.unusedVariables false
set_option linter.unusedSimpArgs false

/-- A ring: its CPU, its id, its tick. -/
def KR : Kd (Int × Int × Int) := Kd.pair (Kd.int .i64) (Kd.pair (Kd.int .i64) (Kd.int .i64))
def encR (x : Int × Int × Int) : List Value := [.int .i64 x.1, .int .i64 x.2.1, .int .i64 x.2.2]
theorem encR_len (x : Int × Int × Int) : (encR x).length = 3 := rfl
theorem KR_open {w : World} {b : Nat} {ok : Nat → Prop} {x : Int × Int × Int} {cs : List Value} (h : KR.M w b ok x cs) : cs = encR x := by
  obtain ⟨_, _, rfl, rfl, _, _, rfl, rfl, rfl⟩ := h
  rfl
theorem KR_mk (w : World) (b : Nat) (ok : Nat → Prop) (x : Int × Int × Int) : KR.M w b ok x (encR x) := ⟨[.int .i64 x.1], [.int .i64 x.2.1, .int .i64 x.2.2], rfl, rfl, ⟨[.int .i64 x.2.1], [.int .i64 x.2.2], rfl, rfl, rfl⟩⟩
theorem KR_openK {w : World} {x : Int × Int × Int} {cs : List Value} (h : KR.K w x cs) : cs = encR x := by
  obtain ⟨_, _, rfl, rfl, _, _, rfl, rfl, rfl⟩ := h
  rfl
theorem flatR : Flat KR := fun w b x cs h => by rw [KR_openK h]; exact KR_mk w b _ x
theorem info_ring : (Try.prog.info? 34).map (fun i => (i.zero, i.size, i.bytes)) = some (some (.agg #[.int .i64 0, .int .i64 0, .int .i64 0]), KR.sz, 24) := by kernel_rfl

/-! Cells of a row, one element behind the other -/
def flatL : List (Int × Int × Int) → List Value
  | [] => []
  | x :: t => encR x ++ flatL t
theorem flatL_len : ∀ l, (flatL l).length = l.length * 3
  | [] => rfl
  | x :: t => by rw [flatL, List.length_append, flatL_len t, encR_len, List.length_cons]; omega
theorem flatL_seg : ∀ (l : List (Int × Int × Int)) (j : Nat) (x : Int × Int × Int), l[j]? = some x → ((flatL l).drop (j * 3)).take 3 = encR x
  | [], j, x, h => by simp at h
  | y :: t, 0, x, h => by
    have e : y = x := by simpa using h
    subst e
    rfl
  | y :: t, j + 1, x, h => by
    have h2 := flatL_seg t j x (by simpa using h)
    rw [flatL, List.drop_append, List.drop_eq_nil_of_le (by rw [encR_len]; omega), List.nil_append, encR_len, show (j + 1) * 3 - 3 = j * 3 by omega]
    exact h2
theorem flatL_reps (w : World) (b : Nat) (ok : Nat → Prop) (l : List (Int × Int × Int)) : Reps (KR.M w b ok) KR.sz l (flatL l) :=
  ⟨flatL_len l, fun j x hx => by rw [show j * KR.sz = j * 3 from rfl, show KR.sz = 3 from rfl, flatL_seg l j x hx]; exact KR_mk w b ok x⟩
theorem reps_flatL {w : World} {b : Nat} {ok : Nat → Prop} : ∀ {l : List (Int × Int × Int)} {cs : List Value}, Reps (KR.M w b ok) KR.sz l cs → cs = flatL l
  | [], cs, h => by
    have h1 := h.1
    simp at h1
    exact h1
  | x :: t, cs, h => by
    have h0 := KR_open (h.2 0 x rfl)
    have hl := h.1
    have hs : KR.sz = 3 := rfl
    rw [hs] at hl h0
    have ht : Reps (KR.M w b ok) KR.sz t (cs.drop 3) := by
      refine ⟨by rw [List.length_drop, hs, hl, List.length_cons]; omega, fun j y hy => ?_⟩
      have h2 := h.2 (j + 1) y (by simpa using hy)
      rw [hs] at h2 ⊢
      rw [List.drop_drop, show 3 + j * 3 = (j + 1) * 3 by omega]
      exact h2
    rw [flatL, ← reps_flatL ht, ← h0]
    simp [List.take_append_drop]
theorem flatL_get : ∀ (l : List (Int × Int × Int)) (t : Nat), t < l.length * 3 → (flatL l)[t]? = some ((encR (l.getD (t / 3) default))[t % 3]!)
  | [], t, h => by simp at h
  | x :: r, t, h => by
    by_cases h3 : t < 3
    · rw [flatL, List.getElem?_append_left (by rw [encR_len]; exact h3), show t / 3 = 0 by omega, show t % 3 = t by omega]
      have hc : t = 0 ∨ t = 1 ∨ t = 2 := by omega
      rcases hc with rfl | rfl | rfl <;> rfl
    · have h2 := flatL_get r (t - 3) (by rw [List.length_cons] at h; omega)
      rw [flatL, List.getElem?_append_right (by rw [encR_len]; omega), encR_len, h2, show t / 3 = (t - 3) / 3 + 1 by omega, show t % 3 = (t - 3) % 3 by omega]
      rfl
theorem arr_get! {l : List (Int × Int × Int)} (i : Nat) : l.toArray[i]! = l.getD i default := by
  rw [List.getD_eq_getElem?_getD]
  simp [Array.getElem!_eq_getD, Array.getD_eq_getD_getElem?]
theorem flatK_eq (l : List (Int × Int × Int)) : (flatK encR 3 l.toArray).toList = flatL l := by
  apply List.ext_getElem?
  intro t
  by_cases h : t < l.length * 3
  · rw [flatL_get l t h]
    have h2 : t < (flatK encR 3 l.toArray).size := by simpa [Go.Sort.size_flatK] using h
    have h3 := Go.Sort.get_flatK encR 3 l.toArray t (by simpa using h)
    rw [arr_get!] at h3
    rw [← h3, Array.getElem?_toList, Array.getElem?_eq_getElem h2, getElem!_pos _ t h2]
  · rw [List.getElem?_eq_none (show (flatK encR 3 l.toArray).toList.length ≤ t by simp [Go.Sort.size_flatK]; omega), List.getElem?_eq_none (by rw [flatL_len]; omega)]
section
variable {W : World} {base g n cap : Nat} {ok : Nat → Prop} {l : List (Int × Int × Int)}
theorem own_cells (h : KR.R 34 W base ok (.slice (some ⟨g, 0, none⟩) n cap) l) : ok g ∧ base ≤ g ∧ n = l.length ∧ ∃ cur : Array Value, W.heap[g]? = some (.cells cur 34 (0, 0)) ∧ n ≤ cap ∧ cap ≤ maxLen ∧ cur.size = cap * 3 ∧ cur.toList.take (n * 3) = flatL l := by
  obtain ⟨h1, inner, ⟨h2, h3⟩, h4⟩ := h
  have hin := reps_flatL h4
  rcases h3 with ⟨hv, _⟩ | ⟨g', cap', cur, hv, hb, hh, hnc, hcm, hcs, htk⟩
  · cases hv
  · injection hv with ha hn hc
    injection ha with ha
    injection ha with hg
    subst hg; subst hc
    exact ⟨h1 g rfl, hb, hn, cur, hh, by rw [hn]; exact hnc, hcm, hcs, by rw [hn, ← hin]; exact htk⟩
theorem holds_ring (h : KR.R 34 W base ok (.slice (some ⟨g, 0, none⟩) n cap) l) : HoldsK encR 3 W g 0 l.toArray := by
  obtain ⟨_, _, hn, cur, hh, hnc, hcm, hcs, htk⟩ := own_cells h
  intro t ht
  have ht3 : t < l.length * 3 := by simpa [Go.Sort.size_flatK] using ht
  refine ⟨?_, blk_frozen hh _⟩
  rw [Nat.zero_add, blk_cell hh, Go.Sort.get_flatK encR 3 l.toArray t (by simpa using ht3), arr_get!, ← Array.getElem?_toList]
  have h2 : (cur.toList.take (n * 3))[t]? = cur.toList[t]? := List.getElem?_take_of_lt (by rw [hn]; exact ht3)
  rw [← h2, htk, flatL_get l t ht3]
  rfl
theorem heap_sorted (m : Nat) (dk : Array (Int × Int × Int)) (os : Array Obj) {k : Nat} (hk : k < W.heap.size) : (sortWorldK encR 3 W g 0 m dk os).heap[k]? = if k = g then (W.heap[k]?).map (Go.Sort.onCells (Go.Sort.putCells id 0 (flatK encR 3 dk))) else W.heap[k]? := by
  unfold sortWorldK Go.Sort.grow Go.Sort.putRowK Go.Sort.putRow Go.Sort.mapBlock
  have hs : (W.heap.modify g (Go.Sort.onCells (Go.Sort.putCells id 0 (flatK encR 3 dk)))).size = W.heap.size := by simp
  show ((W.heap.modify g (Go.Sort.onCells (Go.Sort.putCells id 0 (flatK encR 3 dk)))) ++ os)[k]? = _
  rw [Array.getElem?_append_left (by rw [hs]; exact hk), Array.getElem?_modify]
  by_cases h : k = g
  · subst h; simp
  · rw [if_neg h, if_neg (fun e => h e.symm)]
theorem sorted_ring (h : KR.R 34 W base ok (.slice (some ⟨g, 0, none⟩) n cap) l) (m : Nat) (l' : List (Int × Int × Int)) (os : Array Obj) (hl : l'.length = l.length) :
    KR.R 34 (sortWorldK encR 3 W g 0 m l'.toArray os) base ok (.slice (some ⟨g, 0, none⟩) n cap) l' ∧ Wrote W (sortWorldK encR 3 W g 0 m l'.toArray os) (fun k => k = g) := by
  obtain ⟨hok, hb, hn, cur, hh, hnc, hcm, hcs, htk⟩ := own_cells h
  have hg : g < W.heap.size := blk_lt hh
  have hg2 := heap_sorted (W := W) (g := g) m l'.toArray os hg
  rw [if_pos rfl, hh] at hg2
  have hcur : (Go.Sort.putCells id 0 (flatK encR 3 l'.toArray) cur).size = cap * 3 := by simp [Go.Sort.putCells, hcs]
  refine ⟨⟨fun k hk => by cases hk; exact hok, flatL l', ⟨(flatL_len l').trans rfl, .inr ⟨g, cap, Go.Sort.putCells id 0 (flatK encR 3 l'.toArray) cur, by rw [hn, hl], hb, hg2, by rw [hl, ← hn]; exact hnc, hcm, hcur, ?_⟩⟩, flatL_reps _ _ _ _⟩, ⟨rfl, rfl, rfl, size_sortWorldK_c encR 3 W g 0 m l'.toArray os, fun k hk hn => by rw [heap_sorted _ _ _ hk, if_neg hn]⟩⟩
  rw [hl, ← hn, ← flatK_eq l']
  apply List.ext_getElem?
  intro t
  have hsz : (flatK encR 3 l'.toArray).size = n * 3 := by simp [Go.Sort.size_flatK, hl, hn]
  by_cases ht : t < n * 3
  · rw [List.getElem?_take_of_lt (show t < n * KR.sz from ht), Array.getElem?_toList, Array.getElem?_toList]
    have hc : t < cur.size := by rw [hcs]; have := Nat.mul_le_mul_right 3 hnc; omega
    unfold Go.Sort.putCells
    rw [Array.getElem?_mapIdx, Array.getElem?_eq_getElem hc, Array.getElem?_eq_getElem (by rw [hsz]; exact ht)]
    simp [hsz, ht]
  · rw [List.getElem?_eq_none (by rw [List.length_take]; show min (n * 3) _ ≤ t; omega), List.getElem?_eq_none (by simp [hsz]; omega)]
end
end Go.Proofs.Ytdmoembbgcoeaaa.Alarm
