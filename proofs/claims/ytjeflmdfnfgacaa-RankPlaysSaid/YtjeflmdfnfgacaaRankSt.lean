/- Several texts in one (no law is stated here; each says its conditions). -/
import Derived.Test.YtjeflmdfnfgacaaHeapC
import Derived.Test.YtjeflmdfnfgacaaQx30
import Derived.Test.YtjeflmdfnfgacaaQx19
import Derived.Test.YtjeflmdfnfgacaaQx7
import Derived.Test.YtjeflmdfnfgacaaQx27
import Derived.Test.YtjeflmdfnfgacaaQx2
import Derived.Test.YtjeflmdfnfgacaaQx24
import Derived.Test.YtjeflmdfnfgacaaQx33
import Derived.Laws.BitsAllLaws
/- Rank: what it holds, in plain words: entries, masks of those that are idle, Dues (no law is stated here; no condition). -/
namespace Go.Proofs.Ytjeflmdfnfgacaa.Rank
open Go.RowKit Go.Proofs.YtjeflmdfnfgacaaW.PrintWords Go.Proofs.YtjeflmdfnfgacaaW.PrintLast Go.Proofs.YtjeflmdfnfgacaaW.PrintMore Go.Proofs.Ytjeflmdfnfgacaa.St Go.Proofs.Ytjeflmdfnfgacaa.Q Go.Proofs.Ytjeflmdfnfgacaa.Heap
set_option linter.unusedVariables false
set_option linter.unusedSimpArgs false

/-- One that would run: its id, its Due, whether it is fixed. -/
abbrev Ent := Int × Int × Bool
def z0 : Ent := (0, 0, false)
def KE : Kd Ent := Kd.pair (Kd.int .i64) (Kd.pair (Kd.int .i64) Kd.bool)
def cellsE (x : Ent) : List Value := [.int .i64 x.1, .int .i64 x.2.1, .bool x.2.2]
section
variable {W : World} {base g n cap : Nat} {ok : Nat → Prop} {xs : List Ent}
theorem ke_open {w : World} {b : Nat} {okp : Nat → Prop} {x : Ent} {cs : List Value} (h : KE.M w b okp x cs) : cs = cellsE x := by
  obtain ⟨_, _, rfl, rfl, ⟨_, _, rfl, rfl, rfl⟩⟩ := h
  rfl
theorem ke_mk (w : World) (b : Nat) (okp : Nat → Prop) (x : Ent) : KE.M w b okp x (cellsE x) := ⟨[_], [_, _], rfl, rfl, ⟨[_], [_], rfl, rfl, rfl⟩⟩
theorem ke_openK {w : World} {x : Ent} {cs : List Value} (h : KE.K w x cs) : cs = cellsE x := by
  obtain ⟨_, _, rfl, rfl, ⟨_, _, rfl, rfl, rfl⟩⟩ := h
  rfl
theorem ent_get (h : KE.R 29 W base ok (.slice (some ⟨g, 0, none⟩) n cap) xs) {j : Nat} (hj : j < n) :
    (W.cell? ⟨g, j * 3, none⟩ = some (.int .i64 (xs.getD j z0).1) ∧ W.cell? ⟨g, j * 3 + 1, none⟩ = some (.int .i64 (xs.getD j z0).2.1) ∧ W.cell? ⟨g, j * 3 + 2, none⟩ = some (.bool (xs.getD j z0).2.2)) ∧ W.frozen? ⟨g, j * 3, none⟩ = false ∧ W.frozen? ⟨g, j * 3 + 1, none⟩ = false ∧ W.frozen? ⟨g, j * 3 + 2, none⟩ = false := by
  obtain ⟨c, _, hM, hcell, hfr⟩ := Kd.R_elem h z0 (j : Int) (by omega) (by omega)
  rw [Int.toNat_natCast] at hM hcell hfr
  obtain rfl := ke_open hM
  exact ⟨⟨hcell 0 _ rfl, hcell 1 _ rfl, hcell 2 _ rfl⟩, hfr 0, hfr 1, hfr 2⟩
theorem ent_set (h : KE.R 29 W base ok (.slice (some ⟨g, 0, none⟩) n cap) xs) {j f : Nat} (hj : j < n) (hf : f < 3) (u : Value) (x' : Ent) (hx : cellsE x' = (cellsE (xs.getD j z0)).set f u) :
    KE.R 29 (W.setCell ⟨g, j * 3 + f, none⟩ u) base ok (.slice (some ⟨g, 0, none⟩) n cap) (xs.set j x') ∧ W.grownBy (W.setCell ⟨g, j * 3 + f, none⟩ u) (some g) := by
  obtain ⟨c, hcl, hM, hcell, hfr⟩ := Kd.R_elem h z0 (j : Int) (by omega) (by omega)
  obtain rfl := ke_open hM
  have hM2 : KE.M W base (fun _ => False) x' ((cellsE (xs.getD (j : Int).toNat z0)).take f ++ [u] ++ (cellsE (xs.getD (j : Int).toNat z0)).drop (f + 1)) := by
    rw [Int.toNat_natCast]
    have e : (cellsE (xs.getD j z0)).take f ++ [u] ++ (cellsE (xs.getD j z0)).drop (f + 1) = cellsE x' := by
      rw [hx]
      have h3 : f = 0 ∨ f = 1 ∨ f = 2 := by omega
      rcases h3 with rfl | rfl | rfl <;> rfl
    rw [e]
    exact ke_mk _ _ _ x'
  have h2 := Kd.R_seg h (j : Int) (by omega) (by omega) hcl hcell (seg := [u]) (j := f) (by show f + 1 ≤ 3; omega) hM2 (fun _ hk => hk.elim)
  rw [Int.toNat_natCast] at h2
  exact h2
theorem getD_set_self {l : List Ent} {j : Nat} (hj : j < l.length) (x : Ent) : (l.set j x).getD j z0 = x := by
  rw [List.getD_eq_getElem?_getD, List.getElem?_set_self hj]; rfl
/-- The three cells of one, stored. -/
theorem ent_put (h : KE.R 29 W base ok (.slice (some ⟨g, 0, none⟩) n cap) xs) {j : Nat} (hj : j < n) (x : Ent) :
    KE.R 29 (((W.setCell ⟨g, j * 3, none⟩ (.int .i64 x.1)).setCell ⟨g, j * 3 + 1, none⟩ (.int .i64 x.2.1)).setCell ⟨g, j * 3 + 2, none⟩ (.bool x.2.2)) base ok (.slice (some ⟨g, 0, none⟩) n cap) (xs.set j x) := by
  have hl : j < xs.length := by
    obtain ⟨A, c, e⟩ := Kd.R_slice h
    injection e with _ e2 _
    omega
  obtain ⟨i, d, f⟩ := x
  obtain ⟨h1, _⟩ := ent_set h hj (f := 0) (by omega) (.int .i64 i) (i, (xs.getD j z0).2.1, (xs.getD j z0).2.2) rfl
  obtain ⟨h2, _⟩ := ent_set h1 hj (f := 1) (by omega) (.int .i64 d) (i, d, (xs.getD j z0).2.2) (by rw [getD_set_self hl]; rfl)
  rw [List.set_set] at h2
  obtain ⟨h3, _⟩ := ent_set h2 hj (f := 2) (by omega) (.bool f) (i, d, f) (by rw [getD_set_self hl]; rfl)
  rw [List.set_set] at h3
  exact h3
end
/-! Who is where -/
def ents (s : List (Option Ent)) : List Ent := s.map (fun o => o.getD z0)
theorem ents_len (s : List (Option Ent)) : (ents s).length = s.length := List.length_map _
theorem ents_getD (s : List (Option Ent)) (j : Nat) : (ents s).getD j z0 = (s.getD j none).getD z0 := by
  rw [ents, List.getD_eq_getElem?_getD, List.getElem?_map, List.getD_eq_getElem?_getD]
  cases s[j]? <;> rfl
theorem ents_set (s : List (Option Ent)) (j : Nat) (o : Option Ent) : ents (s.set j o) = (ents s).set j (o.getD z0) := by rw [ents, List.map_set]; rfl
/-- The mask of those that are idle. -/
def IdleIs (m : Nat) (s : List (Option Ent)) : Prop := m < 18446744073709551616 ∧ ∀ j, j < 64 → m.testBit j = decide (j < s.length ∧ s.getD j none = none)
theorem bit_f {j : Nat} (h : j < 64) : mask_bit.f (j : Int) = some ((2 ^ j : Nat) : Int) := by
  have hp : 2 ^ j < 2 ^ 64 := Nat.pow_lt_pow_right (by omega) h
  have e : shl .u64 1 (j : Int) = ((2 ^ j : Nat) : Int) := by
    unfold shl
    rw [IntKind.wrap_u64, Int.toNat_natCast, Nat.min_eq_left (by show j ≤ 64; omega), Int.one_mul]
    have : ((2 : Int) ^ j) = ((2 ^ j : Nat) : Int) := by simp
    rw [this]
    generalize 2 ^ j = p at hp ⊢
    omega
  unfold mask_bit.f
  rw [if_neg (by omega), if_neg (by omega), if_pos (by omega), e]
theorem with_f {m j : Nat} (h : j < 64) (hm : m < 18446744073709551616) : mask_Mask_With.f (m : Int) (j : Int) = some ((m ||| 2 ^ j : Nat) : Int) := by
  have hp : 2 ^ j < 2 ^ 64 := Nat.pow_lt_pow_right (by omega) h
  unfold mask_Mask_With.f
  rw [bit_f h]
  show some _ = _
  rw [u64_or_nat _ _ hm (by omega)]
theorem without_f {m j : Nat} (h : j < 64) (hm : m < 18446744073709551616) : mask_Mask_Without.f (m : Int) (j : Int) = some ((m &&& (18446744073709551615 - 2 ^ j) : Nat) : Int) := by
  have hp : 2 ^ j < 2 ^ 64 := Nat.pow_lt_pow_right (by omega) h
  unfold mask_Mask_Without.f
  rw [bit_f h]
  show some _ = _
  rw [u64_andNot_nat _ _ hm (by omega)]
theorem and_pow (m j : Nat) : (m &&& 2 ^ j) = if m.testBit j then 2 ^ j else 0 := by
  apply Nat.eq_of_testBit_eq
  intro i
  rw [Nat.testBit_and, Nat.testBit_two_pow]
  by_cases c : m.testBit j = true
  · rw [if_pos c, Nat.testBit_two_pow]
    by_cases e : j = i
    · subst e; simp [c]
    · simp [e]
  · rw [if_neg c, Nat.zero_testBit]
    by_cases e : j = i
    · subst e; simpa using c
    · simp [e]
theorem has_f {m j : Nat} (h : j < 64) (hm : m < 18446744073709551616) : mask_Mask_Has.f (m : Int) (j : Int) = some (m.testBit j) := by
  have hp : 2 ^ j < 2 ^ 64 := Nat.pow_lt_pow_right (by omega) h
  have hq : 0 < 2 ^ j := Nat.pow_pos (by omega)
  unfold mask_Mask_Has.f
  rw [bit_f h]
  show some _ = _
  rw [u64_and_nat _ _ hm (by omega), and_pow]
  congr 1
  cases c : m.testBit j with
  | true =>
    rw [if_pos rfl]
    generalize 2 ^ j = p at hq
    simp [bne]
    omega
  | false => rfl
theorem wo_bit {m j i : Nat} (hj : j < 64) (hi : i < 64) : (m &&& (18446744073709551615 - 2 ^ j)).testBit i = (m.testBit i && !(decide (j = i))) := by
  have hp : 2 ^ j < 2 ^ 64 := Nat.pow_lt_pow_right (by omega) hj
  have e : 18446744073709551615 - 2 ^ j = 2 ^ 64 - (2 ^ j + 1) := by omega
  rw [Nat.testBit_and, e, Nat.testBit_two_pow_sub_succ hp, Nat.testBit_two_pow, decide_eq_true hi, Bool.true_and]
theorem getD_set {s : List (Option Ent)} {j i : Nat} (hj : j < s.length) (o : Option Ent) : (s.set j o).getD i none = if j = i then o else s.getD i none := by
  rw [List.getD_eq_getElem?_getD, List.getElem?_set]
  by_cases e : j = i
  · subst e
    rw [if_pos rfl, if_pos rfl, if_pos hj]
    rfl
  · rw [if_neg e, if_neg e, ← List.getD_eq_getElem?_getD]
theorem idle_set {m j : Nat} {s : List (Option Ent)} (h : IdleIs m s) (hj : j < s.length) (h64 : s.length ≤ 64) (e : Ent) : IdleIs (m &&& (18446744073709551615 - 2 ^ j)) (s.set j (some e)) := by
  refine ⟨Nat.lt_of_le_of_lt Nat.and_le_left h.1, fun i hi => ?_⟩
  rw [wo_bit (by omega) hi, h.2 i hi, List.length_set, getD_set hj]
  by_cases c : j = i
  · subst c; simp
  · simp [c]
theorem idle_clear {m j : Nat} {s : List (Option Ent)} (h : IdleIs m s) (hj : j < s.length) (h64 : s.length ≤ 64) : IdleIs (m ||| 2 ^ j) (s.set j none) := by
  refine ⟨Nat.or_lt_two_pow (n := 64) h.1 (Nat.pow_lt_pow_right (by omega) (by omega)), fun i hi => ?_⟩
  rw [Nat.testBit_or, Nat.testBit_two_pow, h.2 i hi, List.length_set, getD_set hj]
  by_cases c : j = i
  · subst c; simp [hj]
  · simp [c]
theorem idle_unique {m m' : Nat} {s : List (Option Ent)} (h : IdleIs m s) (h' : IdleIs m' s) : m = m' := by
  apply Nat.eq_of_testBit_eq
  intro i
  by_cases c : i < 64
  · rw [h.2 i c, h'.2 i c]
  · have hp : 2 ^ 64 ≤ 2 ^ i := Nat.pow_le_pow_right (by omega) (by omega)
    rw [Nat.testBit_lt_two_pow (Nat.lt_of_lt_of_le h.1 hp), Nat.testBit_lt_two_pow (Nat.lt_of_lt_of_le h'.1 hp)]
theorem full_f {n : Nat} (h : n ≤ 64) : mask_Full.f (n : Int) = some ((2 ^ n - 1 : Nat) : Int) := by
  have key : ∀ n < 65, mask_Full.f ((n : Nat) : Int) = some ((2 ^ n - 1 : Nat) : Int) := by decide +kernel
  exact key n (by omega)
theorem idle_new {n : Nat} (h : n ≤ 64) : IdleIs (2 ^ n - 1) (List.replicate n none) := by
  have hp : 2 ^ n ≤ 2 ^ 64 := Nat.pow_le_pow_right (by omega) h
  have hq : 0 < 2 ^ n := Nat.pow_pos (by omega)
  refine ⟨by omega, fun j hj => ?_⟩
  rw [Nat.testBit_two_pow_sub_one, List.length_replicate]
  congr 1
  rw [List.getD_eq_getElem?_getD, List.getElem?_replicate]
  apply propext
  constructor
  · intro hh; exact ⟨hh, by rw [if_pos hh]; rfl⟩
  · exact fun hh => hh.1
/-! The Dues of those that may be stopped -/
def dueAt (c : Nat) : Option Ent → List (Int × Int)
  | some (_, d, false) => [((c : Int), d)]
  | _ => []
def dues : Nat → List (Option Ent) → List (Int × Int)
  | _, [] => []
  | c, o :: t => dueAt c o ++ dues (c + 1) t
theorem dues_app : ∀ (a b : List (Option Ent)) (c : Nat), dues c (a ++ b) = dues c a ++ dues (c + a.length) b
  | [], b, c => by simp [dues]
  | o :: a, b, c => by
    rw [List.cons_append, dues, dues_app a b (c + 1), dues, List.append_assoc, List.length_cons, show c + 1 + a.length = c + (a.length + 1) by omega]
theorem dueAt_id {c : Nat} {o : Option Ent} {y : Int × Int} (h : y ∈ dueAt c o) : y.1 = (c : Int) := by
  unfold dueAt at h
  split at h
  · simp at h; rw [h]
  · simp at h
theorem dues_id : ∀ (s : List (Option Ent)) (c : Nat) (y : Int × Int), y ∈ dues c s → (c : Int) ≤ y.1 ∧ y.1 < ((c + s.length : Nat) : Int)
  | [], c, y, h => by simp [dues] at h
  | o :: t, c, y, h => by
    rw [dues, List.mem_append] at h
    rw [List.length_cons]
    rcases h with h | h
    · have := dueAt_id h; omega
    · have := dues_id t (c + 1) y h; omega
theorem dues_len : ∀ (s : List (Option Ent)) (c : Nat), (dues c s).length ≤ s.length
  | [], c => by simp [dues]
  | o :: t, c => by
    have h1 : (dueAt c o).length ≤ 1 := by unfold dueAt; split <;> simp
    have h2 := dues_len t (c + 1)
    rw [dues, List.length_append, List.length_cons]
    omega
/-- All but one CPU's. -/
def rest (a b : List (Option Ent)) : List (Int × Int) := dues 0 a ++ dues (a.length + 1) b
theorem rest_no (a b : List (Option Ent)) : ∀ y ∈ rest a b, y.1 ≠ (a.length : Int) := by
  intro y hy
  rcases List.mem_append.1 hy with h | h
  · have := dues_id a 0 y h; omega
  · have := dues_id b (a.length + 1) y h; omega
theorem dues_split (a b : List (Option Ent)) (o : Option Ent) : dues 0 (a ++ o :: b) = dues 0 a ++ (dueAt a.length o ++ dues (a.length + 1) b) := by
  rw [dues_app, dues, Nat.zero_add]
theorem dues_perm (a b : List (Option Ent)) (o : Option Ent) : (rest a b ++ dueAt a.length o).Perm (dues 0 (a ++ o :: b)) := by
  rw [dues_split, rest, List.append_assoc]
  exact List.Perm.append_left _ List.perm_append_comm
theorem split_at {s : List (Option Ent)} {j : Nat} (hj : j < s.length) : ∃ a b, s = a ++ s.getD j none :: b ∧ a.length = j := by
  refine ⟨s.take j, s.drop (j + 1), ?_, by rw [List.length_take]; omega⟩
  rw [← Mine.drop_at (Mine.getD_at none hj), List.take_append_drop]
theorem set_split {a b : List (Option Ent)} {o o' : Option Ent} : (a ++ o :: b).set a.length o' = a ++ o' :: b := by
  rw [List.set_append_right _ _ (Nat.le_refl _), Nat.sub_self]; rfl
end Go.Proofs.Ytjeflmdfnfgacaa.Rank

/- Rank as it lies in memory: its block, the row of entries, the heap of Dues (no law is stated here; each says its conditions). -/
namespace Go.Proofs.Ytjeflmdfnfgacaa.Rank
open Go.RowKit Go.Proofs.YtjeflmdfnfgacaaW.PrintWords Go.Proofs.YtjeflmdfnfgacaaW.PrintLast Go.Proofs.YtjeflmdfnfgacaaW.PrintMore Go.Proofs.Ytjeflmdfnfgacaa.St Go.Proofs.Ytjeflmdfnfgacaa.Q Go.Proofs.Ytjeflmdfnfgacaa.Heap
set_option linter.unusedVariables false
set_option linter.unusedSimpArgs false

section
variable {w : World} {b : Nat} {ok : Nat → Prop} {m m' : List (Int × Int)} {gr : Bool} {rm : Int} {v : Value}
theorem hp_perm (h : hp.M w b ok (m, gr, rm) v) (hp' : m.Perm m') : hp.M w b ok (m', gr, rm) v := by
  obtain ⟨x, e1, e2, e3, e4, e5⟩ := h
  exact ⟨x, e1, e2, e3, e4.trans hp', e5⟩
theorem hput (id key : Int) (h : hp.M w b ok (m, gr, rm) v) (hw : (Lit.int .i64 id).wf = true) (hn : ∀ y ∈ m, y.1 ≠ id) (hr : (m.length : Int) < rm) (hr2 : m.length < 1024) :
    Calls Try.prog 24 #[v, .int .i64 id, .int .i64 key] w fun e w' => e = .returned (.int .i64 0) ∧ hp.M w' b (more w ok) (m ++ [(id, key)], gr, rm) v ∧ Wrote w w' ok := by
  obtain ⟨x, e1, e2, hO, hp1, hM⟩ := h
  have hl : x.l.length = m.length := hp1.length_eq
  refine (put_in id key hM hw hO (none_of hO (fun y hy => hn y (hp1.mem_iff.1 hy))) (by rw [e2]; show ¬ _ = rm; omega) (by omega)).mono ?_
  rintro e w' ⟨h1, ⟨x', g1, g2, g3, g4, g5⟩, h3⟩
  exact ⟨h1, ⟨x', g1.trans e1, g2.trans e2, g3, g4.trans (hp1.append_right _), g5⟩, h3⟩
theorem hdrop_miss (id : Int) (h : hp.M w b ok (m, gr, rm) v) (hw : (Lit.int .i64 id).wf = true) (hn : ∀ y ∈ m, y.1 ≠ id) :
    Calls Try.prog 22 #[v, .int .i64 id] w fun e w' => e = .returned (.bool false) ∧ w' = w := by
  obtain ⟨x, e1, e2, hO, hp1, hM⟩ := h
  exact drop_miss id hM hw (none_of hO (fun y hy => hn y (hp1.mem_iff.1 hy)))
theorem hdrop (id u : Int) (p q : List (Int × Int)) (h : hp.M w b ok (p ++ (id, u) :: q, gr, rm) v) (hw : (Lit.int .i64 id).wf = true) :
    Calls Try.prog 22 #[v, .int .i64 id] w fun e w' => e = .returned (.bool true) ∧ hp.M w' b (more w ok) (p ++ q, gr, rm) v ∧ Wrote w w' ok := by
  obtain ⟨x, e1, e2, hO, hp1, hM⟩ := h
  obtain ⟨j, hj, e⟩ := mem_at (hp1.mem_iff.2 (show (id, u) ∈ p ++ (id, u) :: q by simp))
  refine (drop_hit id hM hw hO j hj (by rw [e])).mono ?_
  rintro e0 w' ⟨h1, ⟨x', g1, g2, g3, g4, g5⟩, h3⟩
  rw [e] at g4
  exact ⟨h1, ⟨x', g1.trans e1, g2.trans e2, g3, (List.perm_cons _).1 (g4.trans (hp1.trans List.perm_middle)), g5⟩, h3⟩
theorem htop (z : Int × Int) (h : hp.M w b ok (m, gr, rm) v) (hz : FirstOf gr m z) :
    Calls Try.prog 25 #[v] w fun e w' => e = .returned (.tuple #[.agg #[.int .i64 z.1, .int .i64 z.2], .bool true]) ∧ Below w.heap.size w w' := by
  obtain ⟨x, e1, e2, hO, hp1, hM⟩ := h
  have e1 : x.great = gr := e1
  obtain ⟨h0, e⟩ := hO.top_is hp1 z hz.1 (by rw [e1]; exact hz.2)
  have := top_some hM h0
  rwa [e] at this
theorem htop_none (h : hp.M w b ok ([], gr, rm) v) :
    Calls Try.prog 25 #[v] w fun e w' => e = .returned (.tuple #[.agg #[.int .i64 0, .int .i64 0], .bool false]) ∧ Below w.heap.size w w' := by
  obtain ⟨x, e1, e2, hO, hp1, hM⟩ := h
  exact top_none hM hp1.length_eq
end
/-- What lies in memory: the row l, the mask m, the Dues q. -/
structure PAt (w : World) (b : Nat) (ok : Nat → Prop) (l : List Ent) (m : Nat) (q : List (Int × Int)) (g gl cap : Nat) (dv : Value) : Prop where
  okg : ok g
  lo : b ≤ g
  lt : g < w.heap.size
  okl : ok gl
  ne : gl ≠ g
  ltl : gl < w.heap.size
  blk : w.heap[g]? = some (.cells #[.slice (some ⟨gl, 0, none⟩) l.length cap, .int .u64 (m : Int), dv] 57 (0, 0))
  row : KE.R 29 w b (fun k => ok k ∧ k ≠ g) (.slice (some ⟨gl, 0, none⟩) l.length cap) l
  hp : hp.M w b (fun k => ok k ∧ k ≠ g ∧ k ≠ gl) (q, true, 64) dv
  n1 : 1 ≤ l.length
  n64 : l.length ≤ 64
section
variable {w w1 : World} {b : Nat} {ok ok1 : Nat → Prop} {l : List Ent} {m : Nat} {q q' : List (Int × Int)} {g gl cap : Nat} {dv : Value}
theorem PAt.mono (h : PAt w b ok l m q g gl cap dv) (hok : ∀ k, ok k → ok1 k) : PAt w b ok1 l m q g gl cap dv :=
  ⟨hok _ h.okg, h.lo, h.lt, hok _ h.okl, h.ne, h.ltl, h.blk, Kd.R_mono h.row (fun k hk => ⟨hok k hk.1, hk.2⟩), Heap.hp.mono (fun k hk => ⟨hok k hk.1, hk.2⟩) h.hp, h.n1, h.n64⟩
theorem PAt.move (h : PAt w b ok l m q g gl cap dv) (hb : ∀ k, ok k → w1.heap[k]? = w.heap[k]?) : PAt w1 b ok l m q g gl cap dv :=
  ⟨h.okg, h.lo, blk_lt ((hb g h.okg).trans h.blk), h.okl, h.ne, size_same (hb gl h.okl) h.ltl, (hb g h.okg).trans h.blk, Kd.R_move h.row (fun k hk => hb k hk.1), Heap.hp.move (fun k hk => hb k hk.1) h.hp, h.n1, h.n64⟩
theorem PAt.bound (h : PAt w b ok l m q g gl cap dv) : PAt w b (fun k => ok k ∧ b ≤ k ∧ k < w.heap.size) l m q g gl cap dv :=
  ⟨⟨h.okg, h.lo, h.lt⟩, h.lo, h.lt, ⟨h.okl, Kd.R_base h.row gl rfl, h.ltl⟩, h.ne, h.ltl, h.blk, Kd.R_mono (Kd.R_bound h.row) (fun k hk => ⟨⟨hk.1.1, hk.2.1, hk.2.2.1⟩, hk.1.2⟩), Heap.hp.mono (fun k hk => ⟨⟨hk.1.1, hk.2.1, hk.2.2⟩, hk.1.2⟩) (Heap.hp.bound h.hp), h.n1, h.n64⟩
/-- More blocks are made: it stands. -/
theorem PAt.far (h : PAt w b ok l m q g gl cap dv) (hb : Below w.heap.size w w1) : PAt w1 b (more w ok) l m q g gl cap dv :=
  (h.bound.move (fun k hk => hb.block k hk.2.2)).mono (fun k hk => Or.inl hk.1)
theorem PAt.below (h : PAt w b ok l m q g gl cap dv) (hb : Below w.heap.size w w1) : PAt w1 b ok l m q g gl cap dv :=
  (h.bound.move (fun k hk => hb.block k hk.2.2)).mono (fun k hk => hk.1)
theorem PAt.c0 (h : PAt w b ok l m q g gl cap dv) : w.cell? ⟨g, 0, none⟩ = some (.slice (some ⟨gl, 0, none⟩) l.length cap) := blk_cell h.blk 0
theorem PAt.c1 (h : PAt w b ok l m q g gl cap dv) : w.cell? ⟨g, 1, none⟩ = some (.int .u64 (m : Int)) := blk_cell h.blk 1
theorem PAt.c2 (h : PAt w b ok l m q g gl cap dv) : w.cell? ⟨g, 2, none⟩ = some dv := blk_cell h.blk 2
theorem PAt.f1 (h : PAt w b ok l m q g gl cap dv) : w.frozen? ⟨g, 1, none⟩ = false := blk_frozen h.blk 1
/-- The mask is written. -/
theorem PAt.setM (h : PAt w b ok l m q g gl cap dv) (m' : Nat) : PAt (w.setCell ⟨g, 1, none⟩ (.int .u64 (m' : Int))) b ok l m' q g gl cap dv := by
  have h9 := blk_put h.blk 1 (.int .u64 (m' : Int)) (cs' := #[.slice (some ⟨gl, 0, none⟩) l.length cap, .int .u64 (m' : Int), dv]) rfl
  exact ⟨h.okg, h.lo, blk_lt h9, h.okl, h.ne, by simp [World.setCell]; exact h.ltl, h9, Kd.R_mono (Kd.R_move (Kd.R_bound h.row) (fun k hk => Below.heap_setCell _ _ _ k hk.1.2)) (fun k hk => hk.1), Heap.hp.mono (fun k hk => hk.1) (Heap.hp.move (fun k hk => Below.heap_setCell _ _ _ k hk.1.2.1) (Heap.hp.bound h.hp)), h.n1, h.n64⟩
/-- An entry is written. -/
theorem PAt.putE (h : PAt w b ok l m q g gl cap dv) {j : Nat} (hj : j < l.length) (x : Ent) :
    PAt (((w.setCell ⟨gl, j * 3, none⟩ (.int .i64 x.1)).setCell ⟨gl, j * 3 + 1, none⟩ (.int .i64 x.2.1)).setCell ⟨gl, j * 3 + 2, none⟩ (.bool x.2.2)) b ok (l.set j x) m q g gl cap dv := by
  have hE := ent_put h.row hj x
  have e : ∀ k, k ≠ gl → (((w.setCell ⟨gl, j * 3, none⟩ (.int .i64 x.1)).setCell ⟨gl, j * 3 + 1, none⟩ (.int .i64 x.2.1)).setCell ⟨gl, j * 3 + 2, none⟩ (.bool x.2.2)).heap[k]? = w.heap[k]? := fun k hk => by
    rw [Below.heap_setCell _ _ _ k hk, Below.heap_setCell _ _ _ k hk, Below.heap_setCell _ _ _ k hk]
  have hg := (e g (fun hh => h.ne hh.symm)).trans h.blk
  refine ⟨h.okg, h.lo, blk_lt hg, h.okl, h.ne, by simp [World.setCell]; exact h.ltl, by rw [List.length_set]; exact hg, by rw [List.length_set]; exact hE, Heap.hp.move (fun k hk => e k hk.2.2) h.hp, by rw [List.length_set]; exact h.n1, by rw [List.length_set]; exact h.n64⟩
/-- The heap behind it has turned. -/
theorem PAt.turnH (h : PAt w b ok l m q g gl cap dv) (hH : Heap.hp.M w1 b (more w (fun k => ok k ∧ k ≠ g ∧ k ≠ gl)) (q', true, 64) dv) (hW : Wrote w w1 (fun k => ok k ∧ k ≠ g ∧ k ≠ gl)) : PAt w1 b (more w ok) l m q' g gl cap dv ∧ Wrote w w1 ok := by
  have hg := (hW.block g h.lt (fun hk => hk.2.1 rfl)).trans h.blk
  refine ⟨⟨Or.inl h.okg, h.lo, blk_lt hg, Or.inl h.okl, h.ne, Nat.lt_of_lt_of_le h.ltl hW.size, hg, ?_, ?_, h.n1, h.n64⟩, hW.weaken (fun k hk => hk.1)⟩
  · have h2 : (St.row 29 KE).M w b (fun k => k = gl) l (.slice (some ⟨gl, 0, none⟩) l.length cap) :=
      ⟨fun k hk => by cases hk; rfl, h.row.2.imp_ (fun _ _ hp => by rw [ke_open hp]; exact ke_mk _ _ _ _)⟩
    exact Kd.R_mono (St.stays (s := St.row 29 KE) h2 hW (fun k hk hn => hn.2.2 hk)) (fun k hk => by rw [hk]; exact ⟨Or.inl h.okl, h.ne⟩)
  · refine Heap.hp.mono (fun k hk => ?_) hH
    rcases hk with hk | hk
    · exact ⟨Or.inl hk.1, hk.2⟩
    · exact ⟨Or.inr hk, fun e => by have := h.lt; omega, fun e => by have := h.ltl; omega⟩
theorem PAt.perm (h : PAt w b ok l m q g gl cap dv) (hq : q.Perm q') : PAt w b ok l m q' g gl cap dv :=
  ⟨h.okg, h.lo, h.lt, h.okl, h.ne, h.ltl, h.blk, h.row, hp_perm h.hp hq, h.n1, h.n64⟩
end
/-- Who runs on each CPU. -/
def rank : St (List (Option Ent)) where
  M := fun w b ok s v => ∃ g gl cap m dv, v = .pointer (some ⟨g, 0, none⟩) ∧ PAt w b ok (ents s) m (dues 0 s) g gl cap dv ∧ IdleIs m s
  mono := fun h ⟨g, gl, cap, m, dv, e, h1, h2⟩ => ⟨g, gl, cap, m, dv, e, h1.mono h, h2⟩
  move := fun h ⟨g, gl, cap, m, dv, e, h1, h2⟩ => ⟨g, gl, cap, m, dv, e, h1.move h, h2⟩
  bound := fun ⟨g, gl, cap, m, dv, e, h1, h2⟩ => ⟨g, gl, cap, m, dv, e, h1.bound, h2⟩
end Go.Proofs.Ytjeflmdfnfgacaa.Rank
