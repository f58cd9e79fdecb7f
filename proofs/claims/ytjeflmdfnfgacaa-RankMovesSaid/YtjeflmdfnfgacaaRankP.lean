/- Rank: what it holds, in plain words: entries, masks of those that are idle, Dues (no law is stated here; no condition). -/
import Derived.Test.YtjeflmdfnfgacaaHeapC
import Derived.Test.YtjeflmdfnfgacaaQx30
import Derived.Test.YtjeflmdfnfgacaaQx19
import Derived.Test.YtjeflmdfnfgacaaQx7
import Derived.Test.YtjeflmdfnfgacaaQx27
import Derived.Test.YtjeflmdfnfgacaaQx2
import Derived.Test.YtjeflmdfnfgacaaQx24
import Derived.Test.YtjeflmdfnfgacaaQx33
import Derived.Laws.BitsAllLaws
namespace Go.Proofs.Ytjeflmdfnfgacaa.Rank
open Go.RowKit Go.Proofs.YtjeflmdfnfgacaaW.PrintWords Go.Proofs.YtjeflmdfnfgacaaW.PrintLast Go.Proofs.YtjeflmdfnfgacaaW.PrintMore Go.Proofs.Ytjeflmdfnfgacaa.St Go.Proofs.Ytjeflmdfnfgacaa.Q Go.Proofs.Ytjeflmdfnfgacaa.Heap
set_option linter.unusedVariables false
set_option linter.unusedSimpArgs false

/-- One that would run: its id, its Due, whether it is fixed. -/
abbrev Ent := Int × Int × Bool
def z0 : Ent := (0, 0, false)
def KE : Kd Ent := Kd.pair (Kd.int .i64) (Kd.pair (Kd.int .i64) Kd.bool)
def cellsE (x : Ent) : List Value := [.int .i64 x.1, .int .i64 x.2.1, .bool x.2.2]
section
variable {W : World} {base g n cap : Nat} {ok : Nat → Prop} {xs : List Ent}
theorem ke_open {w : World} {b : Nat} {okp : Nat → Prop} {x : Ent} {cs : List Value} (h : KE.M w b okp x cs) : cs = cellsE x := by
  obtain ⟨_, _, rfl, rfl, ⟨_, _, rfl, rfl, rfl⟩⟩ := h
  rfl
theorem ke_mk (w : World) (b : Nat) (okp : Nat → Prop) (x : Ent) : KE.M w b okp x (cellsE x) := ⟨[_], [_, _], rfl, rfl, ⟨[_], [_], rfl, rfl, rfl⟩⟩
theorem ke_openK {w : World} {x : Ent} {cs : List Value} (h : KE.K w x cs) : cs = cellsE x := by
  obtain ⟨_, _, rfl, rfl, ⟨_, _, rfl, rfl, rfl⟩⟩ := h
  rfl
theorem ent_get (h : KE.R 29 W base ok (.slice (some ⟨g, 0, none⟩) n cap) xs) {j : Nat} (hj : j < n) :
    (W.cell? ⟨g, j * 3, none⟩ = some (.int .i64 (xs.getD j z0).1) ∧ W.cell? ⟨g, j * 3 + 1, none⟩ = some (.int .i64 (xs.getD j z0).2.1) ∧ W.cell? ⟨g, j * 3 + 2, none⟩ = some (.bool (xs.getD j z0).2.2)) ∧ W.frozen? ⟨g, j * 3, none⟩ = false ∧ W.frozen? ⟨g, j * 3 + 1, none⟩ = false ∧ W.frozen? ⟨g, j * 3 + 2, none⟩ = false := by
  obtain ⟨c, _, hM, hcell, hfr⟩ := Kd.R_elem h z0 (j : Int) (by omega) (by omega)
  rw [Int.toNat_natCast] at hM hcell hfr
  obtain rfl := ke_open hM
  exact ⟨⟨hcell 0 _ rfl, hcell 1 _ rfl, hcell 2 _ rfl⟩, hfr 0, hfr 1, hfr 2⟩
theorem ent_set (h : KE.R 29 W base ok (.slice (some ⟨g, 0, none⟩) n cap) xs) {j f : Nat} (hj : j < n) (hf : f < 3) (u : Value) (x' : Ent) (hx : cellsE x' = (cellsE (xs.getD j z0)).set f u) :
    KE.R 29 (W.setCell ⟨g, j * 3 + f, none⟩ u) base ok (.slice (some ⟨g, 0, none⟩) n cap) (xs.set j x') ∧ W.grownBy (W.setCell ⟨g, j * 3 + f, none⟩ u) (some g) := by
  obtain ⟨c, hcl, hM, hcell, hfr⟩ := Kd.R_elem h z0 (j : Int) (by omega) (by omega)
  obtain rfl := ke_open hM
  have hM2 : KE.M W base (fun _ => False) x' ((cellsE (xs.getD (j : Int).toNat z0)).take f ++ [u] ++ (cellsE (xs.getD (j : Int).toNat z0)).drop (f + 1)) := by
    rw [Int.toNat_natCast]
    have e : (cellsE (xs.getD j z0)).take f ++ [u] ++ (cellsE (xs.getD j z0)).drop (f + 1) = cellsE x' := by
      rw [hx]
      have h3 : f = 0 ∨ f = 1 ∨ f = 2 := by omega
      rcases h3 with rfl | rfl | rfl <;> rfl
    rw [e]
    exact ke_mk _ _ _ x'
  have h2 := Kd.R_seg h (j : Int) (by omega) (by omega) hcl hcell (seg := [u]) (j := f) (by show f + 1 ≤ 3; omega) hM2 (fun _ hk => hk.elim)
  rw [Int.toNat_natCast] at h2
  exact h2
theorem getD_set_self {l : List Ent} {j : Nat} (hj : j < l.length) (x : Ent) : (l.set j x).getD j z0 = x := by
  rw [List.getD_eq_getElem?_getD, List.getElem?_set_self hj]; rfl
/-- The three cells of one, stored. -/
theorem ent_put (h : KE.R 29 W base ok (.slice (some ⟨g, 0, none⟩) n cap) xs) {j : Nat} (hj : j < n) (x : Ent) :
    KE.R 29 (((W.setCell ⟨g, j * 3, none⟩ (.int .i64 x.1)).setCell ⟨g, j * 3 + 1, none⟩ (.int .i64 x.2.1)).setCell ⟨g, j * 3 + 2, none⟩ (.bool x.2.2)) base ok (.slice (some ⟨g, 0, none⟩) n cap) (xs.set j x) := by
  have hl : j < xs.length := by
    obtain ⟨A, c, e⟩ := Kd.R_slice h
    injection e with _ e2 _
    omega
  obtain ⟨i, d, f⟩ := x
  obtain ⟨h1, _⟩ := ent_set h hj (f := 0) (by omega) (.int .i64 i) (i, (xs.getD j z0).2.1, (xs.getD j z0).2.2) rfl
  obtain ⟨h2, _⟩ := ent_set h1 hj (f := 1) (by omega) (.int .i64 d) (i, d, (xs.getD j z0).2.2) (by rw [getD_set_self hl]; rfl)
  rw [List.set_set] at h2
  obtain ⟨h3, _⟩ := ent_set h2 hj (f := 2) (by omega) (.bool f) (i, d, f) (by rw [getD_set_self hl]; rfl)
  rw [List.set_set] at h3
  exact h3
end
/-! Who is where -/
def ents (s : List (Option Ent)) : List Ent := s.map (fun o => o.getD z0)
theorem ents_len (s : List (Option Ent)) : (ents s).length = s.length := List.length_map _
theorem ents_getD (s : List (Option Ent)) (j : Nat) : (ents s).getD j z0 = (s.getD j none).getD z0 := by
  rw [ents, List.getD_eq_getElem?_getD, List.getElem?_map, List.getD_eq_getElem?_getD]
  cases s[j]? <;> rfl
theorem ents_set (s : List (Option Ent)) (j : Nat) (o : Option Ent) : ents (s.set j o) = (ents s).set j (o.getD z0) := by rw [ents, List.map_set]; rfl
/-- The mask of those that are idle. -/
def IdleIs (m : Nat) (s : List (Option Ent)) : Prop := m < 18446744073709551616 ∧ ∀ j, j < 64 → m.testBit j = decide (j < s.length ∧ s.getD j none = none)
theorem bit_f {j : Nat} (h : j < 64) : mask_bit.f (j : Int) = some ((2 ^ j : Nat) : Int) := by
  have hp : 2 ^ j < 2 ^ 64 := Nat.pow_lt_pow_right (by omega) h
  have e : shl .u64 1 (j : Int) = ((2 ^ j : Nat) : Int) := by
    unfold shl
    rw [IntKind.wrap_u64, Int.toNat_natCast, Nat.min_eq_left (by show j ≤ 64; omega), Int.one_mul]
    have : ((2 : Int) ^ j) = ((2 ^ j : Nat) : Int) := by simp
    rw [this]
    generalize 2 ^ j = p at hp ⊢
    omega
  unfold mask_bit.f
  rw [if_neg (by omega), if_neg (by omega), if_pos (by omega), e]
theorem with_f {m j : Nat} (h : j < 64) (hm : m < 18446744073709551616) : mask_Mask_With.f (m : Int) (j : Int) = some ((m ||| 2 ^ j : Nat) : Int) := by
  have hp : 2 ^ j < 2 ^ 64 := Nat.pow_lt_pow_right (by omega) h
  unfold mask_Mask_With.f
  rw [bit_f h]
  show some _ = _
  rw [u64_or_nat _ _ hm (by omega)]
theorem without_f {m j : Nat} (h : j < 64) (hm : m < 18446744073709551616) : mask_Mask_Without.f (m : Int) (j : Int) = some ((m &&& (18446744073709551615 - 2 ^ j) : Nat) : Int) := by
  have hp : 2 ^ j < 2 ^ 64 := Nat.pow_lt_pow_right (by omega) h
  unfold mask_Mask_Without.f
  rw [bit_f h]
  show some _ = _
  rw [u64_andNot_nat _ _ hm (by omega)]
theorem and_pow (m j : Nat) : (m &&& 2 ^ j) = if m.testBit j then 2 ^ j else 0 := by
  apply Nat.eq_of_testBit_eq
  intro i
  rw [Nat.testBit_and, Nat.testBit_two_pow]
  by_cases c : m.testBit j = true
  · rw [if_pos c, Nat.testBit_two_pow]
    by_cases e : j = i
    · subst e; simp [c]
    · simp [e]
  · rw [if_neg c, Nat.zero_testBit]
    by_cases e : j = i
    · subst e; simpa using c
    · simp [e]
theorem has_f {m j : Nat} (h : j < 64) (hm : m < 18446744073709551616) : mask_Mask_Has.f (m : Int) (j : Int) = some (m.testBit j) := by
  have hp : 2 ^ j < 2 ^ 64 := Nat.pow_lt_pow_right (by omega) h
  have hq : 0 < 2 ^ j := Nat.pow_pos (by omega)
  unfold mask_Mask_Has.f
  rw [bit_f h]
  show some _ = _
  rw [u64_and_nat _ _ hm (by omega), and_pow]
  congr 1
  cases c : m.testBit j with
  | true =>
    rw [if_pos rfl]
    generalize 2 ^ j = p at hq
    simp [bne]
    omega
  | false => rfl
theorem wo_bit {m j i : Nat} (hj : j < 64) (hi : i < 64) : (m &&& (18446744073709551615 - 2 ^ j)).testBit i = (m.testBit i && !(decide (j = i))) := by
  have hp : 2 ^ j < 2 ^ 64 := Nat.pow_lt_pow_right (by omega) hj
  have e : 18446744073709551615 - 2 ^ j = 2 ^ 64 - (2 ^ j + 1) := by omega
  rw [Nat.testBit_and, e, Nat.testBit_two_pow_sub_succ hp, Nat.testBit_two_pow, decide_eq_true hi, Bool.true_and]
theorem getD_set {s : List (Option Ent)} {j i : Nat} (hj : j < s.length) (o : Option Ent) : (s.set j o).getD i none = if j = i then o else s.getD i none := by
  rw [List.getD_eq_getElem?_getD, List.getElem?_set]
  by_cases e : j = i
  · subst e
    rw [if_pos rfl, if_pos rfl, if_pos hj]
    rfl
  · rw [if_neg e, if_neg e, ← List.getD_eq_getElem?_getD]
theorem idle_set {m j : Nat} {s : List (Option Ent)} (h : IdleIs m s) (hj : j < s.length) (h64 : s.length ≤ 64) (e : Ent) : IdleIs (m &&& (18446744073709551615 - 2 ^ j)) (s.set j (some e)) := by
  refine ⟨Nat.lt_of_le_of_lt Nat.and_le_left h.1, fun i hi => ?_⟩
  rw [wo_bit (by omega) hi, h.2 i hi, List.length_set, getD_set hj]
  by_cases c : j = i
  · subst c; simp
  · simp [c]
theorem idle_clear {m j : Nat} {s : List (Option Ent)} (h : IdleIs m s) (hj : j < s.length) (h64 : s.length ≤ 64) : IdleIs (m ||| 2 ^ j) (s.set j none) := by
  refine ⟨Nat.or_lt_two_pow (n := 64) h.1 (Nat.pow_lt_pow_right (by omega) (by omega)), fun i hi => ?_⟩
  rw [Nat.testBit_or, Nat.testBit_two_pow, h.2 i hi, List.length_set, getD_set hj]
  by_cases c : j = i
  · subst c; simp [hj]
  · simp [c]
theorem idle_unique {m m' : Nat} {s : List (Option Ent)} (h : IdleIs m s) (h' : IdleIs m' s) : m = m' := by
  apply Nat.eq_of_testBit_eq
  intro i
  by_cases c : i < 64
  · rw [h.2 i c, h'.2 i c]
  · have hp : 2 ^ 64 ≤ 2 ^ i := Nat.pow_le_pow_right (by omega) (by omega)
    rw [Nat.testBit_lt_two_pow (Nat.lt_of_lt_of_le h.1 hp), Nat.testBit_lt_two_pow (Nat.lt_of_lt_of_le h'.1 hp)]
theorem full_f {n : Nat} (h : n ≤ 64) : mask_Full.f (n : Int) = some ((2 ^ n - 1 : Nat) : Int) := by
  have key : ∀ n < 65, mask_Full.f ((n : Nat) : Int) = some ((2 ^ n - 1 : Nat) : Int) := by decide +kernel
  exact key n (by omega)
theorem idle_new {n : Nat} (h : n ≤ 64) : IdleIs (2 ^ n - 1) (List.replicate n none) := by
  have hp : 2 ^ n ≤ 2 ^ 64 := Nat.pow_le_pow_right (by omega) h
  have hq : 0 < 2 ^ n := Nat.pow_pos (by omega)
  refine ⟨by omega, fun j hj => ?_⟩
  rw [Nat.testBit_two_pow_sub_one, List.length_replicate]
  congr 1
  rw [List.getD_eq_getElem?_getD, List.getElem?_replicate]
  apply propext
  constructor
  · intro hh; exact ⟨hh, by rw [if_pos hh]; rfl⟩
  · exact fun hh => hh.1
/-! The Dues of those that may be stopped -/
def dueAt (c : Nat) : Option Ent → List (Int × Int)
  | some (_, d, false) => [((c : Int), d)]
  | _ => []
def dues : Nat → List (Option Ent) → List (Int × Int)
  | _, [] => []
  | c, o :: t => dueAt c o ++ dues (c + 1) t
theorem dues_app : ∀ (a b : List (Option Ent)) (c : Nat), dues c (a ++ b) = dues c a ++ dues (c + a.length) b
  | [], b, c => by simp [dues]
  | o :: a, b, c => by
    rw [List.cons_append, dues, dues_app a b (c + 1), dues, List.append_assoc, List.length_cons, show c + 1 + a.length = c + (a.length + 1) by omega]
theorem dueAt_id {c : Nat} {o : Option Ent} {y : Int × Int} (h : y ∈ dueAt c o) : y.1 = (c : Int) := by
  unfold dueAt at h
  split at h
  · simp at h; rw [h]
  · simp at h
theorem dues_id : ∀ (s : List (Option Ent)) (c : Nat) (y : Int × Int), y ∈ dues c s → (c : Int) ≤ y.1 ∧ y.1 < ((c + s.length : Nat) : Int)
  | [], c, y, h => by simp [dues] at h
  | o :: t, c, y, h => by
    rw [dues, List.mem_append] at h
    rw [List.length_cons]
    rcases h with h | h
    · have := dueAt_id h; omega
    · have := dues_id t (c + 1) y h; omega
theorem dues_len : ∀ (s : List (Option Ent)) (c : Nat), (dues c s).length ≤ s.length
  | [], c => by simp [dues]
  | o :: t, c => by
    have h1 : (dueAt c o).length ≤ 1 := by unfold dueAt; split <;> simp
    have h2 := dues_len t (c + 1)
    rw [dues, List.length_append, List.length_cons]
    omega
/-- All but one CPU's. -/
def rest (a b : List (Option Ent)) : List (Int × Int) := dues 0 a ++ dues (a.length + 1) b
theorem rest_no (a b : List (Option Ent)) : ∀ y ∈ rest a b, y.1 ≠ (a.length : Int) := by
  intro y hy
  rcases List.mem_append.1 hy with h | h
  · have := dues_id a 0 y h; omega
  · have := dues_id b (a.length + 1) y h; omega
theorem dues_split (a b : List (Option Ent)) (o : Option Ent) : dues 0 (a ++ o :: b) = dues 0 a ++ (dueAt a.length o ++ dues (a.length + 1) b) := by
  rw [dues_app, dues, Nat.zero_add]
theorem dues_perm (a b : List (Option Ent)) (o : Option Ent) : (rest a b ++ dueAt a.length o).Perm (dues 0 (a ++ o :: b)) := by
  rw [dues_split, rest, List.append_assoc]
  exact List.Perm.append_left _ List.perm_append_comm
theorem split_at {s : List (Option Ent)} {j : Nat} (hj : j < s.length) : ∃ a b, s = a ++ s.getD j none :: b ∧ a.length = j := by
  refine ⟨s.take j, s.drop (j + 1), ?_, by rw [List.length_take]; omega⟩
  rw [← Mine.drop_at (Mine.getD_at none hj), List.take_append_drop]
theorem set_split {a b : List (Option Ent)} {o o' : Option Ent} : (a ++ o :: b).set a.length o' = a ++ o' :: b := by
  rw [List.set_append_right _ _ (Nat.le_refl _), Nat.sub_self]; rfl
end Go.Proofs.Ytjeflmdfnfgacaa.Rank
