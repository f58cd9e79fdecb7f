/- Alarm: what a heap of alarms tells, in plain lists (no law is stated here; each says its conditions). -/
import Derived.Test.YtdmoembbgcoeaaaAlC
namespace Go.Proofs.Ytdmoembbgcoeaaa.Alarm
open Go.RowKit Go.Proofs.YtdmoembbgcoeaaaW.PrintWords Go.Proofs.YtdmoembbgcoeaaaW.PrintLast Go.Proofs.YtdmoembbgcoeaaaW.PrintMore Go.Proofs.Ytdmoembbgcoeaaa.St Go.Proofs.Ytdmoembbgcoeaaa.Q Go.Proofs.Ytdmoembbgcoeaaa.Heap
set_option linter.unusedVariables false
set_option linter.unusedSimpArgs false

theorem take_more {α : Type} {l : List α} {k : Nat} (z : α) (hk : k < l.length) : l.take (k + 1) = l.take k ++ [l.getD k z] := by
  rw [List.take_add_one, List.getElem?_eq_getElem hk, List.getD_eq_getElem?_getD, List.getElem?_eq_getElem hk]
  rfl
/-- One taken out, one put in. -/
def unarm (m : List (Int × Int)) (id : Int) : List (Int × Int) := m.filter (fun y => !(y.1 == id))
def rearm (m : List (Int × Int)) (id at' : Int) : List (Int × Int) := unarm m id ++ [(id, at')]
def has (m : List (Int × Int)) (id : Int) : Bool := m.any (fun y => y.1 == id)
theorem has_iff {m : List (Int × Int)} {id : Int} : has m id = true ↔ ∃ u, (id, u) ∈ m := by
  unfold has
  rw [List.any_eq_true]
  constructor
  · rintro ⟨⟨a, u⟩, h1, h2⟩
    have : a = id := by simpa using h2
    subst this
    exact ⟨u, h1⟩
  · rintro ⟨u, h⟩
    exact ⟨(id, u), h, by simp⟩
theorem has_no {m : List (Int × Int)} {id : Int} : has m id = false ↔ ∀ y ∈ m, y.1 ≠ id := by
  rw [← Bool.not_eq_true, has_iff]
  constructor
  · rintro h ⟨a, u⟩ hy e
    have : a = id := e
    subst this
    exact h ⟨u, hy⟩
  · rintro h ⟨u, hu⟩
    exact h _ hu rfl
theorem unarm_no {m : List (Int × Int)} {id : Int} (h : ∀ y ∈ m, y.1 ≠ id) : unarm m id = m := by
  unfold unarm
  rw [List.filter_eq_self]
  intro y hy
  simpa using h y hy
theorem unarm_split {p q : List (Int × Int)} {id u : Int} (h : ((p ++ (id, u) :: q).map (·.1)).Nodup) : unarm (p ++ (id, u) :: q) id = p ++ q := by
  rw [List.map_append, List.map_cons, List.nodup_append] at h
  obtain ⟨h1, h2, h3⟩ := h
  rw [List.nodup_cons] at h2
  have hp : ∀ y ∈ p, y.1 ≠ id := fun y hy e => h3 y.1 (List.mem_map.2 ⟨y, hy, rfl⟩) id (by simp) e
  have hq : ∀ y ∈ q, y.1 ≠ id := fun y hy e => h2.1 (List.mem_map.2 ⟨y, hy, e⟩)
  have e1 := unarm_no hp
  have e2 := unarm_no hq
  unfold unarm at *
  rw [List.filter_append, e1, List.filter_cons_of_neg (by simp), e2]
theorem unarm_none (m : List (Int × Int)) (id : Int) : ∀ y ∈ unarm m id, y.1 ≠ id := by
  intro y hy
  have := (List.mem_filter.1 hy).2
  simpa using this
theorem unarm_le (m : List (Int × Int)) (id : Int) : (unarm m id).length ≤ m.length := List.length_filter_le _ _
theorem mem_split2 {m : List (Int × Int)} {x : Int × Int} (h : x ∈ m) : ∃ p q, m = p ++ x :: q := List.append_of_mem h
/-- The least: by key, then by id. -/
def leastL : List (Int × Int) → Option (Int × Int)
  | [] => none
  | x :: t => match leastL t with
    | none => some x
    | some y => if lt false x y = true then some x else some y
theorem leastL_none : ∀ {m : List (Int × Int)}, leastL m = none ↔ m = []
  | [] => by simp [leastL]
  | x :: t => by
    constructor
    · intro h
      unfold leastL at h
      split at h
      · cases h
      · split at h <;> cases h
    · intro h; cases h
theorem lt_tri (a b : Int × Int) (h : a ≠ b) : lt false a b = true ∨ lt false b a = true := by
  cases h1 : lt false a b with
  | true => exact Or.inl rfl
  | false =>
    cases h2 : lt false b a with
    | true => exact Or.inr rfl
    | false => exact absurd (lt_eq h1 h2) h
theorem lt_tr {a b c : Int × Int} (h : lt false a b = true) (k : lt false b c = true) : lt false a c = true := by
  rw [lt_def] at *
  simp only [true_and, Bool.false_eq_true, false_and, or_false] at *
  omega
theorem leastL_first : ∀ {m : List (Int × Int)} {z : Int × Int}, leastL m = some z → FirstOf false m z
  | [], z, h => by cases h
  | x :: t, z, h => by
    unfold leastL at h
    cases hc : leastL t with
    | none =>
      rw [hc] at h
      cases h
      have ht := leastL_none.1 hc
      subst ht
      exact ⟨by simp, fun y hy hne => absurd (by simpa using hy) hne⟩
    | some y =>
      rw [hc] at h
      have ih := leastL_first hc
      simp only at h
      by_cases hl : lt false x y = true
      · rw [if_pos hl] at h
        cases h
        refine ⟨by simp, fun v hv hne => ?_⟩
        rcases List.mem_cons.1 hv with e | hv
        · exact absurd e hne
        · by_cases hvy : v = y
          · rw [hvy]; exact hl
          · exact lt_tr hl (ih.2 v hv hvy)
      · rw [if_neg hl] at h
        cases h
        refine ⟨List.mem_cons_of_mem _ ih.1, fun v hv hne => ?_⟩
        rcases List.mem_cons.1 hv with e | hv
        · rcases lt_tri v z hne with h1 | h1
          · rw [e] at h1; exact absurd h1 hl
          · exact h1
        · exact ih.2 v hv hne
/-- A CPU's register. -/
def regV (m : List (Int × Int)) : Int × Bool := match leastL m with | some z => (z.2, true) | none => (0, false)
theorem first_uniq {m : List (Int × Int)} {a b : Int × Int} (h : FirstOf false m a) (k : FirstOf false m b) : a = b := by
  by_cases e : a = b
  · exact e
  · have h1 := h.2 b k.1 (fun e2 => e e2.symm)
    have h2 := k.2 a h.1 e
    rw [lt_asym h1] at h2
    cases h2
theorem leastL_perm {m m' : List (Int × Int)} (h : m.Perm m') : leastL m = leastL m' := by
  cases h1 : leastL m with
  | none =>
    have := leastL_none.1 h1
    subst this
    rw [h.symm.eq_nil]; rfl
  | some z =>
    cases h2 : leastL m' with
    | none =>
      have := leastL_none.1 h2
      subst this
      rw [h.eq_nil] at h1; cases h1
    | some z' =>
      have f1 := leastL_first h1
      have f2 := leastL_first h2
      exact congrArg some (first_uniq ⟨h.mem_iff.1 f1.1, fun y hy => f1.2 y (h.mem_iff.2 hy)⟩ f2)
theorem hp_perm {W : World} {b : Nat} {ok : Nat → Prop} {m m' : List (Int × Int)} {gr : Bool} {rm : Int} {v : Value} (h : hp.M W b ok (m, gr, rm) v) (hpm : m.Perm m') : hp.M W b ok (m', gr, rm) v := by
  obtain ⟨x, e1, e2, e3, e4, e5⟩ := h
  exact ⟨x, e1, e2, e3, e4.trans hpm, e5⟩
theorem full_nodup {x : H} (h : Full x) : (x.l.map (·.1)).Nodup := by
  refine List.pairwise_iff_getElem.2 (fun i j hi hj hij e => ?_)
  rw [List.length_map] at hi hj
  have e2 : x.l[i].1 = x.l[j].1 := by simpa using e
  have a1 := h.fwd i hi
  have a2 := h.fwd j hj
  unfold at_ at a1 a2
  rw [List.getD_eq_getElem?_getD, List.getElem?_eq_getElem hi] at a1
  rw [List.getD_eq_getElem?_getD, List.getElem?_eq_getElem hj] at a2
  simp only [Option.getD_some] at a1 a2
  rw [e2, a2] at a1
  injection a1 with a1
  omega
theorem hp_nodup {W : World} {b : Nat} {ok : Nat → Prop} {m : List (Int × Int)} {gr : Bool} {rm : Int} {v : Value} (h : hp.M W b ok (m, gr, rm) v) : (m.map (·.1)).Nodup := by
  obtain ⟨x, e1, e2, e3, e4, e5⟩ := h
  exact ((e4.map (·.1)).nodup_iff).1 (full_nodup e3.1)
theorem hp_ptr {W : World} {b : Nat} {ok : Nat → Prop} {t : List (Int × Int) × Bool × Int} {v : Value} (h : hp.M W b ok t v) : ∃ g : Nat, v = .pointer (some ⟨g, 0, none⟩) := by
  obtain ⟨x, e1, e2, e3, e4, g, sv, bm, e, _⟩ := h
  exact ⟨g, e⟩
theorem hp_size {W : World} {b : Nat} {ok : Nat → Prop} {t : List (Int × Int) × Bool × Int} {v : Value} (h : hp.M W b ok t v) : b ≤ W.heap.size := by
  obtain ⟨x, e1, e2, e3, e4, g, sv, bm, e, hA⟩ := h
  have h1 := hA.1.2.1
  have h2 := hA.glt
  omega
section
variable {w0 W W1 : World} {c : Nat → Nat} {i : Nat} {m : List (Int × Int)} {gr : Bool} {rm : Int} {v : Value}
theorem dropA (id : Int) (h : hp.M W w0.heap.size (fun k => c k = i) (m, gr, rm) v) (hs : w0.heap.size ≤ W.heap.size) (hw : (Lit.int .i64 id).wf = true) :
    Calls Try.prog 33 #[v, .int .i64 id] W fun e w' => e = .returned (.bool (has m id)) ∧ ∃ c', hp.M w' w0.heap.size (fun k => c' k = i) (unarm m id, gr, rm) v ∧ Turned c c' i w0 W w' := by
  cases hh : has m id with
  | false =>
    have hn := has_no.1 hh
    refine (drop_missC id h hw hn).mono ?_
    rintro e w' ⟨he, rfl⟩
    rw [unarm_no hn]
    exact ⟨he, c, h, fun hb => hb, fun _ _ _ _ _ _ h => h⟩
  | true =>
    obtain ⟨u, hu⟩ := has_iff.1 hh
    obtain ⟨p, q, hpq⟩ := mem_split2 hu
    subst hpq
    rw [unarm_split (hp_nodup h)]
    exact dropC id u p q h hs hw
theorem putA (id at' : Int) (h : hp.M W w0.heap.size (fun k => c k = i) (m, gr, 1024) v) (hs : w0.heap.size ≤ W.heap.size) (hw : (Lit.int .i64 id).wf = true) (hl : m.length < 1024) :
    Calls Try.prog 24 #[v, .int .i64 id, .int .i64 at'] W fun e w' => e = .returned (.int .i64 0) ∧ ∃ c', hp.M w' w0.heap.size (fun k => c' k = i) (rearm m id at', gr, 1024) v ∧ Turned c c' i w0 W w' := by
  have HH := Aside0.mk h
  have HS := Aside0.mk hs
  have HW := Aside0.mk hw
  have HL := Aside0.mk (show (unarm m id).length < 1024 from Nat.lt_of_le_of_lt (unarm_le m id) hl)
  have HL2 := Aside0.mk (show ((unarm m id).length : Int) < 1024 from by have := HL.out; omega)
  have HN := Aside0.mk (unarm_none m id)
  clear h hs hw hl
  go_enter Try.func24, Try.ntmps24
  go_wp2_with (first | (go_at_call 33; (with_reducible refine (dropA id HH.out HS.out HW.out).mono ?_); rintro e w1 ⟨rfl, c1, h1, t1⟩; have H1 := Aside0.mk h1; have T1 := Aside0.mk t1; have S1 := Aside0.mk (show w0.heap.size ≤ w1.heap.size from hp_size h1); clear h1 t1) | (go_at_call 35; (with_reducible refine (putC id at' H1.out S1.out HW.out HN.out HL2.out HL.out).mono ?_); rintro e w2 ⟨rfl, c2, h2, t2⟩; have H2 := Aside0.mk h2; have T2 := Aside0.mk t2; clear h2 t2))
  go_ret
  exact ⟨rfl, c2, H2.out, fun hb => T2.out.far (T1.out.far hb), fun α s j y u hne hm => T2.out.keep α s j y u hne (T1.out.keep α s j y u hne hm)⟩
/-- What Key tells. -/
def keyV (m : List (Int × Int)) (id : Int) : Int × Bool := match m.find? (fun y => y.1 == id) with | some y => (y.2, true) | none => (0, false)
theorem keyA (id : Int) (h : hp.M W w0.heap.size (fun k => c k = i) (m, gr, rm) v) (hw : (Lit.int .i64 id).wf = true) :
    Calls Try.prog 32 #[v, .int .i64 id] W fun e w' => e = .returned (.tuple #[.int .i64 (keyV m id).1, .bool (keyV m id).2]) ∧ w' = W := by
  unfold keyV
  cases hf : m.find? (fun y => y.1 == id) with
  | none =>
    exact key_missC id h hw (fun y hy e => by have := List.find?_eq_none.1 hf y hy; simp [e] at this)
  | some y =>
    have h1 := List.find?_some hf
    have h2 := List.mem_of_find?_eq_some hf
    have e : y.1 = id := by simpa using h1
    have h3 : (id, y.2) ∈ m := by rw [← e]; exact h2
    exact keyC id y.2 h hw h3
theorem topA (h : hp.M W w0.heap.size (fun k => c k = i) (m, false, rm) v) {o : Option (Int × Int)} (ho : leastL m = o) :
    Calls Try.prog 25 #[v] W fun e w' => e = .returned (.tuple #[.agg #[.int .i64 (o.getD (0, 0)).1, .int .i64 (o.getD (0, 0)).2], .bool o.isSome]) ∧ Below W.heap.size W w' := by
  cases o with
  | none =>
    have := leastL_none.1 ho
    subst this
    exact top_noneC h
  | some z => exact topC z h (leastL_first ho)
end
end Go.Proofs.Ytdmoembbgcoeaaa.Alarm
