/- The statement SeatKeeps of the program, over numbers and lists alone: for every input (of the bounds that it names) the printed function of the law answers true. No further condition. -/
import Derived.Test.YtdolfdijcbfegaaQx10
namespace Go.Proofs.Ytdolfdijcbfegaa.Pure
open Go.RowKit Go.Proofs.Ytdolfdijcbfegaa.Q Go.Proofs.YtdolfdijcbfegaaW.PrintWords Go.Proofs.YtdolfdijcbfegaaW.PrintLast

set_option linter.unusedSimpArgs false
set_option linter.unusedVariables false

theorem wrap_id {n : Int} (h0 : -9223372036854775808 ≤ n) (h1 : n ≤ 9223372036854775807) : wrap64 n = n := by unfold wrap64; omega
theorem wrap_nat {j : Nat} (h : j ≤ 17592186044416) : wrap64 ((j : Int) + 1) = ((j + 1 : Nat) : Int) := by unfold wrap64; omega
theorem index_k {k : Nat} {l : List Int} {v : Int} (hl : l.length ≤ 64) (hk : 65 ≤ k) : slices_Index_int_int.f k l v = some (seat_Give.placeOf l v) :=
  at_rounds (fun k => slices_Index_int_int.mono l v k) (show l.length + 1 ≤ k by omega) (seat_Give.index_f l v (by omega))
theorem at_k {k : Nat} {l : List Int} {v : Int} (hl : l.length ≤ 64) (hk : 65 ≤ k) : seat_At.f k l v = some (if v = -1 then -1 else seat_Give.placeOf l v) := by
  unfold seat_At.f
  by_cases h : v = -1
  · rw [if_pos h, if_pos h]
  · rw [if_neg h, if_neg h, index_k hl hk]; rfl
theorem ints_l (a : List Int) (hl : a.length ≤ 64) : ∀ (d j : Nat), a.length - j = d → j ≤ a.length → beadlelaw16_ints.l0 (d + 1) a a (j : Int) = some true := by
  intro d
  induction d with
  | zero =>
    intro j hd hj
    rw [beadlelaw16_ints.l0.eq_2, if_neg (by omega)]
  | succ d ih =>
    intro j hd hj
    rw [beadlelaw16_ints.l0.eq_2, if_pos (by omega), if_pos (by omega), if_pos (by omega), if_pos rfl, wrap_nat (by omega)]
    exact ih (j + 1) (by omega) (by omega)
theorem ints_k {k : Nat} {a : List Int} (hl : a.length ≤ 64) (hk : 65 ≤ k) : beadlelaw16_ints.f k a a = some true := by
  refine at_rounds (fun k => beadlelaw16_ints.mono a a k) (show a.length + 1 ≤ k by omega) ?_
  unfold beadlelaw16_ints.f
  rw [if_pos rfl]
  exact ints_l a hl a.length 0 (by omega) (by omega)
/-- None is there twice (but nobody), each from a least one on. -/
def OnceP (least : Int) (l : List Int) : Prop := (∀ x ∈ l, least ≤ x ∧ x < 1024) ∧ l.Pairwise (fun a b => a = b → a = -1)
theorem onceb_iff (least : Int) (l : List Int) : ∀ seen : List Int, seat_once.onceb least seen l = true ↔ ((∀ x ∈ l, least ≤ x ∧ x < 1024) ∧ (∀ x ∈ l, x ∈ seen → x = -1) ∧ l.Pairwise (fun a b => a = b → a = -1)) := by
  induction l with
  | nil => intro seen; simp [seat_once.onceb]
  | cons x xs ih =>
    intro seen
    rw [seat_once.step]
    by_cases h1 : x < least
    · rw [if_pos h1]
      refine ⟨fun h => by simp at h, fun h => ?_⟩
      have := (h.1 x List.mem_cons_self).1
      omega
    · rw [if_neg h1]
      by_cases h2 : x ≥ 1024
      · rw [if_pos h2]
        refine ⟨fun h => by simp at h, fun h => ?_⟩
        have := (h.1 x List.mem_cons_self).2
        omega
      · rw [if_neg h2]
        by_cases h3 : x ∈ seen ∧ x ≠ -1
        · rw [if_pos h3]
          refine ⟨fun h => by simp at h, fun h => ?_⟩
          exact absurd (h.2.1 x List.mem_cons_self h3.1) h3.2
        · rw [if_neg h3, ih (x :: seen)]
          refine ⟨fun ⟨a, b, c⟩ => ⟨?_, ?_, ?_⟩, fun ⟨a, b, c⟩ => ⟨?_, ?_, ?_⟩⟩
          · intro y hy
            rcases List.mem_cons.1 hy with rfl | hy
            · omega
            · exact a y hy
          · intro y hy hs
            rcases List.mem_cons.1 hy with rfl | hy
            · exact Classical.byContradiction fun hn => h3 ⟨hs, hn⟩
            · exact b y hy (List.mem_cons_of_mem _ hs)
          · refine List.pairwise_cons.2 ⟨fun y hy e => ?_, c⟩
            subst e
            exact b x hy List.mem_cons_self
          · exact fun y hy => a y (List.mem_cons_of_mem _ hy)
          · intro y hy hs
            rcases List.mem_cons.1 hs with rfl | hs
            · exact (List.pairwise_cons.1 c).1 y hy rfl
            · exact b y (List.mem_cons_of_mem _ hy) hs
          · exact (List.pairwise_cons.1 c).2
theorem once_iff (least : Int) (l : List Int) : seat_once.onceb least [] l = true ↔ OnceP least l := by
  rw [onceb_iff]
  unfold OnceP
  simp
theorem once_f {least : Int} {l : List Int} (hl : l.length ≤ 64) (h : -1 ≤ least) : seat_once.f l least = some (seat_once.onceb least [] l) := by
  unfold seat_once.f
  rw [if_pos h, if_pos (by omega)]
/-- What Good asks of seats and of those that run. -/
def Seats (was run : List Int) : Prop := 1 ≤ was.length ∧ was.length ≤ 64 ∧ run.length ≤ was.length ∧ OnceP (-1) was ∧ OnceP 0 run
theorem good_t {was run : List Int} (h : Seats was run) : seat_Good.f was run = some true := by
  obtain ⟨h1, h2, h3, h4, h5⟩ := h
  unfold seat_Good.f
  rw [if_pos (by omega), if_pos (by omega), if_pos (by omega), once_f h2 (by omega), once_f (l := run) (by omega) (by omega), (once_iff (-1) was).2 h4, (once_iff 0 run).2 h5]
  rfl
theorem good_n {was run : List Int} (h : ¬ Seats was run) : seat_Good.f was run = some false := by
  unfold seat_Good.f
  by_cases h1 : (was.length : Int) ≥ 1
  · by_cases h2 : (was.length : Int) ≤ 64
    · by_cases h3 : (run.length : Int) ≤ (was.length : Int)
      · rw [if_pos h1, if_pos h2, if_pos h3, once_f (by omega) (by omega), once_f (l := run) (by omega) (by omega)]
        simp only [Option.bind_some]
        by_cases h4 : seat_once.onceb (-1) [] was = true
        · rw [if_pos h4]
          by_cases h5 : seat_once.onceb 0 [] run = true
          · exact absurd ⟨by omega, by omega, by omega, (once_iff _ _).1 h4, (once_iff _ _).1 h5⟩ h
          · rw [Bool.not_eq_true] at h5; rw [h5]
        · rw [if_neg h4]
      · rw [if_pos h1, if_pos h2, if_neg h3]
    · rw [if_pos h1, if_neg h2]
  · rw [if_neg h1]
theorem awake_f : beadlelaw16_awake.f 100 = some true := by decide +kernel

/-- How many have a seat. -/
def seated (now : List Int) : Nat := now.countP (fun x => decide (0 ≤ x))
/-- How many of those that run have none yet. -/
def lacks (now rs : List Int) : Nat := rs.countP (fun x => decide (x ∉ now))
/-- Seats in which nobody is twice. -/
def Own (now : List Int) : Prop := now.Pairwise (fun a b => a = b → a = -1)
theorem own_mid {pre post : List Int} {x y : Int} (h : Own (pre ++ x :: post)) (hn : y ∉ pre ++ x :: post) : Own (pre ++ y :: post) := by
  unfold Own at h ⊢
  rw [List.pairwise_append] at h ⊢
  obtain ⟨p1, p2, p3⟩ := h
  obtain ⟨p4, p5⟩ := List.pairwise_cons.1 p2
  refine ⟨p1, List.pairwise_cons.2 ⟨fun z hz e => absurd (by rw [e]; simp [hz]) hn, p5⟩, fun a ha b hb e => ?_⟩
  rcases List.mem_cons.1 hb with rfl | hb
  · exact absurd (by rw [← e]; simp [ha]) hn
  · exact p3 a ha b (List.mem_cons_of_mem _ hb) e
theorem split_at {l : List Int} {v : Int} (h : v ∈ l) : ∃ pre post, l = pre ++ v :: post ∧ v ∉ pre ∧ l.idxOf v = pre.length := by
  induction l with
  | nil => simp at h
  | cons a l ih =>
    by_cases e : a = v
    · subst e
      exact ⟨[], l, rfl, by simp, by simp⟩
    · have hm : v ∈ l := by
        rcases List.mem_cons.1 h with r | r
        · exact absurd r.symm e
        · exact r
      obtain ⟨pre, post, rfl, hp, hi⟩ := ih hm
      refine ⟨a :: pre, post, rfl, by simp [hp]; exact fun z => e z.symm, ?_⟩
      rw [List.idxOf_cons]
      have : (a == v) = false := by simpa using e
      rw [this, cond_false, hi]
      rfl
/-- What place leaves: all that run have seats, those that had one keep it, nobody else comes. -/
theorem place_law : ∀ (rs now : List Int) (m : Nat), rs.Pairwise (fun a b => a = b → a = -1) → (∀ x ∈ rs, 0 ≤ x) → Own now → lacks now rs ≤ now.countP (fun x => decide (x = -1)) → m + rs.length ≤ 1000 →
    ∃ out : List Int, seat_Give.place now rs (m : Int) = some (out, ((m + lacks now rs : Nat) : Int)) ∧ out.length = now.length ∧ Own out ∧ (∀ x ∈ rs, x ∈ out) ∧ seated out = seated now + lacks now rs ∧
      (∀ (i : Nat) (y : Int), now[i]? = some y → y ≠ -1 → out[i]? = some y) ∧ (∀ (i : Nat) (y : Int), out[i]? = some y → now[i]? = some y ∨ (now[i]? = some (-1) ∧ y ∈ rs ∧ y ∉ now)) := by
  intro rs
  induction rs with
  | nil =>
    intro now m _ _ ho _ _
    exact ⟨now, by simp [seat_Give.place, lacks], rfl, ho, by simp, by simp [lacks], fun i y h _ => h, fun i y h => .inl h⟩
  | cons id rs ih =>
    intro now m hd hp ho hf hm
    have hm1 : m + 1 + rs.length ≤ 1000 := by rw [List.length_cons] at hm; omega
    obtain ⟨d1, d2⟩ := List.pairwise_cons.1 hd
    have hid : 0 ≤ id := hp id List.mem_cons_self
    have hnr : id ∉ rs := fun h => by have := d1 id h rfl; omega
    by_cases c : id ∈ now
    · have hl : lacks now (id :: rs) = lacks now rs := by unfold lacks; rw [List.countP_cons]; simp [c]
      obtain ⟨out, e1, e2, e3, e4, e5, e6, e7⟩ := ih now m d2 (fun x hx => hp x (List.mem_cons_of_mem _ hx)) ho (by omega) (by omega)
      refine ⟨out, by rw [seat_Give.place, if_pos c, e1, hl], e2, e3, ?_, by rw [hl]; exact e5, e6, fun i y h => ?_⟩
      · intro x hx
        rcases List.mem_cons.1 hx with rfl | hx
        · obtain ⟨i, hi⟩ := List.getElem?_of_mem c
          exact List.mem_of_getElem? (e6 i x hi (by omega))
        · exact e4 x hx
      · rcases e7 i y h with h | ⟨h, h2, h3⟩
        · exact .inl h
        · exact .inr ⟨h, List.mem_cons_of_mem _ h2, h3⟩
    · have hl : lacks now (id :: rs) = lacks now rs + 1 := by unfold lacks; rw [List.countP_cons]; simp [c]
      have hfree : (-1 : Int) ∈ now := by
        apply Classical.byContradiction
        intro hn
        have : now.countP (fun x => decide (x = -1)) = 0 := by
          rw [List.countP_eq_zero]
          intro a ha
          simp
          rintro rfl
          exact hn ha
        omega
      obtain ⟨pre, post, rfl, hpre, hidx⟩ := split_at hfree
      have hset : (pre ++ (-1 : Int) :: post).set ((pre ++ (-1 : Int) :: post).idxOf (-1)) id = pre ++ id :: post := by rw [hidx]; simp
      have hl2 : lacks (pre ++ id :: post) rs = lacks (pre ++ (-1 : Int) :: post) rs := by
        unfold lacks
        apply List.countP_congr
        intro x hx
        have hx1 : x ≠ id := fun e => hnr (e ▸ hx)
        have hx2 : x ≠ -1 := by have := hp x (List.mem_cons_of_mem _ hx); omega
        simp [hx1, hx2]
      have hc1 : (pre ++ id :: post).countP (fun x => decide (x = -1)) + 1 = (pre ++ (-1 : Int) :: post).countP (fun x => decide (x = -1)) := by
        rw [List.countP_append, List.countP_append, List.countP_cons, List.countP_cons]
        have : ¬ id = -1 := by omega
        simp [this]
        omega
      have hs1 : seated (pre ++ id :: post) = seated (pre ++ (-1 : Int) :: post) + 1 := by
        unfold seated
        rw [List.countP_append, List.countP_append, List.countP_cons, List.countP_cons]
        simp [hid]
        omega
      have hw : wrap64 ((m : Int) + 1) = ((m + 1 : Nat) : Int) := wrap_nat (by rw [List.length_cons] at hm; omega)
      obtain ⟨out, e1, e2, e3, e4, e5, e6, e7⟩ := ih (pre ++ id :: post) (m + 1) d2 (fun x hx => hp x (List.mem_cons_of_mem _ hx)) (own_mid ho c) (by omega) hm1
      have hmid : (pre ++ id :: post)[pre.length]? = some id := by simp
      have hmid2 : (pre ++ (-1 : Int) :: post)[pre.length]? = some (-1) := by simp
      have hoth : ∀ i : Nat, i ≠ pre.length → (pre ++ id :: post)[i]? = (pre ++ (-1 : Int) :: post)[i]? := by
        intro i hi
        rcases Nat.lt_or_ge i pre.length with h | h
        · rw [List.getElem?_append_left h, List.getElem?_append_left h]
        · rw [List.getElem?_append_right h, List.getElem?_append_right h]
          obtain ⟨q, hq⟩ : ∃ q, i - pre.length = q + 1 := ⟨i - pre.length - 1, by omega⟩
          rw [hq]; rfl
      refine ⟨out, ?_, by rw [e2]; simp, e3, ?_, by rw [e5, hs1, hl2, hl]; omega, ?_, ?_⟩
      · rw [seat_Give.place, if_neg c, if_pos hfree, hset, hw, e1, hl2, hl]
        rw [show m + 1 + lacks (pre ++ (-1 : Int) :: post) rs = m + (lacks (pre ++ (-1 : Int) :: post) rs + 1) by omega]
      · intro x hx
        rcases List.mem_cons.1 hx with rfl | hx
        · exact List.mem_of_getElem? (e6 _ _ hmid (by omega))
        · exact e4 x hx
      · intro i y hy hne
        by_cases e : i = pre.length
        · subst e
          rw [hmid2] at hy
          exact absurd (Option.some.inj hy).symm hne
        · exact e6 i y (by rw [hoth i e]; exact hy) hne
      · intro i y hy
        by_cases e : i = pre.length
        · subst e
          rcases e7 _ y hy with h | ⟨h, _, _⟩
          · rw [hmid] at h
            have := Option.some.inj h
            subst this
            exact .inr ⟨hmid2, List.mem_cons_self, c⟩
          · rw [hmid] at h
            have := Option.some.inj h
            omega
        · rcases e7 i y hy with h | ⟨h, h2, h3⟩
          · rw [hoth i e] at h
            exact .inl h
          · refine .inr ⟨by rw [← hoth i e]; exact h, List.mem_cons_of_mem _ h2, fun hm2 => h3 ?_⟩
            have hy2 := hp y (List.mem_cons_of_mem _ h2)
            rcases List.mem_append.1 hm2 with q | q
            · exact List.mem_append_left _ q
            · rcases List.mem_cons.1 q with q | q
              · omega
              · exact List.mem_append_right _ (List.mem_cons_of_mem _ q)

theorem count_one {b : List Int} {x : Int} {p : Int → Bool} (hd : b.Pairwise (fun a c => a = c → a = -1)) (hb : ∀ y ∈ b, 0 ≤ y) (hx : x ∈ b) (hp : p x = false) : b.countP (fun y => decide (y = x) || p y) = b.countP p + 1 := by
  obtain ⟨pre, post, rfl, hpre, _⟩ := split_at hx
  rw [List.pairwise_append] at hd
  obtain ⟨_, p2, _⟩ := hd
  obtain ⟨p4, _⟩ := List.pairwise_cons.1 p2
  have h0 := hb x (by simp)
  have hpost : x ∉ post := fun h => by have := p4 x h rfl; omega
  rw [List.countP_append, List.countP_append, List.countP_cons, List.countP_cons]
  have e1 : pre.countP (fun y => decide (y = x) || p y) = pre.countP p := List.countP_congr fun y hy => by
    have : y ≠ x := fun e => hpre (e ▸ hy)
    simp [this]
  have e2 : post.countP (fun y => decide (y = x) || p y) = post.countP p := List.countP_congr fun y hy => by
    have : y ≠ x := fun e => hpost (e ▸ hy)
    simp [this]
  rw [e1, e2]
  simp [hp]
  omega
/-- Counted from either side: those that have a seat. -/
theorem count_two (b : List Int) (hd : b.Pairwise (fun a c => a = c → a = -1)) (hb : ∀ y ∈ b, 0 ≤ y) : ∀ a : List Int, Own a → (∀ y ∈ a, 0 ≤ y → y ∈ b) → b.countP (fun y => decide (y ∈ a)) = seated a := by
  intro a
  induction a with
  | nil => intro _ _; simp [seated]
  | cons x a ih =>
    intro ho hs
    obtain ⟨o1, o2⟩ := List.pairwise_cons.1 ho
    have ih' := ih o2 (fun y hy h => hs y (List.mem_cons_of_mem _ hy) h)
    by_cases h0 : 0 ≤ x
    · have hxb := hs x List.mem_cons_self h0
      have hxa : x ∉ a := fun h => by have := o1 x h rfl; omega
      have e : b.countP (fun y => decide (y ∈ x :: a)) = b.countP (fun y => decide (y = x) || decide (y ∈ a)) := List.countP_congr fun y _ => by simp
      rw [e, count_one hd hb hxb (by simpa using hxa), ih']
      unfold seated
      rw [List.countP_cons]
      simp [h0]
    · have e : b.countP (fun y => decide (y ∈ x :: a)) = b.countP (fun y => decide (y ∈ a)) := List.countP_congr fun y hy => by
        have : y ≠ x := fun z => h0 (z ▸ hb y hy)
        simp [this]
      rw [e, ih']
      unfold seated
      rw [List.countP_cons]
      simp [h0]
theorem kept_mem {was run : List Int} {y : Int} (h : y ∈ seat_Give.kept was run) : y = -1 ∨ (y ∈ run ∧ y ∈ was) := by
  unfold seat_Give.kept at h
  obtain ⟨x, hx, e⟩ := List.mem_map.1 h
  by_cases c : x ∈ run
  · rw [if_pos c] at e; subst e; exact .inr ⟨c, hx⟩
  · rw [if_neg c] at e; exact .inl e.symm
theorem kept_at {was run : List Int} {i : Nat} {x : Int} (h : was[i]? = some x) : (seat_Give.kept was run)[i]? = some (if x ∈ run then x else -1) := by
  unfold seat_Give.kept
  rw [List.getElem?_map, h]; rfl
theorem kept_own {was : List Int} (run : List Int) (h : Own was) : Own (seat_Give.kept was run) := by
  unfold seat_Give.kept Own
  rw [List.pairwise_map]
  refine List.Pairwise.imp ?_ h
  intro a b hab e
  by_cases c : a ∈ run
  · by_cases c2 : b ∈ run
    · rw [if_pos c, if_pos c2] at e
      rw [if_pos c]
      exact hab e
    · rw [if_neg c2] at e
      exact e
  · rw [if_neg c]
/-- What Give answers, for good seats. -/
theorem give_law {was run : List Int} (h : Seats was run) : ∃ out : List Int, seat_Give.f was run = some (out, ((lacks (seat_Give.kept was run) run : Nat) : Int)) ∧ out.length = was.length ∧ Own out ∧ (∀ x ∈ run, x ∈ out) ∧
    seated out = run.length ∧ seated (seat_Give.kept was run) + lacks (seat_Give.kept was run) run = run.length ∧ (∀ (i : Nat) (y : Int), (seat_Give.kept was run)[i]? = some y → y ≠ -1 → out[i]? = some y) ∧
    (∀ (i : Nat) (y : Int), out[i]? = some y → (seat_Give.kept was run)[i]? = some y ∨ ((seat_Give.kept was run)[i]? = some (-1) ∧ y ∈ run ∧ y ∉ seat_Give.kept was run)) ∧ (∀ y ∈ out, y = -1 ∨ y ∈ run) := by
  have h' := h
  obtain ⟨h1, h2, h3, ⟨h4, h5⟩, h6, h7⟩ := h'
  have hr : ∀ x ∈ run, 0 ≤ x := fun x hx => (h6 x hx).1
  have ho := kept_own run h5
  have hc := count_two run h7 hr (seat_Give.kept was run) ho (fun y hy h0 => by
    rcases kept_mem hy with r | r
    · omega
    · exact r.1)
  have hsum : run.length = run.countP (fun y => decide (y ∈ seat_Give.kept was run)) + lacks (seat_Give.kept was run) run := by
    have := List.length_eq_countP_add_countP (l := run) (fun y => decide (y ∈ seat_Give.kept was run))
    unfold lacks
    rw [this]
    congr 1
    apply List.countP_congr
    intro y _
    simp
  have hlen : (seat_Give.kept was run).length = was.length := seat_Give.kept_len _ _
  have hfree : (seat_Give.kept was run).length = seated (seat_Give.kept was run) + (seat_Give.kept was run).countP (fun x => decide (x = -1)) := by
    have := List.length_eq_countP_add_countP (l := seat_Give.kept was run) (fun x => decide (0 ≤ x))
    unfold seated
    rw [this]
    congr 1
    apply List.countP_congr
    intro y hy
    rcases kept_mem hy with r | r
    · subst r; simp
    · have := hr y r.1
      simp
      omega
  obtain ⟨out, e1, e2, e3, e4, e5, e6, e7⟩ := place_law run (seat_Give.kept was run) 0 h7 hr ho (by omega) (by omega)
  refine ⟨out, ?_, by omega, e3, e4, by omega, by omega, e6, e7, fun y hy => ?_⟩
  · unfold seat_Give.f
    rw [good_t h]; simp only [Option.bind_some, if_true]
    simpa using e1
  · obtain ⟨i, hi⟩ := List.getElem?_of_mem hy
    rcases e7 i y hi with r | ⟨_, r, _⟩
    · rcases kept_mem (List.mem_of_getElem? r) with q | q
      · exact .inl q
      · exact .inr q.1
    · exact .inr r
theorem place_all : ∀ (rs now : List Int) (m : Int), (∀ x ∈ rs, x ∈ now) → seat_Give.place now rs m = some (now, m) := by
  intro rs
  induction rs with
  | nil => intro now m _; rfl
  | cons x rs ih =>
    intro now m h
    rw [seat_Give.place, if_pos (h x List.mem_cons_self)]
    exact ih now m (fun y hy => h y (List.mem_cons_of_mem _ hy))
/-- The seats that Give answers are good, and given again nobody moves. -/
theorem seats_again {was run out : List Int} (h : Seats was run) (hl : out.length = was.length) (ho : Own out) (hm : ∀ y ∈ out, y = -1 ∨ y ∈ run) : Seats out run := by
  obtain ⟨h1, h2, h3, ⟨h4, h5⟩, h6, h7⟩ := h
  refine ⟨by omega, by omega, by omega, ⟨fun y hy => ?_, ho⟩, h6, h7⟩
  rcases hm y hy with r | r
  · subst r; omega
  · have := h6 y r; omega
theorem give_again {run out : List Int} (h : Seats out run) (hm : ∀ y ∈ out, y = -1 ∨ y ∈ run) (ha : ∀ x ∈ run, x ∈ out) : seat_Give.f out run = some (out, 0) := by
  unfold seat_Give.f
  rw [good_t h]; simp only [Option.bind_some, if_true]
  have hk : seat_Give.kept out run = out := by
    unfold seat_Give.kept
    conv => rhs; rw [← List.map_id out]
    apply List.map_congr_left
    intro y hy
    by_cases c : y ∈ run
    · rw [if_pos c]; rfl
    · rw [if_neg c]
      rcases hm y hy with r | r
      · exact r.symm
      · exact absurd r c
  rw [hk]
  exact place_all run out 0 ha

theorem idx_unique {l : List Int} {v : Int} {i : Nat} (ho : Own l) (hi : l[i]? = some v) (hv : v ≠ -1) : l.idxOf v = i := by
  obtain ⟨pre, post, rfl, hpre, hx⟩ := split_at (List.mem_of_getElem? hi)
  rw [hx]
  unfold Own at ho
  rw [List.pairwise_append] at ho
  obtain ⟨_, p2, _⟩ := ho
  obtain ⟨p4, _⟩ := List.pairwise_cons.1 p2
  rcases Nat.lt_trichotomy i pre.length with h | h | h
  · rw [List.getElem?_append_left h] at hi
    exact absurd (List.mem_of_getElem? hi) hpre
  · exact h.symm
  · rw [List.getElem?_append_right (by omega)] at hi
    obtain ⟨q, hq⟩ : ∃ q, i - pre.length = q + 1 := ⟨i - pre.length - 1, by omega⟩
    rw [hq] at hi
    exact absurd (p4 v (List.mem_of_getElem? hi) rfl) hv
theorem rd_nat (l : List Int) (j : Nat) : rd l (j : Int) = l.getD j 0 := by simp [rd]
theorem seated_snoc (l : List Int) (x : Int) : seated (l ++ [x]) = seated l + if 0 ≤ x then 1 else 0 := by
  unfold seated
  rw [List.countP_append, List.countP_cons]
  simp
theorem seated_le (l : List Int) : seated l ≤ l.length := List.countP_le_length
theorem keeps_l0 {was run a : List Int} {n : Int} (hl : a.length = was.length) (h64 : was.length ≤ 64) (hkl : (seat_Give.kept was run).length = was.length)
    (hkey : ∀ i : Nat, i < a.length → ((0 ≤ a.getD i 0 ∧ a.getD i 0 = was.getD i 0) ↔ 0 ≤ (seat_Give.kept was run).getD i 0)) : ∀ (d j q : Nat), a.length - j = d → j ≤ a.length →
    beadlelaw16_SeatKeeps.l0 (q + d + 1) was run a n ((seated (a.take j) : Nat) : Int) ((seated ((seat_Give.kept was run).take j) : Nat) : Int) (j : Int) = beadlelaw16_SeatKeeps.l1 q was run a n ((seated a : Nat) : Int) ((seated (seat_Give.kept was run) : Nat) : Int) 0 := by
  intro d
  induction d with
  | zero =>
    intro j q hd hj
    have : j = a.length := by omega
    subst this
    rw [beadlelaw16_SeatKeeps.l0.eq_2, if_neg (by omega), List.take_length, show (seat_Give.kept was run).take a.length = seat_Give.kept was run from List.take_of_length_le (by omega)]
  | succ d ih =>
    intro j q hd hj
    have hlt : j < a.length := by omega
    rw [show q + (d + 1) + 1 = (q + d + 1) + 1 by omega, beadlelaw16_SeatKeeps.l0.eq_2, if_pos (by omega), if_pos (by omega), rd_nat, rd_nat, wrap_nat (j := j) (by omega)]
    have t1 := Mine.take_at (Mine.getD_at (0 : Int) hlt)
    have t2 := Mine.take_at (Mine.getD_at (0 : Int) (show j < (seat_Give.kept was run).length by omega))
    have ih' := ih (j + 1) q (by omega) (by omega)
    rw [t1, t2, seated_snoc, seated_snoc] at ih'
    have b1 := seated_le (a.take j)
    have b2 := seated_le ((seat_Give.kept was run).take j)
    rw [List.length_take] at b1 b2
    have w1 : wrap64 (((seated (a.take j) : Nat) : Int) + 1) = ((seated (a.take j) + 1 : Nat) : Int) := wrap_nat (by omega)
    have w2 : wrap64 (((seated ((seat_Give.kept was run).take j) : Nat) : Int) + 1) = ((seated ((seat_Give.kept was run).take j) + 1 : Nat) : Int) := wrap_nat (by omega)
    have hk := hkey j hlt
    by_cases c : a.getD j 0 ≥ 0
    · rw [if_pos c, if_pos (show (j : Int) < (was.length : Int) by omega)]
      rw [if_pos (show 0 ≤ a.getD j 0 from c)] at ih'
      by_cases c2 : a.getD j 0 = was.getD j 0
      · rw [if_pos (hk.1 ⟨c, c2⟩)] at ih'
        rw [if_pos c2, w1, w2]
        exact ih'
      · rw [if_neg (fun h => c2 (hk.2 h).2)] at ih'
        rw [if_neg c2, w1]
        exact ih'
    · rw [if_neg (show ¬ 0 ≤ a.getD j 0 from c), if_neg (fun h => c (hk.2 h).1)] at ih'
      rw [if_neg c]
      exact ih'
theorem keeps_l1 {was run a : List Int} {n x9 x10 : Int} (hl : a.length = was.length) (h64 : was.length ≤ 64) (hr64 : run.length ≤ 64) (hr : ∀ x ∈ run, 0 ≤ x) (ha : ∀ x ∈ run, x ∈ a) (hi : ∀ x ∈ run, x ∈ was → a.idxOf x = was.idxOf x)
    (h9 : x9 = (run.length : Int)) (hn : n = (run.length : Int) - x10) (h10 : 0 ≤ x10 ∧ x10 ≤ 64) : ∀ (d j q : Nat), 65 ≤ q → run.length - j = d → j ≤ run.length →
    beadlelaw16_SeatKeeps.l1 (q + d + 1) was run a n x9 x10 (j : Int) = some true := by
  intro d
  induction d with
  | zero =>
    intro j q hq hd hj
    rw [beadlelaw16_SeatKeeps.l1.eq_2, if_neg (by omega), if_pos h9, wrap_id (by omega) (by omega), hn]
    simp
  | succ d ih =>
    intro j q hq hd hj
    have hlt : j < run.length := by omega
    have hm : run.getD j 0 ∈ run := List.mem_of_getElem? (Mine.getD_at (0 : Int) hlt)
    rw [show q + (d + 1) + 1 = (q + d + 1) + 1 by omega, beadlelaw16_SeatKeeps.l1.eq_2, if_pos (by omega), if_pos (by omega), rd_nat, wrap_nat (j := j) (by omega)]
    have ih' := ih (j + 1) q hq (by omega) (by omega)
    generalize run.getD j 0 = x at hm
    have hx := hr x hm
    have hxa := ha x hm
    have hlt2 := List.idxOf_lt_length_of_mem hxa
    have p1 : seat_Give.placeOf a x = (a.idxOf x : Int) := if_pos hxa
    rw [at_k (by omega) (by omega), at_k (by omega) (by omega), if_neg (by omega), if_neg (by omega)]
    simp only [Option.bind_some]
    rw [p1, if_neg (by omega), if_neg (by omega)]
    by_cases c : x ∈ was
    · have p2 : seat_Give.placeOf was x = (was.idxOf x : Int) := if_pos c
      rw [p2, if_pos (by omega), if_pos (by rw [hi x hm c])]
      exact ih'
    · have p2 : seat_Give.placeOf was x = -1 := if_neg c
      rw [p2, if_neg (by omega)]
      exact ih'
theorem keeps_no {k : Nat} {a b : List Int} : beadlelaw16_SeatKeeps.j0 (k + 1) a b true = some true := by
  rw [beadlelaw16_SeatKeeps.j0.eq_2, if_pos rfl]
theorem SeatKeeps : beadlelaw16_SeatKeeps.Pure := by
  intro was run _ _ _ _ _ _
  refine ⟨1000, ?_⟩
  have haw : beadlelaw16_awake.f 1000 = some true := at_rounds (fun k => beadlelaw16_awake.mono k) (by omega) awake_f
  unfold beadlelaw16_SeatKeeps.f
  rw [haw]; simp only [Option.bind_some, if_true]
  by_cases h1 : (was.length : Int) > 64
  · rw [if_pos h1]; exact keeps_no
  · rw [if_neg h1]
    by_cases h2 : (run.length : Int) > 64
    · rw [if_pos h2]; exact keeps_no
    · rw [if_neg h2]
      by_cases hg : Seats was run
      · rw [good_t hg]; simp only [Option.bind_some, Bool.not_true]
        obtain ⟨out, e1, e2, e3, e4, e5, e6, e7, e8, e9⟩ := give_law hg
        have hg' := hg
        obtain ⟨g1, g2, g3, ⟨g4, g5⟩, g6, g7⟩ := hg'
        have ga := seats_again hg e2 e3 e9
        rw [beadlelaw16_SeatKeeps.j0.eq_2, if_neg (by decide), e1]; simp only [Option.bind_some]
        rw [give_again ga e9 e4]; simp only [Option.bind_some]
        rw [if_pos (by omega), ints_k (by omega) (by omega)]; simp only [Option.bind_some, if_true, bne_self_eq_false]
        rw [beadlelaw16_SeatKeeps.j1.eq_2, if_neg (by decide)]
        have hkl : (seat_Give.kept was run).length = was.length := seat_Give.kept_len _ _
        have hkey : ∀ i : Nat, i < out.length → ((0 ≤ out.getD i 0 ∧ out.getD i 0 = was.getD i 0) ↔ 0 ≤ (seat_Give.kept was run).getD i 0) := by
          intro i hi
          have o1 := Mine.getD_at (0 : Int) hi
          have o2 := Mine.getD_at (0 : Int) (show i < was.length by omega)
          have o3 := Mine.getD_at (0 : Int) (show i < (seat_Give.kept was run).length by omega)
          have o4 := kept_at (run := run) o2
          have o5 : (seat_Give.kept was run).getD i 0 = if was.getD i 0 ∈ run then was.getD i 0 else -1 := Option.some.inj (o3.symm.trans o4)
          constructor
          · rintro ⟨z1, z2⟩
            rcases e8 i _ o1 with r | ⟨r1, r2, r3⟩
            · rw [Option.some.inj (o3.symm.trans r)]; exact z1
            · rw [z2] at r2
              rw [o5, if_pos r2, ← z2]
              exact z1
          · intro z
            have := e7 i _ o3 (by omega)
            have e := Option.some.inj (o1.symm.trans this)
            by_cases c : was.getD i 0 ∈ run
            · rw [if_pos c] at o5
              exact ⟨by omega, by omega⟩
            · rw [if_neg c] at o5; omega
        have s1 := seated_le (seat_Give.kept was run)
        have L0 := keeps_l0 (n := ((lacks (seat_Give.kept was run) run : Nat) : Int)) e2 g2 hkl hkey out.length 0 (998 - out.length - 1) (by omega) (by omega)
        rw [show 998 - out.length - 1 + out.length + 1 = 998 by omega] at L0
        have z0 : ∀ l : List Int, ((seated (l.take 0) : Nat) : Int) = 0 := fun l => rfl
        rw [z0, z0] at L0
        refine L0.trans ?_
        have L1 := keeps_l1 (n := ((lacks (seat_Give.kept was run) run : Nat) : Int)) (x9 := ((seated out : Nat) : Int)) (x10 := ((seated (seat_Give.kept was run) : Nat) : Int)) e2 g2 (by omega) (fun x hx => (g6 x hx).1) e4 (fun x hx hw => by
          obtain ⟨pre, post, hsp, hpre, hidx⟩ := split_at hw
          have o2 : was[pre.length]? = some x := by rw [hsp]; simp
          have o4 := kept_at (run := run) o2
          rw [if_pos hx] at o4
          have hx0 := (g6 x hx).1
          rw [hidx]
          exact idx_unique e3 (e7 _ _ o4 (by omega)) (by omega)) (by omega) (by omega) (by omega) run.length 0 (998 - out.length - 1 - run.length - 1) (by omega) (by omega) (by omega)
        rw [show 998 - out.length - 1 - run.length - 1 + run.length + 1 = 998 - out.length - 1 by omega] at L1
        exact L1
      · rw [good_n hg]; simp only [Option.bind_some, Bool.not_false]; exact keeps_no

end Go.Proofs.Ytdolfdijcbfegaa.Pure
