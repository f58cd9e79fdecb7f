/- The statement SeatFree of the program, over numbers and lists alone: for every input (of the bounds that it names) the printed function of the law answers true. No further condition. -/
import Derived.Test.YtdolfdijcbfegaaQx20
import Derived.Test.YtdolfdijcbfegaaQx9
namespace Go.Proofs.Ytdolfdijcbfegaa.Pure
open Go.RowKit Go.Proofs.Ytdolfdijcbfegaa.Q Go.Proofs.YtdolfdijcbfegaaW.PrintWords Go.Proofs.YtdolfdijcbfegaaW.PrintLast

set_option linter.unusedSimpArgs false
set_option linter.unusedVariables false

theorem wrap_id {n : Int} (h0 : -9223372036854775808 ≤ n) (h1 : n ≤ 9223372036854775807) : wrap64 n = n := by unfold wrap64; omega
theorem wrap_nat {j : Nat} (h : j ≤ 17592186044416) : wrap64 ((j : Int) + 1) = ((j + 1 : Nat) : Int) := by unfold wrap64; omega
theorem index_k {k : Nat} {l : List Int} {v : Int} (hl : l.length ≤ 64) (hk : 65 ≤ k) : slices_Index_int_int.f k l v = some (seat_Give.placeOf l v) :=
  at_rounds (fun k => slices_Index_int_int.mono l v k) (show l.length + 1 ≤ k by omega) (seat_Give.index_f l v (by omega))
theorem at_k {k : Nat} {l : List Int} {v : Int} (hl : l.length ≤ 64) (hk : 65 ≤ k) : seat_At.f k l v = some (if v = -1 then -1 else seat_Give.placeOf l v) := by
  unfold seat_At.f
  by_cases h : v = -1
  · rw [if_pos h, if_pos h]
  · rw [if_neg h, if_neg h, index_k hl hk]; rfl
theorem ints_l (a : List Int) (hl : a.length ≤ 64) : ∀ (d j : Nat), a.length - j = d → j ≤ a.length → beadlelaw16_ints.l0 (d + 1) a a (j : Int) = some true := by
  intro d
  induction d with
  | zero =>
    intro j hd hj
    rw [beadlelaw16_ints.l0.eq_2, if_neg (by omega)]
  | succ d ih =>
    intro j hd hj
    rw [beadlelaw16_ints.l0.eq_2, if_pos (by omega), if_pos (by omega), if_pos (by omega), if_pos rfl, wrap_nat (by omega)]
    exact ih (j + 1) (by omega) (by omega)
theorem ints_k {k : Nat} {a : List Int} (hl : a.length ≤ 64) (hk : 65 ≤ k) : beadlelaw16_ints.f k a a = some true := by
  refine at_rounds (fun k => beadlelaw16_ints.mono a a k) (show a.length + 1 ≤ k by omega) ?_
  unfold beadlelaw16_ints.f
  rw [if_pos rfl]
  exact ints_l a hl a.length 0 (by omega) (by omega)
/-- None is there twice (but nobody), each from a least one on. -/
def OnceP (least : Int) (l : List Int) : Prop := (∀ x ∈ l, least ≤ x ∧ x < 1024) ∧ l.Pairwise (fun a b => a = b → a = -1)
theorem onceb_iff (least : Int) (l : List Int) : ∀ seen : List Int, seat_once.onceb least seen l = true ↔ ((∀ x ∈ l, least ≤ x ∧ x < 1024) ∧ (∀ x ∈ l, x ∈ seen → x = -1) ∧ l.Pairwise (fun a b => a = b → a = -1)) := by
  induction l with
  | nil => intro seen; simp [seat_once.onceb]
  | cons x xs ih =>
    intro seen
    rw [seat_once.step]
    by_cases h1 : x < least
    · rw [if_pos h1]
      refine ⟨fun h => by simp at h, fun h => ?_⟩
      have := (h.1 x List.mem_cons_self).1
      omega
    · rw [if_neg h1]
      by_cases h2 : x ≥ 1024
      · rw [if_pos h2]
        refine ⟨fun h => by simp at h, fun h => ?_⟩
        have := (h.1 x List.mem_cons_self).2
        omega
      · rw [if_neg h2]
        by_cases h3 : x ∈ seen ∧ x ≠ -1
        · rw [if_pos h3]
          refine ⟨fun h => by simp at h, fun h => ?_⟩
          exact absurd (h.2.1 x List.mem_cons_self h3.1) h3.2
        · rw [if_neg h3, ih (x :: seen)]
          refine ⟨fun ⟨a, b, c⟩ => ⟨?_, ?_, ?_⟩, fun ⟨a, b, c⟩ => ⟨?_, ?_, ?_⟩⟩
          · intro y hy
            rcases List.mem_cons.1 hy with rfl | hy
            · omega
            · exact a y hy
          · intro y hy hs
            rcases List.mem_cons.1 hy with rfl | hy
            · exact Classical.byContradiction fun hn => h3 ⟨hs, hn⟩
            · exact b y hy (List.mem_cons_of_mem _ hs)
          · refine List.pairwise_cons.2 ⟨fun y hy e => ?_, c⟩
            subst e
            exact b x hy List.mem_cons_self
          · exact fun y hy => a y (List.mem_cons_of_mem _ hy)
          · intro y hy hs
            rcases List.mem_cons.1 hs with rfl | hs
            · exact (List.pairwise_cons.1 c).1 y hy rfl
            · exact b y (List.mem_cons_of_mem _ hy) hs
          · exact (List.pairwise_cons.1 c).2
theorem once_iff (least : Int) (l : List Int) : seat_once.onceb least [] l = true ↔ OnceP least l := by
  rw [onceb_iff]
  unfold OnceP
  simp
theorem once_f {least : Int} {l : List Int} (hl : l.length ≤ 64) (h : -1 ≤ least) : seat_once.f l least = some (seat_once.onceb least [] l) := by
  unfold seat_once.f
  rw [if_pos h, if_pos (by omega)]
/-- What Good asks of seats and of those that run. -/
def Seats (was run : List Int) : Prop := 1 ≤ was.length ∧ was.length ≤ 64 ∧ run.length ≤ was.length ∧ OnceP (-1) was ∧ OnceP 0 run
theorem good_t {was run : List Int} (h : Seats was run) : seat_Good.f was run = some true := by
  obtain ⟨h1, h2, h3, h4, h5⟩ := h
  unfold seat_Good.f
  rw [if_pos (by omega), if_pos (by omega), if_pos (by omega), once_f h2 (by omega), once_f (l := run) (by omega) (by omega), (once_iff (-1) was).2 h4, (once_iff 0 run).2 h5]
  rfl
theorem good_n {was run : List Int} (h : ¬ Seats was run) : seat_Good.f was run = some false := by
  unfold seat_Good.f
  by_cases h1 : (was.length : Int) ≥ 1
  · by_cases h2 : (was.length : Int) ≤ 64
    · by_cases h3 : (run.length : Int) ≤ (was.length : Int)
      · rw [if_pos h1, if_pos h2, if_pos h3, once_f (by omega) (by omega), once_f (l := run) (by omega) (by omega)]
        simp only [Option.bind_some]
        by_cases h4 : seat_once.onceb (-1) [] was = true
        · rw [if_pos h4]
          by_cases h5 : seat_once.onceb 0 [] run = true
          · exact absurd ⟨by omega, by omega, by omega, (once_iff _ _).1 h4, (once_iff _ _).1 h5⟩ h
          · rw [Bool.not_eq_true] at h5; rw [h5]
        · rw [if_neg h4]
      · rw [if_pos h1, if_pos h2, if_neg h3]
    · rw [if_pos h1, if_neg h2]
  · rw [if_neg h1]
theorem awake_f : beadlelaw16_awake.f 100 = some true := by decide +kernel

/-- How many have a seat. -/
def seated (now : List Int) : Nat := now.countP (fun x => decide (0 ≤ x))
/-- How many of those that run have none yet. -/
def lacks (now rs : List Int) : Nat := rs.countP (fun x => decide (x ∉ now))
/-- Seats in which nobody is twice. -/
def Own (now : List Int) : Prop := now.Pairwise (fun a b => a = b → a = -1)
theorem own_mid {pre post : List Int} {x y : Int} (h : Own (pre ++ x :: post)) (hn : y ∉ pre ++ x :: post) : Own (pre ++ y :: post) := by
  unfold Own at h ⊢
  rw [List.pairwise_append] at h ⊢
  obtain ⟨p1, p2, p3⟩ := h
  obtain ⟨p4, p5⟩ := List.pairwise_cons.1 p2
  refine ⟨p1, List.pairwise_cons.2 ⟨fun z hz e => absurd (by rw [e]; simp [hz]) hn, p5⟩, fun a ha b hb e => ?_⟩
  rcases List.mem_cons.1 hb with rfl | hb
  · exact absurd (by rw [← e]; simp [ha]) hn
  · exact p3 a ha b (List.mem_cons_of_mem _ hb) e
theorem split_at {l : List Int} {v : Int} (h : v ∈ l) : ∃ pre post, l = pre ++ v :: post ∧ v ∉ pre ∧ l.idxOf v = pre.length := by
  induction l with
  | nil => simp at h
  | cons a l ih =>
    by_cases e : a = v
    · subst e
      exact ⟨[], l, rfl, by simp, by simp⟩
    · have hm : v ∈ l := by
        rcases List.mem_cons.1 h with r | r
        · exact absurd r.symm e
        · exact r
      obtain ⟨pre, post, rfl, hp, hi⟩ := ih hm
      refine ⟨a :: pre, post, rfl, by simp [hp]; exact fun z => e z.symm, ?_⟩
      rw [List.idxOf_cons]
      have : (a == v) = false := by simpa using e
      rw [this, cond_false, hi]
      rfl
/-- What place leaves: all that run have seats, those that had one keep it, nobody else comes. -/
theorem place_law : ∀ (rs now : List Int) (m : Nat), rs.Pairwise (fun a b => a = b → a = -1) → (∀ x ∈ rs, 0 ≤ x) → Own now → lacks now rs ≤ now.countP (fun x => decide (x = -1)) → m + rs.length ≤ 1000 →
    ∃ out : List Int, seat_Give.place now rs (m : Int) = some (out, ((m + lacks now rs : Nat) : Int)) ∧ out.length = now.length ∧ Own out ∧ (∀ x ∈ rs, x ∈ out) ∧ seated out = seated now + lacks now rs ∧
      (∀ (i : Nat) (y : Int), now[i]? = some y → y ≠ -1 → out[i]? = some y) ∧ (∀ (i : Nat) (y : Int), out[i]? = some y → now[i]? = some y ∨ (now[i]? = some (-1) ∧ y ∈ rs ∧ y ∉ now)) := by
  intro rs
  induction rs with
  | nil =>
    intro now m _ _ ho _ _
    exact ⟨now, by simp [seat_Give.place, lacks], rfl, ho, by simp, by simp [lacks], fun i y h _ => h, fun i y h => .inl h⟩
  | cons id rs ih =>
    intro now m hd hp ho hf hm
    have hm1 : m + 1 + rs.length ≤ 1000 := by rw [List.length_cons] at hm; omega
    obtain ⟨d1, d2⟩ := List.pairwise_cons.1 hd
    have hid : 0 ≤ id := hp id List.mem_cons_self
    have hnr : id ∉ rs := fun h => by have := d1 id h rfl; omega
    by_cases c : id ∈ now
    · have hl : lacks now (id :: rs) = lacks now rs := by unfold lacks; rw [List.countP_cons]; simp [c]
      obtain ⟨out, e1, e2, e3, e4, e5, e6, e7⟩ := ih now m d2 (fun x hx => hp x (List.mem_cons_of_mem _ hx)) ho (by omega) (by omega)
      refine ⟨out, by rw [seat_Give.place, if_pos c, e1, hl], e2, e3, ?_, by rw [hl]; exact e5, e6, fun i y h => ?_⟩
      · intro x hx
        rcases List.mem_cons.1 hx with rfl | hx
        · obtain ⟨i, hi⟩ := List.getElem?_of_mem c
          exact List.mem_of_getElem? (e6 i x hi (by omega))
        · exact e4 x hx
      · rcases e7 i y h with h | ⟨h, h2, h3⟩
        · exact .inl h
        · exact .inr ⟨h, List.mem_cons_of_mem _ h2, h3⟩
    · have hl : lacks now (id :: rs) = lacks now rs + 1 := by unfold lacks; rw [List.countP_cons]; simp [c]
      have hfree : (-1 : Int) ∈ now := by
        apply Classical.byContradiction
        intro hn
        have : now.countP (fun x => decide (x = -1)) = 0 := by
          rw [List.countP_eq_zero]
          intro a ha
          simp
          rintro rfl
          exact hn ha
        omega
      obtain ⟨pre, post, rfl, hpre, hidx⟩ := split_at hfree
      have hset : (pre ++ (-1 : Int) :: post).set ((pre ++ (-1 : Int) :: post).idxOf (-1)) id = pre ++ id :: post := by rw [hidx]; simp
      have hl2 : lacks (pre ++ id :: post) rs = lacks (pre ++ (-1 : Int) :: post) rs := by
        unfold lacks
        apply List.countP_congr
        intro x hx
        have hx1 : x ≠ id := fun e => hnr (e ▸ hx)
        have hx2 : x ≠ -1 := by have := hp x (List.mem_cons_of_mem _ hx); omega
        simp [hx1, hx2]
      have hc1 : (pre ++ id :: post).countP (fun x => decide (x = -1)) + 1 = (pre ++ (-1 : Int) :: post).countP (fun x => decide (x = -1)) := by
        rw [List.countP_append, List.countP_append, List.countP_cons, List.countP_cons]
        have : ¬ id = -1 := by omega
        simp [this]
        omega
      have hs1 : seated (pre ++ id :: post) = seated (pre ++ (-1 : Int) :: post) + 1 := by
        unfold seated
        rw [List.countP_append, List.countP_append, List.countP_cons, List.countP_cons]
        simp [hid]
        omega
      have hw : wrap64 ((m : Int) + 1) = ((m + 1 : Nat) : Int) := wrap_nat (by rw [List.length_cons] at hm; omega)
      obtain ⟨out, e1, e2, e3, e4, e5, e6, e7⟩ := ih (pre ++ id :: post) (m + 1) d2 (fun x hx => hp x (List.mem_cons_of_mem _ hx)) (own_mid ho c) (by omega) hm1
      have hmid : (pre ++ id :: post)[pre.length]? = some id := by simp
      have hmid2 : (pre ++ (-1 : Int) :: post)[pre.length]? = some (-1) := by simp
      have hoth : ∀ i : Nat, i ≠ pre.length → (pre ++ id :: post)[i]? = (pre ++ (-1 : Int) :: post)[i]? := by
        intro i hi
        rcases Nat.lt_or_ge i pre.length with h | h
        · rw [List.getElem?_append_left h, List.getElem?_append_left h]
        · rw [List.getElem?_append_right h, List.getElem?_append_right h]
          obtain ⟨q, hq⟩ : ∃ q, i - pre.length = q + 1 := ⟨i - pre.length - 1, by omega⟩
          rw [hq]; rfl
      refine ⟨out, ?_, by rw [e2]; simp, e3, ?_, by rw [e5, hs1, hl2, hl]; omega, ?_, ?_⟩
      · rw [seat_Give.place, if_neg c, if_pos hfree, hset, hw, e1, hl2, hl]
        rw [show m + 1 + lacks (pre ++ (-1 : Int) :: post) rs = m + (lacks (pre ++ (-1 : Int) :: post) rs + 1) by omega]
      · intro x hx
        rcases List.mem_cons.1 hx with rfl | hx
        · exact List.mem_of_getElem? (e6 _ _ hmid (by omega))
        · exact e4 x hx
      · intro i y hy hne
        by_cases e : i = pre.length
        · subst e
          rw [hmid2] at hy
          exact absurd (Option.some.inj hy).symm hne
        · exact e6 i y (by rw [hoth i e]; exact hy) hne
      · intro i y hy
        by_cases e : i = pre.length
        · subst e
          rcases e7 _ y hy with h | ⟨h, _, _⟩
          · rw [hmid] at h
            have := Option.some.inj h
            subst this
            exact .inr ⟨hmid2, List.mem_cons_self, c⟩
          · rw [hmid] at h
            have := Option.some.inj h
            omega
        · rcases e7 i y hy with h | ⟨h, h2, h3⟩
          · rw [hoth i e] at h
            exact .inl h
          · refine .inr ⟨by rw [← hoth i e]; exact h, List.mem_cons_of_mem _ h2, fun hm2 => h3 ?_⟩
            have hy2 := hp y (List.mem_cons_of_mem _ h2)
            rcases List.mem_append.1 hm2 with q | q
            · exact List.mem_append_left _ q
            · rcases List.mem_cons.1 q with q | q
              · omega
              · exact List.mem_append_right _ (List.mem_cons_of_mem _ q)

theorem count_one {b : List Int} {x : Int} {p : Int → Bool} (hd : b.Pairwise (fun a c => a = c → a = -1)) (hb : ∀ y ∈ b, 0 ≤ y) (hx : x ∈ b) (hp : p x = false) : b.countP (fun y => decide (y = x) || p y) = b.countP p + 1 := by
  obtain ⟨pre, post, rfl, hpre, _⟩ := split_at hx
  rw [List.pairwise_append] at hd
  obtain ⟨_, p2, _⟩ := hd
  obtain ⟨p4, _⟩ := List.pairwise_cons.1 p2
  have h0 := hb x (by simp)
  have hpost : x ∉ post := fun h => by have := p4 x h rfl; omega
  rw [List.countP_append, List.countP_append, List.countP_cons, List.countP_cons]
  have e1 : pre.countP (fun y => decide (y = x) || p y) = pre.countP p := List.countP_congr fun y hy => by
    have : y ≠ x := fun e => hpre (e ▸ hy)
    simp [this]
  have e2 : post.countP (fun y => decide (y = x) || p y) = post.countP p := List.countP_congr fun y hy => by
    have : y ≠ x := fun e => hpost (e ▸ hy)
    simp [this]
  rw [e1, e2]
  simp [hp]
  omega
/-- Counted from either side: those that have a seat. -/
theorem count_two (b : List Int) (hd : b.Pairwise (fun a c => a = c → a = -1)) (hb : ∀ y ∈ b, 0 ≤ y) : ∀ a : List Int, Own a → (∀ y ∈ a, 0 ≤ y → y ∈ b) → b.countP (fun y => decide (y ∈ a)) = seated a := by
  intro a
  induction a with
  | nil => intro _ _; simp [seated]
  | cons x a ih =>
    intro ho hs
    obtain ⟨o1, o2⟩ := List.pairwise_cons.1 ho
    have ih' := ih o2 (fun y hy h => hs y (List.mem_cons_of_mem _ hy) h)
    by_cases h0 : 0 ≤ x
    · have hxb := hs x List.mem_cons_self h0
      have hxa : x ∉ a := fun h => by have := o1 x h rfl; omega
      have e : b.countP (fun y => decide (y ∈ x :: a)) = b.countP (fun y => decide (y = x) || decide (y ∈ a)) := List.countP_congr fun y _ => by simp
      rw [e, count_one hd hb hxb (by simpa using hxa), ih']
      unfold seated
      rw [List.countP_cons]
      simp [h0]
    · have e : b.countP (fun y => decide (y ∈ x :: a)) = b.countP (fun y => decide (y ∈ a)) := List.countP_congr fun y hy => by
        have : y ≠ x := fun z => h0 (z ▸ hb y hy)
        simp [this]
      rw [e, ih']
      unfold seated
      rw [List.countP_cons]
      simp [h0]
theorem kept_mem {was run : List Int} {y : Int} (h : y ∈ seat_Give.kept was run) : y = -1 ∨ (y ∈ run ∧ y ∈ was) := by
  unfold seat_Give.kept at h
  obtain ⟨x, hx, e⟩ := List.mem_map.1 h
  by_cases c : x ∈ run
  · rw [if_pos c] at e; subst e; exact .inr ⟨c, hx⟩
  · rw [if_neg c] at e; exact .inl e.symm
theorem kept_at {was run : List Int} {i : Nat} {x : Int} (h : was[i]? = some x) : (seat_Give.kept was run)[i]? = some (if x ∈ run then x else -1) := by
  unfold seat_Give.kept
  rw [List.getElem?_map, h]; rfl
theorem kept_own {was : List Int} (run : List Int) (h : Own was) : Own (seat_Give.kept was run) := by
  unfold seat_Give.kept Own
  rw [List.pairwise_map]
  refine List.Pairwise.imp ?_ h
  intro a b hab e
  by_cases c : a ∈ run
  · by_cases c2 : b ∈ run
    · rw [if_pos c, if_pos c2] at e
      rw [if_pos c]
      exact hab e
    · rw [if_neg c2] at e
      exact e
  · rw [if_neg c]
/-- What Give answers, for good seats. -/
theorem give_law {was run : List Int} (h : Seats was run) : ∃ out : List Int, seat_Give.f was run = some (out, ((lacks (seat_Give.kept was run) run : Nat) : Int)) ∧ out.length = was.length ∧ Own out ∧ (∀ x ∈ run, x ∈ out) ∧
    seated out = run.length ∧ seated (seat_Give.kept was run) + lacks (seat_Give.kept was run) run = run.length ∧ (∀ (i : Nat) (y : Int), (seat_Give.kept was run)[i]? = some y → y ≠ -1 → out[i]? = some y) ∧
    (∀ (i : Nat) (y : Int), out[i]? = some y → (seat_Give.kept was run)[i]? = some y ∨ ((seat_Give.kept was run)[i]? = some (-1) ∧ y ∈ run ∧ y ∉ seat_Give.kept was run)) ∧ (∀ y ∈ out, y = -1 ∨ y ∈ run) := by
  have h' := h
  obtain ⟨h1, h2, h3, ⟨h4, h5⟩, h6, h7⟩ := h'
  have hr : ∀ x ∈ run, 0 ≤ x := fun x hx => (h6 x hx).1
  have ho := kept_own run h5
  have hc := count_two run h7 hr (seat_Give.kept was run) ho (fun y hy h0 => by
    rcases kept_mem hy with r | r
    · omega
    · exact r.1)
  have hsum : run.length = run.countP (fun y => decide (y ∈ seat_Give.kept was run)) + lacks (seat_Give.kept was run) run := by
    have := List.length_eq_countP_add_countP (l := run) (fun y => decide (y ∈ seat_Give.kept was run))
    unfold lacks
    rw [this]
    congr 1
    apply List.countP_congr
    intro y _
    simp
  have hlen : (seat_Give.kept was run).length = was.length := seat_Give.kept_len _ _
  have hfree : (seat_Give.kept was run).length = seated (seat_Give.kept was run) + (seat_Give.kept was run).countP (fun x => decide (x = -1)) := by
    have := List.length_eq_countP_add_countP (l := seat_Give.kept was run) (fun x => decide (0 ≤ x))
    unfold seated
    rw [this]
    congr 1
    apply List.countP_congr
    intro y hy
    rcases kept_mem hy with r | r
    · subst r; simp
    · have := hr y r.1
      simp
      omega
  obtain ⟨out, e1, e2, e3, e4, e5, e6, e7⟩ := place_law run (seat_Give.kept was run) 0 h7 hr ho (by omega) (by omega)
  refine ⟨out, ?_, by omega, e3, e4, by omega, by omega, e6, e7, fun y hy => ?_⟩
  · unfold seat_Give.f
    rw [good_t h]; simp only [Option.bind_some, if_true]
    simpa using e1
  · obtain ⟨i, hi⟩ := List.getElem?_of_mem hy
    rcases e7 i y hi with r | ⟨_, r, _⟩
    · rcases kept_mem (List.mem_of_getElem? r) with q | q
      · exact .inl q
      · exact .inr q.1
    · exact .inr r
theorem place_all : ∀ (rs now : List Int) (m : Int), (∀ x ∈ rs, x ∈ now) → seat_Give.place now rs m = some (now, m) := by
  intro rs
  induction rs with
  | nil => intro now m _; rfl
  | cons x rs ih =>
    intro now m h
    rw [seat_Give.place, if_pos (h x List.mem_cons_self)]
    exact ih now m (fun y hy => h y (List.mem_cons_of_mem _ hy))
/-- The seats that Give answers are good, and given again nobody moves. -/
theorem seats_again {was run out : List Int} (h : Seats was run) (hl : out.length = was.length) (ho : Own out) (hm : ∀ y ∈ out, y = -1 ∨ y ∈ run) : Seats out run := by
  obtain ⟨h1, h2, h3, ⟨h4, h5⟩, h6, h7⟩ := h
  refine ⟨by omega, by omega, by omega, ⟨fun y hy => ?_, ho⟩, h6, h7⟩
  rcases hm y hy with r | r
  · subst r; omega
  · have := h6 y r; omega
theorem give_again {run out : List Int} (h : Seats out run) (hm : ∀ y ∈ out, y = -1 ∨ y ∈ run) (ha : ∀ x ∈ run, x ∈ out) : seat_Give.f out run = some (out, 0) := by
  unfold seat_Give.f
  rw [good_t h]; simp only [Option.bind_some, if_true]
  have hk : seat_Give.kept out run = out := by
    unfold seat_Give.kept
    conv => rhs; rw [← List.map_id out]
    apply List.map_congr_left
    intro y hy
    by_cases c : y ∈ run
    · rw [if_pos c]; rfl
    · rw [if_neg c]
      rcases hm y hy with r | r
      · exact r.symm
      · exact absurd r c
  rw [hk]
  exact place_all run out 0 ha

namespace Pop
theorem land_digit (s a b m n : Nat) (ha : a < 2 ^ s) (hm : m < 2 ^ s) : (a + 2 ^ s * b) &&& (m + 2 ^ s * n) = (a &&& m) + 2 ^ s * (b &&& n) := by
  have hl : a &&& m < 2 ^ s := Nat.lt_of_le_of_lt Nat.and_le_left ha
  apply Nat.eq_of_testBit_eq
  intro j
  rw [Nat.testBit_and, Nat.add_comm a, Nat.add_comm m, Nat.add_comm (a &&& m), Nat.testBit_two_pow_mul_add _ ha, Nat.testBit_two_pow_mul_add _ hm, Nat.testBit_two_pow_mul_add _ hl]
  split
  · rw [Nat.testBit_and]
  · rw [Nat.testBit_and]
/-- Digit by digit. -/
def dig (B : Nat) (g : Nat → Nat) : Nat → Nat → Nat
  | 0, _ => 0
  | n + 1, x => g (x % B) + B * dig B g n (x / B)
/-- A mask of n like digits. -/
def rep (B m : Nat) : Nat → Nat
  | 0 => 0
  | n + 1 => m + B * rep B m n
/-- How many bits of the first n are set. -/
def ones : Nat → Nat → Nat
  | 0, _ => 0
  | n + 1, x => x % 2 + ones n (x / 2)
theorem step1 : ∀ (n x : Nat), ((x / 2) &&& rep 4 1 n) + (x &&& rep 4 1 n) = dig 4 (fun d => d / 2 + d % 2) n x := by
  intro n
  induction n with
  | zero => intro x; simp [rep, dig]
  | succ n ih =>
    intro x
    have h := ih (x / 4)
    have e1 : x / 2 = (x / 2) % 4 + 2 ^ 2 * (x / 4 / 2) := by omega
    have e2 : x = x % 4 + 2 ^ 2 * (x / 4) := by omega
    have e3 : (x / 2) % 4 &&& 1 = x % 4 / 2 := by rw [Nat.and_one_is_mod]; omega
    have e4 : x % 4 &&& 1 = x % 4 % 2 := by rw [Nat.and_one_is_mod]
    have f1 : (x / 2) &&& (1 + 2 ^ 2 * rep 4 1 n) = x % 4 / 2 + 4 * ((x / 4 / 2) &&& rep 4 1 n) := by
      rw [e1, land_digit 2 _ _ _ _ (by omega) (by omega), e3]
    have f2 : x &&& (1 + 2 ^ 2 * rep 4 1 n) = x % 4 % 2 + 4 * ((x / 4) &&& rep 4 1 n) := by
      have := land_digit 2 (x % 4) (x / 4) 1 (rep 4 1 n) (by omega) (by omega)
      rw [← e2, e4] at this
      omega
    have hr : rep 4 1 (n + 1) = 1 + 2 ^ 2 * rep 4 1 n := rfl
    rw [hr, f1, f2]
    show _ = (x % 4 / 2 + x % 4 % 2) + 4 * dig 4 _ n (x / 4)
    rw [← h]
    omega
theorem step2 : ∀ (n x : Nat), ((x / 4) &&& rep 16 3 n) + (x &&& rep 16 3 n) = dig 16 (fun d => d / 4 + d % 4) n x := by
  intro n
  induction n with
  | zero => intro x; simp [rep, dig]
  | succ n ih =>
    intro x
    have h := ih (x / 16)
    have e1 : x / 4 = (x / 4) % 16 + 2 ^ 4 * (x / 16 / 4) := by omega
    have e2 : x = x % 16 + 2 ^ 4 * (x / 16) := by omega
    have e3 : (x / 4) % 16 &&& 3 = x % 16 / 4 := by rw [show (3 : Nat) = 2 ^ 2 - 1 from rfl, Nat.and_two_pow_sub_one_eq_mod]; omega
    have e4 : x % 16 &&& 3 = x % 16 % 4 := by rw [show (3 : Nat) = 2 ^ 2 - 1 from rfl, Nat.and_two_pow_sub_one_eq_mod]
    have f1 : (x / 4) &&& (3 + 2 ^ 4 * rep 16 3 n) = x % 16 / 4 + 16 * ((x / 16 / 4) &&& rep 16 3 n) := by
      rw [e1, land_digit 4 _ _ _ _ (by omega) (by omega), e3]
    have f2 : x &&& (3 + 2 ^ 4 * rep 16 3 n) = x % 16 % 4 + 16 * ((x / 16) &&& rep 16 3 n) := by
      have := land_digit 4 (x % 16) (x / 16) 3 (rep 16 3 n) (by omega) (by omega)
      rw [← e2, e4] at this
      omega
    have hr : rep 16 3 (n + 1) = 3 + 2 ^ 4 * rep 16 3 n := rfl
    rw [hr, f1, f2]
    show _ = (x % 16 / 4 + x % 16 % 4) + 16 * dig 16 _ n (x / 16)
    rw [← h]
    omega
theorem two12 : ∀ (n x : Nat), dig 16 (fun d => d / 4 + d % 4) n (dig 4 (fun d => d / 2 + d % 2) (2 * n) x) = dig 16 (fun d => (d / 4 % 4 / 2 + d / 4 % 4 % 2) + (d % 4 / 2 + d % 4 % 2)) n x := by
  intro n
  induction n with
  | zero => intro x; rfl
  | succ n ih =>
    intro x
    have h := ih (x / 4 / 4)
    have e : dig 4 (fun d => d / 2 + d % 2) (2 * (n + 1)) x = (x % 4 / 2 + x % 4 % 2) + 4 * ((x / 4 % 4 / 2 + x / 4 % 4 % 2) + 4 * dig 4 (fun d => d / 2 + d % 2) (2 * n) (x / 4 / 4)) := rfl
    rw [e]
    generalize dig 4 (fun d => d / 2 + d % 2) (2 * n) (x / 4 / 4) = y at h
    have e1 : ((x % 4 / 2 + x % 4 % 2) + 4 * ((x / 4 % 4 / 2 + x / 4 % 4 % 2) + 4 * y)) / 16 = y := by omega
    have e2 : ((x % 4 / 2 + x % 4 % 2) + 4 * ((x / 4 % 4 / 2 + x / 4 % 4 % 2) + 4 * y)) % 16 = (x % 4 / 2 + x % 4 % 2) + 4 * (x / 4 % 4 / 2 + x / 4 % 4 % 2) := by omega
    have d1 : ∀ z, dig 16 (fun d => d / 4 + d % 4) (n + 1) z = (z % 16 / 4 + z % 16 % 4) + 16 * dig 16 (fun d => d / 4 + d % 4) n (z / 16) := fun _ => rfl
    have d2 : ∀ z, dig 16 (fun d => (d / 4 % 4 / 2 + d / 4 % 4 % 2) + (d % 4 / 2 + d % 4 % 2)) (n + 1) z = ((z % 16 / 4 % 4 / 2 + z % 16 / 4 % 4 % 2) + (z % 16 % 4 / 2 + z % 16 % 4 % 2)) + 16 * dig 16 (fun d => (d / 4 % 4 / 2 + d / 4 % 4 % 2) + (d % 4 / 2 + d % 4 % 2)) n (z / 16) := fun _ => rfl
    rw [d1, d2, e1, e2, h, show x / 4 / 4 = x / 16 by omega]
    generalize dig 16 (fun d => (d / 4 % 4 / 2 + d / 4 % 4 % 2) + (d % 4 / 2 + d % 4 % 2)) n (x / 16) = y2
    have f1 : x % 16 / 4 % 4 = x / 4 % 4 := by omega
    have f2 : x % 16 % 4 = x % 4 := by omega
    rw [f1, f2]
    omega
/-- A nibble's bits. -/
def nib (d : Nat) : Nat := (d / 4 % 4 / 2 + d / 4 % 4 % 2) + (d % 4 / 2 + d % 4 % 2)
theorem nib_le (d : Nat) : nib d ≤ 4 := by unfold nib; omega
theorem step3 : ∀ (n x : Nat), dig 16 nib (2 * n) x % 16 ≤ 4 ∧ (((dig 16 nib (2 * n) x) / 16 + dig 16 nib (2 * n) x) &&& rep 256 15 n) = dig 256 (fun d => nib (d % 16) + nib (d / 16)) n x := by
  intro n
  induction n with
  | zero => intro x; simp [rep, dig]
  | succ n ih =>
    intro x
    have h := ih (x / 16 / 16)
    have e : dig 16 nib (2 * (n + 1)) x = nib (x % 16) + 16 * (nib (x / 16 % 16) + 16 * dig 16 nib (2 * n) (x / 16 / 16)) := rfl
    have ha := nib_le (x % 16)
    have hb := nib_le (x / 16 % 16)
    have hr : rep 256 15 (n + 1) = 15 + 2 ^ 8 * rep 256 15 n := rfl
    have hd : dig 256 (fun d => nib (d % 16) + nib (d / 16)) (n + 1) x = (nib (x % 256 % 16) + nib (x % 256 / 16)) + 256 * dig 256 (fun d => nib (d % 16) + nib (d / 16)) n (x / 256) := rfl
    rw [e, hr, hd, show x % 256 % 16 = x % 16 by omega, show x % 256 / 16 = x / 16 % 16 by omega, show x / 256 = x / 16 / 16 by omega]
    generalize dig 16 nib (2 * n) (x / 16 / 16) = y at h
    generalize nib (x % 16) = a at ha
    generalize nib (x / 16 % 16) = b at hb
    obtain ⟨h1, h2⟩ := h
    refine ⟨by omega, ?_⟩
    have e1 : (a + 16 * (b + 16 * y)) / 16 + (a + 16 * (b + 16 * y)) = ((a + b) + 16 * ((b + y) % 16)) + 2 ^ 8 * (y / 16 + y) := by omega
    rw [e1, land_digit 8 _ _ _ _ (by omega) (by omega), h2]
    have e2 : (a + b + 16 * ((b + y) % 16)) &&& 15 = a + b := by rw [show (15 : Nat) = 2 ^ 4 - 1 from rfl, Nat.and_two_pow_sub_one_eq_mod]; omega
    rw [e2]
theorem ones_nib (d : Nat) : nib (d % 16) = ones 4 d := by simp only [ones, nib]; omega
theorem ones_add : ∀ (a b x : Nat), ones (a + b) x = ones a x + ones b (x / 2 ^ a) := by
  intro a
  induction a with
  | zero => intro b x; simp [ones]
  | succ a ih =>
    intro b x
    rw [show a + 1 + b = (a + b) + 1 by omega]
    show x % 2 + ones (a + b) (x / 2) = x % 2 + ones a (x / 2) + ones b (x / 2 ^ (a + 1))
    rw [ih, Nat.div_div_eq_div_mul, show 2 * 2 ^ a = 2 ^ (a + 1) by rw [Nat.pow_succ]; omega]
    omega
theorem ones8 (d : Nat) : nib (d % 256 % 16) + nib (d % 256 / 16) = ones 8 d := by
  rw [show (8 : Nat) = 4 + 4 from rfl, ones_add, ← ones_nib, ← ones_nib, show d % 256 % 16 = d % 16 by omega, show d % 256 / 16 = d / 2 ^ 4 % 16 by omega]
theorem ones_le : ∀ (n x : Nat), ones n x ≤ n := by
  intro n
  induction n with
  | zero => intro x; exact Nat.le_refl _
  | succ n ih => intro x; have := ih (x / 2); show x % 2 + _ ≤ _; omega
theorem bytes1 (c0 c1 c2 c3 c4 c5 c6 c7 : Nat) (h0 : c0 ≤ 8) (h1 : c1 ≤ 8) (h2 : c2 ≤ 8) (h3 : c3 ≤ 8) (h4 : c4 ≤ 8) (h5 : c5 ≤ 8) (h6 : c6 ≤ 8) (h7 : c7 ≤ 8) : ((c0 + 256 * (c1 + 256 * (c2 + 256 * (c3 + 256 * (c4 + 256 * (c5 + 256 * (c6 + 256 * (c7)))))))) + (c0 + 256 * (c1 + 256 * (c2 + 256 * (c3 + 256 * (c4 + 256 * (c5 + 256 * (c6 + 256 * (c7)))))))) / 256) % 18446744073709551616 = (c0 + c1) + 256 * ((c1 + c2) + 256 * ((c2 + c3) + 256 * ((c3 + c4) + 256 * ((c4 + c5) + 256 * ((c5 + c6) + 256 * ((c6 + c7) + 256 * ((c7)))))))) := by
  have e : (c0 + 256 * (c1 + 256 * (c2 + 256 * (c3 + 256 * (c4 + 256 * (c5 + 256 * (c6 + 256 * (c7)))))))) / 256 = c1 + 256 * (c2 + 256 * (c3 + 256 * (c4 + 256 * (c5 + 256 * (c6 + 256 * (c7)))))) := by
    rw [show c0 + 256 * (c1 + 256 * (c2 + 256 * (c3 + 256 * (c4 + 256 * (c5 + 256 * (c6 + 256 * (c7))))))) = (c0) + 256 * (c1 + 256 * (c2 + 256 * (c3 + 256 * (c4 + 256 * (c5 + 256 * (c6 + 256 * (c7))))))) by omega, Nat.add_mul_div_left _ _ (by omega), Nat.div_eq_of_lt (by omega), Nat.zero_add]
  rw [e, show (c0 + 256 * (c1 + 256 * (c2 + 256 * (c3 + 256 * (c4 + 256 * (c5 + 256 * (c6 + 256 * (c7)))))))) + (c1 + 256 * (c2 + 256 * (c3 + 256 * (c4 + 256 * (c5 + 256 * (c6 + 256 * (c7))))))) = (c0 + c1) + 256 * ((c1 + c2) + 256 * ((c2 + c3) + 256 * ((c3 + c4) + 256 * ((c4 + c5) + 256 * ((c5 + c6) + 256 * ((c6 + c7) + 256 * ((c7)))))))) by omega, Nat.mod_eq_of_lt (by omega)]
theorem bytes2 (c0 c1 c2 c3 c4 c5 c6 c7 : Nat) (h0 : c0 ≤ 8) (h1 : c1 ≤ 8) (h2 : c2 ≤ 8) (h3 : c3 ≤ 8) (h4 : c4 ≤ 8) (h5 : c5 ≤ 8) (h6 : c6 ≤ 8) (h7 : c7 ≤ 8) : (((c0 + c1) + 256 * ((c1 + c2) + 256 * ((c2 + c3) + 256 * ((c3 + c4) + 256 * ((c4 + c5) + 256 * ((c5 + c6) + 256 * ((c6 + c7) + 256 * ((c7))))))))) + ((c0 + c1) + 256 * ((c1 + c2) + 256 * ((c2 + c3) + 256 * ((c3 + c4) + 256 * ((c4 + c5) + 256 * ((c5 + c6) + 256 * ((c6 + c7) + 256 * ((c7))))))))) / 65536) % 18446744073709551616 = (c0 + c1 + c2 + c3) + 256 * ((c1 + c2 + c3 + c4) + 256 * ((c2 + c3 + c4 + c5) + 256 * ((c3 + c4 + c5 + c6) + 256 * ((c4 + c5 + c6 + c7) + 256 * ((c5 + c6 + c7) + 256 * ((c6 + c7) + 256 * ((c7)))))))) := by
  have e : ((c0 + c1) + 256 * ((c1 + c2) + 256 * ((c2 + c3) + 256 * ((c3 + c4) + 256 * ((c4 + c5) + 256 * ((c5 + c6) + 256 * ((c6 + c7) + 256 * ((c7))))))))) / 65536 = (c2 + c3) + 256 * ((c3 + c4) + 256 * ((c4 + c5) + 256 * ((c5 + c6) + 256 * ((c6 + c7) + 256 * ((c7)))))) := by
    rw [show (c0 + c1) + 256 * ((c1 + c2) + 256 * ((c2 + c3) + 256 * ((c3 + c4) + 256 * ((c4 + c5) + 256 * ((c5 + c6) + 256 * ((c6 + c7) + 256 * ((c7)))))))) = ((c0 + c1) + 256 * ((c1 + c2))) + 65536 * ((c2 + c3) + 256 * ((c3 + c4) + 256 * ((c4 + c5) + 256 * ((c5 + c6) + 256 * ((c6 + c7) + 256 * ((c7))))))) by omega, Nat.add_mul_div_left _ _ (by omega), Nat.div_eq_of_lt (by omega), Nat.zero_add]
  rw [e, show ((c0 + c1) + 256 * ((c1 + c2) + 256 * ((c2 + c3) + 256 * ((c3 + c4) + 256 * ((c4 + c5) + 256 * ((c5 + c6) + 256 * ((c6 + c7) + 256 * ((c7))))))))) + ((c2 + c3) + 256 * ((c3 + c4) + 256 * ((c4 + c5) + 256 * ((c5 + c6) + 256 * ((c6 + c7) + 256 * ((c7))))))) = (c0 + c1 + c2 + c3) + 256 * ((c1 + c2 + c3 + c4) + 256 * ((c2 + c3 + c4 + c5) + 256 * ((c3 + c4 + c5 + c6) + 256 * ((c4 + c5 + c6 + c7) + 256 * ((c5 + c6 + c7) + 256 * ((c6 + c7) + 256 * ((c7)))))))) by omega, Nat.mod_eq_of_lt (by omega)]
theorem bytes3 (c0 c1 c2 c3 c4 c5 c6 c7 : Nat) (h0 : c0 ≤ 8) (h1 : c1 ≤ 8) (h2 : c2 ≤ 8) (h3 : c3 ≤ 8) (h4 : c4 ≤ 8) (h5 : c5 ≤ 8) (h6 : c6 ≤ 8) (h7 : c7 ≤ 8) : (((c0 + c1 + c2 + c3) + 256 * ((c1 + c2 + c3 + c4) + 256 * ((c2 + c3 + c4 + c5) + 256 * ((c3 + c4 + c5 + c6) + 256 * ((c4 + c5 + c6 + c7) + 256 * ((c5 + c6 + c7) + 256 * ((c6 + c7) + 256 * ((c7))))))))) + ((c0 + c1 + c2 + c3) + 256 * ((c1 + c2 + c3 + c4) + 256 * ((c2 + c3 + c4 + c5) + 256 * ((c3 + c4 + c5 + c6) + 256 * ((c4 + c5 + c6 + c7) + 256 * ((c5 + c6 + c7) + 256 * ((c6 + c7) + 256 * ((c7))))))))) / 4294967296) % 18446744073709551616 = (c0 + c1 + c2 + c3 + c4 + c5 + c6 + c7) + 256 * ((c1 + c2 + c3 + c4 + c5 + c6 + c7) + 256 * ((c2 + c3 + c4 + c5 + c6 + c7) + 256 * ((c3 + c4 + c5 + c6 + c7) + 256 * ((c4 + c5 + c6 + c7) + 256 * ((c5 + c6 + c7) + 256 * ((c6 + c7) + 256 * ((c7)))))))) := by
  have e : ((c0 + c1 + c2 + c3) + 256 * ((c1 + c2 + c3 + c4) + 256 * ((c2 + c3 + c4 + c5) + 256 * ((c3 + c4 + c5 + c6) + 256 * ((c4 + c5 + c6 + c7) + 256 * ((c5 + c6 + c7) + 256 * ((c6 + c7) + 256 * ((c7))))))))) / 4294967296 = (c4 + c5 + c6 + c7) + 256 * ((c5 + c6 + c7) + 256 * ((c6 + c7) + 256 * ((c7)))) := by
    rw [show (c0 + c1 + c2 + c3) + 256 * ((c1 + c2 + c3 + c4) + 256 * ((c2 + c3 + c4 + c5) + 256 * ((c3 + c4 + c5 + c6) + 256 * ((c4 + c5 + c6 + c7) + 256 * ((c5 + c6 + c7) + 256 * ((c6 + c7) + 256 * ((c7)))))))) = ((c0 + c1 + c2 + c3) + 256 * ((c1 + c2 + c3 + c4) + 256 * ((c2 + c3 + c4 + c5) + 256 * ((c3 + c4 + c5 + c6))))) + 4294967296 * ((c4 + c5 + c6 + c7) + 256 * ((c5 + c6 + c7) + 256 * ((c6 + c7) + 256 * ((c7))))) by omega, Nat.add_mul_div_left _ _ (by omega), Nat.div_eq_of_lt (by omega), Nat.zero_add]
  rw [e, show ((c0 + c1 + c2 + c3) + 256 * ((c1 + c2 + c3 + c4) + 256 * ((c2 + c3 + c4 + c5) + 256 * ((c3 + c4 + c5 + c6) + 256 * ((c4 + c5 + c6 + c7) + 256 * ((c5 + c6 + c7) + 256 * ((c6 + c7) + 256 * ((c7))))))))) + ((c4 + c5 + c6 + c7) + 256 * ((c5 + c6 + c7) + 256 * ((c6 + c7) + 256 * ((c7))))) = (c0 + c1 + c2 + c3 + c4 + c5 + c6 + c7) + 256 * ((c1 + c2 + c3 + c4 + c5 + c6 + c7) + 256 * ((c2 + c3 + c4 + c5 + c6 + c7) + 256 * ((c3 + c4 + c5 + c6 + c7) + 256 * ((c4 + c5 + c6 + c7) + 256 * ((c5 + c6 + c7) + 256 * ((c6 + c7) + 256 * ((c7)))))))) by omega, Nat.mod_eq_of_lt (by omega)]
/-- What package bits does with eight bytes. -/
def v1 (u : Nat) : Nat := (u + u / 256) % 18446744073709551616
def v2 (u : Nat) : Nat := (v1 u + v1 u / 65536) % 18446744073709551616
def v3 (u : Nat) : Nat := (v2 u + v2 u / 4294967296) % 18446744073709551616
def fold (u : Nat) : Nat := v3 u % 128
theorem whole (c0 c1 c2 c3 c4 c5 c6 c7 : Nat) (h0 : c0 ≤ 8) (h1 : c1 ≤ 8) (h2 : c2 ≤ 8) (h3 : c3 ≤ 8) (h4 : c4 ≤ 8) (h5 : c5 ≤ 8) (h6 : c6 ≤ 8) (h7 : c7 ≤ 8) : v3 (c0 + 256 * (c1 + 256 * (c2 + 256 * (c3 + 256 * (c4 + 256 * (c5 + 256 * (c6 + 256 * (c7)))))))) = (c0 + c1 + c2 + c3 + c4 + c5 + c6 + c7) + 256 * ((c1 + c2 + c3 + c4 + c5 + c6 + c7) + 256 * ((c2 + c3 + c4 + c5 + c6 + c7) + 256 * ((c3 + c4 + c5 + c6 + c7) + 256 * ((c4 + c5 + c6 + c7) + 256 * ((c5 + c6 + c7) + 256 * ((c6 + c7) + 256 * ((c7)))))))) := by
  unfold v3 v2 v1
  rw [bytes1 c0 c1 c2 c3 c4 c5 c6 c7 h0 h1 h2 h3 h4 h5 h6 h7, bytes2 c0 c1 c2 c3 c4 c5 c6 c7 h0 h1 h2 h3 h4 h5 h6 h7, bytes3 c0 c1 c2 c3 c4 c5 c6 c7 h0 h1 h2 h3 h4 h5 h6 h7]
theorem bytes (c0 c1 c2 c3 c4 c5 c6 c7 : Nat) (h0 : c0 ≤ 8) (h1 : c1 ≤ 8) (h2 : c2 ≤ 8) (h3 : c3 ≤ 8) (h4 : c4 ≤ 8) (h5 : c5 ≤ 8) (h6 : c6 ≤ 8) (h7 : c7 ≤ 8) : fold (c0 + 256 * (c1 + 256 * (c2 + 256 * (c3 + 256 * (c4 + 256 * (c5 + 256 * (c6 + 256 * (c7)))))))) = c0 + c1 + c2 + c3 + c4 + c5 + c6 + c7 ∧ v3 (c0 + 256 * (c1 + 256 * (c2 + 256 * (c3 + 256 * (c4 + 256 * (c5 + 256 * (c6 + 256 * (c7)))))))) < 9223372036854775808 := by
  unfold fold
  rw [whole c0 c1 c2 c3 c4 c5 c6 c7 h0 h1 h2 h3 h4 h5 h6 h7]
  refine ⟨?_, by omega⟩
  have e : ((c0 + c1 + c2 + c3 + c4 + c5 + c6 + c7) + 256 * ((c1 + c2 + c3 + c4 + c5 + c6 + c7) + 256 * ((c2 + c3 + c4 + c5 + c6 + c7) + 256 * ((c3 + c4 + c5 + c6 + c7) + 256 * ((c4 + c5 + c6 + c7) + 256 * ((c5 + c6 + c7) + 256 * ((c6 + c7) + 256 * ((c7))))))))) % 128 = ((c0 + c1 + c2 + c3 + c4 + c5 + c6 + c7) + 128 * (2 * ((c1 + c2 + c3 + c4 + c5 + c6 + c7) + 256 * ((c2 + c3 + c4 + c5 + c6 + c7) + 256 * ((c3 + c4 + c5 + c6 + c7) + 256 * ((c4 + c5 + c6 + c7) + 256 * ((c5 + c6 + c7) + 256 * ((c6 + c7) + 256 * ((c7)))))))))) % 128 := by
    congr 1
    omega
  rw [e, Nat.add_mul_mod_self_left, Nat.mod_eq_of_lt (by omega)]
/-- The whole of it, as Go's package bits counts. -/
def half (x : Nat) : Nat := ((x / 2) &&& 6148914691236517205) + (x &&& 6148914691236517205)
def quarter (y : Nat) : Nat := ((y / 4) &&& 3689348814741910323) + (y &&& 3689348814741910323)
def eighth (z : Nat) : Nat := (z / 16 + z) &&& 1085102592571150095
def count (x : Nat) : Nat := fold (eighth (quarter (half x)))
theorem count_eq (x : Nat) : count x = ones 64 x ∧ v3 (eighth (quarter (half x))) < 9223372036854775808 := by
  have r1 : rep 4 1 32 = 6148914691236517205 := by decide
  have r2 : rep 16 3 16 = 3689348814741910323 := by decide
  have r3 : rep 256 15 8 = 1085102592571150095 := by decide
  have hh : half x = dig 4 (fun d => d / 2 + d % 2) 32 x := by unfold half; rw [← r1, step1]
  have hq : quarter (half x) = dig 16 nib 16 x := by
    unfold quarter
    rw [← r2, step2, hh]
    exact two12 16 x
  have he : eighth (quarter (half x)) = dig 256 (fun d => nib (d % 16) + nib (d / 16)) 8 x := by
    unfold eighth
    rw [← r3, hq]
    exact (step3 8 x).2
  have hd : dig 256 (fun d => nib (d % 16) + nib (d / 16)) 8 x = ones 8 x + 256 * (ones 8 (x / 256) + 256 * (ones 8 (x / 256 / 256) + 256 * (ones 8 (x / 256 / 256 / 256) + 256 * (ones 8 (x / 256 / 256 / 256 / 256) + 256 * (ones 8 (x / 256 / 256 / 256 / 256 / 256) + 256 * (ones 8 (x / 256 / 256 / 256 / 256 / 256 / 256) + 256 * (ones 8 (x / 256 / 256 / 256 / 256 / 256 / 256 / 256)))))))) := by
    simp only [dig, ones8, Nat.mul_zero, Nat.add_zero]
  have o : ∀ n z, ones (8 + n) z = ones 8 z + ones n (z / 256) := fun n z => ones_add 8 n z
  have e64 : ones (8 + (8 + (8 + (8 + (8 + (8 + (8 + 8))))))) x = ones 8 x + (ones 8 (x / 256) + (ones 8 (x / 256 / 256) + (ones 8 (x / 256 / 256 / 256) + (ones 8 (x / 256 / 256 / 256 / 256) + (ones 8 (x / 256 / 256 / 256 / 256 / 256) + (ones 8 (x / 256 / 256 / 256 / 256 / 256 / 256) + ones 8 (x / 256 / 256 / 256 / 256 / 256 / 256 / 256))))))) := by
    rw [o, o, o, o, o, o, o]
  have hb := bytes _ _ _ _ _ _ _ _ (ones_le 8 x) (ones_le 8 (x / 256)) (ones_le 8 (x / 256 / 256)) (ones_le 8 (x / 256 / 256 / 256)) (ones_le 8 (x / 256 / 256 / 256 / 256)) (ones_le 8 (x / 256 / 256 / 256 / 256 / 256)) (ones_le 8 (x / 256 / 256 / 256 / 256 / 256 / 256)) (ones_le 8 (x / 256 / 256 / 256 / 256 / 256 / 256 / 256))
  unfold count
  rw [he, hd]
  refine ⟨?_, hb.2⟩
  rw [hb.1]
  refine Eq.trans ?_ e64.symm
  omega
/-- A bit that is not in comes in. -/
theorem ones_or : ∀ (n i x : Nat), i < n → x.testBit i = false → ones n (x ||| 2 ^ i) = ones n x + 1 := by
  intro n
  induction n with
  | zero => intro i x h; omega
  | succ n ih =>
    intro i x h hx
    cases i with
    | zero =>
      have h0 : x % 2 = 0 := by simpa [Nat.testBit_zero] using hx
      have e1 : (x ||| 2 ^ 0) % 2 = 1 := by rw [Nat.or_mod_two_eq_one.2 (Or.inr rfl)]
      have e2 : (x ||| 2 ^ 0) / 2 = x / 2 := by
        rw [Nat.or_div_two]
        simp
      show (x ||| 2 ^ 0) % 2 + ones n ((x ||| 2 ^ 0) / 2) = x % 2 + ones n (x / 2) + 1
      rw [e1, e2, h0]
      omega
    | succ i =>
      have hx' : (x / 2).testBit i = false := by rw [← Nat.testBit_succ]; exact hx
      have := ih i (x / 2) (by omega) hx'
      have e1 : (x ||| 2 ^ (i + 1)) % 2 = x % 2 := by
        have h2 : (2 ^ (i + 1)) % 2 = 0 := by rw [Nat.pow_succ]; omega
        have h3 := Nat.or_mod_two_pow (a := x) (b := 2 ^ (i + 1)) (n := 1)
        rw [show (2 : Nat) ^ 1 = 2 from rfl, h2, Nat.or_zero] at h3
        exact h3
      have e2 : (x ||| 2 ^ (i + 1)) / 2 = (x / 2) ||| 2 ^ i := by
        rw [Nat.or_div_two, Nat.pow_succ, Nat.mul_div_cancel _ (by omega)]
      show (x ||| 2 ^ (i + 1)) % 2 + ones n ((x ||| 2 ^ (i + 1)) / 2) = x % 2 + ones n (x / 2) + 1
      rw [e1, e2, this]
      omega
end Pop

theorem bit_f {j : Nat} (h : j < 64) : mask_bit.f (j : Int) = some ((2 ^ j : Nat) : Int) := by
  have hp : 2 ^ j < 2 ^ 64 := Nat.pow_lt_pow_right (by omega) h
  have e : shl .u64 1 (j : Int) = ((2 ^ j : Nat) : Int) := by
    unfold shl
    rw [IntKind.wrap_u64, Int.toNat_natCast, Nat.min_eq_left (by show j ≤ 64; omega), Int.one_mul]
    have : ((2 : Int) ^ j) = ((2 ^ j : Nat) : Int) := by simp
    rw [this]
    generalize 2 ^ j = p at hp ⊢
    omega
  unfold mask_bit.f
  rw [if_neg (by omega), if_neg (by omega), if_pos (by omega), e]
theorem with_f {m j : Nat} (h : j < 64) (hm : m < 18446744073709551616) : mask_Mask_With.f (m : Int) (j : Int) = some ((m ||| 2 ^ j : Nat) : Int) := by
  have hp : 2 ^ j < 2 ^ 64 := Nat.pow_lt_pow_right (by omega) h
  unfold mask_Mask_With.f
  rw [bit_f h]
  show some _ = _
  rw [u64_or_nat _ _ hm (by omega)]
theorem of_nil : mask_Of.f 1 ([] : List Int) = some 0 := by
  unfold mask_Of.f
  rw [mask_Of.l0.eq_2, if_neg (by simp)]
theorem or_lt {m j n : Nat} (hm : m < 2 ^ n) (h : j < n) : m ||| 2 ^ j < 2 ^ n := Nat.or_lt_two_pow hm (Nat.pow_lt_pow_right (by omega) h)

theorem wrap_u (a b : Nat) : IntKind.u64.wrap ((a : Int) + (b : Int)) = (((a + b) % 18446744073709551616 : Nat) : Int) := by
  rw [IntKind.wrap_u64]
  omega
theorem and_c (a c : Nat) (ha : a < 18446744073709551616) (hc : c < 18446744073709551616) : Go.bits .and .u64 (a : Int) (c : Int) = ((a &&& c : Nat) : Int) := u64_and_nat a c ha hc
theorem and_le (a c : Nat) : a &&& c ≤ c := Nat.and_le_right
theorem half_go {x : Nat} (hx : x < 18446744073709551616) : IntKind.u64.wrap ((Go.bits .and .u64 ((x : Int) / 2) 6148914691236517205) + (Go.bits .and .u64 (x : Int) 6148914691236517205)) = ((Pop.half x : Nat) : Int) := by
  have e : (x : Int) / 2 = ((x / 2 : Nat) : Int) := by omega
  have h1 := and_le (x / 2) 6148914691236517205
  have h2 := and_le x 6148914691236517205
  rw [e, show (6148914691236517205 : Int) = ((6148914691236517205 : Nat) : Int) from rfl, and_c _ _ (by omega) (by decide), and_c _ _ hx (by decide), wrap_u]
  unfold Pop.half
  rw [Nat.mod_eq_of_lt (by omega)]
theorem quarter_go {x : Nat} (hx : x < 18446744073709551616) : IntKind.u64.wrap ((Go.bits .and .u64 ((x : Int) / 4) 3689348814741910323) + (Go.bits .and .u64 (x : Int) 3689348814741910323)) = ((Pop.quarter x : Nat) : Int) := by
  have e : (x : Int) / 4 = ((x / 4 : Nat) : Int) := by omega
  have h1 := and_le (x / 4) 3689348814741910323
  have h2 := and_le x 3689348814741910323
  rw [e, show (3689348814741910323 : Int) = ((3689348814741910323 : Nat) : Int) from rfl, and_c _ _ (by omega) (by decide), and_c _ _ hx (by decide), wrap_u]
  unfold Pop.quarter
  rw [Nat.mod_eq_of_lt (by omega)]
theorem eighth_go {x : Nat} (hx : x / 16 + x < 18446744073709551616) : Go.bits .and .u64 (IntKind.u64.wrap (((x : Int) / 16) + (x : Int))) 1085102592571150095 = ((Pop.eighth x : Nat) : Int) := by
  have e : (x : Int) / 16 = ((x / 16 : Nat) : Int) := by omega
  rw [e, wrap_u, show (1085102592571150095 : Int) = ((1085102592571150095 : Nat) : Int) from rfl, and_c _ _ (by omega) (by decide), Nat.mod_eq_of_lt hx]
  rfl
theorem half_le (x : Nat) : Pop.half x < 18446744073709551616 := by
  have h1 := and_le (x / 2) 6148914691236517205
  have h2 := and_le x 6148914691236517205
  unfold Pop.half
  omega
theorem quarter_le (x : Nat) : Pop.quarter x ≤ 7378697629483820646 := by
  have h1 := and_le (x / 4) 3689348814741910323
  have h2 := and_le x 3689348814741910323
  unfold Pop.quarter
  omega
theorem fold_go {x c : Nat} (d : Int) (hd : (x : Int) / d = ((x / c : Nat) : Int)) : IntKind.u64.wrap ((x : Int) + (x : Int) / d) = (((x + x / c) % 18446744073709551616 : Nat) : Int) := by rw [hd, wrap_u]
theorem low_go {x : Nat} (hx : x < 9223372036854775808) : Go.bits .and .i64 (x : Int) 127 = ((x % 128 : Nat) : Int) := by
  have h := bits_mask .i64 63 (by decide) (fun n h0 h1 => by rw [IntKind.wrap_i64]; omega) 7 (by decide) (x : Int) (by omega) (by omega)
  rw [show ((2 : Int) ^ 7 - 1) = 127 from rfl] at h
  rw [h]
  omega
theorem ones_go {x : Nat} (hx : x < 18446744073709551616) : bits_OnesCount64.f (x : Int) = some ((Pop.ones 64 x : Nat) : Int) := by
  have hq := quarter_le (Pop.half x)
  have hc := Pop.count_eq x
  unfold bits_OnesCount64.f
  rw [half_go hx, quarter_go (half_le x), eighth_go (by omega), fold_go (c := 256) 256 (by omega)]
  rw [show ((Pop.eighth (Pop.quarter (Pop.half x)) + Pop.eighth (Pop.quarter (Pop.half x)) / 256) % 18446744073709551616 : Nat) = Pop.v1 (Pop.eighth (Pop.quarter (Pop.half x))) from rfl, fold_go (c := 65536) 65536 (by omega)]
  rw [show ((Pop.v1 (Pop.eighth (Pop.quarter (Pop.half x))) + Pop.v1 (Pop.eighth (Pop.quarter (Pop.half x))) / 65536) % 18446744073709551616 : Nat) = Pop.v2 (Pop.eighth (Pop.quarter (Pop.half x))) from rfl, fold_go (c := 4294967296) 4294967296 (by omega)]
  rw [show ((Pop.v2 (Pop.eighth (Pop.quarter (Pop.half x))) + Pop.v2 (Pop.eighth (Pop.quarter (Pop.half x))) / 4294967296) % 18446744073709551616 : Nat) = Pop.v3 (Pop.eighth (Pop.quarter (Pop.half x))) from rfl]
  have hv := hc.2
  have e : ((Pop.v3 (Pop.eighth (Pop.quarter (Pop.half x))) % 128 : Nat) : Int) = ((Pop.ones 64 x : Nat) : Int) := congrArg _ hc.1
  rw [← e]
  generalize Pop.v3 (Pop.eighth (Pop.quarter (Pop.half x))) = y at hv
  have ew : wrap64 (y : Int) = (y : Int) := by unfold wrap64; omega
  rw [ew, low_go hv]
theorem len_f {x : Nat} (hx : x < 18446744073709551616) : mask_Mask_Len.f (x : Int) = some ((Pop.ones 64 x : Nat) : Int) := by
  unfold mask_Mask_Len.f
  rw [ones_go hx]
  rfl

theorem rd_nat (l : List Int) (j : Nat) : rd l (j : Int) = l.getD j 0 := by simp [rd]
theorem free_l0 {l : List Int} (hl : l.length ≤ 64) (q : Nat) : ∀ (d j m : Nat), l.length - j = d → j ≤ l.length → m < 2 ^ j → Pop.ones 64 m = (l.take j).countP (fun x => decide (x = -1)) →
    ∃ m', seat_Free.l0 (q + d + 1) (m : Int) l (l.length : Int) (j : Int) = some ((m' : Nat) : Int) ∧ m' < 2 ^ l.length ∧ Pop.ones 64 m' = l.countP (fun x => decide (x = -1)) := by
  intro d
  induction d with
  | zero =>
    intro j m hd hj hm ho
    have e : j = l.length := by omega
    subst e
    rw [List.take_length] at ho
    exact ⟨m, by rw [seat_Free.l0.eq_2, if_neg (by omega)], hm, ho⟩
  | succ d ih =>
    intro j m hd hj hm ho
    have hlt : j < l.length := by omega
    have h64 : m < 18446744073709551616 := by
      have : 2 ^ j ≤ 2 ^ 64 := Nat.pow_le_pow_right (by omega) (by omega)
      omega
    have t1 := Mine.take_at (Mine.getD_at (0 : Int) hlt)
    rw [show q + (d + 1) + 1 = (q + d + 1) + 1 by omega, seat_Free.l0.eq_2, if_pos (by omega), if_pos (by omega), if_pos (by omega), rd_nat, wrap_nat (j := j) (by omega)]
    have hm2 : m < 2 ^ (j + 1) := by rw [Nat.pow_succ]; omega
    by_cases c : l.getD j 0 = -1
    · rw [if_pos c, with_f (by omega) h64]
      show ∃ m', seat_Free.l0 (q + d + 1) _ l _ _ = _ ∧ _
      refine ih (j + 1) (m ||| 2 ^ j) (by omega) (by omega) (or_lt hm2 (by omega)) ?_
      rw [Pop.ones_or 64 j m (by omega) (Nat.testBit_lt_two_pow hm), ho, t1, List.countP_append, c]
      rfl
    · rw [if_neg c]
      refine ih (j + 1) m (by omega) (by omega) hm2 ?_
      rw [ho, t1, List.countP_append, List.countP_singleton, decide_eq_false c]
      rfl
theorem free_f {l : List Int} (hl : l.length ≤ 64) : ∃ m', seat_Free.f 900 l = some ((m' : Nat) : Int) ∧ m' < 18446744073709551616 ∧ Pop.ones 64 m' = l.countP (fun x => decide (x = -1)) := by
  have h0 : mask_Of.f 900 ([] : List Int) = some 0 := at_rounds (fun k => mask_Of.mono _ k) (by omega) of_nil
  obtain ⟨m', h1, h2, h3⟩ := free_l0 hl (899 - l.length) l.length 0 0 (by omega) (by omega) (by decide) (by rw [List.take_zero]; decide +kernel)
  rw [show 899 - l.length + l.length + 1 = 900 by omega, show ((0 : Nat) : Int) = 0 from rfl] at h1
  refine ⟨m', ?_, ?_, h3⟩
  · unfold seat_Free.f
    rw [h0]; simp only [Option.bind_some]
    exact h1
  · have : 2 ^ l.length ≤ 2 ^ 64 := Nat.pow_le_pow_right (by omega) hl
    omega
theorem seated_free : ∀ (l : List Int), (∀ y ∈ l, -1 ≤ y) → l.countP (fun x => decide (x = -1)) + seated l = l.length := by
  intro l
  induction l with
  | nil => intro _; rfl
  | cons x l ih =>
    intro h
    have hx := h x List.mem_cons_self
    have := ih (fun y hy => h y (List.mem_cons_of_mem _ hy))
    unfold seated at this ⊢
    rw [List.countP_cons, List.countP_cons, List.length_cons]
    by_cases c : x = -1
    · subst c
      simp
      omega
    · have c2 : 0 ≤ x := by omega
      simp [c, c2]
      omega
theorem free_no {k : Nat} {a b : List Int} : beadlelaw16_SeatFree.j0 (k + 1) a b true = some true := by
  rw [beadlelaw16_SeatFree.j0.eq_2, if_pos rfl]
theorem SeatFree : beadlelaw16_SeatFree.Pure := by
  intro was run _ _ _ _ _ _
  refine ⟨900 + 1, ?_⟩
  have haw : beadlelaw16_awake.f (900 + 1) = some true := at_rounds (fun k => beadlelaw16_awake.mono k) (by omega) awake_f
  unfold beadlelaw16_SeatFree.f
  rw [haw]; simp only [Option.bind_some, if_true]
  by_cases h1 : (was.length : Int) > 64
  · rw [if_pos h1]; exact free_no
  · rw [if_neg h1]
    by_cases hg : Seats was run
    · rw [good_t hg]; simp only [Option.bind_some, Bool.not_true]
      obtain ⟨out, e1, e2, e3, e4, e5, e6, e7, e8, e9⟩ := give_law hg
      obtain ⟨g1, g2, g3, ⟨g4, g5⟩, g6, g7⟩ := id hg
      have ga := seats_again hg e2 e3 e9
      obtain ⟨m', m1, m2, m3⟩ := free_f (l := out) (by omega)
      rw [beadlelaw16_SeatFree.j0.eq_2, if_neg (by decide), e1]; simp only [Option.bind_some]
      rw [m1, Option.bind_some, len_f m2, Option.bind_some]
      have hs := seated_free out (fun y hy => by
        rcases e9 y hy with r | r
        · omega
        · have := (g6 y r).1; omega)
      rw [m3, wrap_id (by omega) (by omega), if_pos (by omega), good_t ga]
      rfl
    · rw [good_n hg]; simp only [Option.bind_some, Bool.not_false]; exact free_no

end Go.Proofs.Ytdolfdijcbfegaa.Pure
