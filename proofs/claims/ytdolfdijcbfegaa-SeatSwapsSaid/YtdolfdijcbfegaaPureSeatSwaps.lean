/- The statement SeatSwaps of the program, over numbers and lists alone: for every input (of the bounds that it names) the printed function of the law answers true. No further condition. -/
import Derived.Test.YtdolfdijcbfegaaQx12
namespace Go.Proofs.Ytdolfdijcbfegaa.Pure
open Go.RowKit Go.Proofs.Ytdolfdijcbfegaa.Q Go.Proofs.YtdolfdijcbfegaaW.PrintWords Go.Proofs.YtdolfdijcbfegaaW.PrintLast

set_option linter.unusedSimpArgs false
set_option linter.unusedVariables false

theorem wrap_id {n : Int} (h0 : -9223372036854775808 ≤ n) (h1 : n ≤ 9223372036854775807) : wrap64 n = n := by unfold wrap64; omega
theorem wrap_nat {j : Nat} (h : j ≤ 17592186044416) : wrap64 ((j : Int) + 1) = ((j + 1 : Nat) : Int) := by unfold wrap64; omega
theorem index_k {k : Nat} {l : List Int} {v : Int} (hl : l.length ≤ 64) (hk : 65 ≤ k) : slices_Index_int_int.f k l v = some (seat_Give.placeOf l v) :=
  at_rounds (fun k => slices_Index_int_int.mono l v k) (show l.length + 1 ≤ k by omega) (seat_Give.index_f l v (by omega))
theorem at_k {k : Nat} {l : List Int} {v : Int} (hl : l.length ≤ 64) (hk : 65 ≤ k) : seat_At.f k l v = some (if v = -1 then -1 else seat_Give.placeOf l v) := by
  unfold seat_At.f
  by_cases h : v = -1
  · rw [if_pos h, if_pos h]
  · rw [if_neg h, if_neg h, index_k hl hk]; rfl
theorem ints_l (a : List Int) (hl : a.length ≤ 64) : ∀ (d j : Nat), a.length - j = d → j ≤ a.length → beadlelaw16_ints.l0 (d + 1) a a (j : Int) = some true := by
  intro d
  induction d with
  | zero =>
    intro j hd hj
    rw [beadlelaw16_ints.l0.eq_2, if_neg (by omega)]
  | succ d ih =>
    intro j hd hj
    rw [beadlelaw16_ints.l0.eq_2, if_pos (by omega), if_pos (by omega), if_pos (by omega), if_pos rfl, wrap_nat (by omega)]
    exact ih (j + 1) (by omega) (by omega)
theorem ints_k {k : Nat} {a : List Int} (hl : a.length ≤ 64) (hk : 65 ≤ k) : beadlelaw16_ints.f k a a = some true := by
  refine at_rounds (fun k => beadlelaw16_ints.mono a a k) (show a.length + 1 ≤ k by omega) ?_
  unfold beadlelaw16_ints.f
  rw [if_pos rfl]
  exact ints_l a hl a.length 0 (by omega) (by omega)
/-- None is there twice (but nobody), each from a least one on. -/
def OnceP (least : Int) (l : List Int) : Prop := (∀ x ∈ l, least ≤ x ∧ x < 1024) ∧ l.Pairwise (fun a b => a = b → a = -1)
theorem onceb_iff (least : Int) (l : List Int) : ∀ seen : List Int, seat_once.onceb least seen l = true ↔ ((∀ x ∈ l, least ≤ x ∧ x < 1024) ∧ (∀ x ∈ l, x ∈ seen → x = -1) ∧ l.Pairwise (fun a b => a = b → a = -1)) := by
  induction l with
  | nil => intro seen; simp [seat_once.onceb]
  | cons x xs ih =>
    intro seen
    rw [seat_once.step]
    by_cases h1 : x < least
    · rw [if_pos h1]
      refine ⟨fun h => by simp at h, fun h => ?_⟩
      have := (h.1 x List.mem_cons_self).1
      omega
    · rw [if_neg h1]
      by_cases h2 : x ≥ 1024
      · rw [if_pos h2]
        refine ⟨fun h => by simp at h, fun h => ?_⟩
        have := (h.1 x List.mem_cons_self).2
        omega
      · rw [if_neg h2]
        by_cases h3 : x ∈ seen ∧ x ≠ -1
        · rw [if_pos h3]
          refine ⟨fun h => by simp at h, fun h => ?_⟩
          exact absurd (h.2.1 x List.mem_cons_self h3.1) h3.2
        · rw [if_neg h3, ih (x :: seen)]
          refine ⟨fun ⟨a, b, c⟩ => ⟨?_, ?_, ?_⟩, fun ⟨a, b, c⟩ => ⟨?_, ?_, ?_⟩⟩
          · intro y hy
            rcases List.mem_cons.1 hy with rfl | hy
            · omega
            · exact a y hy
          · intro y hy hs
            rcases List.mem_cons.1 hy with rfl | hy
            · exact Classical.byContradiction fun hn => h3 ⟨hs, hn⟩
            · exact b y hy (List.mem_cons_of_mem _ hs)
          · refine List.pairwise_cons.2 ⟨fun y hy e => ?_, c⟩
            subst e
            exact b x hy List.mem_cons_self
          · exact fun y hy => a y (List.mem_cons_of_mem _ hy)
          · intro y hy hs
            rcases List.mem_cons.1 hs with rfl | hs
            · exact (List.pairwise_cons.1 c).1 y hy rfl
            · exact b y (List.mem_cons_of_mem _ hy) hs
          · exact (List.pairwise_cons.1 c).2
theorem once_iff (least : Int) (l : List Int) : seat_once.onceb least [] l = true ↔ OnceP least l := by
  rw [onceb_iff]
  unfold OnceP
  simp
theorem once_f {least : Int} {l : List Int} (hl : l.length ≤ 64) (h : -1 ≤ least) : seat_once.f l least = some (seat_once.onceb least [] l) := by
  unfold seat_once.f
  rw [if_pos h, if_pos (by omega)]
/-- What Good asks of seats and of those that run. -/
def Seats (was run : List Int) : Prop := 1 ≤ was.length ∧ was.length ≤ 64 ∧ run.length ≤ was.length ∧ OnceP (-1) was ∧ OnceP 0 run
theorem good_t {was run : List Int} (h : Seats was run) : seat_Good.f was run = some true := by
  obtain ⟨h1, h2, h3, h4, h5⟩ := h
  unfold seat_Good.f
  rw [if_pos (by omega), if_pos (by omega), if_pos (by omega), once_f h2 (by omega), once_f (l := run) (by omega) (by omega), (once_iff (-1) was).2 h4, (once_iff 0 run).2 h5]
  rfl
theorem good_n {was run : List Int} (h : ¬ Seats was run) : seat_Good.f was run = some false := by
  unfold seat_Good.f
  by_cases h1 : (was.length : Int) ≥ 1
  · by_cases h2 : (was.length : Int) ≤ 64
    · by_cases h3 : (run.length : Int) ≤ (was.length : Int)
      · rw [if_pos h1, if_pos h2, if_pos h3, once_f (by omega) (by omega), once_f (l := run) (by omega) (by omega)]
        simp only [Option.bind_some]
        by_cases h4 : seat_once.onceb (-1) [] was = true
        · rw [if_pos h4]
          by_cases h5 : seat_once.onceb 0 [] run = true
          · exact absurd ⟨by omega, by omega, by omega, (once_iff _ _).1 h4, (once_iff _ _).1 h5⟩ h
          · rw [Bool.not_eq_true] at h5; rw [h5]
        · rw [if_neg h4]
      · rw [if_pos h1, if_pos h2, if_neg h3]
    · rw [if_pos h1, if_neg h2]
  · rw [if_neg h1]
theorem awake_f : beadlelaw16_awake.f 100 = some true := by decide +kernel

theorem swaps_no {k : Nat} {a : List Int} {b c : Int} : beadlelaw16_SeatSwaps.j0 (k + 1) a b c true = some true := by
  rw [beadlelaw16_SeatSwaps.j0.eq_2, if_pos rfl]
theorem placeOf_no {l : List Int} {v : Int} (h : v ∉ l) : seat_Give.placeOf l v = -1 := if_neg h
theorem placeOf_neg {l : List Int} {v : Int} (h : ¬ seat_Give.placeOf l v ≥ 0) : v ∉ l := by
  intro hm
  unfold seat_Give.placeOf at h
  rw [if_pos hm] at h
  omega
theorem rd_mid (pre post : List Int) (x : Int) : rd (pre ++ x :: post) (pre.length : Int) = x := by
  simp [rd]
theorem set_mid (pre post : List Int) (x y : Int) : (pre ++ x :: post).set ((pre.length : Int).toNat) y = pre ++ y :: post := by
  simp
theorem placeOf_mid {pre post : List Int} {x : Int} (h : x ∉ pre) : seat_Give.placeOf (pre ++ x :: post) x = pre.length := by
  unfold seat_Give.placeOf
  rw [if_pos (by simp), List.idxOf_append, if_neg h]
  simp
/-- Swapped at a place where somebody was, whoever comes being nowhere else. -/
theorem swap_f {k : Nat} {pre post : List Int} {x y : Int} (hg : Seats (pre ++ x :: post) []) (hy : -1 ≤ y ∧ y < 1024) (hn : y = -1 ∨ y ∉ pre ++ x :: post) (hk : 65 ≤ k) :
    seat_Swap.f (k + 1) (pre ++ x :: post) (pre.length : Int) y = some (pre ++ y :: post, x) := by
  unfold seat_Swap.f
  have hl := hg.2.1
  rw [good_t hg]; simp only [Option.bind_some, if_true]
  rw [if_neg (by omega), if_neg (by simp; omega), if_neg (by omega), decide_eq_false (by omega), seat_Swap.j0.eq_2]
  simp only [Bool.false_eq_true, if_false]
  have hc : slices_Clone_int_int.f (pre ++ x :: post) = some (pre ++ x :: post) := by unfold slices_Clone_int_int.f; rw [if_pos (by omega)]
  rw [hc]; simp only [Option.bind_some]
  have ha : seat_At.f k (pre ++ x :: post) y = some (-1) := by
    rw [at_k hl hk]
    rcases hn with h | h
    · rw [if_pos h]
    · by_cases e : y = -1
      · rw [if_pos e]
      · rw [if_neg e, placeOf_no h]
  rw [ha]; simp only [Option.bind_some]
  rw [if_neg (by decide), if_pos (by omega), if_pos (by simp; omega), if_pos (by simp; omega), set_mid, rd_mid]
theorem SeatSwaps : beadlelaw16_SeatSwaps.Pure := by
  intro was cpu id _ _ _ _ _
  refine ⟨100, ?_⟩
  unfold beadlelaw16_SeatSwaps.f
  rw [awake_f]; simp only [Option.bind_some, if_true]
  by_cases h0 : (was.length : Int) > 64
  · rw [if_pos h0]; exact swaps_no
  · rw [if_neg h0]
    by_cases hg : Seats was []
    · rw [good_t hg]; simp only [Option.bind_some, if_true]
      by_cases h1 : cpu < 0
      · rw [if_pos h1]; exact swaps_no
      · rw [if_neg h1]
        by_cases h2 : cpu ≥ (was.length : Int)
        · rw [if_pos h2]; exact swaps_no
        · rw [if_neg h2]
          by_cases h3 : id < 0
          · rw [if_pos h3]; exact swaps_no
          · rw [if_neg h3]
            by_cases h4 : id > 1023
            · rw [if_pos h4]; exact swaps_no
            · rw [if_neg h4, at_k (by omega) (by omega), if_neg (by omega)]; simp only [Option.bind_some]
              by_cases h5 : seat_Give.placeOf was id ≥ 0
              · rw [decide_eq_true h5]; exact swaps_no
              · rw [decide_eq_false h5, beadlelaw16_SeatSwaps.j0.eq_2]; simp only [Bool.false_eq_true, if_false]
                have hid := placeOf_neg h5
                obtain ⟨pre, x, post, rfl, rfl⟩ : ∃ pre x post, was = pre ++ x :: post ∧ cpu = (pre.length : Int) := by
                  have hlt : cpu.toNat < was.length := by omega
                  refine ⟨was.take cpu.toNat, was[cpu.toNat], was.drop (cpu.toNat + 1), ?_, ?_⟩
                  · rw [← List.drop_eq_getElem_cons hlt, List.take_append_drop]
                  · rw [List.length_take]; omega
                have hg' := hg
                obtain ⟨g1, g2, g3, ⟨g4, g5⟩, g6⟩ := hg'
                rw [List.pairwise_append] at g5
                obtain ⟨p1, p2, p3⟩ := g5
                obtain ⟨p4, p5⟩ := List.pairwise_cons.1 p2
                have hipre : id ∉ pre := fun h => hid (List.mem_append_left _ h)
                have hipost : id ∉ post := fun h => hid (List.mem_append_right _ (List.mem_cons_of_mem _ h))
                have hg2 : Seats (pre ++ id :: post) [] := by
                  refine ⟨by simpa using g1, by simpa using g2, by simp, ⟨?_, ?_⟩, g6⟩
                  · intro z hz
                    rcases List.mem_append.1 hz with hz | hz
                    · exact g4 z (List.mem_append_left _ hz)
                    · rcases List.mem_cons.1 hz with rfl | hz
                      · omega
                      · exact g4 z (List.mem_append_right _ (List.mem_cons_of_mem _ hz))
                  · rw [List.pairwise_append]
                    refine ⟨p1, List.pairwise_cons.2 ⟨fun z hz e => absurd (e ▸ hz) hipost, p5⟩, fun a ha b hb e => ?_⟩
                    rcases List.mem_cons.1 hb with rfl | hb
                    · exact absurd (e ▸ ha) hipre
                    · exact p3 a ha b (List.mem_cons_of_mem _ hb) e
                have hx : -1 ≤ x ∧ x < 1024 := g4 x (by simp)
                rw [swap_f hg ⟨by omega, by omega⟩ (.inr hid) (by omega)]; simp only [Option.bind_some]
                have hxn : x = -1 ∨ x ∉ pre ++ id :: post := by
                  by_cases e : x = -1
                  · exact .inl e
                  · refine .inr fun hm => ?_
                    rcases List.mem_append.1 hm with hm | hm
                    · exact e (p3 x hm x List.mem_cons_self rfl)
                    · rcases List.mem_cons.1 hm with rfl | hm
                      · exact hid (by simp)
                      · exact e (p4 x hm rfl)
                rw [swap_f hg2 hx hxn (by omega)]; simp only [Option.bind_some]
                rw [good_t hg2, ints_k g2 (by omega), at_k hg2.2.1 (by omega), if_neg (show ¬ id = -1 by omega), placeOf_mid hipre]
                simp
    · rw [good_n hg]; simp only [Option.bind_some, Bool.false_eq_true, if_false]; exact swaps_no

end Go.Proofs.Ytdolfdijcbfegaa.Pure
