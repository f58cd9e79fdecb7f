-- Written by myprint.py: the kit's print program with patches of this session; Lean checks it.
import Derived.Test.YtdolfdijcbfegaaQx0
import Derived.Test.YtdolfdijcbfegaaQx2
import Derived.Test.YtdolfdijcbfegaaQx3
import Derived.Test.YtdolfdijcbfegaaQx4
import Derived.Test.YtdolfdijcbfegaaQx5
namespace Go.Proofs.Ytdolfdijcbfegaa.Q
open Go.RowKit Go.Proofs.YtdolfdijcbfegaaW.PrintWords Go.Proofs.YtdolfdijcbfegaaW.PrintLast Go.Proofs.YtdolfdijcbfegaaW.PrintMore
attribute [local go_sem] max2_int min2_int max_two min_two max_three min_three max_four min_four   -- for this text's walks alone
set_option linter.unusedVariables false
set_option linter.unusedSimpArgs false

/-! ### seat_Give: function 9 -/
theorem seat_Give.index_l (l : List Int) (v : Int) (hl : l.length ≤ 17592186044416) : ∀ (d j : Nat), l.length - j = d → j ≤ l.length → (∀ i, i < j → l.getD i 0 ≠ v) → slices_Index_int_int.l0 (d + 1) l v (l.length : Int) (j : Int) = some (if v ∈ l.drop j then ((j + (l.drop j).idxOf v : Nat) : Int) else -1) := by
  intro d
  induction d with
  | zero =>
    intro j hd hj _
    have : l.drop j = [] := List.drop_of_length_le (by omega)
    rw [slices_Index_int_int.l0.eq_2, if_neg (by omega), this]
    simp
  | succ d ih =>
    intro j hd hj hne
    have hlt : j < l.length := by omega
    have hx := Mine.getD_at (0 : Int) hlt
    have hdr := Mine.drop_at hx
    rw [slices_Index_int_int.l0.eq_2, if_pos (by omega), if_pos (by omega), if_pos (by omega)]
    have hrd : rd l (j : Int) = l.getD j 0 := by simp [rd]
    rw [hrd, hdr]
    by_cases c : v = l.getD j 0
    · rw [if_pos c, if_pos (by rw [c]; exact List.mem_cons_self), List.idxOf_cons, c]
      simp
    · rw [if_neg c]
      have hw : wrap64 ((j : Int) + 1) = ((j + 1 : Nat) : Int) := by unfold wrap64; omega
      rw [hw, ih (j + 1) (by omega) (by omega) (fun i hi => by
        rcases Nat.lt_or_ge i j with h1 | h1
        · exact hne i h1
        · rw [show i = j by omega]; exact fun e => c e.symm)]
      by_cases m : v ∈ l.drop (j + 1)
      · rw [if_pos m, if_pos (List.mem_cons_of_mem _ m), List.idxOf_cons]
        have : (l.getD j 0 == v) = false := by simp; exact fun e => c e.symm
        rw [this]
        simp only [cond_false]
        congr 1
        omega
      · rw [if_neg m, if_neg (by simp; exact ⟨c, m⟩)]
/-- Where a number is first; -1. -/
def seat_Give.placeOf (l : List Int) (v : Int) : Int := if v ∈ l then (l.idxOf v : Int) else -1
theorem seat_Give.index_f (l : List Int) (v : Int) (hl : l.length ≤ 17592186044416) : slices_Index_int_int.f (l.length + 1) l v = some (seat_Give.placeOf l v) := by
  unfold slices_Index_int_int.f seat_Give.placeOf
  have := seat_Give.index_l l v hl l.length 0 (by omega) (by omega) (fun i hi => by omega)
  simpa using this
theorem seat_Give.contains_f (l : List Int) (v : Int) (hl : l.length ≤ 17592186044416) : slices_Contains_int_int.f (l.length + 1) l v = some (decide (v ∈ l)) := by
  unfold slices_Contains_int_int.f
  rw [seat_Give.index_f l v hl]
  simp only [Option.bind_some]
  unfold seat_Give.placeOf
  by_cases m : v ∈ l
  · rw [if_pos m]; simp [m]
  · rw [if_neg m]; simp [m]
/-- Who does not run gives his seat away. -/
def seat_Give.kept (was run : List Int) : List Int := was.map fun id => if id ∈ run then id else -1
/-- Each that runs and has no seat takes the first that is free. -/
def seat_Give.place : List Int → List Int → Int → Option (List Int × Int)
  | now, [], m => some (now, m)
  | now, id :: rs, m => if id ∈ now then seat_Give.place now rs m else if (-1 : Int) ∈ now then seat_Give.place (now.set (now.idxOf (-1)) id) rs (wrap64 (m + 1)) else none
def seat_Give.f (l0 l1 : List Int) : Option (List Int × Int) := (seat_Good.f l0 l1).bind fun g => if g = true then seat_Give.place (seat_Give.kept l0 l1) l1 0 else some ([], 0)
theorem seat_Give.bounds {l0 l1 : List Int} (h : seat_Good.f l0 l1 = some true) : 1 ≤ l0.length ∧ l0.length ≤ 64 ∧ l1.length ≤ l0.length := by
  unfold seat_Good.f at h
  by_cases h1 : (l0.length : Int) ≥ 1
  · by_cases h2 : (l0.length : Int) ≤ 64
    · by_cases h3 : (l1.length : Int) ≤ (l0.length : Int)
      · omega
      · rw [if_pos h1, if_pos h2, if_neg h3] at h; cases h
    · rw [if_pos h1, if_neg h2] at h; cases h
  · rw [if_neg h1] at h; cases h
def seat_Give.At1 (w : World) (l0 l1 : List Int) (g cap : Nat) (i : Value) (wr : World) : Prop :=
  ∃ j : Nat, j ≤ l0.length ∧ i = .int .i64 j ∧ (Kd.int .i64).R 3 wr w.heap.size (fun _ => True) (.slice (some ⟨g, 0, none⟩) l0.length cap) (seat_Give.kept (l0.take j) l1 ++ l0.drop j) ∧ Below w.heap.size w wr
def seat_Give.At2 (w : World) (l0 l1 : List Int) (g cap : Nat) (r1 : List Int) (r2 : Int) (i mv : Value) (wr : World) : Prop :=
  ∃ (j : Nat) (now : List Int) (m : Int), j ≤ l1.length ∧ i = .int .i64 j ∧ mv = .int .i64 m ∧ now.length = l0.length ∧ (Kd.int .i64).R 3 wr w.heap.size (fun _ => True) (.slice (some ⟨g, 0, none⟩) l0.length cap) now ∧ Below w.heap.size w wr ∧ seat_Give.place now (l1.drop j) m = some (r1, r2)
theorem seat_Give.kept_snoc (l l1 : List Int) (x : Int) : seat_Give.kept (l ++ [x]) l1 = seat_Give.kept l l1 ++ [if x ∈ l1 then x else -1] := by simp [seat_Give.kept]
theorem seat_Give.kept_len (l l1 : List Int) : (seat_Give.kept l l1).length = l.length := by simp [seat_Give.kept]
theorem seat_Give.kept_get {l l1 : List Int} {j : Nat} (hj : j < l.length) : (seat_Give.kept (l.take j) l1 ++ l.drop j).getD j 0 = l.getD j 0 := by
  have h1 : (seat_Give.kept (l.take j) l1).length = j := by rw [seat_Give.kept_len, List.length_take]; omega
  rw [List.getD_eq_getElem?_getD, List.getElem?_append_right (by omega), h1, Nat.sub_self, List.getElem?_drop, Nat.add_zero, List.getD_eq_getElem?_getD]
theorem seat_Give.kept_set {l l1 : List Int} {j : Nat} (hj : j < l.length) (y : Int) : (seat_Give.kept (l.take j) l1 ++ l.drop j).set j y = seat_Give.kept (l.take j) l1 ++ y :: l.drop (j + 1) := by
  have h1 : (seat_Give.kept (l.take j) l1).length = j := by rw [seat_Give.kept_len, List.length_take]; omega
  rw [Mine.drop_at (Mine.getD_at (0 : Int) hj), List.set_append_right _ _ (by omega), h1, Nat.sub_self]
  rfl
theorem seat_Give.kept_next {l l1 : List Int} {j : Nat} (hj : j < l.length) : seat_Give.kept (l.take (j + 1)) l1 ++ l.drop (j + 1) = seat_Give.kept (l.take j) l1 ++ (if l.getD j 0 ∈ l1 then l.getD j 0 else -1) :: l.drop (j + 1) := by
  rw [Mine.take_at (Mine.getD_at (0 : Int) hj), seat_Give.kept_snoc, List.append_assoc]
  rfl
set_option maxHeartbeats 2000000 in
set_option maxRecDepth 100000 in
theorem seat_Give.calls (A0 : Option Addr) (c0 : Nat) (l0 : List Int) (A1 : Option Addr) (c1 : Nat) (l1 : List Int) (r1 : List Int) (r2 : Int) (w : World) (hr0 : Kd.C (Kd.int .i64) w A0 l0.length l0) (hc0 : l0.length ≤ c0) (hr1 : Kd.C (Kd.int .i64) w A1 l1.length l1) (hc1 : l1.length ≤ c1) (h : seat_Give.f l0 l1 = some (r1, r2)) :
    Calls Try.prog 9 #[.slice A0 l0.length c0, .slice A1 l1.length c1] w fun e w' => ∃ v0_ : Value, e = .returned (.tuple #[v0_, .int .i64 r2]) ∧ Kd.R (Kd.int .i64) 3 w' w.heap.size (fun _ => True) v0_ r1 ∧ Below w.heap.size w w' := by
  obtain ⟨gd, hg, h⟩ := Option.bind_eq_some_iff.mp h
  have HG := Aside0.mk hg
  have H0 := Aside0.mk hr0
  have H1 := Aside0.mk hr1
  clear hr0 hr1
  cases gd with
  | false =>
    have h' : (([] : List Int), (0 : Int)) = (r1, r2) := by simpa using h
    clear h hg
    simp only [Prod.mk.injEq] at h'
    obtain ⟨rfl, rfl⟩ := h'
    go_enter Try.func9, Try.ntmps9
    go_wp2_with (first | (go_at_call 8; (with_reducible refine (seat_Good.calls A0 c0 l0 A1 c1 l1 false _ H0.out hc0 H1.out hc1 HG.out).mono ?_); rintro e w1 ⟨rfl, hb1⟩; have HB1 := Aside0.mk hb1; clear hb1))
    go_ret2
    exact ⟨.slice none 0 0, rfl, Kd.R_nil _ _ _ _ _, HB1.out⟩
  | true =>
    have h' : seat_Give.place (seat_Give.kept l0 l1) l1 0 = some (r1, r2) := by simpa using h
    have HP := Aside0.mk h'
    obtain ⟨b1, b2, b3⟩ := seat_Give.bounds hg
    clear h hg h'
    go_enter Try.func9, Try.ntmps9
    go_wp2_with (first | (go_at_call 8; (with_reducible refine (seat_Good.calls A0 c0 l0 A1 c1 l1 true _ H0.out hc0 H1.out hc1 HG.out).mono ?_); rintro e w1 ⟨rfl, hb1⟩; have HB1 := Aside0.mk hb1; clear hb1) | (go_at_call 17; (with_reducible refine (slices_Clone_int_int.calls A0 c0 l0 l0 _ (Kd.C_below H0.out HB1.out) hc0 (by unfold slices_Clone_int_int.f; rw [if_pos (by omega)])).mono ?_); rintro e w2 ⟨v, rfl, hO, hb2⟩; obtain ⟨g, cap, rfl, hbg, hlt, _⟩ := Kd.R_form hO (by omega); have HO := Aside0.mk (Kd.R_lower hO HB1.out.size); have HB2 := Aside0.mk (HB1.out.trans (hb2.mono HB1.out.size)); have hbg' : w.heap.size ≤ g := Nat.le_trans HB1.out.size hbg; clear hO hb2 hbg hlt))
    have hl1 : l1.length ≤ 17592186044416 := by omega
    have hl0 : l0.length ≤ 17592186044416 := by omega
    go_loopw [18] (fun i wr => seat_Give.At1 w l0 l1 g cap i wr) (fun i _ => l0.length - (intOf i).toNat)
    case atStart => exact ⟨0, Nat.zero_le _, rfl, by simpa [seat_Give.kept] using HO.out, HB2.out⟩
    case round =>
      obtain ⟨j, hj, rfl, hO, hB⟩ := hrel
      have HOj := Aside0.mk hO
      have HBj := Aside0.mk hB
      clear hO hB HO HB2 HB1
      by_cases hlt : j < l0.length
      · obtain ⟨hcell, hfr⟩ := Mine.row_get HOj.out (j := j) hlt
        rw [seat_Give.kept_get hlt] at hcell
        have hnx := Aside0.mk (seat_Give.kept_next (l1 := l1) hlt)
        have hst := Aside0.mk (seat_Give.kept_set (l1 := l1) hlt (-1))
        generalize hx : l0.getD j 0 = x at hcell hnx
        have hx' := Aside0.mk hx
        clear hx
        by_cases c : x ∈ l1
        · have hc' : slices_Contains_int_int.f (l1.length + 1) l1 x = some true := by rw [seat_Give.contains_f l1 x hl1, decide_eq_true c]
          have HC := Aside0.mk hc'
          have c' := Aside0.mk c
          clear hc' c
          go_wp2_with (first | (go_at_call 18; (with_reducible refine (slices_Contains_int_int.calls (l1.length + 1) A1 c1 l1 x true _ (Kd.C_below H1.out HBj.out) hc1 HC.out).mono ?_); rintro e w3 ⟨rfl, ⟨nd, rfl⟩⟩))
          go_roundw
          case rel => exact ⟨j + 1, by omega, by go_num, by rw [hnx.out, if_pos c'.out, ← hx'.out, ← Mine.drop_at (Mine.getD_at (0 : Int) hlt)]; exact Kd.R_below HOj.out (pw_below_drewN (Below.refl _ _) nd), pw_below_drewN HBj.out nd⟩
          case measure => simp [intOf]; omega
        · have hc' : slices_Contains_int_int.f (l1.length + 1) l1 x = some false := by rw [seat_Give.contains_f l1 x hl1, decide_eq_false c]
          have HC := Aside0.mk hc'
          have c' := Aside0.mk c
          clear hc' c
          go_wp2_with (first | (go_at_call 18; (with_reducible refine (slices_Contains_int_int.calls (l1.length + 1) A1 c1 l1 x false _ (Kd.C_below H1.out HBj.out) hc1 HC.out).mono ?_); rintro e w3 ⟨rfl, ⟨nd, rfl⟩⟩))
          go_roundw
          case rel =>
            have hs := Mine.row_set (Kd.R_below HOj.out (pw_below_drewN (Below.refl _ _) nd)) hlt (-1)
            exact ⟨j + 1, by omega, by go_num, by rw [hnx.out, if_neg c'.out, ← hst.out]; exact hs.1, (pw_below_drewN HBj.out nd).setCell hbg' _⟩
          case measure => simp [intOf]; omega
      · have hje : j = l0.length := by omega
        subst hje
        have HO2 := Aside0.mk (show (Kd.int .i64).R 3 wr w.heap.size (fun _ => True) (.slice (some ⟨g, 0, none⟩) l0.length cap) (seat_Give.kept l0 l1) by have := HOj.out; rwa [List.take_length, List.drop_length, List.append_nil] at this)
        clear HOj hlt hj
        go_wp2
        obtain ⟨wo, rfl⟩ : ∃ wo : World, wo = wr := ⟨_, rfl⟩
        go_loopw [33, 5] (fun i mv wr => seat_Give.At2 w l0 l1 g cap r1 r2 i mv wr) (fun i _ _ => l1.length - (intOf i).toNat)
        case atStart => exact ⟨0, seat_Give.kept l0 l1, 0, Nat.zero_le _, rfl, rfl, seat_Give.kept_len _ _, HO2.out, HBj.out, HP.out⟩
        case round =>
          obtain ⟨j, now, m, hj, rfl, rfl, hn, hO, hB, hP⟩ := hrel
          have HOk := Aside0.mk hO
          have HBk := Aside0.mk hB
          have HPk := Aside0.mk hP
          have hn' := Aside0.mk hn
          clear hO hB hP hn HO2 HBj HP
          by_cases hlt : j < l1.length
          · obtain ⟨ad, hA, hcell⟩ := Mine.read_at (Kd.C_below H1.out HBk.out) hlt
            subst hA
            have hdr := Aside0.mk (Mine.drop_at (Mine.getD_at (0 : Int) hlt))
            generalize l1.getD j 0 = x at *
            have hq : seat_Give.place now (x :: l1.drop (j + 1)) m = some (r1, r2) := by rw [← hdr.out]; exact HPk.out
            have hrow := Kd.R_reads' HOk.out
            have hlen : now.length ≤ 17592186044416 := by have := hn'.out; omega
            by_cases c : x ∈ now
            · have HC := Aside0.mk (show slices_Contains_int_int.f (now.length + 1) now x = some true by rw [seat_Give.contains_f now x hlen, decide_eq_true c])
              have HQ := Aside0.mk (show seat_Give.place now (l1.drop (j + 1)) m = some (r1, r2) by rw [seat_Give.place, if_pos c] at hq; exact hq)
              have HR := Aside0.mk hrow
              clear c hq hrow hlen
              go_wp2_with (first | (go_at_call 18; (with_reducible refine (calls_of_args (args' := #[.slice (some ⟨g, 0, none⟩) now.length cap, .int .i64 x]) (by rw [hn'.out]) (slices_Contains_int_int.calls (now.length + 1) (some ⟨g, 0, none⟩) cap now x true _ HR.out.2.2 (by have := HR.out; omega) HC.out)).mono ?_); rintro e w3 ⟨rfl, ⟨nd, rfl⟩⟩))
              go_roundw
              case rel => exact ⟨j + 1, now, m, by omega, by go_num, rfl, hn'.out, Kd.R_below HOk.out (pw_below_drewN (Below.refl _ _) nd), pw_below_drewN HBk.out nd, HQ.out⟩
              case measure => simp [intOf]; omega
            · by_cases cm : (-1 : Int) ∈ now
              · have HC := Aside0.mk (show slices_Contains_int_int.f (now.length + 1) now x = some false by rw [seat_Give.contains_f now x hlen, decide_eq_false c])
                have HI := Aside0.mk (show slices_Index_int_int.f (now.length + 1) now (-1) = some ((now.idxOf (-1) : Nat) : Int) by rw [seat_Give.index_f now (-1) hlen]; unfold seat_Give.placeOf; rw [if_pos cm])
                have HQ := Aside0.mk (show seat_Give.place (now.set (now.idxOf (-1)) x) (l1.drop (j + 1)) (wrap64 (m + 1)) = some (r1, r2) by rw [seat_Give.place, if_neg c, if_pos cm] at hq; exact hq)
                have hqlt : now.idxOf (-1) < l0.length := by rw [← hn'.out]; exact List.idxOf_lt_length_of_mem cm
                have HR := Aside0.mk hrow
                clear c cm hq hrow hlen
                generalize now.idxOf (-1) = q at *
                obtain ⟨hcq, hfq⟩ := Mine.row_get HOk.out hqlt
                go_wp2_with (first | (go_at_call 18; (with_reducible refine (calls_of_args (args' := #[.slice (some ⟨g, 0, none⟩) now.length cap, .int .i64 x]) (by rw [hn'.out]) (slices_Contains_int_int.calls (now.length + 1) (some ⟨g, 0, none⟩) cap now x false _ HR.out.2.2 (by have := HR.out; omega) HC.out)).mono ?_); rintro e w3 ⟨rfl, ⟨nd, rfl⟩⟩) | (go_at_call 19; (with_reducible refine (calls_of_args (args' := #[.slice (some ⟨g, 0, none⟩) now.length cap, .int .i64 (-1)]) (by rw [hn'.out]) (slices_Index_int_int.calls (now.length + 1) (some ⟨g, 0, none⟩) cap now (-1) (q : Int) _ (Kd.C_drewN HR.out.2.2 _) (by have := HR.out; omega) HI.out)).mono ?_); rintro e w4 ⟨rfl, ⟨nd2, rfl⟩⟩))
                have hs := Mine.row_set (Kd.R_below HOk.out (pw_below_drewN (Below.refl _ _) (nd + nd2))) hqlt x
                exact ⟨⟨j + 1, _, _, by omega, by go_num, rfl, by rw [List.length_set]; exact hn'.out, hs.1, (pw_below_drewN HBk.out (nd + nd2)).setCell hbg' _, HQ.out⟩, by simp [intOf]; omega⟩
              · rw [seat_Give.place, if_neg c, if_neg cm] at hq
                cases hq
          · have hje : j = l1.length := by omega
            subst hje
            have hfin := HPk.out
            rw [List.drop_length, seat_Give.place] at hfin
            simp only [Option.some.injEq, Prod.mk.injEq] at hfin
            obtain ⟨rfl, rfl⟩ := hfin
            go_wp2
            go_ret2
            exact ⟨_, rfl, HOk.out, HBk.out⟩

end Go.Proofs.Ytdolfdijcbfegaa.Q
