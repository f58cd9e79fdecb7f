-- Written by myprint.py: the kit's print program with patches of this session; Lean checks it.
import Derived.Test.YtdolfdijcbfegaaQx0
namespace Go.Proofs.Ytdolfdijcbfegaa.Q
open Go.RowKit Go.Proofs.YtdolfdijcbfegaaW.PrintWords Go.Proofs.YtdolfdijcbfegaaW.PrintLast Go.Proofs.YtdolfdijcbfegaaW.PrintMore
attribute [local go_sem] max2_int min2_int max_two min_two max_three min_three max_four min_four   -- for this text's walks alone
set_option linter.unusedVariables false
set_option linter.unusedSimpArgs false

/-! ### seat_once: function 16 -/
/-- None is there twice (but 'nobody', -1), and each is from a least one on and below 1024: 'seen' are those ahead. -/
def seat_once.onceb (least : Int) : List Int → List Int → Bool
  | _, [] => true
  | seen, x :: xs => if x < least then false else if x ≥ 1024 then false else if x ∈ seen ∧ x ≠ -1 then false else seat_once.onceb least (x :: seen) xs
def seat_once.f (l0 : List Int) (a1 : Int) : Option Bool := if -1 ≤ a1 then (if l0.length ≤ 17592186044416 then some (seat_once.onceb a1 [] l0) else none) else none
theorem seat_once.law : Go.Maps.Keyed Try.prog 3 := Go.Maps.int_keyed Try.underlying3
theorem seat_once.zero (w : World) : (zeroValue 4).run Try.prog w = .ok (.bool false) w := by kernel_rfl
theorem seat_once.look {H : Type} {P : Program} {k t e : TypeId} {w : World} {b n : Nat} {D : DataW H} (h : w.ownsMap P k (plainElem P e) b n D) (K : Go.Maps.Keyed P k) (ht : P.underlying t = some (.map k e)) (he : P.underlying e = some .bool) (hz : (zeroValue e).run P w = .ok (.bool false) w)
    {key : Value} {kl : Lit} (hkey : keyOf P k key = some kl) : ∃ c, (Instr.lookup t (.map (some b)) key false).run P w = .ok (.bool c) w ∧ D.atKey kl (.lit (.bool false)) = .lit (.bool c) := by
  have h0 : plainElem (H := H) P e (.bool false) = some (.lit (.bool false), []) := by simp [plainElem, he]
  obtain ⟨v, ps, hrun, hv⟩ := h.lookup K ht hz h0 hkey
  cases v with
  | bool c =>
    simp only [plainElem, he, Option.some.injEq, Prod.mk.injEq] at hv
    exact ⟨c, hrun, hv.1.symm⟩
  | _ => simp [plainElem, he] at hv
def seat_once.Sees (D : DataW Unit) (xs : List Int) : Prop := Go.Maps.IsMap D ∧ ∀ id : Int, D.atKey (.int .i64 id) (.lit (.bool false)) = .lit (.bool (decide (id ∈ xs ∧ id ≠ -1)))
theorem seat_once.sees_nil : seat_once.Sees (.map []) [] := ⟨⟨_, rfl⟩, fun id => by simp [DataW.atKey]⟩
theorem seat_once.sees_put {D : DataW Unit} {xs : List Int} (h : seat_once.Sees D xs) (x : Int) (b : Bool) (hb : b = decide (x ≠ -1)) : seat_once.Sees (D.put (.int .i64 x) (.lit (.bool b))) (x :: xs) := by
  refine ⟨h.1.put _ _, fun id => ?_⟩
  · by_cases e : id = x
    · subst e
      rw [Go.Maps.atKey_put_same h.1 (show WideAt.IsKeyLit (.int .i64 id) from trivial), hb]
      simp
    · rw [Go.Maps.atKey_put_other (by simpa using e), h.2 id]
      simp [e]
theorem seat_once.step {least x : Int} {seen xs : List Int} : seat_once.onceb least seen (x :: xs) = if x < least then false else if x ≥ 1024 then false else if x ∈ seen ∧ x ≠ -1 then false else seat_once.onceb least (x :: seen) xs := rfl
theorem seat_once.drop_at {l : List Int} {j : Nat} {x : Int} (h : l[j]? = some x) : l.drop j = x :: l.drop (j + 1) := by
  obtain ⟨hl, rfl⟩ := List.getElem?_eq_some_iff.1 h
  exact List.drop_eq_getElem_cons hl
theorem seat_once.take_at {l : List Int} {j : Nat} {x : Int} (h : l[j]? = some x) : (l.take (j + 1)).reverse = x :: (l.take j).reverse := by
  obtain ⟨hl, rfl⟩ := List.getElem?_eq_some_iff.1 h
  rw [List.take_succ_eq_append_getElem hl]
  simp
theorem seat_once.ret_bool {a b : Bool} (h : a = b) : Ending.returned (.bool a) = .returned (.bool b) := by rw [h]
theorem seat_once.plainElem_bool {P : Program} {e : TypeId} (he : P.underlying e = some .bool) (b : Bool) : plainElem (H := Unit) P e (.bool b) = some (.lit (.bool b), []) := by simp [plainElem, he]
def seat_once.At (w : World) (a1 : Int) (l0 : List Int) (r : Bool) (i : Value) (wr : World) : Prop :=
  ∃ (j : Nat) (D : DataW Unit), j ≤ l0.length ∧ i = .int .i64 j ∧ wr.ownsMap Try.prog 3 (plainElem Try.prog 4) w.heap.size j D ∧ seat_once.Sees D (l0.take j).reverse ∧ Below w.heap.size w wr ∧ seat_once.onceb a1 (l0.take j).reverse (l0.drop j) = r
set_option maxHeartbeats 1000000 in
set_option maxRecDepth 100000 in
theorem seat_once.calls (A0 : Option Addr) (c0 : Nat) (l0 : List Int) (a1 : Int) (r : Bool) (w : World) (hr0 : Kd.C (Kd.int .i64) w A0 l0.length l0) (hc0 : l0.length ≤ c0) (h : seat_once.f l0 a1 = some r) :
    Calls Try.prog 16 #[.slice A0 l0.length c0, .int .i64 a1] w fun e w' => e = .returned (.bool r) ∧ Below w.heap.size w w' := by
  unfold seat_once.f at h
  by_cases ha : -1 ≤ a1
  · rw [if_pos ha] at h
    by_cases hl : l0.length ≤ 17592186044416
    · rw [if_pos hl] at h
      have HR := Aside0.mk (Option.some.inj h)
      have HC := Aside0.mk hr0
      clear h hr0
      have hmm := @run_makeMap Try.prog
      go_enter Try.func16, Try.ntmps16
      go_wp2
      go_loopw [11] (fun i wr => seat_once.At w a1 l0 r i wr) (fun i _ => l0.length - (intOf i).toNat)
      case atStart => exact ⟨0, .map [], Nat.zero_le _, rfl, World.ownsMap_made _ _ _ _, seat_once.sees_nil, (Below.refl _ _).alloc (Nat.le_refl _) _, by simpa using HR.out⟩
      case round =>
        obtain ⟨j, D, hj, rfl, hown0, hsee0, hbel0, hres0⟩ := hrel
        have hown := Aside0.mk hown0
        have hsee := Aside0.mk hsee0
        have hbel := Aside0.mk hbel0
        have hres := Aside0.mk hres0
        clear hown0 hsee0 hbel0 hres0
        by_cases hlt : j < l0.length
        · obtain ⟨ad, cs, hA, _, hK, hcell⟩ := Kd.C_get (Kd.C_below HC.out hbel.out) 0 (j : Int) (by omega) (by omega)
          subst hA
          have hc1 : wr.cell? (ad.add j) = some (.int .i64 (l0.getD j 0)) := by
            have h0 := hcell 0 _ (by rw [hK]; rfl)
            have e1 : ((j : Int).toNat * (Kd.int .i64).sz + 0) = j := by
              show (j : Int).toNat * 1 + 0 = j
              omega
            rw [e1, Int.toNat_natCast] at h0
            exact h0
          clear hcell hK
          have hxj : l0[j]? = some (l0.getD j 0) := by rw [List.getD_eq_getElem?_getD, List.getElem?_eq_getElem hlt]; rfl
          have hdr := Aside0.mk (seat_once.drop_at hxj)
          have htk := Aside0.mk (seat_once.take_at hxj)
          clear hxj
          generalize l0.getD j 0 = x at *
          by_cases c1 : x < a1
          · have d1 : decide (x < a1) = true := decide_eq_true c1
            clear c1
            go_wp2
            go_ret
            exact ⟨seat_once.ret_bool (by have := hres.out; rw [hdr.out, seat_once.step, if_pos (of_decide_eq_true d1)] at this; exact this), hbel.out⟩
          · have d1 : decide (x < a1) = false := decide_eq_false c1
            by_cases c2 : x ≥ 1024
            · have d2 : decide (1024 ≤ x) = true := decide_eq_true c2
              clear c1 c2
              go_wp2
              go_ret
              exact ⟨seat_once.ret_bool (by have := hres.out; rw [hdr.out, seat_once.step, if_neg (of_decide_eq_false d1), if_pos (of_decide_eq_true d2)] at this; exact this), hbel.out⟩
            · have d2 : decide (1024 ≤ x) = false := decide_eq_false c2
              have hkey : keyOf Try.prog 3 (.int .i64 x) = some (.int .i64 x) := Go.Maps.keyOf_int_mk Try.underlying3 (by simp only [Lit.wf, Bool.and_eq_true, decide_eq_true_eq]; exact ⟨show (-9223372036854775808 : Int) ≤ x by omega, show x ≤ (9223372036854775807 : Int) by omega⟩)
              obtain ⟨b, hrun, hat⟩ := seat_once.look hown.out seat_once.law Try.underlying39 Try.underlying4 (seat_once.zero wr) hkey
              have hb := Aside0.mk ((hsee.out.2 x).symm.trans hat)
              clear hat
              by_cases cb : b = true
              · subst cb
                clear c1 c2
                go_wp2
                go_ret
                refine ⟨seat_once.ret_bool ?_, hbel.out⟩
                have hq := hres.out
                have hb1 := hb.out
                simp only [DataW.lit.injEq, Lit.bool.injEq, decide_eq_true_eq] at hb1
                rw [hdr.out, seat_once.step, if_neg (of_decide_eq_false d1), if_neg (of_decide_eq_false d2), if_pos hb1] at hq
                exact hq
              · have cb' : b = false := by simpa using cb
                subst cb'
                clear cb c1 c2
                go_wp2_with (first | (at_mapUpdate; refine wpList_mapUpdate_own _ rfl _ _ _ 39 rfl 3 4 seat_once.law Try.underlying39 _ w.heap.size j _ rfl hown.out (by unfold maxLen; omega) _ _ _ rfl rfl hkey _ [] (seat_once.plainElem_bool Try.underlying4 _) ?_; intro w1 hown1 hgrow1))
                refine ⟨⟨j + 1, _, by omega, by go_num, hown1, ?_, ?_, ?_⟩, by simp [intOf]; omega⟩
                · rw [htk.out]
                  exact seat_once.sees_put hsee.out x _ (by by_cases h : x = -1 <;> simp [h])
                · exact hbel.out.grown hgrow1 hbel.out.size (fun k hk => by cases hk; exact Nat.le_refl _)
                · have hq := hres.out
                  have hb1 := hb.out
                  simp only [DataW.lit.injEq, Lit.bool.injEq, decide_eq_false_iff_not] at hb1
                  rw [hdr.out, seat_once.step, if_neg (of_decide_eq_false d1), if_neg (of_decide_eq_false d2), if_neg hb1] at hq
                  rw [htk.out]
                  exact hq
        · have hnl := Aside0.mk (show l0.drop j = [] from List.drop_of_length_le (by omega))
          go_wp2
          go_ret
          exact ⟨seat_once.ret_bool (by have := hres.out; rw [hnl.out] at this; exact this), hbel.out⟩
    · rw [if_neg hl] at h
      cases h
  · rw [if_neg ha] at h
    cases h

end Go.Proofs.Ytdolfdijcbfegaa.Q
