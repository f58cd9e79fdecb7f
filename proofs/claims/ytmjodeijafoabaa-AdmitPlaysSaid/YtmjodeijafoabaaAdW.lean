/- Admit: AdmitPlays: the results of any calls are as the reference's (the walk) (no law is stated here; each says its conditions). -/
import Derived.Test.YtmjodeijafoabaaSt
import Derived.Test.YtmjodeijafoabaaReg
import Derived.Test.YtmjodeijafoabaaQt
import Derived.Test.YtmjodeijafoabaaAdR
import Derived.Test.YtmjodeijafoabaaAdY
import Derived.Test.YtmjodeijafoabaaQx43
namespace Go.Proofs.Ytmjodeijafoabaa.Admit
open Go.RowKit Go.Proofs.YtmjodeijafoabaaW.PrintWords Go.Proofs.YtmjodeijafoabaaW.PrintLast Go.Proofs.YtmjodeijafoabaaW.PrintMore Go.Proofs.Ytmjodeijafoabaa.St Go.Proofs.Ytmjodeijafoabaa.Q Go.Proofs.Ytmjodeijafoabaa.Pure
set_option linter.unusedVariables false
set_option linter.unusedSimpArgs false
attribute [local go_sem] max2_int min2_int max_two min_two max_three min_three max_four min_four

def cv64 (x : S37) : S64 := ⟨x.f0, cv x.f1, x.f2⟩
theorem C_cv64 {w : World} {A : Option Addr} {n : Nat} {l : List S37} (h : k37.C w A n l) : k64.C w A n (l.map cv64) := reads_map (fun x cs h => by rw [k37_open h]; exact k64_mk w (cv64 x)) h
theorem rd64 {l : List S37} {j : Nat} (hj : j < l.length) : rd_T64 (l.map cv64) (j : Int) = cv64 (l.getD j z4) := by
  unfold rd_T64
  rw [Int.toNat_natCast, List.getD_eq_getElem?_getD, List.getElem?_map, List.getD_eq_getElem?_getD, List.getElem?_eq_getElem hj]
  rfl
theorem rd37 {l : List S37} {j : Nat} (hj : j < l.length) : rd_T37 l (j : Int) = l.getD j z4 := by
  unfold rd_T37
  rw [Int.toNat_natCast, List.getD_eq_getElem?_getD, List.getD_eq_getElem?_getD, List.getElem?_eq_getElem hj]
  rfl
theorem entries_l (l : List S37) (hl : l.length ≤ 1000) : ∀ (d j : Nat), l.length - j = d → j ≤ l.length → beadlelaw14_entries.l0 (d + 1) l (l.map cv64) (j : Int) = some true := by
  intro d
  induction d with
  | zero => intro j hd hj; rw [beadlelaw14_entries.l0, if_neg (by omega)]
  | succ d ih =>
    intro j hd hj
    have hlt : j < l.length := by omega
    rw [beadlelaw14_entries.l0, if_pos (by omega), if_pos (by omega), if_pos (by rw [List.length_map]; omega), rd64 hlt, rd37 hlt, if_pos (show (l.getD j z4).f0 = (cv64 (l.getD j z4)).f0 from rfl), if_pos (show (l.getD j z4).f1.f0 = (cv64 (l.getD j z4)).f1.f0 from rfl), if_pos (show (l.getD j z4).f1.f1 = (cv64 (l.getD j z4)).f1.f1 from rfl), if_pos (show (l.getD j z4).f2 = (cv64 (l.getD j z4)).f2 from rfl), show wrap64 ((j : Int) + 1) = ((j + 1 : Nat) : Int) by unfold wrap64; omega]
    exact ih (j + 1) (by omega) (by omega)
theorem entries_same {w : World} {A A' : Option Addr} {k k' : Nat} {l : List S37} (h : k37.C w A l.length l) (hk : l.length ≤ k) (h' : k37.C w A' l.length l) (hk' : l.length ≤ k') (hl : l.length ≤ 1000) :
    Calls Try.prog 19 #[.slice A l.length k, .slice A' l.length k'] w fun e w' => e = .returned (.bool true) ∧ Below w.heap.size w w' := by
  have hf : beadlelaw14_entries.f (l.length + 1) l (l.map cv64) = some true := by
    unfold beadlelaw14_entries.f
    rw [if_pos (by rw [List.length_map])]
    exact entries_l l hl l.length 0 (by omega) (by omega)
  have h2 := beadlelaw14_entries.calls (l.length + 1) A k l A' k' (l.map cv64) true w h hk (by rw [List.length_map]; exact C_cv64 h') (by rw [List.length_map]; exact hk') hf
  rw [List.length_map] at h2
  exact h2.mono (fun e w' h => ⟨h.1, h.2.below⟩)
theorem RB.keep0 {w0 W W1 : World} {c c1 : Nat → Nat} {i g : Nat} {m : Int} {l1 l2 : List S37} {js : List Nat} (h : RB w0 W c i m l1 l2 g) (t : TurnedL c c1 js w0 W W1) (h0 : i ∉ js) (h1 : i + 1 ∉ js) (h2 : i + 2 ∉ js) : RB w0 W1 c1 i m l1 l2 g := by
  obtain ⟨A1, k1, A2, k2, b1, b2, b3⟩ := h
  exact ⟨A1, k1, A2, k2, t.keep _ blk _ _ _ h0 b1, t.keep _ (row 64 k37) _ _ _ h1 b2, t.keep _ (row 64 k37) _ _ _ h2 b3⟩
theorem RB.keep1 {w0 W W1 : World} {c c1 : Nat → Nat} {i g j : Nat} {m : Int} {l1 l2 : List S37} (h : RB w0 W c i m l1 l2 g) (t : Turned c c1 j w0 W W1) (h0 : i ≠ j ∧ i + 1 ≠ j ∧ i + 2 ≠ j) : RB w0 W1 c1 i m l1 l2 g :=
  RB.keep0 h ((TurnedL.refl c [j] w0 W).step t (by simp)) (by simpa using h0.1) (by simpa using h0.2.1) (by simpa using h0.2.2)
section
variable {w0 W : World} {c : Nat → Nat} {i g : Nat} {m : Int} {l1 l2 : List S37}
theorem BK.leave3 (id till now : Int) (h : BK w0 W c i m l1 l2 g) (hB : Below w0.heap.size w0 W) {j : Nat} (hi : Inv l1 l2 j) (hj : j ≤ 90) {r : Int} {l o : List S37} (hr : leaveV l1 id till now = r) (hl : leaveL l1 id till now = l) (ho : leaveO l1 l2 id till now = o) :
    Calls Try.prog 10 #[.pointer (some ⟨g, 0, none⟩), .int .i64 id, .int .i64 till, .int .i64 now] W fun e w' => e = .returned (.int .i64 r) ∧ ∃ c', BK w0 w' c' i m l o g ∧ TurnedL c c' [i, i + 1, i + 2, i + 3, i + 4] w0 W w' := by
  subst hr; subst hl; subst ho
  exact BK.leave id till now h hB hi (by omega)
theorem BK.change3 (id q p now : Int) (h : BK w0 W c i m l1 l2 g) (hB : Below w0.heap.size w0 W) {j : Nat} (hi : Inv l1 l2 j) (hj : j ≤ 90) (hm : 1 ≤ m ∧ m ≤ 64) {r : Int} {l : List S37} (hr : changeV m l1 l2 id q p now = r) (hl : changeL m l1 l2 id q p now = l) :
    Calls Try.prog 14 #[.pointer (some ⟨g, 0, none⟩), .int .i64 id, .agg #[.int .i64 q, .int .i64 p], .int .i64 now] W fun e w' => e = .returned (.int .i64 r) ∧ ∃ c', BK w0 w' c' i m l l2 g ∧ TurnedL c c' [i, i + 1, i + 2, i + 3, i + 4] w0 W w' := by
  subst hr; subst hl
  exact BK.changeI id q p now h hB hi (by omega) hm
theorem BK.ask3 (q p now : Int) (h : BK w0 W c i m l1 l2 g) {j : Nat} (hi : Inv l1 l2 j) (hj : j ≤ 90) (hm : 1 ≤ m ∧ m ≤ 64) {r : Int} (hr : askV m l1 l2 q p now = r) :
    Calls Try.prog 12 #[.pointer (some ⟨g, 0, none⟩), .agg #[.int .i64 q, .int .i64 p], .int .i64 now] W fun e w' => e = .returned (.int .i64 r) ∧ Below W.heap.size W w' := by
  subst hr
  exact BK.ask q p now h hi (by omega) hm
theorem BK.enter3 (id q p now : Int) (h : BK w0 W c i m l1 l2 g) (hB : Below w0.heap.size w0 W) {j : Nat} (hi : Inv l1 l2 j) (hj : j ≤ 90) (hm : 1 ≤ m ∧ m ≤ 64) {r : Int} {l : List S37} (hr : enterV m l1 l2 id q p now = r) (hl : enterL m l1 l2 id q p now = l) :
    Calls Try.prog 9 #[.pointer (some ⟨g, 0, none⟩), .int .i64 id, .agg #[.int .i64 q, .int .i64 p], .int .i64 now] W fun e w' => e = .returned (.int .i64 r) ∧ ∃ c', BK w0 w' c' i m l l2 g ∧ TurnedL c c' [i, i + 1, i + 2, i + 3, i + 4] w0 W w' :=
  BK.enter id q p now h hB hi (by omega) hm hr hl
theorem RB.enter3 (id q p now : Int) (h : RB w0 W c i m l1 l2 g) (hB : Below w0.heap.size w0 W) {j : Nat} (hi : Inv l1 l2 j) (hj : j ≤ 90) (hm : 1 ≤ m ∧ m ≤ 64) {r : Int} {l : List S37} (hr : enterV m l1 l2 id q p now = r) (hl : enterL m l1 l2 id q p now = l) :
    Calls Try.prog 15 #[.pointer (some ⟨g, 0, none⟩), .int .i64 id, .agg #[.int .i64 q, .int .i64 p], .int .i64 now] W fun e w' => e = .returned (.int .i64 r) ∧ ∃ c', RB w0 w' c' i m l l2 g ∧ TurnedL c c' [i, i + 1, i + 2, i + 3, i + 4, i + 5] w0 W w' := by
  subst hr; subst hl
  exact renter_calls id q p now h hB ⟨by have := hi.1; omega, by have := hi.2.1; omega⟩ hm hi.2.2.1 hi.2.2.2
theorem RB.leave3 (id till now : Int) (h : RB w0 W c i m l1 l2 g) (hB : Below w0.heap.size w0 W) {j : Nat} (hi : Inv l1 l2 j) (hj : j ≤ 90) {r : Int} {l o : List S37} (hr : leaveV l1 id till now = r) (hl : leaveL l1 id till now = l) (ho : leaveO l1 l2 id till now = o) :
    Calls Try.prog 16 #[.pointer (some ⟨g, 0, none⟩), .int .i64 id, .int .i64 till, .int .i64 now] W fun e w' => e = .returned (.int .i64 r) ∧ ∃ c', RB w0 w' c' i m l o g ∧ TurnedL c c' [i, i + 1, i + 2, i + 3, i + 4, i + 5] w0 W w' := by
  subst hr; subst hl; subst ho
  exact rleave_calls id till now h hB ⟨by have := hi.1; omega, by have := hi.2.1; omega⟩
theorem RB.change3 (id q p now : Int) (h : RB w0 W c i m l1 l2 g) (hB : Below w0.heap.size w0 W) {j : Nat} (hi : Inv l1 l2 j) (hj : j ≤ 90) (hm : 1 ≤ m ∧ m ≤ 64) {r : Int} {l : List S37} (hr : changeV m l1 l2 id q p now = r) (hl : changeL m l1 l2 id q p now = l) :
    Calls Try.prog 17 #[.pointer (some ⟨g, 0, none⟩), .int .i64 id, .agg #[.int .i64 q, .int .i64 p], .int .i64 now] W fun e w' => e = .returned (.int .i64 r) ∧ ∃ c', RB w0 w' c' i m l l2 g ∧ TurnedL c c' [i, i + 1, i + 2, i + 3, i + 4, i + 5] w0 W w' := by
  subst hr; subst hl
  exact rchange_calls id q p now h hB ⟨by have := hi.1; omega, by have := hi.2.1; omega⟩ hm hi.2.2.1 hi.2.2.2
theorem RB.ask3 (q p now : Int) (h : RB w0 W c i m l1 l2 g) {j : Nat} (hi : Inv l1 l2 j) (hj : j ≤ 90) (hm : 1 ≤ m ∧ m ≤ 64) {r : Int} (hr : askV m l1 l2 q p now = r) :
    Calls Try.prog 18 #[.pointer (some ⟨g, 0, none⟩), .agg #[.int .i64 q, .int .i64 p], .int .i64 now] W fun e w' => e = .returned (.int .i64 r) ∧ Below W.heap.size W w' := by
  subst hr
  obtain ⟨A1, k1, A2, k2, b1, b2, b3⟩ := h
  exact rask_calls q p now (blk_at b1) (row_C b2) (row_C b3) (by have := hi.1; omega) (by have := hi.2.1; omega) hm hi.2.2.1 hi.2.2.2
theorem RB.new {w1 : World} {g' : Nat} (hg : W.heap.size ≤ g') (hX : w1.heap[g']? = some (.cells #[.int .i64 m, .slice none 0 0, .slice none 0 0] 44 (0, 0))) (hb : Below W.heap.size W w1) (hs : w0.heap.size ≤ W.heap.size) :
    ∃ c', RB w0 w1 c' i m [] [] g' ∧ TurnedL c c' [i] w0 W w1 := by
  obtain ⟨c', h, t⟩ := blk_new1 (w0 := w0) c i hg hX hb hs
  exact ⟨c', ⟨none, 0, none, 0, h, Kd.R_nil _ _ _ _ _, Kd.R_nil _ _ _ _ _⟩, (TurnedL.refl c [i] w0 W).step t (by simp)⟩
end
/-- Between the acts. -/
def RelG (w : World) (n : Nat) (m : Int) (g gr : Nat) (i : Value) (wr : World) : Prop :=
  ∃ (j : Nat) (c : Nat → Nat) (l1 l2 : List S37), j ≤ n ∧ i = .int .i64 (j : Int) ∧ BK w wr c 0 m l1 l2 g ∧ RB w wr c 30 m l1 l2 gr ∧ Inv l1 l2 j ∧ Below w.heap.size w wr
/-- Behind an act. -/
def CutG (w : World) (m : Int) (g gr g9 : Nat) (ox : Obj) (j : Nat) (wd : World) : Prop :=
  ∃ (c : Nat → Nat) (l1 l2 : List S37), BK w wd c 0 m l1 l2 g ∧ RB w wd c 30 m l1 l2 gr ∧ blk.M wd w.heap.size (fun k => c k = 9) ox (.pointer (some ⟨g9, 0, none⟩)) ∧ Inv l1 l2 (j + 1) ∧ Below w.heap.size w wd
theorem nb_all {x5 x6 : Int} (h : true = decide (0 ≤ x6 ∧ 0 ≤ x5 ∧ x6 ≤ 1099511627776 ∧ x5 ≤ 1099511627776)) : 0 ≤ x6 ∧ 0 ≤ x5 ∧ x6 ≤ 1099511627776 ∧ x5 ≤ 1099511627776 := of_decide_eq_true h.symm
set_option maxHeartbeats 16000000 in
set_option maxRecDepth 100000 in
theorem plays_walk (m : Int) (_ : (Lit.int .i64 m).wf = true) (A : Option Addr) (cap : Nat) (l : List (Int × Int × (Int × Int) × Int × Int)) {good : Int × Int × (Int × Int) × Int × Int → Prop} {w : World} (hr : (Kd.pair (Kd.int .i64) (Kd.pair (Kd.int .i64) (Kd.pair (Kd.pair (Kd.int .i64) (Kd.int .i64)) (Kd.pair (Kd.int .i64) (Kd.int .i64))))).C w A l.length l) (hc : l.length ≤ cap) (hg : ∀ a ∈ l, good a) (_ : World) :
    Calls Try.prog 5 #[.int .i64 m, .slice A l.length cap] w fun e w' => e = .returned (.bool true) ∧ Below w.heap.size w w' := by
  have HC := Aside0.mk hr
  clear hr hg
  by_cases hm : m < 1 ∨ 64 < m
  · have HM := Aside0.mk hm
    by_cases hm1 : m < 1
    · have d1 : decide (m < 1) = true := decide_eq_true hm1
      clear hm hm1
      go_enter Try.func5, Try.ntmps5
      go_wp2_with (first | (go_at_call 7; (with_reducible refine (awake_calls _).mono ?_); rintro e w2 ⟨rfl, hb2⟩; have B2 := Aside0.mk hb2; clear hb2) | (go_at_call 8; (with_reducible refine (new_bad m _ HM.out).mono ?_); rintro e w3 ⟨rfl, rfl⟩))
      go_ret
      exact ⟨rfl, B2.out⟩
    · have d1 : decide (m < 1) = false := decide_eq_false hm1
      have d2 : decide (64 < m) = true := decide_eq_true (by omega)
      clear hm hm1
      go_enter Try.func5, Try.ntmps5
      go_wp2_with (first | (go_at_call 7; (with_reducible refine (awake_calls _).mono ?_); rintro e w2 ⟨rfl, hb2⟩; have B2 := Aside0.mk hb2; clear hb2) | (go_at_call 8; (with_reducible refine (new_bad m _ HM.out).mono ?_); rintro e w3 ⟨rfl, rfl⟩))
      go_ret
      exact ⟨rfl, B2.out⟩
  have HM := Aside0.mk (show 1 ≤ m ∧ m ≤ 64 from by omega)
  have dm1 : decide (m < 1) = false := decide_eq_false (by omega)
  have dm2 : decide (64 < m) = false := decide_eq_false (by omega)
  clear hm
  by_cases hl : 80 < l.length
  · have d1 : decide (80 < l.length) = true := decide_eq_true hl
    have d2 : decide ((80 : Int) < (l.length : Int)) = true := decide_eq_true (by omega)
    clear hl
    go_enter Try.func5, Try.ntmps5
    go_wp2_with (first | (go_at_call 7; (with_reducible refine (awake_calls _).mono ?_); rintro e w2 ⟨rfl, hb2⟩; have B2 := Aside0.mk hb2; clear hb2) | (go_at_call 8; (with_reducible refine (new_ok (w0 := w) (fun _ => 99) 0 m HM.out B2.out).mono ?_); rintro e w3 ⟨g, rfl, c3, h3, t3⟩; have H3 := Aside0.mk h3; have B3 := Aside0.mk (t3.far B2.out); clear h3 t3))
    go_ret
    exact ⟨rfl, B3.out⟩
  · have d1 : decide (80 < l.length) = false := decide_eq_false hl
    have d2 : decide ((80 : Int) < (l.length : Int)) = false := decide_eq_false (by omega)
    have HL := Aside0.mk (show l.length ≤ 80 from by omega)
    clear hl
    go_enter Try.func5, Try.ntmps5
    go_upto_region 9 with (first | (go_at_call 7; (with_reducible refine (awake_calls _).mono ?_); rintro e w2 ⟨rfl, hb2⟩; have B2 := Aside0.mk hb2; clear hb2) | (go_at_call 8; (with_reducible refine (new_ok (w0 := w) (fun _ => 99) 0 m HM.out B2.out).mono ?_); rintro e w3 ⟨g, rfl, c3, h3, t3⟩; have H3 := Aside0.mk h3; have B3 := Aside0.mk (t3.far B2.out); clear h3 t3) | ((with_reducible refine gate_dst (N := 51) rfl ?_); refine box_event ?hg (N := 51) ?hd (cs := #[.int .i64 m, .slice none 0 0, .slice none 0 0]) (t := 44) ?hr ?_; (case hd => rfl); (case hg => rfl); (case hr => first | (go_simp; done) | (go_simp; rfl) | kernel_rfl); intro gr hg4 w4 hx4 hb4; have HX4 := Aside0.mk hx4; have HB4 := Aside0.mk hb4; have HG4 := Aside0.mk hg4; clear hx4 hb4 hg4))
    obtain ⟨c4, h4, t4⟩ := RB.new (w0 := w) (W := w3) (c := c3) (i := 30) (m := m) (g' := gr) (Nat.le_of_eq HG4.out.symm) HX4.out HB4.out (Below.size B3.out)
    have R4 := Aside0.mk h4
    have K4 := Aside0.mk (BK.keep0 H3.out t4 (by decide) (by decide) (by decide))
    have B4 := Aside0.mk (t4.far B3.out)
    clear h4 t4 HX4 HB4 HG4 H3 B2 B3 dm1 dm2
    go_wp2
    go_loopw [8] (fun i wr => RelG w l.length m g gr i wr) (fun i _ => l.length - (intOf i).toNat)
    case atStart => exact ⟨0, c4, [], [], Nat.zero_le _, rfl, K4.out, R4.out, inv_new, B4.out⟩
    case round =>
      obtain ⟨j, c, l1, l2, hj, rfl, hK, hR, hI, hB⟩ := hrel
      have KZ := Aside0.mk hK
      have RZ := Aside0.mk hR
      have HI := Aside0.mk hI
      have BZ := Aside0.mk hB
      have hj80 : j ≤ 80 := by have := HL.out; omega
      have HJ9 := Aside0.mk (show j ≤ 90 from by omega)
      clear hK hR hI hB K4 R4 B4
      by_cases hlt : j < l.length
      · obtain ⟨ad, hAd⟩ := some_ad6 HC.out hlt
        subst hAd
        obtain ⟨x1, x2, ⟨x3, x4⟩, x5, x6, hx⟩ : ∃ x1 x2 x34 x5 x6, l.getD j (0, 0, (0, 0), 0, 0) = (x1, x2, x34, x5, x6) := ⟨_, _, _, _, _, rfl⟩
        obtain ⟨a0, a1, a2, a3, a4, a5⟩ := read_act6 (Kd.C_below HC.out BZ.out) hlt hx
        clear hx
        have bq : (0 ≤ (j : Int) ∧ (j : Int) < (l.length : Int)) := by omega
        have pj : decide ((j : Int) < (l.length : Int)) = true := decide_eq_true (by omega)
        have pjn : decide (j < l.length) = true := decide_eq_true hlt
        obtain ⟨nb, hnb⟩ : ∃ nb, nb = decide (0 ≤ x6 ∧ 0 ≤ x5 ∧ x6 ≤ 1099511627776 ∧ x5 ≤ 1099511627776) := ⟨_, rfl⟩
        have NB := Aside0.mk hnb
        obtain ⟨tl, htl⟩ : ∃ tl, (if nb = true then x5 + x6 else x6) = tl := ⟨_, rfl⟩
        have TL := Aside0.mk htl
        clear hnb htl
        go_upto_region 13 with (first | ((with_reducible refine gate_dst (N := 9) rfl ?_); refine box_event ?hg (N := 9) ?hd (cs := #[.int .i64 0, .int .i64 0, .int .i64 0, .int .i64 0, .int .i64 0, .int .i64 0]) (t := 31) ?hr ?_; (case hd => rfl); (case hg => rfl); (case hr => first | (go_simp; done) | (go_simp; rfl) | kernel_rfl); intro g9 hg5 w5 hx5 hb5; have HX5 := Aside0.mk hx5; have HB5 := Aside0.mk hb5; have HG5 := Aside0.mk hg5; have s0 := blk_cell hx5 0; have t0 := blk_frozen hx5 0; have s1 := blk_cell hx5 1; have t1 := blk_frozen hx5 1; have s2 := blk_cell hx5 2; have t2 := blk_frozen hx5 2; have s3 := blk_cell hx5 3; have t3 := blk_frozen hx5 3; have s4 := blk_cell hx5 4; have t4 := blk_frozen hx5 4; have s5 := blk_cell hx5 5; have t5 := blk_frozen hx5 5; clear hx5 hb5 hg5))
        have hgx : wr.heap.size ≤ g9 := Nat.le_of_eq HG5.out.symm
        have hbx : Below wr.heap.size wr ((((((w5.setCell ⟨g9, 0, none⟩ (.int .i64 x1)).setCell ⟨g9, 1, none⟩ (.int .i64 x2)).setCell ⟨g9, 2, none⟩ (.int .i64 x3)).setCell ⟨g9, 3, none⟩ (.int .i64 x4)).setCell ⟨g9, 4, none⟩ (.int .i64 x5)).setCell ⟨g9, 5, none⟩ (.int .i64 x6)) := ((((((HB5.out.setCell hgx _).setCell hgx _).setCell hgx _).setCell hgx _).setCell hgx _).setCell hgx _)
        have hxx : ((((((w5.setCell ⟨g9, 0, none⟩ (.int .i64 x1)).setCell ⟨g9, 1, none⟩ (.int .i64 x2)).setCell ⟨g9, 2, none⟩ (.int .i64 x3)).setCell ⟨g9, 3, none⟩ (.int .i64 x4)).setCell ⟨g9, 4, none⟩ (.int .i64 x5)).setCell ⟨g9, 5, none⟩ (.int .i64 x6)).heap[g9]? = some (.cells #[.int .i64 x1, .int .i64 x2, .int .i64 x3, .int .i64 x4, .int .i64 x5, .int .i64 x6] 31 (0, 0)) := (blk_put (cs := #[.int .i64 x1, .int .i64 x2, .int .i64 x3, .int .i64 x4, .int .i64 x5, .int .i64 0]) (blk_put (cs := #[.int .i64 x1, .int .i64 x2, .int .i64 x3, .int .i64 x4, .int .i64 0, .int .i64 0]) (blk_put (cs := #[.int .i64 x1, .int .i64 x2, .int .i64 x3, .int .i64 0, .int .i64 0, .int .i64 0]) (blk_put (cs := #[.int .i64 x1, .int .i64 x2, .int .i64 0, .int .i64 0, .int .i64 0, .int .i64 0]) (blk_put (cs := #[.int .i64 x1, .int .i64 0, .int .i64 0, .int .i64 0, .int .i64 0, .int .i64 0]) (blk_put (cs := #[.int .i64 0, .int .i64 0, .int .i64 0, .int .i64 0, .int .i64 0, .int .i64 0]) HX5.out 0 _ rfl) 1 _ rfl) 2 _ rfl) 3 _ rfl) 4 _ rfl) 5 _ rfl)
        clear s0 t0 s1 t1 s2 t2 s3 t3 s4 t4 s5 t5 HX5 HB5 HG5
        generalize ((((((w5.setCell ⟨g9, 0, none⟩ (.int .i64 x1)).setCell ⟨g9, 1, none⟩ (.int .i64 x2)).setCell ⟨g9, 2, none⟩ (.int .i64 x3)).setCell ⟨g9, 3, none⟩ (.int .i64 x4)).setCell ⟨g9, 4, none⟩ (.int .i64 x5)).setCell ⟨g9, 5, none⟩ (.int .i64 x6)) = wa at hbx hxx ⊢
        clear a0 a1 a2 a3 a4 a5
        obtain ⟨ca, ha, ta⟩ := blk_new1 (w0 := w) c 9 hgx hxx hbx (Below.size BZ.out)
        have KA := Aside0.mk (BK.keep1 KZ.out ta (by decide))
        have RA := Aside0.mk (RB.keep1 RZ.out ta (by decide))
        have XA := Aside0.mk ha
        have BA := Aside0.mk (ta.far BZ.out)
        clear ha ta hbx hxx hgx KZ RZ BZ
        have y2 := blk_cell (blk_at XA.out) 2
        have y3 := blk_cell (blk_at XA.out) 3
        go_upto_region 14 with (first | ((with_reducible refine gate_dst (N := 10) rfl ?_); refine box_event ?hg (N := 10) ?hd (cs := #[.int .i64 0, .int .i64 0]) (t := 45) ?hr ?_; (case hd => rfl); (case hg => rfl); (case hr => first | (go_simp; done) | (go_simp; rfl) | kernel_rfl); intro g10 hg6 w6 hx6 hb6; have HX6 := Aside0.mk hx6; have HB6 := Aside0.mk hb6; have HG6 := Aside0.mk hg6; have s0 := blk_cell hx6 0; have t0 := blk_frozen hx6 0; have s1 := blk_cell hx6 1; have t1 := blk_frozen hx6 1; clear hx6 hb6 hg6))
        have hgx : wa.heap.size ≤ g10 := Nat.le_of_eq HG6.out.symm
        have hbx : Below wa.heap.size wa ((w6.setCell ⟨g10, 0, none⟩ (.int .i64 x3)).setCell ⟨g10, 1, none⟩ (.int .i64 x4)) := ((HB6.out.setCell hgx _).setCell hgx _)
        have hxx : ((w6.setCell ⟨g10, 0, none⟩ (.int .i64 x3)).setCell ⟨g10, 1, none⟩ (.int .i64 x4)).heap[g10]? = some (.cells #[.int .i64 x3, .int .i64 x4] 45 (0, 0)) := (blk_put (cs := #[.int .i64 x3, .int .i64 0]) (blk_put (cs := #[.int .i64 0, .int .i64 0]) HX6.out 0 _ rfl) 1 _ rfl)
        clear s0 t0 s1 t1 HX6 HB6 HG6
        generalize ((w6.setCell ⟨g10, 0, none⟩ (.int .i64 x3)).setCell ⟨g10, 1, none⟩ (.int .i64 x4)) = wb at hbx hxx ⊢
        clear y2 y3
        obtain ⟨cb, ha, ta⟩ := blk_new1 (w0 := w) ca 10 hgx hxx hbx (Below.size BA.out)
        have KB := Aside0.mk (BK.keep1 KA.out ta (by decide))
        have RB' := Aside0.mk (RB.keep1 RA.out ta (by decide))
        have XB := Aside0.mk (ta.keep _ blk 9 _ _ (by decide) XA.out)
        have YB := Aside0.mk ha
        have BB := Aside0.mk (ta.far BA.out)
        clear ha ta hbx hxx hgx KA RA XA BA
        have y4 := blk_cell (blk_at XB.out) 4
        have y5 := blk_cell (blk_at XB.out) 5
        go_upto_region 15 with (fail)
        go_cut [86] from 71 to 85 (fun a wd => wd = wb ∧ a = .bool nb)
        case first =>
          by_cases h1 : 0 ≤ x6
          · have dh1 : decide (0 ≤ x6) = true := decide_eq_true h1
            by_cases h2 : 0 ≤ x5
            · have dh2 : decide (0 ≤ x5) = true := decide_eq_true h2
              by_cases h3 : x6 ≤ 1099511627776
              · have dh3 : decide (x6 ≤ 1099511627776) = true := decide_eq_true h3
                by_cases h4 : x5 ≤ 1099511627776
                · have dh4 : decide (x5 ≤ 1099511627776) = true := decide_eq_true h4
                  have HE := Aside0.mk (show nb = true from by rw [NB.out]; exact decide_eq_true ⟨h1, h2, h3, h4⟩)
                  clear h1 h2 h3 h4
                  go_wp2
                  go_meet
                  exact ⟨rfl, by rw [HE.out]⟩
                · have dh4 : decide (x5 ≤ 1099511627776) = false := decide_eq_false h4
                  have HE := Aside0.mk (show nb = false from by rw [NB.out]; exact decide_eq_false (fun e => h4 e.2.2.2))
                  clear h1 h2 h3 h4
                  go_wp2
                  go_meet
                  exact ⟨rfl, by rw [HE.out]⟩
              · have dh3 : decide (x6 ≤ 1099511627776) = false := decide_eq_false h3
                have HE := Aside0.mk (show nb = false from by rw [NB.out]; exact decide_eq_false (fun e => h3 e.2.2.1))
                clear h1 h2 h3
                go_wp2
                go_meet
                exact ⟨rfl, by rw [HE.out]⟩
            · have dh2 : decide (0 ≤ x5) = false := decide_eq_false h2
              have HE := Aside0.mk (show nb = false from by rw [NB.out]; exact decide_eq_false (fun e => h2 e.2.1))
              clear h1 h2
              go_wp2
              go_meet
              exact ⟨rfl, by rw [HE.out]⟩
          · have dh1 : decide (0 ≤ x6) = false := decide_eq_false h1
            have HE := Aside0.mk (show nb = false from by rw [NB.out]; exact decide_eq_false (fun e => h1 e.1))
            clear h1
            go_wp2
            go_meet
            exact ⟨rfl, by rw [HE.out]⟩
        case rest =>
          obtain ⟨hwd, rfl⟩ := hcut
          subst hwd
          go_upto_if 86 with (fail)
          go_cut [11] from 87 to 90 (fun a we => we = wc ∧ a = .int .i64 tl)
          case first =>
            cases nb with
            | true =>
              have hb4 := nb_all NB.out
              have hww : wrap64 (x5 + x6) = x5 + x6 := by unfold wrap64; omega
              have HWW := Aside0.mk hww
              have HT := Aside0.mk (show tl = x5 + x6 from TL.out.symm.trans (if_pos rfl))
              clear hb4 hww
              go_wp2
              go_meet
              exact ⟨rfl, by rw [HWW.out, HT.out]⟩
            | false =>
              have HT := Aside0.mk (show tl = x6 from TL.out.symm.trans (if_neg (by decide)))
              go_wp2
              go_meet
              exact ⟨rfl, by rw [HT.out]⟩
          case rest =>
            obtain ⟨hwe, rfl⟩ := hcut
            subst hwe
            clear y4 y5
            have y0 := blk_cell (blk_at XB.out) 0
            go_upto_block 2 with (fail)
            go_cut [12] from 93 to 157 (fun a wd => a = .bool true ∧ CutG w m g gr g9 (.cells #[.int .i64 x1, .int .i64 x2, .int .i64 x3, .int .i64 x4, .int .i64 x5, .int .i64 x6] 31 (0, 0)) j wd)
            case first =>
              by_cases o0 : x1 = 0
              · have q0 : (x1 == 0) = true := beq_iff_eq.2 o0
                clear o0
                obtain ⟨ev, hev⟩ : ∃ ev, enterV m l1 l2 x2 x3 x4 x5 = ev := ⟨_, rfl⟩
                have HEV := Aside0.mk hev
                obtain ⟨el, hel⟩ : ∃ el, enterL m l1 l2 x2 x3 x4 x5 = el := ⟨_, rfl⟩
                have HEL := Aside0.mk hel
                have HIN := Aside0.mk (show Inv el l2 (j + 1) from by rw [← hel]; exact (HI.out.enter x2 x3 x4 x5).more)
                clear hev hel
                have pe : (ev == ev) = true := by simp
                go_upto_region 21 with (fail)
                clear y0
                obtain ⟨w20, hw20⟩ : ∃ w20 : World, wc.drew = w20 := ⟨_, rfl⟩
                have hb20 : Below wc.heap.size wc w20 := by rw [← hw20]; exact below_drew (Below.refl _ _)
                have K20 := Aside0.mk (BK.below KB.out hb20)
                have R20 := Aside0.mk (RB.below RB'.out hb20)
                have X20 := Aside0.mk (St.below (s := blk) XB.out hb20)
                have Y20 := Aside0.mk (St.below (s := blk) YB.out hb20)
                have B20 := Aside0.mk (Below.trans BB.out (Below.mono hb20 (Below.size BB.out)))
                clear hb20
                refine start_ (n := 17) (S := fun w' => w'.cell? ⟨g9, 0, none⟩ = some (.int .i64 x1) ∧ w'.cell? ⟨g9, 1, none⟩ = some (.int .i64 x2) ∧ w'.cell? ⟨g9, 2, none⟩ = some (.int .i64 x3) ∧ w'.cell? ⟨g9, 3, none⟩ = some (.int .i64 x4) ∧ w'.cell? ⟨g9, 4, none⟩ = some (.int .i64 x5) ∧ w'.cell? ⟨g9, 5, none⟩ = some (.int .i64 x6) ∧ w'.cell? ⟨g10, 0, none⟩ = some (.int .i64 x3) ∧ w'.cell? ⟨g10, 1, none⟩ = some (.int .i64 x4)) (ds := []) #[false, false, false, false, false, false, false, false, false, false, false, false, false, false, false, false, false] (by kernel_rfl) rfl rfl (by rw [hw20]; exact ⟨blk_cell (blk_at X20.out) 0, blk_cell (blk_at X20.out) 1, blk_cell (blk_at X20.out) 2, blk_cell (blk_at X20.out) 3, blk_cell (blk_at X20.out) 4, blk_cell (blk_at X20.out) 5, blk_cell (blk_at Y20.out) 0, blk_cell (blk_at Y20.out) 1⟩) (fun hHeld => ?_)
                rw [hw20] at hHeld ⊢
                refine pure_ (i := 0) (N := some 107) (v := ?_) (a' := ?_) #[true, false, false, false, false, false, false, false, false, false, false, false, false, false, false, false, false] rfl rfl (by kernel_rfl) (fun _ _ _ h => h) (Or.inl ⟨by rfl, ?_⟩) ?_ ?_
                rotate_left
                · intro w'
                  go_simp
                  with_reducible rfl
                rotate_left
                · simp only [Act.put, List.setIfInBounds_toArray, List.set_cons_zero, List.set_cons_succ, i64_w, i32_w]
                  rfl
                refine pure_ (i := 1) (N := some 108) (v := ?_) (a' := ?_) #[true, true, false, false, false, false, false, false, false, false, false, false, false, false, false, false, false] rfl rfl (by kernel_rfl) (fun _ _ _ h => h) (Or.inl ⟨by rfl, ?_⟩) ?_ ?_
                rotate_left
                · intro w'
                  go_simp
                  with_reducible rfl
                rotate_left
                · simp only [Act.put, List.setIfInBounds_toArray, List.set_cons_zero, List.set_cons_succ, i64_w, i32_w]
                  rfl
                refine take_ (i := 2) (N := some 109) (v := ?_) (a' := ?_) #[true, true, true, false, false, false, false, false, false, false, false, false, false, false, false, false, false] rfl rfl (by kernel_rfl) (fun _ _ _ h => h) (Or.inl ⟨by rfl, ?_⟩) hHeld ?_ ?_
                rotate_left
                · intro w' hS_
                  obtain ⟨s0_, s1_, s2_, s3_, s4_, s5_, s6_, s7_⟩ := hS_
                  go_simp
                  with_reducible rfl
                rotate_left
                · simp only [Act.put, List.setIfInBounds_toArray, List.set_cons_zero, List.set_cons_succ, i64_w, i32_w]
                  rfl
                refine pure_ (i := 3) (N := some 110) (v := ?_) (a' := ?_) #[true, true, true, true, false, false, false, false, false, false, false, false, false, false, false, false, false] rfl rfl (by kernel_rfl) (fun _ _ _ h => h) (Or.inl ⟨by rfl, ?_⟩) ?_ ?_
                rotate_left
                · intro w'
                  go_simp
                  with_reducible rfl
                rotate_left
                · simp only [Act.put, List.setIfInBounds_toArray, List.set_cons_zero, List.set_cons_succ, i64_w, i32_w]
                  rfl
                refine take_ (i := 4) (N := some 111) (v := ?_) (a' := ?_) #[true, true, true, true, true, false, false, false, false, false, false, false, false, false, false, false, false] rfl rfl (by kernel_rfl) (fun _ _ _ h => h) (Or.inl ⟨by rfl, ?_⟩) hHeld ?_ ?_
                rotate_left
                · intro w' hS_
                  obtain ⟨s0_, s1_, s2_, s3_, s4_, s5_, s6_, s7_⟩ := hS_
                  go_simp
                  with_reducible rfl
                rotate_left
                · simp only [Act.put, List.setIfInBounds_toArray, List.set_cons_zero, List.set_cons_succ, i64_w, i32_w]
                  rfl
                refine pure_ (i := 5) (N := some 112) (v := ?_) (a' := ?_) #[true, true, true, true, true, true, false, false, false, false, false, false, false, false, false, false, false] rfl rfl (by kernel_rfl) (fun _ _ _ h => h) (Or.inl ⟨by rfl, ?_⟩) ?_ ?_
                rotate_left
                · intro w'
                  go_simp
                  with_reducible rfl
                rotate_left
                · simp only [Act.put, List.setIfInBounds_toArray, List.set_cons_zero, List.set_cons_succ, i64_w, i32_w]
                  rfl
                refine take_ (i := 6) (N := some 113) (v := ?_) (a' := ?_) #[true, true, true, true, true, true, true, false, false, false, false, false, false, false, false, false, false] rfl rfl (by kernel_rfl) (fun _ _ _ h => h) (Or.inl ⟨by rfl, ?_⟩) hHeld ?_ ?_
                rotate_left
                · intro w' hS_
                  obtain ⟨s0_, s1_, s2_, s3_, s4_, s5_, s6_, s7_⟩ := hS_
                  go_simp
                  with_reducible rfl
                rotate_left
                · simp only [Act.put, List.setIfInBounds_toArray, List.set_cons_zero, List.set_cons_succ, i64_w, i32_w]
                  rfl
                refine pure_ (i := 8) (N := some 115) (v := ?_) (a' := ?_) #[true, true, true, true, true, true, true, false, true, false, false, false, false, false, false, false, false] rfl rfl (by kernel_rfl) (fun _ _ _ h => h) (Or.inl ⟨by rfl, ?_⟩) ?_ ?_
                rotate_left
                · intro w'
                  go_simp
                  with_reducible rfl
                rotate_left
                · simp only [Act.put, List.setIfInBounds_toArray, List.set_cons_zero, List.set_cons_succ, i64_w, i32_w]
                  rfl
                refine pure_ (i := 9) (N := some 116) (v := ?_) (a' := ?_) #[true, true, true, true, true, true, true, false, true, true, false, false, false, false, false, false, false] rfl rfl (by kernel_rfl) (fun _ _ _ h => h) (Or.inl ⟨by rfl, ?_⟩) ?_ ?_
                rotate_left
                · intro w'
                  go_simp
                  with_reducible rfl
                rotate_left
                · simp only [Act.put, List.setIfInBounds_toArray, List.set_cons_zero, List.set_cons_succ, i64_w, i32_w]
                  rfl
                refine take_ (i := 10) (N := some 117) (v := ?_) (a' := ?_) #[true, true, true, true, true, true, true, false, true, true, true, false, false, false, false, false, false] rfl rfl (by kernel_rfl) (fun _ _ _ h => h) (Or.inl ⟨by rfl, ?_⟩) hHeld ?_ ?_
                rotate_left
                · intro w' hS_
                  obtain ⟨s0_, s1_, s2_, s3_, s4_, s5_, s6_, s7_⟩ := hS_
                  go_simp
                  with_reducible rfl
                rotate_left
                · simp only [Act.put, List.setIfInBounds_toArray, List.set_cons_zero, List.set_cons_succ, i64_w, i32_w]
                  rfl
                refine take_ (i := 11) (N := some 118) (v := ?_) (a' := ?_) #[true, true, true, true, true, true, true, false, true, true, true, true, false, false, false, false, false] rfl rfl (by kernel_rfl) (fun _ _ _ h => h) (Or.inl ⟨by rfl, ?_⟩) hHeld ?_ ?_
                rotate_left
                · intro w' hS_
                  obtain ⟨s0_, s1_, s2_, s3_, s4_, s5_, s6_, s7_⟩ := hS_
                  go_simp
                  with_reducible rfl
                rotate_left
                · simp only [Act.put, List.setIfInBounds_toArray, List.set_cons_zero, List.set_cons_succ, i64_w, i32_w]
                  rfl
                refine pure_ (i := 12) (N := some 119) (v := ?_) (a' := ?_) #[true, true, true, true, true, true, true, false, true, true, true, true, true, false, false, false, false] rfl rfl (by kernel_rfl) (fun _ _ _ h => h) (Or.inl ⟨by rfl, ?_⟩) ?_ ?_
                rotate_left
                · intro w'
                  go_simp
                  with_reducible rfl
                rotate_left
                · simp only [Act.put, List.setIfInBounds_toArray, List.set_cons_zero, List.set_cons_succ, i64_w, i32_w]
                  rfl
                refine take_ (i := 13) (N := some 120) (v := ?_) (a' := ?_) #[true, true, true, true, true, true, true, false, true, true, true, true, true, true, false, false, false] rfl rfl (by kernel_rfl) (fun _ _ _ h => h) (Or.inl ⟨by rfl, ?_⟩) hHeld ?_ ?_
                rotate_left
                · intro w' hS_
                  obtain ⟨s0_, s1_, s2_, s3_, s4_, s5_, s6_, s7_⟩ := hS_
                  go_simp
                  with_reducible rfl
                rotate_left
                · simp only [Act.put, List.setIfInBounds_toArray, List.set_cons_zero, List.set_cons_succ, i64_w, i32_w]
                  rfl
                refine one_ (i := 7) (N := some 114) #[true, true, true, true, true, true, true, true, true, true, true, true, true, true, false, false, false] rfl rfl (by kernel_rfl) (by decide) (fun K hK => ?_)
                refine goes_ Try.func9 (by kernel_rfl) rfl #[.pointer (some ⟨g, 0, none⟩), .int .i64 x2, .agg #[.int .i64 x3, .int .i64 x4], .int .i64 x5] ?hw rfl rfl ?hx ?_
                (case hw => rfl)
                (case hx => (try simp only [List.map_toArray, List.map_cons, List.map_nil]); first | done | rfl)
                refine (BK.enter3 x2 x3 x4 x5 K20.out B20.out HI.out HJ9.out HM.out HEV.out HEL.out).mono ?_
                rintro e wkx7 ⟨rfl, ckx7, hkx7, tkx7⟩
                have Kkx7 := Aside0.mk hkx7
                have Rkx7 := Aside0.mk (RB.keep0 R20.out tkx7 (by decide) (by decide) (by decide))
                have Xkx7 := Aside0.mk (tkx7.keep _ blk 9 _ _ (by decide) X20.out)
                have Ykx7 := Aside0.mk (tkx7.keep _ blk 10 _ _ (by decide) Y20.out)
                have Bkx7 := Aside0.mk (tkx7.far B20.out)
                clear hkx7 tkx7
                refine ⟨_, rfl, ?_⟩
                have hHeld := (show _ ∧ _ ∧ _ ∧ _ ∧ _ ∧ _ ∧ _ ∧ _ from ⟨blk_cell (blk_at Xkx7.out) 0, blk_cell (blk_at Xkx7.out) 1, blk_cell (blk_at Xkx7.out) 2, blk_cell (blk_at Xkx7.out) 3, blk_cell (blk_at Xkx7.out) 4, blk_cell (blk_at Xkx7.out) 5, blk_cell (blk_at Ykx7.out) 0, blk_cell (blk_at Ykx7.out) 1⟩)
                refine hK.out _ _ hHeld (fun hHeld => ?_)
                clear hK K
                refine norm_ (a' := ?_) ?_ ?_
                rotate_left
                · show Act.put _ (some 114) _ = _
                  simp only [Act.put, List.setIfInBounds_toArray, List.set_cons_zero, List.set_cons_succ, i64_w, i32_w]
                  rfl
                refine one_ (i := 14) (N := some 121) #[true, true, true, true, true, true, true, true, true, true, true, true, true, true, true, false, false] rfl rfl (by kernel_rfl) (by decide) (fun K hK => ?_)
                refine goes_ Try.func15 (by kernel_rfl) rfl #[.pointer (some ⟨gr, 0, none⟩), .int .i64 x2, .agg #[.int .i64 x3, .int .i64 x4], .int .i64 x5] ?hw rfl rfl ?hx ?_
                (case hw => rfl)
                (case hx => (try simp only [List.map_toArray, List.map_cons, List.map_nil]); first | done | rfl)
                refine (RB.enter3 x2 x3 x4 x5 Rkx7.out Bkx7.out HI.out HJ9.out HM.out HEV.out HEL.out).mono ?_
                rintro e wrx7x14 ⟨rfl, crx7x14, hrx7x14, trx7x14⟩
                have Rrx7x14 := Aside0.mk hrx7x14
                have Krx7x14 := Aside0.mk (BK.keep0 Kkx7.out trx7x14 (by decide) (by decide) (by decide))
                have Xrx7x14 := Aside0.mk (trx7x14.keep _ blk 9 _ _ (by decide) Xkx7.out)
                have Yrx7x14 := Aside0.mk (trx7x14.keep _ blk 10 _ _ (by decide) Ykx7.out)
                have Brx7x14 := Aside0.mk (trx7x14.far Bkx7.out)
                clear hrx7x14 trx7x14
                refine ⟨_, rfl, ?_⟩
                have hHeld := (show _ ∧ _ ∧ _ ∧ _ ∧ _ ∧ _ ∧ _ ∧ _ from ⟨blk_cell (blk_at Xrx7x14.out) 0, blk_cell (blk_at Xrx7x14.out) 1, blk_cell (blk_at Xrx7x14.out) 2, blk_cell (blk_at Xrx7x14.out) 3, blk_cell (blk_at Xrx7x14.out) 4, blk_cell (blk_at Xrx7x14.out) 5, blk_cell (blk_at Yrx7x14.out) 0, blk_cell (blk_at Yrx7x14.out) 1⟩)
                refine hK.out _ _ hHeld (fun hHeld => ?_)
                clear hK K
                refine norm_ (a' := ?_) ?_ ?_
                rotate_left
                · show Act.put _ (some 121) _ = _
                  simp only [Act.put, List.setIfInBounds_toArray, List.set_cons_zero, List.set_cons_succ, i64_w, i32_w]
                  rfl
                refine pure_ (i := 15) (N := some 122) (v := ?_) (a' := ?_) #[true, true, true, true, true, true, true, true, true, true, true, true, true, true, true, true, false] rfl rfl (by kernel_rfl) (fun _ _ _ h => h) (Or.inl ⟨by rfl, ?_⟩) ?_ ?_
                rotate_left
                · intro w'
                  go_simp
                  with_reducible rfl
                rotate_left
                · simp only [Act.put, List.setIfInBounds_toArray, List.set_cons_zero, List.set_cons_succ, i64_w, i32_w]
                  rfl
                refine pure_ (i := 16) (N := some 12) (v := ?_) (a' := ?_) #[true, true, true, true, true, true, true, true, true, true, true, true, true, true, true, true, true] rfl rfl (by kernel_rfl) (fun _ _ _ h => h) (Or.inl ⟨by rfl, ?_⟩) ?_ ?_
                rotate_left
                · intro w'
                  go_simp
                  with_reducible rfl
                rotate_left
                · simp only [Act.put, List.setIfInBounds_toArray, List.set_cons_zero, List.set_cons_succ, i64_w, i32_w]
                  rfl
                refine done_ (by kernel_rfl) ?_
                go_wp2
                go_meet
                exact ⟨rfl, _, _, _, Krx7x14.out, Rrx7x14.out, Xrx7x14.out, HIN.out, Brx7x14.out⟩
              · have q0 : (x1 == 0) = false := beq_eq_false_iff_ne.2 o0
                clear o0
                by_cases o1 : x1 = 1
                · have q1 : (x1 == 1) = true := beq_iff_eq.2 o1
                  clear o1
                  obtain ⟨ev, hev⟩ : ∃ ev, leaveV l1 x2 tl x5 = ev := ⟨_, rfl⟩
                  have HEV := Aside0.mk hev
                  obtain ⟨el, hel⟩ : ∃ el, leaveL l1 x2 tl x5 = el := ⟨_, rfl⟩
                  have HEL := Aside0.mk hel
                  obtain ⟨eo, heo⟩ : ∃ eo, leaveO l1 l2 x2 tl x5 = eo := ⟨_, rfl⟩
                  have HEO := Aside0.mk heo
                  have HIN := Aside0.mk (show Inv el eo (j + 1) from by rw [← hel, ← heo]; exact HI.out.leave x2 tl x5)
                  clear hev hel heo
                  have pe : (ev == ev) = true := by simp
                  go_upto_region 23 with (fail)
                  clear y0
                  obtain ⟨w20, hw20⟩ : ∃ w20 : World, wc.drew = w20 := ⟨_, rfl⟩
                  have hb20 : Below wc.heap.size wc w20 := by rw [← hw20]; exact below_drew (Below.refl _ _)
                  have K20 := Aside0.mk (BK.below KB.out hb20)
                  have R20 := Aside0.mk (RB.below RB'.out hb20)
                  have X20 := Aside0.mk (St.below (s := blk) XB.out hb20)
                  have Y20 := Aside0.mk (St.below (s := blk) YB.out hb20)
                  have B20 := Aside0.mk (Below.trans BB.out (Below.mono hb20 (Below.size BB.out)))
                  clear hb20
                  refine start_ (n := 16) (S := fun w' => w'.cell? ⟨g9, 0, none⟩ = some (.int .i64 x1) ∧ w'.cell? ⟨g9, 1, none⟩ = some (.int .i64 x2) ∧ w'.cell? ⟨g9, 2, none⟩ = some (.int .i64 x3) ∧ w'.cell? ⟨g9, 3, none⟩ = some (.int .i64 x4) ∧ w'.cell? ⟨g9, 4, none⟩ = some (.int .i64 x5) ∧ w'.cell? ⟨g9, 5, none⟩ = some (.int .i64 x6) ∧ w'.cell? ⟨g10, 0, none⟩ = some (.int .i64 x3) ∧ w'.cell? ⟨g10, 1, none⟩ = some (.int .i64 x4)) (ds := []) #[false, false, false, false, false, false, false, false, false, false, false, false, false, false, false, false] (by kernel_rfl) rfl rfl (by rw [hw20]; exact ⟨blk_cell (blk_at X20.out) 0, blk_cell (blk_at X20.out) 1, blk_cell (blk_at X20.out) 2, blk_cell (blk_at X20.out) 3, blk_cell (blk_at X20.out) 4, blk_cell (blk_at X20.out) 5, blk_cell (blk_at Y20.out) 0, blk_cell (blk_at Y20.out) 1⟩) (fun hHeld => ?_)
                  rw [hw20] at hHeld ⊢
                  refine pure_ (i := 0) (N := some 125) (v := ?_) (a' := ?_) #[true, false, false, false, false, false, false, false, false, false, false, false, false, false, false, false] rfl rfl (by kernel_rfl) (fun _ _ _ h => h) (Or.inl ⟨by rfl, ?_⟩) ?_ ?_
                  rotate_left
                  · intro w'
                    go_simp
                    with_reducible rfl
                  rotate_left
                  · simp only [Act.put, List.setIfInBounds_toArray, List.set_cons_zero, List.set_cons_succ, i64_w, i32_w]
                    rfl
                  refine pure_ (i := 1) (N := some 126) (v := ?_) (a' := ?_) #[true, true, false, false, false, false, false, false, false, false, false, false, false, false, false, false] rfl rfl (by kernel_rfl) (fun _ _ _ h => h) (Or.inl ⟨by rfl, ?_⟩) ?_ ?_
                  rotate_left
                  · intro w'
                    go_simp
                    with_reducible rfl
                  rotate_left
                  · simp only [Act.put, List.setIfInBounds_toArray, List.set_cons_zero, List.set_cons_succ, i64_w, i32_w]
                    rfl
                  refine take_ (i := 2) (N := some 127) (v := ?_) (a' := ?_) #[true, true, true, false, false, false, false, false, false, false, false, false, false, false, false, false] rfl rfl (by kernel_rfl) (fun _ _ _ h => h) (Or.inl ⟨by rfl, ?_⟩) hHeld ?_ ?_
                  rotate_left
                  · intro w' hS_
                    obtain ⟨s0_, s1_, s2_, s3_, s4_, s5_, s6_, s7_⟩ := hS_
                    go_simp
                    with_reducible rfl
                  rotate_left
                  · simp only [Act.put, List.setIfInBounds_toArray, List.set_cons_zero, List.set_cons_succ, i64_w, i32_w]
                    rfl
                  refine pure_ (i := 3) (N := some 128) (v := ?_) (a' := ?_) #[true, true, true, true, false, false, false, false, false, false, false, false, false, false, false, false] rfl rfl (by kernel_rfl) (fun _ _ _ h => h) (Or.inl ⟨by rfl, ?_⟩) ?_ ?_
                  rotate_left
                  · intro w'
                    go_simp
                    with_reducible rfl
                  rotate_left
                  · simp only [Act.put, List.setIfInBounds_toArray, List.set_cons_zero, List.set_cons_succ, i64_w, i32_w]
                    rfl
                  refine pure_ (i := 4) (N := some 129) (v := ?_) (a' := ?_) #[true, true, true, true, true, false, false, false, false, false, false, false, false, false, false, false] rfl rfl (by kernel_rfl) (fun _ _ _ h => h) (Or.inl ⟨by rfl, ?_⟩) ?_ ?_
                  rotate_left
                  · intro w'
                    go_simp
                    with_reducible rfl
                  rotate_left
                  · simp only [Act.put, List.setIfInBounds_toArray, List.set_cons_zero, List.set_cons_succ, i64_w, i32_w]
                    rfl
                  refine take_ (i := 5) (N := some 130) (v := ?_) (a' := ?_) #[true, true, true, true, true, true, false, false, false, false, false, false, false, false, false, false] rfl rfl (by kernel_rfl) (fun _ _ _ h => h) (Or.inl ⟨by rfl, ?_⟩) hHeld ?_ ?_
                  rotate_left
                  · intro w' hS_
                    obtain ⟨s0_, s1_, s2_, s3_, s4_, s5_, s6_, s7_⟩ := hS_
                    go_simp
                    with_reducible rfl
                  rotate_left
                  · simp only [Act.put, List.setIfInBounds_toArray, List.set_cons_zero, List.set_cons_succ, i64_w, i32_w]
                    rfl
                  refine pure_ (i := 7) (N := some 132) (v := ?_) (a' := ?_) #[true, true, true, true, true, true, false, true, false, false, false, false, false, false, false, false] rfl rfl (by kernel_rfl) (fun _ _ _ h => h) (Or.inl ⟨by rfl, ?_⟩) ?_ ?_
                  rotate_left
                  · intro w'
                    go_simp
                    with_reducible rfl
                  rotate_left
                  · simp only [Act.put, List.setIfInBounds_toArray, List.set_cons_zero, List.set_cons_succ, i64_w, i32_w]
                    rfl
                  refine pure_ (i := 8) (N := some 133) (v := ?_) (a' := ?_) #[true, true, true, true, true, true, false, true, true, false, false, false, false, false, false, false] rfl rfl (by kernel_rfl) (fun _ _ _ h => h) (Or.inl ⟨by rfl, ?_⟩) ?_ ?_
                  rotate_left
                  · intro w'
                    go_simp
                    with_reducible rfl
                  rotate_left
                  · simp only [Act.put, List.setIfInBounds_toArray, List.set_cons_zero, List.set_cons_succ, i64_w, i32_w]
                    rfl
                  refine take_ (i := 9) (N := some 134) (v := ?_) (a' := ?_) #[true, true, true, true, true, true, false, true, true, true, false, false, false, false, false, false] rfl rfl (by kernel_rfl) (fun _ _ _ h => h) (Or.inl ⟨by rfl, ?_⟩) hHeld ?_ ?_
                  rotate_left
                  · intro w' hS_
                    obtain ⟨s0_, s1_, s2_, s3_, s4_, s5_, s6_, s7_⟩ := hS_
                    go_simp
                    with_reducible rfl
                  rotate_left
                  · simp only [Act.put, List.setIfInBounds_toArray, List.set_cons_zero, List.set_cons_succ, i64_w, i32_w]
                    rfl
                  refine pure_ (i := 10) (N := some 135) (v := ?_) (a' := ?_) #[true, true, true, true, true, true, false, true, true, true, true, false, false, false, false, false] rfl rfl (by kernel_rfl) (fun _ _ _ h => h) (Or.inl ⟨by rfl, ?_⟩) ?_ ?_
                  rotate_left
                  · intro w'
                    go_simp
                    with_reducible rfl
                  rotate_left
                  · simp only [Act.put, List.setIfInBounds_toArray, List.set_cons_zero, List.set_cons_succ, i64_w, i32_w]
                    rfl
                  refine pure_ (i := 11) (N := some 136) (v := ?_) (a' := ?_) #[true, true, true, true, true, true, false, true, true, true, true, true, false, false, false, false] rfl rfl (by kernel_rfl) (fun _ _ _ h => h) (Or.inl ⟨by rfl, ?_⟩) ?_ ?_
                  rotate_left
                  · intro w'
                    go_simp
                    with_reducible rfl
                  rotate_left
                  · simp only [Act.put, List.setIfInBounds_toArray, List.set_cons_zero, List.set_cons_succ, i64_w, i32_w]
                    rfl
                  refine take_ (i := 12) (N := some 137) (v := ?_) (a' := ?_) #[true, true, true, true, true, true, false, true, true, true, true, true, true, false, false, false] rfl rfl (by kernel_rfl) (fun _ _ _ h => h) (Or.inl ⟨by rfl, ?_⟩) hHeld ?_ ?_
                  rotate_left
                  · intro w' hS_
                    obtain ⟨s0_, s1_, s2_, s3_, s4_, s5_, s6_, s7_⟩ := hS_
                    go_simp
                    with_reducible rfl
                  rotate_left
                  · simp only [Act.put, List.setIfInBounds_toArray, List.set_cons_zero, List.set_cons_succ, i64_w, i32_w]
                    rfl
                  refine one_ (i := 6) (N := some 131) #[true, true, true, true, true, true, true, true, true, true, true, true, true, false, false, false] rfl rfl (by kernel_rfl) (by decide) (fun K hK => ?_)
                  refine goes_ Try.func10 (by kernel_rfl) rfl #[.pointer (some ⟨g, 0, none⟩), .int .i64 x2, .int .i64 tl, .int .i64 x5] ?hw rfl rfl ?hx ?_
                  (case hw => rfl)
                  (case hx => (try simp only [List.map_toArray, List.map_cons, List.map_nil]); first | done | rfl)
                  refine (BK.leave3 x2 tl x5 K20.out B20.out HI.out HJ9.out HEV.out HEL.out HEO.out).mono ?_
                  rintro e wkx6 ⟨rfl, ckx6, hkx6, tkx6⟩
                  have Kkx6 := Aside0.mk hkx6
                  have Rkx6 := Aside0.mk (RB.keep0 R20.out tkx6 (by decide) (by decide) (by decide))
                  have Xkx6 := Aside0.mk (tkx6.keep _ blk 9 _ _ (by decide) X20.out)
                  have Ykx6 := Aside0.mk (tkx6.keep _ blk 10 _ _ (by decide) Y20.out)
                  have Bkx6 := Aside0.mk (tkx6.far B20.out)
                  clear hkx6 tkx6
                  refine ⟨_, rfl, ?_⟩
                  have hHeld := (show _ ∧ _ ∧ _ ∧ _ ∧ _ ∧ _ ∧ _ ∧ _ from ⟨blk_cell (blk_at Xkx6.out) 0, blk_cell (blk_at Xkx6.out) 1, blk_cell (blk_at Xkx6.out) 2, blk_cell (blk_at Xkx6.out) 3, blk_cell (blk_at Xkx6.out) 4, blk_cell (blk_at Xkx6.out) 5, blk_cell (blk_at Ykx6.out) 0, blk_cell (blk_at Ykx6.out) 1⟩)
                  refine hK.out _ _ hHeld (fun hHeld => ?_)
                  clear hK K
                  refine norm_ (a' := ?_) ?_ ?_
                  rotate_left
                  · show Act.put _ (some 131) _ = _
                    simp only [Act.put, List.setIfInBounds_toArray, List.set_cons_zero, List.set_cons_succ, i64_w, i32_w]
                    rfl
                  refine one_ (i := 13) (N := some 138) #[true, true, true, true, true, true, true, true, true, true, true, true, true, true, false, false] rfl rfl (by kernel_rfl) (by decide) (fun K hK => ?_)
                  refine goes_ Try.func16 (by kernel_rfl) rfl #[.pointer (some ⟨gr, 0, none⟩), .int .i64 x2, .int .i64 tl, .int .i64 x5] ?hw rfl rfl ?hx ?_
                  (case hw => rfl)
                  (case hx => (try simp only [List.map_toArray, List.map_cons, List.map_nil]); first | done | rfl)
                  refine (RB.leave3 x2 tl x5 Rkx6.out Bkx6.out HI.out HJ9.out HEV.out HEL.out HEO.out).mono ?_
                  rintro e wrx6x13 ⟨rfl, crx6x13, hrx6x13, trx6x13⟩
                  have Rrx6x13 := Aside0.mk hrx6x13
                  have Krx6x13 := Aside0.mk (BK.keep0 Kkx6.out trx6x13 (by decide) (by decide) (by decide))
                  have Xrx6x13 := Aside0.mk (trx6x13.keep _ blk 9 _ _ (by decide) Xkx6.out)
                  have Yrx6x13 := Aside0.mk (trx6x13.keep _ blk 10 _ _ (by decide) Ykx6.out)
                  have Brx6x13 := Aside0.mk (trx6x13.far Bkx6.out)
                  clear hrx6x13 trx6x13
                  refine ⟨_, rfl, ?_⟩
                  have hHeld := (show _ ∧ _ ∧ _ ∧ _ ∧ _ ∧ _ ∧ _ ∧ _ from ⟨blk_cell (blk_at Xrx6x13.out) 0, blk_cell (blk_at Xrx6x13.out) 1, blk_cell (blk_at Xrx6x13.out) 2, blk_cell (blk_at Xrx6x13.out) 3, blk_cell (blk_at Xrx6x13.out) 4, blk_cell (blk_at Xrx6x13.out) 5, blk_cell (blk_at Yrx6x13.out) 0, blk_cell (blk_at Yrx6x13.out) 1⟩)
                  refine hK.out _ _ hHeld (fun hHeld => ?_)
                  clear hK K
                  refine norm_ (a' := ?_) ?_ ?_
                  rotate_left
                  · show Act.put _ (some 138) _ = _
                    simp only [Act.put, List.setIfInBounds_toArray, List.set_cons_zero, List.set_cons_succ, i64_w, i32_w]
                    rfl
                  refine pure_ (i := 14) (N := some 139) (v := ?_) (a' := ?_) #[true, true, true, true, true, true, true, true, true, true, true, true, true, true, true, false] rfl rfl (by kernel_rfl) (fun _ _ _ h => h) (Or.inl ⟨by rfl, ?_⟩) ?_ ?_
                  rotate_left
                  · intro w'
                    go_simp
                    with_reducible rfl
                  rotate_left
                  · simp only [Act.put, List.setIfInBounds_toArray, List.set_cons_zero, List.set_cons_succ, i64_w, i32_w]
                    rfl
                  refine pure_ (i := 15) (N := some 12) (v := ?_) (a' := ?_) #[true, true, true, true, true, true, true, true, true, true, true, true, true, true, true, true] rfl rfl (by kernel_rfl) (fun _ _ _ h => h) (Or.inl ⟨by rfl, ?_⟩) ?_ ?_
                  rotate_left
                  · intro w'
                    go_simp
                    with_reducible rfl
                  rotate_left
                  · simp only [Act.put, List.setIfInBounds_toArray, List.set_cons_zero, List.set_cons_succ, i64_w, i32_w]
                    rfl
                  refine done_ (by kernel_rfl) ?_
                  go_wp2
                  go_meet
                  exact ⟨rfl, _, _, _, Krx6x13.out, Rrx6x13.out, Xrx6x13.out, HIN.out, Brx6x13.out⟩
                · have q1 : (x1 == 1) = false := beq_eq_false_iff_ne.2 o1
                  clear o1
                  by_cases o2 : x1 = 2
                  · have q2 : (x1 == 2) = true := beq_iff_eq.2 o2
                    clear o2
                    obtain ⟨ev, hev⟩ : ∃ ev, changeV m l1 l2 x2 x3 x4 x5 = ev := ⟨_, rfl⟩
                    have HEV := Aside0.mk hev
                    obtain ⟨el, hel⟩ : ∃ el, changeL m l1 l2 x2 x3 x4 x5 = el := ⟨_, rfl⟩
                    have HEL := Aside0.mk hel
                    have HIN := Aside0.mk (show Inv el l2 (j + 1) from by rw [← hel]; exact (HI.out.change x2 x3 x4 x5).more)
                    clear hev hel
                    have pe : (ev == ev) = true := by simp
                    go_upto_region 25 with (fail)
                    clear y0
                    obtain ⟨w20, hw20⟩ : ∃ w20 : World, wc.drew = w20 := ⟨_, rfl⟩
                    have hb20 : Below wc.heap.size wc w20 := by rw [← hw20]; exact below_drew (Below.refl _ _)
                    have K20 := Aside0.mk (BK.below KB.out hb20)
                    have R20 := Aside0.mk (RB.below RB'.out hb20)
                    have X20 := Aside0.mk (St.below (s := blk) XB.out hb20)
                    have Y20 := Aside0.mk (St.below (s := blk) YB.out hb20)
                    have B20 := Aside0.mk (Below.trans BB.out (Below.mono hb20 (Below.size BB.out)))
                    clear hb20
                    refine start_ (n := 17) (S := fun w' => w'.cell? ⟨g9, 0, none⟩ = some (.int .i64 x1) ∧ w'.cell? ⟨g9, 1, none⟩ = some (.int .i64 x2) ∧ w'.cell? ⟨g9, 2, none⟩ = some (.int .i64 x3) ∧ w'.cell? ⟨g9, 3, none⟩ = some (.int .i64 x4) ∧ w'.cell? ⟨g9, 4, none⟩ = some (.int .i64 x5) ∧ w'.cell? ⟨g9, 5, none⟩ = some (.int .i64 x6) ∧ w'.cell? ⟨g10, 0, none⟩ = some (.int .i64 x3) ∧ w'.cell? ⟨g10, 1, none⟩ = some (.int .i64 x4)) (ds := []) #[false, false, false, false, false, false, false, false, false, false, false, false, false, false, false, false, false] (by kernel_rfl) rfl rfl (by rw [hw20]; exact ⟨blk_cell (blk_at X20.out) 0, blk_cell (blk_at X20.out) 1, blk_cell (blk_at X20.out) 2, blk_cell (blk_at X20.out) 3, blk_cell (blk_at X20.out) 4, blk_cell (blk_at X20.out) 5, blk_cell (blk_at Y20.out) 0, blk_cell (blk_at Y20.out) 1⟩) (fun hHeld => ?_)
                    rw [hw20] at hHeld ⊢
                    refine pure_ (i := 0) (N := some 142) (v := ?_) (a' := ?_) #[true, false, false, false, false, false, false, false, false, false, false, false, false, false, false, false, false] rfl rfl (by kernel_rfl) (fun _ _ _ h => h) (Or.inl ⟨by rfl, ?_⟩) ?_ ?_
                    rotate_left
                    · intro w'
                      go_simp
                      with_reducible rfl
                    rotate_left
                    · simp only [Act.put, List.setIfInBounds_toArray, List.set_cons_zero, List.set_cons_succ, i64_w, i32_w]
                      rfl
                    refine pure_ (i := 1) (N := some 143) (v := ?_) (a' := ?_) #[true, true, false, false, false, false, false, false, false, false, false, false, false, false, false, false, false] rfl rfl (by kernel_rfl) (fun _ _ _ h => h) (Or.inl ⟨by rfl, ?_⟩) ?_ ?_
                    rotate_left
                    · intro w'
                      go_simp
                      with_reducible rfl
                    rotate_left
                    · simp only [Act.put, List.setIfInBounds_toArray, List.set_cons_zero, List.set_cons_succ, i64_w, i32_w]
                      rfl
                    refine take_ (i := 2) (N := some 144) (v := ?_) (a' := ?_) #[true, true, true, false, false, false, false, false, false, false, false, false, false, false, false, false, false] rfl rfl (by kernel_rfl) (fun _ _ _ h => h) (Or.inl ⟨by rfl, ?_⟩) hHeld ?_ ?_
                    rotate_left
                    · intro w' hS_
                      obtain ⟨s0_, s1_, s2_, s3_, s4_, s5_, s6_, s7_⟩ := hS_
                      go_simp
                      with_reducible rfl
                    rotate_left
                    · simp only [Act.put, List.setIfInBounds_toArray, List.set_cons_zero, List.set_cons_succ, i64_w, i32_w]
                      rfl
                    refine pure_ (i := 3) (N := some 145) (v := ?_) (a' := ?_) #[true, true, true, true, false, false, false, false, false, false, false, false, false, false, false, false, false] rfl rfl (by kernel_rfl) (fun _ _ _ h => h) (Or.inl ⟨by rfl, ?_⟩) ?_ ?_
                    rotate_left
                    · intro w'
                      go_simp
                      with_reducible rfl
                    rotate_left
                    · simp only [Act.put, List.setIfInBounds_toArray, List.set_cons_zero, List.set_cons_succ, i64_w, i32_w]
                      rfl
                    refine take_ (i := 4) (N := some 146) (v := ?_) (a' := ?_) #[true, true, true, true, true, false, false, false, false, false, false, false, false, false, false, false, false] rfl rfl (by kernel_rfl) (fun _ _ _ h => h) (Or.inl ⟨by rfl, ?_⟩) hHeld ?_ ?_
                    rotate_left
                    · intro w' hS_
                      obtain ⟨s0_, s1_, s2_, s3_, s4_, s5_, s6_, s7_⟩ := hS_
                      go_simp
                      with_reducible rfl
                    rotate_left
                    · simp only [Act.put, List.setIfInBounds_toArray, List.set_cons_zero, List.set_cons_succ, i64_w, i32_w]
                      rfl
                    refine pure_ (i := 5) (N := some 147) (v := ?_) (a' := ?_) #[true, true, true, true, true, true, false, false, false, false, false, false, false, false, false, false, false] rfl rfl (by kernel_rfl) (fun _ _ _ h => h) (Or.inl ⟨by rfl, ?_⟩) ?_ ?_
                    rotate_left
                    · intro w'
                      go_simp
                      with_reducible rfl
                    rotate_left
                    · simp only [Act.put, List.setIfInBounds_toArray, List.set_cons_zero, List.set_cons_succ, i64_w, i32_w]
                      rfl
                    refine take_ (i := 6) (N := some 148) (v := ?_) (a' := ?_) #[true, true, true, true, true, true, true, false, false, false, false, false, false, false, false, false, false] rfl rfl (by kernel_rfl) (fun _ _ _ h => h) (Or.inl ⟨by rfl, ?_⟩) hHeld ?_ ?_
                    rotate_left
                    · intro w' hS_
                      obtain ⟨s0_, s1_, s2_, s3_, s4_, s5_, s6_, s7_⟩ := hS_
                      go_simp
                      with_reducible rfl
                    rotate_left
                    · simp only [Act.put, List.setIfInBounds_toArray, List.set_cons_zero, List.set_cons_succ, i64_w, i32_w]
                      rfl
                    refine pure_ (i := 8) (N := some 150) (v := ?_) (a' := ?_) #[true, true, true, true, true, true, true, false, true, false, false, false, false, false, false, false, false] rfl rfl (by kernel_rfl) (fun _ _ _ h => h) (Or.inl ⟨by rfl, ?_⟩) ?_ ?_
                    rotate_left
                    · intro w'
                      go_simp
                      with_reducible rfl
                    rotate_left
                    · simp only [Act.put, List.setIfInBounds_toArray, List.set_cons_zero, List.set_cons_succ, i64_w, i32_w]
                      rfl
                    refine pure_ (i := 9) (N := some 151) (v := ?_) (a' := ?_) #[true, true, true, true, true, true, true, false, true, true, false, false, false, false, false, false, false] rfl rfl (by kernel_rfl) (fun _ _ _ h => h) (Or.inl ⟨by rfl, ?_⟩) ?_ ?_
                    rotate_left
                    · intro w'
                      go_simp
                      with_reducible rfl
                    rotate_left
                    · simp only [Act.put, List.setIfInBounds_toArray, List.set_cons_zero, List.set_cons_succ, i64_w, i32_w]
                      rfl
                    refine take_ (i := 10) (N := some 152) (v := ?_) (a' := ?_) #[true, true, true, true, true, true, true, false, true, true, true, false, false, false, false, false, false] rfl rfl (by kernel_rfl) (fun _ _ _ h => h) (Or.inl ⟨by rfl, ?_⟩) hHeld ?_ ?_
                    rotate_left
                    · intro w' hS_
                      obtain ⟨s0_, s1_, s2_, s3_, s4_, s5_, s6_, s7_⟩ := hS_
                      go_simp
                      with_reducible rfl
                    rotate_left
                    · simp only [Act.put, List.setIfInBounds_toArray, List.set_cons_zero, List.set_cons_succ, i64_w, i32_w]
                      rfl
                    refine take_ (i := 11) (N := some 153) (v := ?_) (a' := ?_) #[true, true, true, true, true, true, true, false, true, true, true, true, false, false, false, false, false] rfl rfl (by kernel_rfl) (fun _ _ _ h => h) (Or.inl ⟨by rfl, ?_⟩) hHeld ?_ ?_
                    rotate_left
                    · intro w' hS_
                      obtain ⟨s0_, s1_, s2_, s3_, s4_, s5_, s6_, s7_⟩ := hS_
                      go_simp
                      with_reducible rfl
                    rotate_left
                    · simp only [Act.put, List.setIfInBounds_toArray, List.set_cons_zero, List.set_cons_succ, i64_w, i32_w]
                      rfl
                    refine pure_ (i := 12) (N := some 154) (v := ?_) (a' := ?_) #[true, true, true, true, true, true, true, false, true, true, true, true, true, false, false, false, false] rfl rfl (by kernel_rfl) (fun _ _ _ h => h) (Or.inl ⟨by rfl, ?_⟩) ?_ ?_
                    rotate_left
                    · intro w'
                      go_simp
                      with_reducible rfl
                    rotate_left
                    · simp only [Act.put, List.setIfInBounds_toArray, List.set_cons_zero, List.set_cons_succ, i64_w, i32_w]
                      rfl
                    refine take_ (i := 13) (N := some 155) (v := ?_) (a' := ?_) #[true, true, true, true, true, true, true, false, true, true, true, true, true, true, false, false, false] rfl rfl (by kernel_rfl) (fun _ _ _ h => h) (Or.inl ⟨by rfl, ?_⟩) hHeld ?_ ?_
                    rotate_left
                    · intro w' hS_
                      obtain ⟨s0_, s1_, s2_, s3_, s4_, s5_, s6_, s7_⟩ := hS_
                      go_simp
                      with_reducible rfl
                    rotate_left
                    · simp only [Act.put, List.setIfInBounds_toArray, List.set_cons_zero, List.set_cons_succ, i64_w, i32_w]
                      rfl
                    refine one_ (i := 7) (N := some 149) #[true, true, true, true, true, true, true, true, true, true, true, true, true, true, false, false, false] rfl rfl (by kernel_rfl) (by decide) (fun K hK => ?_)
                    refine goes_ Try.func14 (by kernel_rfl) rfl #[.pointer (some ⟨g, 0, none⟩), .int .i64 x2, .agg #[.int .i64 x3, .int .i64 x4], .int .i64 x5] ?hw rfl rfl ?hx ?_
                    (case hw => rfl)
                    (case hx => (try simp only [List.map_toArray, List.map_cons, List.map_nil]); first | done | rfl)
                    refine (BK.change3 x2 x3 x4 x5 K20.out B20.out HI.out HJ9.out HM.out HEV.out HEL.out).mono ?_
                    rintro e wkx7 ⟨rfl, ckx7, hkx7, tkx7⟩
                    have Kkx7 := Aside0.mk hkx7
                    have Rkx7 := Aside0.mk (RB.keep0 R20.out tkx7 (by decide) (by decide) (by decide))
                    have Xkx7 := Aside0.mk (tkx7.keep _ blk 9 _ _ (by decide) X20.out)
                    have Ykx7 := Aside0.mk (tkx7.keep _ blk 10 _ _ (by decide) Y20.out)
                    have Bkx7 := Aside0.mk (tkx7.far B20.out)
                    clear hkx7 tkx7
                    refine ⟨_, rfl, ?_⟩
                    have hHeld := (show _ ∧ _ ∧ _ ∧ _ ∧ _ ∧ _ ∧ _ ∧ _ from ⟨blk_cell (blk_at Xkx7.out) 0, blk_cell (blk_at Xkx7.out) 1, blk_cell (blk_at Xkx7.out) 2, blk_cell (blk_at Xkx7.out) 3, blk_cell (blk_at Xkx7.out) 4, blk_cell (blk_at Xkx7.out) 5, blk_cell (blk_at Ykx7.out) 0, blk_cell (blk_at Ykx7.out) 1⟩)
                    refine hK.out _ _ hHeld (fun hHeld => ?_)
                    clear hK K
                    refine norm_ (a' := ?_) ?_ ?_
                    rotate_left
                    · show Act.put _ (some 149) _ = _
                      simp only [Act.put, List.setIfInBounds_toArray, List.set_cons_zero, List.set_cons_succ, i64_w, i32_w]
                      rfl
                    refine one_ (i := 14) (N := some 156) #[true, true, true, true, true, true, true, true, true, true, true, true, true, true, true, false, false] rfl rfl (by kernel_rfl) (by decide) (fun K hK => ?_)
                    refine goes_ Try.func17 (by kernel_rfl) rfl #[.pointer (some ⟨gr, 0, none⟩), .int .i64 x2, .agg #[.int .i64 x3, .int .i64 x4], .int .i64 x5] ?hw rfl rfl ?hx ?_
                    (case hw => rfl)
                    (case hx => (try simp only [List.map_toArray, List.map_cons, List.map_nil]); first | done | rfl)
                    refine (RB.change3 x2 x3 x4 x5 Rkx7.out Bkx7.out HI.out HJ9.out HM.out HEV.out HEL.out).mono ?_
                    rintro e wrx7x14 ⟨rfl, crx7x14, hrx7x14, trx7x14⟩
                    have Rrx7x14 := Aside0.mk hrx7x14
                    have Krx7x14 := Aside0.mk (BK.keep0 Kkx7.out trx7x14 (by decide) (by decide) (by decide))
                    have Xrx7x14 := Aside0.mk (trx7x14.keep _ blk 9 _ _ (by decide) Xkx7.out)
                    have Yrx7x14 := Aside0.mk (trx7x14.keep _ blk 10 _ _ (by decide) Ykx7.out)
                    have Brx7x14 := Aside0.mk (trx7x14.far Bkx7.out)
                    clear hrx7x14 trx7x14
                    refine ⟨_, rfl, ?_⟩
                    have hHeld := (show _ ∧ _ ∧ _ ∧ _ ∧ _ ∧ _ ∧ _ ∧ _ from ⟨blk_cell (blk_at Xrx7x14.out) 0, blk_cell (blk_at Xrx7x14.out) 1, blk_cell (blk_at Xrx7x14.out) 2, blk_cell (blk_at Xrx7x14.out) 3, blk_cell (blk_at Xrx7x14.out) 4, blk_cell (blk_at Xrx7x14.out) 5, blk_cell (blk_at Yrx7x14.out) 0, blk_cell (blk_at Yrx7x14.out) 1⟩)
                    refine hK.out _ _ hHeld (fun hHeld => ?_)
                    clear hK K
                    refine norm_ (a' := ?_) ?_ ?_
                    rotate_left
                    · show Act.put _ (some 156) _ = _
                      simp only [Act.put, List.setIfInBounds_toArray, List.set_cons_zero, List.set_cons_succ, i64_w, i32_w]
                      rfl
                    refine pure_ (i := 15) (N := some 157) (v := ?_) (a' := ?_) #[true, true, true, true, true, true, true, true, true, true, true, true, true, true, true, true, false] rfl rfl (by kernel_rfl) (fun _ _ _ h => h) (Or.inl ⟨by rfl, ?_⟩) ?_ ?_
                    rotate_left
                    · intro w'
                      go_simp
                      with_reducible rfl
                    rotate_left
                    · simp only [Act.put, List.setIfInBounds_toArray, List.set_cons_zero, List.set_cons_succ, i64_w, i32_w]
                      rfl
                    refine pure_ (i := 16) (N := some 12) (v := ?_) (a' := ?_) #[true, true, true, true, true, true, true, true, true, true, true, true, true, true, true, true, true] rfl rfl (by kernel_rfl) (fun _ _ _ h => h) (Or.inl ⟨by rfl, ?_⟩) ?_ ?_
                    rotate_left
                    · intro w'
                      go_simp
                      with_reducible rfl
                    rotate_left
                    · simp only [Act.put, List.setIfInBounds_toArray, List.set_cons_zero, List.set_cons_succ, i64_w, i32_w]
                      rfl
                    refine done_ (by kernel_rfl) ?_
                    go_wp2
                    go_meet
                    exact ⟨rfl, _, _, _, Krx7x14.out, Rrx7x14.out, Xrx7x14.out, HIN.out, Brx7x14.out⟩
                  · have q2 : (x1 == 2) = false := beq_eq_false_iff_ne.2 o2
                    clear o2
                    obtain ⟨ev, hev⟩ : ∃ ev, askV m l1 l2 x3 x4 x5 = ev := ⟨_, rfl⟩
                    have HEV := Aside0.mk hev
                    have HIN := Aside0.mk (HI.out.more)
                    clear hev
                    have pe : (ev == ev) = true := by simp
                    go_upto_region 19 with (fail)
                    clear y0
                    obtain ⟨w20, hw20⟩ : ∃ w20 : World, wc.drew = w20 := ⟨_, rfl⟩
                    have hb20 : Below wc.heap.size wc w20 := by rw [← hw20]; exact below_drew (Below.refl _ _)
                    have K20 := Aside0.mk (BK.below KB.out hb20)
                    have R20 := Aside0.mk (RB.below RB'.out hb20)
                    have X20 := Aside0.mk (St.below (s := blk) XB.out hb20)
                    have Y20 := Aside0.mk (St.below (s := blk) YB.out hb20)
                    have B20 := Aside0.mk (Below.trans BB.out (Below.mono hb20 (Below.size BB.out)))
                    clear hb20
                    refine start_ (n := 13) (S := fun w' => w'.cell? ⟨g9, 0, none⟩ = some (.int .i64 x1) ∧ w'.cell? ⟨g9, 1, none⟩ = some (.int .i64 x2) ∧ w'.cell? ⟨g9, 2, none⟩ = some (.int .i64 x3) ∧ w'.cell? ⟨g9, 3, none⟩ = some (.int .i64 x4) ∧ w'.cell? ⟨g9, 4, none⟩ = some (.int .i64 x5) ∧ w'.cell? ⟨g9, 5, none⟩ = some (.int .i64 x6) ∧ w'.cell? ⟨g10, 0, none⟩ = some (.int .i64 x3) ∧ w'.cell? ⟨g10, 1, none⟩ = some (.int .i64 x4)) (ds := []) #[false, false, false, false, false, false, false, false, false, false, false, false, false] (by kernel_rfl) rfl rfl (by rw [hw20]; exact ⟨blk_cell (blk_at X20.out) 0, blk_cell (blk_at X20.out) 1, blk_cell (blk_at X20.out) 2, blk_cell (blk_at X20.out) 3, blk_cell (blk_at X20.out) 4, blk_cell (blk_at X20.out) 5, blk_cell (blk_at Y20.out) 0, blk_cell (blk_at Y20.out) 1⟩) (fun hHeld => ?_)
                    rw [hw20] at hHeld ⊢
                    refine pure_ (i := 0) (N := some 93) (v := ?_) (a' := ?_) #[true, false, false, false, false, false, false, false, false, false, false, false, false] rfl rfl (by kernel_rfl) (fun _ _ _ h => h) (Or.inl ⟨by rfl, ?_⟩) ?_ ?_
                    rotate_left
                    · intro w'
                      go_simp
                      with_reducible rfl
                    rotate_left
                    · simp only [Act.put, List.setIfInBounds_toArray, List.set_cons_zero, List.set_cons_succ, i64_w, i32_w]
                      rfl
                    refine pure_ (i := 1) (N := some 94) (v := ?_) (a' := ?_) #[true, true, false, false, false, false, false, false, false, false, false, false, false] rfl rfl (by kernel_rfl) (fun _ _ _ h => h) (Or.inl ⟨by rfl, ?_⟩) ?_ ?_
                    rotate_left
                    · intro w'
                      go_simp
                      with_reducible rfl
                    rotate_left
                    · simp only [Act.put, List.setIfInBounds_toArray, List.set_cons_zero, List.set_cons_succ, i64_w, i32_w]
                      rfl
                    refine take_ (i := 2) (N := some 95) (v := ?_) (a' := ?_) #[true, true, true, false, false, false, false, false, false, false, false, false, false] rfl rfl (by kernel_rfl) (fun _ _ _ h => h) (Or.inl ⟨by rfl, ?_⟩) hHeld ?_ ?_
                    rotate_left
                    · intro w' hS_
                      obtain ⟨s0_, s1_, s2_, s3_, s4_, s5_, s6_, s7_⟩ := hS_
                      go_simp
                      with_reducible rfl
                    rotate_left
                    · simp only [Act.put, List.setIfInBounds_toArray, List.set_cons_zero, List.set_cons_succ, i64_w, i32_w]
                      rfl
                    refine pure_ (i := 3) (N := some 96) (v := ?_) (a' := ?_) #[true, true, true, true, false, false, false, false, false, false, false, false, false] rfl rfl (by kernel_rfl) (fun _ _ _ h => h) (Or.inl ⟨by rfl, ?_⟩) ?_ ?_
                    rotate_left
                    · intro w'
                      go_simp
                      with_reducible rfl
                    rotate_left
                    · simp only [Act.put, List.setIfInBounds_toArray, List.set_cons_zero, List.set_cons_succ, i64_w, i32_w]
                      rfl
                    refine take_ (i := 4) (N := some 97) (v := ?_) (a' := ?_) #[true, true, true, true, true, false, false, false, false, false, false, false, false] rfl rfl (by kernel_rfl) (fun _ _ _ h => h) (Or.inl ⟨by rfl, ?_⟩) hHeld ?_ ?_
                    rotate_left
                    · intro w' hS_
                      obtain ⟨s0_, s1_, s2_, s3_, s4_, s5_, s6_, s7_⟩ := hS_
                      go_simp
                      with_reducible rfl
                    rotate_left
                    · simp only [Act.put, List.setIfInBounds_toArray, List.set_cons_zero, List.set_cons_succ, i64_w, i32_w]
                      rfl
                    refine pure_ (i := 6) (N := some 99) (v := ?_) (a' := ?_) #[true, true, true, true, true, false, true, false, false, false, false, false, false] rfl rfl (by kernel_rfl) (fun _ _ _ h => h) (Or.inl ⟨by rfl, ?_⟩) ?_ ?_
                    rotate_left
                    · intro w'
                      go_simp
                      with_reducible rfl
                    rotate_left
                    · simp only [Act.put, List.setIfInBounds_toArray, List.set_cons_zero, List.set_cons_succ, i64_w, i32_w]
                      rfl
                    refine take_ (i := 7) (N := some 100) (v := ?_) (a' := ?_) #[true, true, true, true, true, false, true, true, false, false, false, false, false] rfl rfl (by kernel_rfl) (fun _ _ _ h => h) (Or.inl ⟨by rfl, ?_⟩) hHeld ?_ ?_
                    rotate_left
                    · intro w' hS_
                      obtain ⟨s0_, s1_, s2_, s3_, s4_, s5_, s6_, s7_⟩ := hS_
                      go_simp
                      with_reducible rfl
                    rotate_left
                    · simp only [Act.put, List.setIfInBounds_toArray, List.set_cons_zero, List.set_cons_succ, i64_w, i32_w]
                      rfl
                    refine pure_ (i := 8) (N := some 101) (v := ?_) (a' := ?_) #[true, true, true, true, true, false, true, true, true, false, false, false, false] rfl rfl (by kernel_rfl) (fun _ _ _ h => h) (Or.inl ⟨by rfl, ?_⟩) ?_ ?_
                    rotate_left
                    · intro w'
                      go_simp
                      with_reducible rfl
                    rotate_left
                    · simp only [Act.put, List.setIfInBounds_toArray, List.set_cons_zero, List.set_cons_succ, i64_w, i32_w]
                      rfl
                    refine take_ (i := 9) (N := some 102) (v := ?_) (a' := ?_) #[true, true, true, true, true, false, true, true, true, true, false, false, false] rfl rfl (by kernel_rfl) (fun _ _ _ h => h) (Or.inl ⟨by rfl, ?_⟩) hHeld ?_ ?_
                    rotate_left
                    · intro w' hS_
                      obtain ⟨s0_, s1_, s2_, s3_, s4_, s5_, s6_, s7_⟩ := hS_
                      go_simp
                      with_reducible rfl
                    rotate_left
                    · simp only [Act.put, List.setIfInBounds_toArray, List.set_cons_zero, List.set_cons_succ, i64_w, i32_w]
                      rfl
                    refine one_ (i := 5) (N := some 98) #[true, true, true, true, true, true, true, true, true, true, false, false, false] rfl rfl (by kernel_rfl) (by decide) (fun K hK => ?_)
                    refine goes_ Try.func12 (by kernel_rfl) rfl #[.pointer (some ⟨g, 0, none⟩), .agg #[.int .i64 x3, .int .i64 x4], .int .i64 x5] ?hw rfl rfl ?hx ?_
                    (case hw => rfl)
                    (case hx => (try simp only [List.map_toArray, List.map_cons, List.map_nil]); first | done | rfl)
                    refine (BK.ask3 x3 x4 x5 K20.out HI.out HJ9.out HM.out HEV.out).mono ?_
                    rintro e wkx5 ⟨rfl, hbkx5⟩
                    have Kkx5 := Aside0.mk (BK.below K20.out hbkx5)
                    have Rkx5 := Aside0.mk (RB.below R20.out hbkx5)
                    have Xkx5 := Aside0.mk (St.below (s := blk) X20.out hbkx5)
                    have Ykx5 := Aside0.mk (St.below (s := blk) Y20.out hbkx5)
                    have Bkx5 := Aside0.mk (Below.trans B20.out (Below.mono hbkx5 (Below.size B20.out)))
                    clear hbkx5
                    refine ⟨_, rfl, ?_⟩
                    have hHeld := (show _ ∧ _ ∧ _ ∧ _ ∧ _ ∧ _ ∧ _ ∧ _ from ⟨blk_cell (blk_at Xkx5.out) 0, blk_cell (blk_at Xkx5.out) 1, blk_cell (blk_at Xkx5.out) 2, blk_cell (blk_at Xkx5.out) 3, blk_cell (blk_at Xkx5.out) 4, blk_cell (blk_at Xkx5.out) 5, blk_cell (blk_at Ykx5.out) 0, blk_cell (blk_at Ykx5.out) 1⟩)
                    refine hK.out _ _ hHeld (fun hHeld => ?_)
                    clear hK K
                    refine norm_ (a' := ?_) ?_ ?_
                    rotate_left
                    · show Act.put _ (some 98) _ = _
                      simp only [Act.put, List.setIfInBounds_toArray, List.set_cons_zero, List.set_cons_succ, i64_w, i32_w]
                      rfl
                    refine one_ (i := 10) (N := some 103) #[true, true, true, true, true, true, true, true, true, true, true, false, false] rfl rfl (by kernel_rfl) (by decide) (fun K hK => ?_)
                    refine goes_ Try.func18 (by kernel_rfl) rfl #[.pointer (some ⟨gr, 0, none⟩), .agg #[.int .i64 x3, .int .i64 x4], .int .i64 x5] ?hw rfl rfl ?hx ?_
                    (case hw => rfl)
                    (case hx => (try simp only [List.map_toArray, List.map_cons, List.map_nil]); first | done | rfl)
                    refine (RB.ask3 x3 x4 x5 Rkx5.out HI.out HJ9.out HM.out HEV.out).mono ?_
                    rintro e wrx5x10 ⟨rfl, hbrx5x10⟩
                    have Krx5x10 := Aside0.mk (BK.below Kkx5.out hbrx5x10)
                    have Rrx5x10 := Aside0.mk (RB.below Rkx5.out hbrx5x10)
                    have Xrx5x10 := Aside0.mk (St.below (s := blk) Xkx5.out hbrx5x10)
                    have Yrx5x10 := Aside0.mk (St.below (s := blk) Ykx5.out hbrx5x10)
                    have Brx5x10 := Aside0.mk (Below.trans Bkx5.out (Below.mono hbrx5x10 (Below.size Bkx5.out)))
                    clear hbrx5x10
                    refine ⟨_, rfl, ?_⟩
                    have hHeld := (show _ ∧ _ ∧ _ ∧ _ ∧ _ ∧ _ ∧ _ ∧ _ from ⟨blk_cell (blk_at Xrx5x10.out) 0, blk_cell (blk_at Xrx5x10.out) 1, blk_cell (blk_at Xrx5x10.out) 2, blk_cell (blk_at Xrx5x10.out) 3, blk_cell (blk_at Xrx5x10.out) 4, blk_cell (blk_at Xrx5x10.out) 5, blk_cell (blk_at Yrx5x10.out) 0, blk_cell (blk_at Yrx5x10.out) 1⟩)
                    refine hK.out _ _ hHeld (fun hHeld => ?_)
                    clear hK K
                    refine norm_ (a' := ?_) ?_ ?_
                    rotate_left
                    · show Act.put _ (some 103) _ = _
                      simp only [Act.put, List.setIfInBounds_toArray, List.set_cons_zero, List.set_cons_succ, i64_w, i32_w]
                      rfl
                    refine pure_ (i := 11) (N := some 104) (v := ?_) (a' := ?_) #[true, true, true, true, true, true, true, true, true, true, true, true, false] rfl rfl (by kernel_rfl) (fun _ _ _ h => h) (Or.inl ⟨by rfl, ?_⟩) ?_ ?_
                    rotate_left
                    · intro w'
                      go_simp
                      with_reducible rfl
                    rotate_left
                    · simp only [Act.put, List.setIfInBounds_toArray, List.set_cons_zero, List.set_cons_succ, i64_w, i32_w]
                      rfl
                    refine pure_ (i := 12) (N := some 12) (v := ?_) (a' := ?_) #[true, true, true, true, true, true, true, true, true, true, true, true, true] rfl rfl (by kernel_rfl) (fun _ _ _ h => h) (Or.inl ⟨by rfl, ?_⟩) ?_ ?_
                    rotate_left
                    · intro w'
                      go_simp
                      with_reducible rfl
                    rotate_left
                    · simp only [Act.put, List.setIfInBounds_toArray, List.set_cons_zero, List.set_cons_succ, i64_w, i32_w]
                      rfl
                    refine done_ (by kernel_rfl) ?_
                    go_wp2
                    go_meet
                    exact ⟨rfl, _, _, _, Krx5x10.out, Rrx5x10.out, Xrx5x10.out, HIN.out, Brx5x10.out⟩
            case rest =>
              obtain ⟨rfl, cd, l1, l2, hK, hR, hX, hI, hB⟩ := hcut
              clear KB RB' XB YB BB HI y0
              rename World => wd
              obtain ⟨Ar, kr, Ao, ko, hF, hIn, hOut⟩ := hR
              have KD := Aside0.mk hK
              have FD := Aside0.mk hF
              have ID := Aside0.mk hIn
              have OD := Aside0.mk hOut
              have XD := Aside0.mk hX
              have HID := Aside0.mk hI
              have BD := Aside0.mk hB
              obtain ⟨lo, hlo⟩ : ∃ lo, ling x5 l2 = lo := ⟨_, rfl⟩
              have HLO := Aside0.mk hlo
              have HL1 := Aside0.mk (show l1.length ≤ 1000 from by have := hI.1; omega)
              have HL2 := Aside0.mk (show l2.length ≤ 1000 from by have := hI.2.1; have := HJ9.out; omega)
              have HL3 := Aside0.mk (show lo.length ≤ 1000 from by rw [← hlo]; have := ling_le x5 l2; have := HL2.out; omega)
              clear hK hF hIn hOut hX hI hB hlo
              go_upto_region 26 with (fail)
              obtain ⟨w30, hw30⟩ : ∃ w30 : World, wd.drew = w30 := ⟨_, rfl⟩
              have hb30 : Below wd.heap.size wd w30 := by rw [← hw30]; exact below_drew (Below.refl _ _)
              have K30 := Aside0.mk (BK.below KD.out hb30)
              have HX30 := Aside0.mk (St.below (s := blk) XD.out hb30)
              have HF30 := Aside0.mk (St.below (s := blk) FD.out hb30)
              have HI30 := Aside0.mk (St.below (s := row 64 k37) ID.out hb30)
              have HO30 := Aside0.mk (St.below (s := row 64 k37) OD.out hb30)
              have B30 := Aside0.mk (Below.trans BD.out (Below.mono hb30 (Below.size BD.out)))
              clear hb30
              refine start_ (n := 24) (S := fun w' => w'.cell? ⟨gr, 1, none⟩ = some (.slice Ar l1.length kr) ∧ w'.cell? ⟨g9, 4, none⟩ = some (.int .i64 x5)) (ds := []) #[false, false, false, false, false, false, false, false, false, false, false, false, false, false, false, false, false, false, false, false, false, false, false, false] (by kernel_rfl) rfl rfl (by rw [hw30]; exact ⟨blk_cell (blk_at HF30.out) 1, blk_cell (blk_at HX30.out) 4⟩) (fun hHeld => ?_)
              rw [hw30] at hHeld ⊢
              refine pure_ (i := 0) (N := some 158) (v := ?_) (a' := ?_) #[true, false, false, false, false, false, false, false, false, false, false, false, false, false, false, false, false, false, false, false, false, false, false, false] rfl rfl (by kernel_rfl) (fun _ _ _ h => h) (Or.inl ⟨by rfl, ?_⟩) ?_ ?_
              rotate_left
              · intro w'
                go_simp
                with_reducible rfl
              rotate_left
              · simp only [Act.put, List.setIfInBounds_toArray, List.set_cons_zero, List.set_cons_succ, i64_w, i32_w]
                rfl
              refine pure_ (i := 1) (N := some 159) (v := ?_) (a' := ?_) #[true, true, false, false, false, false, false, false, false, false, false, false, false, false, false, false, false, false, false, false, false, false, false, false] rfl rfl (by kernel_rfl) (fun _ _ _ h => h) (Or.inl ⟨by rfl, ?_⟩) ?_ ?_
              rotate_left
              · intro w'
                go_simp
                with_reducible rfl
              rotate_left
              · simp only [Act.put, List.setIfInBounds_toArray, List.set_cons_zero, List.set_cons_succ, i64_w, i32_w]
                rfl
              refine pure_ (i := 2) (N := some 160) (v := ?_) (a' := ?_) #[true, true, true, false, false, false, false, false, false, false, false, false, false, false, false, false, false, false, false, false, false, false, false, false] rfl rfl (by kernel_rfl) (fun _ _ _ h => h) (Or.inl ⟨by rfl, ?_⟩) ?_ ?_
              rotate_left
              · intro w'
                go_simp
                with_reducible rfl
              rotate_left
              · simp only [Act.put, List.setIfInBounds_toArray, List.set_cons_zero, List.set_cons_succ, i64_w, i32_w]
                rfl
              refine pure_ (i := 3) (N := some 161) (v := ?_) (a' := ?_) #[true, true, true, true, false, false, false, false, false, false, false, false, false, false, false, false, false, false, false, false, false, false, false, false] rfl rfl (by kernel_rfl) (fun _ _ _ h => h) (Or.inl ⟨wanted_on rfl rfl rfl rfl, ?_⟩) ?_ ?_
              rotate_left
              · intro w'
                go_simp
                with_reducible rfl
              rotate_left
              · simp only [Act.put, List.setIfInBounds_toArray, List.set_cons_zero, List.set_cons_succ, i64_w, i32_w]
                rfl
              refine pure_ (i := 5) (N := some 163) (v := ?_) (a' := ?_) #[true, true, true, true, false, true, false, false, false, false, false, false, false, false, false, false, false, false, false, false, false, false, false, false] rfl rfl (by kernel_rfl) (fun _ _ _ h => h) (Or.inl ⟨wanted_on rfl rfl rfl rfl, ?_⟩) ?_ ?_
              rotate_left
              · intro w'
                go_simp
                with_reducible rfl
              rotate_left
              · simp only [Act.put, List.setIfInBounds_toArray, List.set_cons_zero, List.set_cons_succ, i64_w, i32_w]
                rfl
              refine pure_ (i := 6) (N := some 164) (v := ?_) (a' := ?_) #[true, true, true, true, false, true, true, false, false, false, false, false, false, false, false, false, false, false, false, false, false, false, false, false] rfl rfl (by kernel_rfl) (fun _ _ _ h => h) (Or.inl ⟨wanted_on rfl rfl rfl rfl, ?_⟩) ?_ ?_
              rotate_left
              · intro w'
                go_simp
                with_reducible rfl
              rotate_left
              · simp only [Act.put, List.setIfInBounds_toArray, List.set_cons_zero, List.set_cons_succ, i64_w, i32_w]
                rfl
              refine pure_ (i := 7) (N := some 165) (v := ?_) (a' := ?_) #[true, true, true, true, false, true, true, true, false, false, false, false, false, false, false, false, false, false, false, false, false, false, false, false] rfl rfl (by kernel_rfl) (fun _ _ _ h => h) (Or.inl ⟨wanted_on rfl rfl rfl rfl, ?_⟩) ?_ ?_
              rotate_left
              · intro w'
                go_simp
                with_reducible rfl
              rotate_left
              · simp only [Act.put, List.setIfInBounds_toArray, List.set_cons_zero, List.set_cons_succ, i64_w, i32_w]
                rfl
              refine take_ (i := 8) (N := some 166) (v := ?_) (a' := ?_) #[true, true, true, true, false, true, true, true, true, false, false, false, false, false, false, false, false, false, false, false, false, false, false, false] rfl rfl (by kernel_rfl) (fun _ _ _ h => h) (Or.inl ⟨wanted_on rfl rfl rfl rfl, ?_⟩) hHeld ?_ ?_
              rotate_left
              · intro w' hS_
                obtain ⟨s0_, s1_⟩ := hS_
                go_simp
                with_reducible rfl
              rotate_left
              · simp only [Act.put, List.setIfInBounds_toArray, List.set_cons_zero, List.set_cons_succ, i64_w, i32_w]
                rfl
              refine one_ (i := 4) (N := some 162) #[true, true, true, true, true, true, true, true, true, false, false, false, false, false, false, false, false, false, false, false, false, false, false, false] rfl rfl (by kernel_rfl) (by decide) (fun K hK => ?_)
              refine goes_ Try.func11 (by kernel_rfl) rfl #[.pointer (some ⟨g, 0, none⟩)] ?hw rfl rfl ?hx ?_
              (case hw => exact wanted_on rfl rfl rfl rfl)
              (case hx => (try simp only [List.map_toArray, List.map_cons, List.map_nil]); first | done | rfl)
              refine (BK.liveC 20 K30.out B30.out HL1.out).mono ?_
              rintro e wvx4 ⟨Avx4, kvx4, cvx4, rfl, hvx4, tvx4⟩
              have Kvx4 := Aside0.mk (BK.keep1 K30.out tvx4 (by decide))
              have HLvx4 := Aside0.mk (show (row 37 k37).M wvx4 w.heap.size (fun k => cvx4 k = 20) l1 (.slice Avx4 l1.length kvx4) from hvx4)
              have HXvx4 := Aside0.mk (tvx4.keep _ (blk) 9 _ _ (by decide) HX30.out)
              have HFvx4 := Aside0.mk (tvx4.keep _ (blk) 30 _ _ (by decide) HF30.out)
              have HIvx4 := Aside0.mk (tvx4.keep _ (row 64 k37) 31 _ _ (by decide) HI30.out)
              have HOvx4 := Aside0.mk (tvx4.keep _ (row 64 k37) 32 _ _ (by decide) HO30.out)
              have Bvx4 := Aside0.mk (tvx4.far B30.out)
              clear hvx4 tvx4
              refine ⟨_, rfl, ?_⟩
              have hHeld := (show _ = some (Value.slice Ar l1.length kr) ∧ _ = some (Value.int IntKind.i64 x5) from ⟨blk_cell (blk_at HFvx4.out) 1, blk_cell (blk_at HXvx4.out) 4⟩)
              refine hK.out _ _ hHeld (fun hHeld => ?_)
              clear hK K
              refine norm_ (a' := ?_) ?_ ?_
              rotate_left
              · show Act.put _ (some 162) _ = _
                simp only [Act.put, List.setIfInBounds_toArray, List.set_cons_zero, List.set_cons_succ, i64_w, i32_w]
                rfl
              refine one_ (i := 9) (N := some 167) #[true, true, true, true, true, true, true, true, true, true, false, false, false, false, false, false, false, false, false, false, false, false, false, false] rfl rfl (by kernel_rfl) (by decide) (fun K hK => ?_)
              refine goes_ Try.func19 (by kernel_rfl) rfl #[.slice Avx4 l1.length kvx4, .slice Ar l1.length kr] ?hw rfl rfl ?hx ?_
              (case hw => exact wanted_on rfl rfl rfl rfl)
              (case hx => (try simp only [List.map_toArray, List.map_cons, List.map_nil]); first | done | rfl)
              refine (entries_same (row_C HLvx4.out) (row_le HLvx4.out) (row_C HIvx4.out) (row_le HIvx4.out) HL1.out).mono ?_
              rintro e weLx4x9 ⟨rfl, hbeLx4x9⟩
              have KeLx4x9 := Aside0.mk (BK.below Kvx4.out hbeLx4x9)
              have HXeLx4x9 := Aside0.mk (St.below (s := blk) HXvx4.out hbeLx4x9)
              have HFeLx4x9 := Aside0.mk (St.below (s := blk) HFvx4.out hbeLx4x9)
              have HIeLx4x9 := Aside0.mk (St.below (s := row 64 k37) HIvx4.out hbeLx4x9)
              have HOeLx4x9 := Aside0.mk (St.below (s := row 64 k37) HOvx4.out hbeLx4x9)
              have HLeLx4x9 := Aside0.mk (St.below (s := row 37 k37) HLvx4.out hbeLx4x9)
              have BeLx4x9 := Aside0.mk (Below.trans Bvx4.out (Below.mono hbeLx4x9 (Below.size Bvx4.out)))
              clear hbeLx4x9
              refine ⟨_, rfl, ?_⟩
              have hHeld := (show _ = some (Value.slice Ar l1.length kr) ∧ _ = some (Value.int IntKind.i64 x5) from ⟨blk_cell (blk_at HFeLx4x9.out) 1, blk_cell (blk_at HXeLx4x9.out) 4⟩)
              refine hK.out _ _ hHeld (fun hHeld => ?_)
              clear hK K
              refine norm_ (a' := ?_) ?_ ?_
              rotate_left
              · show Act.put _ (some 167) _ = _
                simp only [Act.put, List.setIfInBounds_toArray, List.set_cons_zero, List.set_cons_succ, i64_w, i32_w]
                rfl
              refine pure_ (i := 10) (N := some 168) (v := ?_) (a' := ?_) #[true, true, true, true, true, true, true, true, true, true, true, false, false, false, false, false, false, false, false, false, false, false, false, false] rfl rfl (by kernel_rfl) (fun _ _ _ h => h) (Or.inl ⟨wanted_on rfl rfl rfl rfl, ?_⟩) ?_ ?_
              rotate_left
              · intro w'
                go_simp
                with_reducible rfl
              rotate_left
              · simp only [Act.put, List.setIfInBounds_toArray, List.set_cons_zero, List.set_cons_succ, i64_w, i32_w]
                rfl
              refine pure_ (i := 11) (N := some 169) (v := ?_) (a' := ?_) #[true, true, true, true, true, true, true, true, true, true, true, true, false, false, false, false, false, false, false, false, false, false, false, false] rfl rfl (by kernel_rfl) (fun _ _ _ h => h) (Or.inl ⟨by rfl, ?_⟩) ?_ ?_
              rotate_left
              · intro w'
                go_simp
                with_reducible rfl
              rotate_left
              · simp only [Act.put, List.setIfInBounds_toArray, List.set_cons_zero, List.set_cons_succ, i64_w, i32_w]
                rfl
              refine pure_ (i := 12) (N := some 170) (v := ?_) (a' := ?_) #[true, true, true, true, true, true, true, true, true, true, true, true, true, false, false, false, false, false, false, false, false, false, false, false] rfl rfl (by kernel_rfl) (fun _ _ _ h => h) (Or.inl ⟨by rfl, ?_⟩) ?_ ?_
              rotate_left
              · intro w'
                go_simp
                with_reducible rfl
              rotate_left
              · simp only [Act.put, List.setIfInBounds_toArray, List.set_cons_zero, List.set_cons_succ, i64_w, i32_w]
                rfl
              refine pure_ (i := 13) (N := some 171) (v := ?_) (a' := ?_) #[true, true, true, true, true, true, true, true, true, true, true, true, true, true, false, false, false, false, false, false, false, false, false, false] rfl rfl (by kernel_rfl) (fun _ _ _ h => h) (Or.inl ⟨wanted_on rfl rfl rfl rfl, ?_⟩) ?_ ?_
              rotate_left
              · intro w'
                go_simp
                with_reducible rfl
              rotate_left
              · simp only [Act.put, List.setIfInBounds_toArray, List.set_cons_zero, List.set_cons_succ, i64_w, i32_w]
                rfl
              refine pure_ (i := 14) (N := some 172) (v := ?_) (a' := ?_) #[true, true, true, true, true, true, true, true, true, true, true, true, true, true, true, false, false, false, false, false, false, false, false, false] rfl rfl (by kernel_rfl) (fun _ _ _ h => h) (Or.inl ⟨wanted_on rfl rfl rfl rfl, ?_⟩) ?_ ?_
              rotate_left
              · intro w'
                go_simp
                with_reducible rfl
              rotate_left
              · simp only [Act.put, List.setIfInBounds_toArray, List.set_cons_zero, List.set_cons_succ, i64_w, i32_w]
                rfl
              refine take_ (i := 15) (N := some 173) (v := ?_) (a' := ?_) #[true, true, true, true, true, true, true, true, true, true, true, true, true, true, true, true, false, false, false, false, false, false, false, false] rfl rfl (by kernel_rfl) (fun _ _ _ h => h) (Or.inl ⟨wanted_on rfl rfl rfl rfl, ?_⟩) hHeld ?_ ?_
              rotate_left
              · intro w' hS_
                obtain ⟨s0_, s1_⟩ := hS_
                go_simp
                with_reducible rfl
              rotate_left
              · simp only [Act.put, List.setIfInBounds_toArray, List.set_cons_zero, List.set_cons_succ, i64_w, i32_w]
                rfl
              refine pure_ (i := 17) (N := some 175) (v := ?_) (a' := ?_) #[true, true, true, true, true, true, true, true, true, true, true, true, true, true, true, true, false, true, false, false, false, false, false, false] rfl rfl (by kernel_rfl) (fun _ _ _ h => h) (Or.inl ⟨wanted_on rfl rfl rfl rfl, ?_⟩) ?_ ?_
              rotate_left
              · intro w'
                go_simp
                with_reducible rfl
              rotate_left
              · simp only [Act.put, List.setIfInBounds_toArray, List.set_cons_zero, List.set_cons_succ, i64_w, i32_w]
                rfl
              refine pure_ (i := 18) (N := some 176) (v := ?_) (a' := ?_) #[true, true, true, true, true, true, true, true, true, true, true, true, true, true, true, true, false, true, true, false, false, false, false, false] rfl rfl (by kernel_rfl) (fun _ _ _ h => h) (Or.inl ⟨wanted_on rfl rfl rfl rfl, ?_⟩) ?_ ?_
              rotate_left
              · intro w'
                go_simp
                with_reducible rfl
              rotate_left
              · simp only [Act.put, List.setIfInBounds_toArray, List.set_cons_zero, List.set_cons_succ, i64_w, i32_w]
                rfl
              refine take_ (i := 19) (N := some 177) (v := ?_) (a' := ?_) #[true, true, true, true, true, true, true, true, true, true, true, true, true, true, true, true, false, true, true, true, false, false, false, false] rfl rfl (by kernel_rfl) (fun _ _ _ h => h) (Or.inl ⟨wanted_on rfl rfl rfl rfl, ?_⟩) hHeld ?_ ?_
              rotate_left
              · intro w' hS_
                obtain ⟨s0_, s1_⟩ := hS_
                go_simp
                with_reducible rfl
              rotate_left
              · simp only [Act.put, List.setIfInBounds_toArray, List.set_cons_zero, List.set_cons_succ, i64_w, i32_w]
                rfl
              refine one_ (i := 16) (N := some 174) #[true, true, true, true, true, true, true, true, true, true, true, true, true, true, true, true, true, true, true, true, false, false, false, false] rfl rfl (by kernel_rfl) (by decide) (fun K hK => ?_)
              refine goes_ Try.func13 (by kernel_rfl) rfl #[.pointer (some ⟨g, 0, none⟩), .int .i64 x5] ?hw rfl rfl ?hx ?_
              (case hw => exact wanted_on rfl rfl rfl rfl)
              (case hx => (try simp only [List.map_toArray, List.map_cons, List.map_nil]); first | done | rfl)
              refine (BK.lingersC 21 x5 KeLx4x9.out BeLx4x9.out HL2.out HLO.out).mono ?_
              rintro e wgx4x9x16 ⟨Agx4x9x16, kgx4x9x16, cgx4x9x16, rfl, hgx4x9x16, tgx4x9x16⟩
              have Kgx4x9x16 := Aside0.mk (BK.keep1 KeLx4x9.out tgx4x9x16 (by decide))
              have HGgx4x9x16 := Aside0.mk (show (row 37 k37).M wgx4x9x16 w.heap.size (fun k => cgx4x9x16 k = 21) lo (.slice Agx4x9x16 lo.length kgx4x9x16) from hgx4x9x16)
              have HXgx4x9x16 := Aside0.mk (tgx4x9x16.keep _ (blk) 9 _ _ (by decide) HXeLx4x9.out)
              have HFgx4x9x16 := Aside0.mk (tgx4x9x16.keep _ (blk) 30 _ _ (by decide) HFeLx4x9.out)
              have HIgx4x9x16 := Aside0.mk (tgx4x9x16.keep _ (row 64 k37) 31 _ _ (by decide) HIeLx4x9.out)
              have HOgx4x9x16 := Aside0.mk (tgx4x9x16.keep _ (row 64 k37) 32 _ _ (by decide) HOeLx4x9.out)
              have HLgx4x9x16 := Aside0.mk (tgx4x9x16.keep _ (row 37 k37) 20 _ _ (by decide) HLeLx4x9.out)
              have Bgx4x9x16 := Aside0.mk (tgx4x9x16.far BeLx4x9.out)
              clear hgx4x9x16 tgx4x9x16
              refine ⟨_, rfl, ?_⟩
              have hHeld := (show _ = some (Value.slice Ar l1.length kr) ∧ _ = some (Value.int IntKind.i64 x5) from ⟨blk_cell (blk_at HFgx4x9x16.out) 1, blk_cell (blk_at HXgx4x9x16.out) 4⟩)
              refine hK.out _ _ hHeld (fun hHeld => ?_)
              clear hK K
              refine norm_ (a' := ?_) ?_ ?_
              rotate_left
              · show Act.put _ (some 174) _ = _
                simp only [Act.put, List.setIfInBounds_toArray, List.set_cons_zero, List.set_cons_succ, i64_w, i32_w]
                rfl
              refine one_ (i := 20) (N := some 178) #[true, true, true, true, true, true, true, true, true, true, true, true, true, true, true, true, true, true, true, true, true, false, false, false] rfl rfl (by kernel_rfl) (by decide) (fun K hK => ?_)
              refine goes_ Try.func20 (by kernel_rfl) rfl #[.pointer (some ⟨gr, 0, none⟩), .int .i64 x5] ?hw rfl rfl ?hx ?_
              (case hw => exact wanted_on rfl rfl rfl rfl)
              (case hx => (try simp only [List.map_toArray, List.map_cons, List.map_nil]); first | done | rfl)
              refine (rlingers_calls x5 (blk_at HFgx4x9x16.out) (row_C HOgx4x9x16.out) HL2.out).mono ?_
              rintro e wqx4x9x16x20 ⟨vqx4x9x16x20, rfl, rqx4x9x16x20, bqx4x9x16x20⟩
              rw [HLO.out] at rqx4x9x16x20
              obtain ⟨cqx4x9x16x20, hqx4x9x16x20, tqx4x9x16x20⟩ := row_new (w0 := w) cgx4x9x16 22 (Kd.R_lower rqx4x9x16x20 (Below.size Bgx4x9x16.out)) bqx4x9x16x20 (Below.size Bgx4x9x16.out)
              obtain ⟨Aqx4x9x16x20, kqx4x9x16x20, rfl, -, -⟩ := row_reads hqx4x9x16x20
              have Kqx4x9x16x20 := Aside0.mk (BK.keep1 Kgx4x9x16.out tqx4x9x16x20 (by decide))
              have HQqx4x9x16x20 := Aside0.mk (show (row 64 k37).M wqx4x9x16x20 w.heap.size (fun k => cqx4x9x16x20 k = 22) lo (.slice Aqx4x9x16x20 lo.length kqx4x9x16x20) from hqx4x9x16x20)
              have HXqx4x9x16x20 := Aside0.mk (tqx4x9x16x20.keep _ (blk) 9 _ _ (by decide) HXgx4x9x16.out)
              have HFqx4x9x16x20 := Aside0.mk (tqx4x9x16x20.keep _ (blk) 30 _ _ (by decide) HFgx4x9x16.out)
              have HIqx4x9x16x20 := Aside0.mk (tqx4x9x16x20.keep _ (row 64 k37) 31 _ _ (by decide) HIgx4x9x16.out)
              have HOqx4x9x16x20 := Aside0.mk (tqx4x9x16x20.keep _ (row 64 k37) 32 _ _ (by decide) HOgx4x9x16.out)
              have HLqx4x9x16x20 := Aside0.mk (tqx4x9x16x20.keep _ (row 37 k37) 20 _ _ (by decide) HLgx4x9x16.out)
              have HGqx4x9x16x20 := Aside0.mk (tqx4x9x16x20.keep _ (row 37 k37) 21 _ _ (by decide) HGgx4x9x16.out)
              have Bqx4x9x16x20 := Aside0.mk (tqx4x9x16x20.far Bgx4x9x16.out)
              clear rqx4x9x16x20 bqx4x9x16x20 hqx4x9x16x20 tqx4x9x16x20
              refine ⟨_, rfl, ?_⟩
              have hHeld := (show _ = some (Value.slice Ar l1.length kr) ∧ _ = some (Value.int IntKind.i64 x5) from ⟨blk_cell (blk_at HFqx4x9x16x20.out) 1, blk_cell (blk_at HXqx4x9x16x20.out) 4⟩)
              refine hK.out _ _ hHeld (fun hHeld => ?_)
              clear hK K
              refine norm_ (a' := ?_) ?_ ?_
              rotate_left
              · show Act.put _ (some 178) _ = _
                simp only [Act.put, List.setIfInBounds_toArray, List.set_cons_zero, List.set_cons_succ, i64_w, i32_w]
                rfl
              refine one_ (i := 21) (N := some 179) #[true, true, true, true, true, true, true, true, true, true, true, true, true, true, true, true, true, true, true, true, true, true, false, false] rfl rfl (by kernel_rfl) (by decide) (fun K hK => ?_)
              refine goes_ Try.func19 (by kernel_rfl) rfl #[.slice Agx4x9x16 lo.length kgx4x9x16, .slice Aqx4x9x16x20 lo.length kqx4x9x16x20] ?hw rfl rfl ?hx ?_
              (case hw => exact wanted_on rfl rfl rfl rfl)
              (case hx => (try simp only [List.map_toArray, List.map_cons, List.map_nil]); first | done | rfl)
              refine (entries_same (row_C HGqx4x9x16x20.out) (row_le HGqx4x9x16x20.out) (row_C HQqx4x9x16x20.out) (row_le HQqx4x9x16x20.out) HL3.out).mono ?_
              rintro e weGx4x9x16x20x21 ⟨rfl, hbeGx4x9x16x20x21⟩
              have KeGx4x9x16x20x21 := Aside0.mk (BK.below Kqx4x9x16x20.out hbeGx4x9x16x20x21)
              have HXeGx4x9x16x20x21 := Aside0.mk (St.below (s := blk) HXqx4x9x16x20.out hbeGx4x9x16x20x21)
              have HFeGx4x9x16x20x21 := Aside0.mk (St.below (s := blk) HFqx4x9x16x20.out hbeGx4x9x16x20x21)
              have HIeGx4x9x16x20x21 := Aside0.mk (St.below (s := row 64 k37) HIqx4x9x16x20.out hbeGx4x9x16x20x21)
              have HOeGx4x9x16x20x21 := Aside0.mk (St.below (s := row 64 k37) HOqx4x9x16x20.out hbeGx4x9x16x20x21)
              have HLeGx4x9x16x20x21 := Aside0.mk (St.below (s := row 37 k37) HLqx4x9x16x20.out hbeGx4x9x16x20x21)
              have HGeGx4x9x16x20x21 := Aside0.mk (St.below (s := row 37 k37) HGqx4x9x16x20.out hbeGx4x9x16x20x21)
              have HQeGx4x9x16x20x21 := Aside0.mk (St.below (s := row 64 k37) HQqx4x9x16x20.out hbeGx4x9x16x20x21)
              have BeGx4x9x16x20x21 := Aside0.mk (Below.trans Bqx4x9x16x20.out (Below.mono hbeGx4x9x16x20x21 (Below.size Bqx4x9x16x20.out)))
              clear hbeGx4x9x16x20x21
              refine ⟨_, rfl, ?_⟩
              have hHeld := (show _ = some (Value.slice Ar l1.length kr) ∧ _ = some (Value.int IntKind.i64 x5) from ⟨blk_cell (blk_at HFeGx4x9x16x20x21.out) 1, blk_cell (blk_at HXeGx4x9x16x20x21.out) 4⟩)
              refine hK.out _ _ hHeld (fun hHeld => ?_)
              clear hK K
              refine norm_ (a' := ?_) ?_ ?_
              rotate_left
              · show Act.put _ (some 179) _ = _
                simp only [Act.put, List.setIfInBounds_toArray, List.set_cons_zero, List.set_cons_succ, i64_w, i32_w]
                rfl
              refine pure_ (i := 22) (N := some 180) (v := ?_) (a' := ?_) #[true, true, true, true, true, true, true, true, true, true, true, true, true, true, true, true, true, true, true, true, true, true, true, false] rfl rfl (by kernel_rfl) (fun _ _ _ h => h) (Or.inl ⟨wanted_on rfl rfl rfl rfl, ?_⟩) ?_ ?_
              rotate_left
              · intro w'
                go_simp
                with_reducible rfl
              rotate_left
              · simp only [Act.put, List.setIfInBounds_toArray, List.set_cons_zero, List.set_cons_succ, i64_w, i32_w]
                rfl
              refine pure_ (i := 23) (N := some 181) (v := ?_) (a' := ?_) #[true, true, true, true, true, true, true, true, true, true, true, true, true, true, true, true, true, true, true, true, true, true, true, true] rfl rfl (by kernel_rfl) (fun _ _ _ h => h) (Or.inl ⟨by rfl, ?_⟩) ?_ ?_
              rotate_left
              · intro w'
                go_simp
                with_reducible rfl
              rotate_left
              · simp only [Act.put, List.setIfInBounds_toArray, List.set_cons_zero, List.set_cons_succ, i64_w, i32_w]
                rfl
              refine done_ (by kernel_rfl) ?_
              go_wp2
              go_roundw
              case rel => exact ⟨j + 1, cqx4x9x16x20, l1, l2, by omega, by go_num, KeGx4x9x16x20x21.out, ⟨_, _, _, _, HFeGx4x9x16x20x21.out, HIeGx4x9x16x20x21.out, HOeGx4x9x16x20x21.out⟩, HID.out, BeGx4x9x16x20x21.out⟩
              case measure => simp [intOf]; omega
      · have pj : decide ((j : Int) < (l.length : Int)) = false := decide_eq_false (by omega)
        have pjn : decide (j < l.length) = false := decide_eq_false hlt
        go_wp2
        go_ret
        exact ⟨rfl, BZ.out⟩
end Go.Proofs.Ytmjodeijafoabaa.Admit
