/- Admit: AdmitAsks: who is told it may come in comes in; who is told not, does not, for the same reason (the walk) (no law is stated here; each says its conditions). -/
import Derived.Test.YtmjodeijafoabaaSt
import Derived.Test.YtmjodeijafoabaaReg
import Derived.Test.YtmjodeijafoabaaQt
import Derived.Test.YtmjodeijafoabaaAdI
namespace Go.Proofs.Ytmjodeijafoabaa.Admit
open Go.RowKit Go.Proofs.YtmjodeijafoabaaW.PrintWords Go.Proofs.YtmjodeijafoabaaW.PrintLast Go.Proofs.YtmjodeijafoabaaW.PrintMore Go.Proofs.Ytmjodeijafoabaa.St Go.Proofs.Ytmjodeijafoabaa.Q Go.Proofs.Ytmjodeijafoabaa.Pure
set_option linter.unusedVariables false
set_option linter.unusedSimpArgs false
attribute [local go_sem] max2_int min2_int max_two min_two max_three min_three max_four min_four

theorem read_act6 {w : World} {ad : Addr} {l : List (Int × Int × (Int × Int) × Int × Int)} (h : (Kd.pair (Kd.int .i64) (Kd.pair (Kd.int .i64) (Kd.pair (Kd.pair (Kd.int .i64) (Kd.int .i64)) (Kd.pair (Kd.int .i64) (Kd.int .i64))))).C w (some ad) l.length l) {j : Nat} (hj : j < l.length) {x1 x2 x3 x4 x5 x6 : Int} (hx : l.getD j (0, 0, (0, 0), 0, 0) = (x1, x2, (x3, x4), x5, x6)) :
    w.cell? (ad.add (j * 6)) = some (.int .i64 x1) ∧ w.cell? ⟨(ad.add (j * 6)).block, (ad.add (j * 6)).off + 1, none⟩ = some (.int .i64 x2) ∧ w.cell? ⟨(ad.add (j * 6)).block, (ad.add (j * 6)).off + 2, none⟩ = some (.int .i64 x3) ∧ w.cell? ⟨(ad.add (j * 6)).block, (ad.add (j * 6)).off + 2 + 1, none⟩ = some (.int .i64 x4) ∧ w.cell? ⟨(ad.add (j * 6)).block, (ad.add (j * 6)).off + 4, none⟩ = some (.int .i64 x5) ∧ w.cell? ⟨(ad.add (j * 6)).block, (ad.add (j * 6)).off + 5, none⟩ = some (.int .i64 x6) := by
  obtain ⟨ad', c, e, _, hK, hc0⟩ := Kd.C_get h (0, 0, (0, 0), 0, 0) (j : Int) (by omega) (by omega)
  cases e
  rw [Int.toNat_natCast] at hK hc0
  have hc : ∀ i u, c[i]? = some u → w.cell? (ad.add (j * 6 + i)) = some u := hc0
  rw [hx] at hK
  obtain ⟨_, _, rfl, rfl, _, _, rfl, rfl, _, _, rfl, ⟨_, _, rfl, rfl, rfl⟩, _, _, rfl, rfl, rfl⟩ := hK
  have h3 : w.cell? ⟨(ad.add (j * 6)).block, (ad.add (j * 6)).off + 3, none⟩ = some (.int .i64 x4) := by rw [← add_field _ _ 3 (by omega)]; exact hc 3 _ rfl
  exact ⟨hc 0 _ rfl, by rw [← add_field _ _ 1 (by omega)]; exact hc 1 _ rfl, by rw [← add_field _ _ 2 (by omega)]; exact hc 2 _ rfl, h3, by rw [← add_field _ _ 4 (by omega)]; exact hc 4 _ rfl, by rw [← add_field _ _ 5 (by omega)]; exact hc 5 _ rfl⟩
theorem some_ad6 {w : World} {A : Option Addr} {l : List (Int × Int × (Int × Int) × Int × Int)} (h : (Kd.pair (Kd.int .i64) (Kd.pair (Kd.int .i64) (Kd.pair (Kd.pair (Kd.int .i64) (Kd.int .i64)) (Kd.pair (Kd.int .i64) (Kd.int .i64))))).C w A l.length l) {j : Nat} (hj : j < l.length) : ∃ ad, A = some ad := by
  obtain ⟨ad, c, e, _⟩ := Kd.C_get h (0, 0, (0, 0), 0, 0) (j : Int) (by omega) (by omega)
  exact ⟨ad, e⟩
theorem enter_ask {m : Int} {l1 l2 : List S37} {id q p now : Int} (h : findE id l1 0 = -1) : enterV m l1 l2 id q p now = askV m l1 l2 q p now := by
  unfold enterV
  by_cases h1 : goodP q p = false ∨ now < 0
  · rw [if_pos h1]; unfold askV; rw [if_pos h1]
  · rw [if_neg h1, h, if_neg (by decide)]
theorem enter_there {m : Int} {l1 l2 : List S37} {id q p now : Int} (h : 0 ≤ findE id l1 0) : enterV m l1 l2 id q p now ≠ 0 := by
  unfold enterV
  by_cases h1 : goodP q p = false ∨ now < 0
  · rw [if_pos h1]; decide
  · rw [if_neg h1, if_pos h]; decide
theorem find_there {l : List S37} {id : Int} {k : Nat} (hk : k < l.length) (he : (l.getD k z4).f0 = id) : 0 ≤ findE id l 0 := by
  rcases find_cases id l 0 with ⟨j, _, h, _⟩ | ⟨_, h⟩
  · omega
  · exact absurd he (h k hk)
theorem find_no {l : List S37} {id : Int} (h : ∀ k, k < l.length → (l.getD k z4).f0 ≠ id) : findE id l 0 = -1 := by
  rcases find_cases id l 0 with ⟨j, hj, _, h2, _⟩ | ⟨h1, _⟩
  · exact absurd h2 (h j hj)
  · exact h1
/-- Time goes on. -/
def later (now x : Int) : Int := if 0 < x ∧ x < 1073741824 then now + x else now
def RelJ (w : World) (n : Nat) (m q p : Int) (g : Nat) (nv i : Value) (wr : World) : Prop :=
  ∃ (j : Nat) (c : Nat → Nat) (l1 l2 : List S37) (now : Int), j ≤ n ∧ i = .int .i64 (j : Int) ∧ nv = .int .i64 now ∧ 0 ≤ now ∧ now ≤ (j : Int) * 1073741824 ∧ BK w wr c 0 m l1 l2 g ∧ blk.M wr w.heap.size (fun k => c k = 9) (.cells #[.int .i64 q, .int .i64 p] 24 (0, 0)) (.pointer (some ⟨w.heap.size, 0, none⟩)) ∧ Inv l1 l2 j ∧ Below w.heap.size w wr
theorem nb_t {x : Int} (h : (decide (0 < x) && decide (x < 1073741824)) = true) : 0 < x ∧ x < 1073741824 := by rwa [Bool.and_eq_true, decide_eq_true_eq, decide_eq_true_eq] at h
theorem nb_f {x : Int} (h : (decide (0 < x) && decide (x < 1073741824)) = false) : ¬ (0 < x ∧ x < 1073741824) := by rw [Bool.and_eq_false_iff, decide_eq_false_iff_not, decide_eq_false_iff_not] at h; omega
set_option maxHeartbeats 16000000 in
set_option maxRecDepth 100000 in
theorem asks_walk (m : Int) (_ : (Lit.int .i64 m).wf = true) (A : Option Addr) (cap : Nat) (l : List (Int × Int × (Int × Int) × Int × Int)) {good : Int × Int × (Int × Int) × Int × Int → Prop} {w : World} (hr : (Kd.pair (Kd.int .i64) (Kd.pair (Kd.int .i64) (Kd.pair (Kd.pair (Kd.int .i64) (Kd.int .i64)) (Kd.pair (Kd.int .i64) (Kd.int .i64))))).C w A l.length l) (hc : l.length ≤ cap) (hg : ∀ a ∈ l, good a) (x : Int × Int) (_ : (Lit.int .i64 x.1).wf = true ∧ (Lit.int .i64 x.2).wf = true) (id : Int) (_ : (Lit.int .i64 id).wf = true) (_ : World) :
    Calls Try.prog 3 #[.int .i64 m, .slice A l.length cap, .agg #[.int .i64 x.1, .int .i64 x.2], .int .i64 id] w fun e w' => e = .returned (.bool true) ∧ Below w.heap.size w w' := by
  obtain ⟨q, p⟩ := x
  have HC := Aside0.mk hr
  clear hr hg
  by_cases hm : m < 1 ∨ 64 < m
  · have HM := Aside0.mk hm
    clear hm
    go_enter Try.func3, Try.ntmps3
    go_upto_region 1 with (fail)
    have hbx : Below w.heap.size w (w.alloc (.cells #[.int .i64 q, .int .i64 p] 24)) := below_alloc (Below.refl _ _) _
    have hX : (w.alloc (.cells #[.int .i64 q, .int .i64 p] 24)).heap[w.heap.size]? = some (.cells #[.int .i64 q, .int .i64 p] 24 (0, 0)) := by simpa using heap_alloc_new w _
    obtain ⟨c1, h1, t1⟩ := blk_new1 (w0 := w) (fun _ => 99) 9 (Nat.le_refl _) hX hbx (Nat.le_refl _)
    have X1 := Aside0.mk h1
    have B1 := Aside0.mk hbx
    clear h1 t1 hX hbx
    generalize w.alloc (.cells #[.int .i64 q, .int .i64 p] 24) = w1 at X1 B1 ⊢
    go_wp2_with (first | (go_at_call 7; (with_reducible refine (awake_calls _).mono ?_); rintro e w2 ⟨rfl, hb2⟩; have X2 := Aside0.mk (St.below (s := blk) X1.out hb2); have B2 := Aside0.mk (Below.trans B1.out (Below.mono hb2 (Below.size B1.out))); clear hb2) | (go_at_call 8; (with_reducible refine (new_bad m _ HM.out).mono ?_); rintro e w3 ⟨rfl, rfl⟩))
    go_ret
    exact ⟨rfl, B2.out⟩
  have HM := Aside0.mk (show 1 ≤ m ∧ m ≤ 64 from by omega)
  clear hm
  by_cases hl : 40 < l.length
  · have d1 : decide (40 < l.length) = true := decide_eq_true hl
    have d2 : decide ((40 : Int) < (l.length : Int)) = true := decide_eq_true (by omega)
    clear hl
    go_enter Try.func3, Try.ntmps3
    go_upto_region 1 with (fail)
    have hbx : Below w.heap.size w (w.alloc (.cells #[.int .i64 q, .int .i64 p] 24)) := below_alloc (Below.refl _ _) _
    have hX : (w.alloc (.cells #[.int .i64 q, .int .i64 p] 24)).heap[w.heap.size]? = some (.cells #[.int .i64 q, .int .i64 p] 24 (0, 0)) := by simpa using heap_alloc_new w _
    obtain ⟨c1, h1, t1⟩ := blk_new1 (w0 := w) (fun _ => 99) 9 (Nat.le_refl _) hX hbx (Nat.le_refl _)
    have X1 := Aside0.mk h1
    have B1 := Aside0.mk hbx
    clear h1 t1 hX hbx
    generalize w.alloc (.cells #[.int .i64 q, .int .i64 p] 24) = w1 at X1 B1 ⊢
    go_wp2_with (first | (go_at_call 7; (with_reducible refine (awake_calls _).mono ?_); rintro e w2 ⟨rfl, hb2⟩; have X2 := Aside0.mk (St.below (s := blk) X1.out hb2); have B2 := Aside0.mk (Below.trans B1.out (Below.mono hb2 (Below.size B1.out))); clear hb2) | (go_at_call 8; (with_reducible refine (new_ok (w0 := w) c1 0 m HM.out B2.out).mono ?_); rintro e w3 ⟨g, rfl, c3, h3, t3⟩; have H3 := Aside0.mk h3; have X3 := Aside0.mk (t3.keep _ blk 9 _ _ (by decide) X2.out); have B3 := Aside0.mk (t3.far B2.out); clear h3 t3))
    go_ret
    exact ⟨rfl, B3.out⟩
  · have d1 : decide (40 < l.length) = false := decide_eq_false hl
    have d2 : decide ((40 : Int) < (l.length : Int)) = false := decide_eq_false (by omega)
    have HL := Aside0.mk (show l.length ≤ 40 from by omega)
    clear hl
    go_enter Try.func3, Try.ntmps3
    go_upto_region 1 with (fail)
    have hbx : Below w.heap.size w (w.alloc (.cells #[.int .i64 q, .int .i64 p] 24)) := below_alloc (Below.refl _ _) _
    have hX : (w.alloc (.cells #[.int .i64 q, .int .i64 p] 24)).heap[w.heap.size]? = some (.cells #[.int .i64 q, .int .i64 p] 24 (0, 0)) := by simpa using heap_alloc_new w _
    obtain ⟨c1, h1, t1⟩ := blk_new1 (w0 := w) (fun _ => 99) 9 (Nat.le_refl _) hX hbx (Nat.le_refl _)
    have X1 := Aside0.mk h1
    have B1 := Aside0.mk hbx
    clear h1 t1 hX hbx
    generalize w.alloc (.cells #[.int .i64 q, .int .i64 p] 24) = w1 at X1 B1 ⊢
    go_wp2_with (first | (go_at_call 7; (with_reducible refine (awake_calls _).mono ?_); rintro e w2 ⟨rfl, hb2⟩; have X2 := Aside0.mk (St.below (s := blk) X1.out hb2); have B2 := Aside0.mk (Below.trans B1.out (Below.mono hb2 (Below.size B1.out))); clear hb2) | (go_at_call 8; (with_reducible refine (new_ok (w0 := w) c1 0 m HM.out B2.out).mono ?_); rintro e w3 ⟨g, rfl, c3, h3, t3⟩; have H3 := Aside0.mk h3; have X3 := Aside0.mk (t3.keep _ blk 9 _ _ (by decide) X2.out); have B3 := Aside0.mk (t3.far B2.out); clear h3 t3))
    go_loopw [11, 12] (fun nv i wr => RelJ w l.length m q p g nv i wr) (fun _ i _ => l.length - (intOf i).toNat)
    case atStart => exact ⟨0, c3, [], [], 0, Nat.zero_le _, rfl, rfl, Int.le_refl _, by decide, H3.out, X3.out, inv_new, B3.out⟩
    case round =>
      as_aux_lemma =>
      obtain ⟨j, c, l1, l2, now, hj, rfl, rfl, hn0, hn1, hH, hX, hI, hB⟩ := hrel
      have HZ := Aside0.mk hH
      have XZ := Aside0.mk hX
      have HI := Aside0.mk hI
      have BZ := Aside0.mk hB
      have hj40 : j ≤ 40 := by have := HL.out; omega
      have HJ := Aside0.mk (show j ≤ 900 from by omega)
      have HNW := Aside0.mk (show 0 ≤ now ∧ now ≤ 42949672960 from ⟨hn0, by omega⟩)
      have HN1 := Aside0.mk hn1
      clear hH hX hI hB H3 X3 B1 B2 B3 X1 X2 hn0 hn1
      by_cases hlt : j < l.length
      · obtain ⟨ad, hAd⟩ := some_ad6 HC.out hlt
        subst hAd
        obtain ⟨x1, x2, ⟨x3, x4⟩, x5, x6, hx⟩ : ∃ x1 x2 x34 x5 x6, l.getD j (0, 0, (0, 0), 0, 0) = (x1, x2, x34, x5, x6) := ⟨_, _, _, _, _, rfl⟩
        obtain ⟨a0, a1, a2, a3, a4, a5⟩ := read_act6 (Kd.C_below HC.out BZ.out) hlt hx
        have HX := Aside0.mk hx
        clear hx
        have bq : (0 ≤ (j : Int) ∧ (j : Int) < (l.length : Int)) := by omega
        have pj : decide ((j : Int) < (l.length : Int)) = true := decide_eq_true (by omega)
        obtain ⟨nb, hnb⟩ : ∃ nb, (decide (0 < x5) && decide (x5 < 1073741824)) = nb := ⟨_, rfl⟩
        have NB := Aside0.mk hnb
        obtain ⟨now2, hn2⟩ : ∃ now2, later now x5 = now2 := ⟨_, rfl⟩
        have HN3 := Aside0.mk hn2
        have HN2 := Aside0.mk (show 0 ≤ now2 ∧ now2 ≤ ((j : Int) + 1) * 1073741824 from by rw [← hn2]; have := HNW.out; have := HN1.out; unfold later; split <;> omega)
        clear hnb hn2
        go_upto_region 10 with (fail)
        go_cut [51] from 38 to 50 (fun a wd => wd = wr ∧ a = .bool nb)
        case first =>
          by_cases h1 : 0 < x5
          · have d1 : decide (0 < x5) = true := decide_eq_true h1
            by_cases h2 : x5 < 1073741824
            · have d2 : decide (x5 < 1073741824) = true := decide_eq_true h2
              have HE := Aside0.mk (show nb = true from by rw [← NB.out, d1, d2]; rfl)
              clear h1 h2
              go_wp2
              go_meet
              exact ⟨rfl, by rw [HE.out]⟩
            · have d2 : decide (x5 < 1073741824) = false := decide_eq_false h2
              have HE := Aside0.mk (show nb = false from by rw [← NB.out, d1, d2]; rfl)
              clear h1 h2
              go_wp2
              go_meet
              exact ⟨rfl, by rw [HE.out]⟩
          · have d1 : decide (0 < x5) = false := decide_eq_false h1
            have HE := Aside0.mk (show nb = false from by rw [← NB.out, d1]; rfl)
            clear h1
            go_wp2
            go_meet
            exact ⟨rfl, by rw [HE.out]⟩
        case rest =>
          obtain ⟨hwd, rfl⟩ := hcut
          subst hwd
          go_upto_if 51 with (fail)
          go_cut [11] from 52 to 58 (fun a we => we = wc ∧ a = .int .i64 now2)
          case first =>
            cases nb with
            | true =>
              have HT := Aside0.mk (show now2 = now + x5 from by rw [← HN3.out]; unfold later; rw [if_pos (nb_t NB.out)])
              have hw : wrap64 (now + x5) = now + x5 := by have := nb_t NB.out; have := HNW.out; unfold wrap64; omega
              have HWW := Aside0.mk hw
              go_wp2
              go_meet
              exact ⟨rfl, by rw [HWW.out, HT.out]⟩
            | false =>
              have HT := Aside0.mk (show now2 = now from by rw [← HN3.out]; unfold later; rw [if_neg (nb_f NB.out)])
              go_wp2
              go_meet
              exact ⟨rfl, by rw [HT.out]⟩
          case rest =>
            obtain ⟨hwe, rfl⟩ := hcut
            subst hwe
            by_cases hop : x1 = 0
            · have po : (x1 == 0) = true := beq_iff_eq.2 hop
              clear hop
              go_upto_region 13 with (fail)
              obtain ⟨w20, hw20⟩ : ∃ w20 : World, wc.drew = w20 := ⟨_, rfl⟩
              have hb20 : Below wc.heap.size wc w20 := by rw [← hw20]; exact below_drew (Below.refl _ _)
              have B20 := Aside0.mk (Below.trans BZ.out (Below.mono hb20 (Below.size BZ.out)))
              have H20 := Aside0.mk (HZ.out.below hb20)
              have X20 := Aside0.mk (St.below (s := blk) XZ.out hb20)
              clear hb20
              refine start_ (n := 13) (S := fun w' => w'.cell? (ad.add (j * 6)) = some (.int .i64 x1) ∧ w'.cell? ⟨(ad.add (j * 6)).block, (ad.add (j * 6)).off + 1, none⟩ = some (.int .i64 x2) ∧ w'.cell? ⟨(ad.add (j * 6)).block, (ad.add (j * 6)).off + 2, none⟩ = some (.int .i64 x3) ∧ w'.cell? ⟨(ad.add (j * 6)).block, (ad.add (j * 6)).off + 2 + 1, none⟩ = some (.int .i64 x4) ∧ w'.cell? ⟨(ad.add (j * 6)).block, (ad.add (j * 6)).off + 4, none⟩ = some (.int .i64 x5) ∧ w'.cell? ⟨(ad.add (j * 6)).block, (ad.add (j * 6)).off + 5, none⟩ = some (.int .i64 x6)) (ds := []) #[false, false, false, false, false, false, false, false, false, false, false, false, false] (by kernel_rfl) rfl rfl (by rw [hw20]; exact read_act6 (Kd.C_below HC.out B20.out) hlt HX.out) (fun hHeld => ?_)
              refine pure_ (i := 0) (N := some 65) (v := ?_) (a' := ?_) #[true, false, false, false, false, false, false, false, false, false, false, false, false] rfl rfl (by kernel_rfl) (fun _ _ _ h => h) (Or.inl ⟨by rfl, ?_⟩) ?_ ?_
              rotate_left
              · intro w'
                go_simp
                with_reducible rfl
              rotate_left
              · simp only [Act.put, List.setIfInBounds_toArray, List.set_cons_zero, List.set_cons_succ, i64_w, i32_w]
                rfl
              refine pure_ (i := 1) (N := some 66) (v := ?_) (a' := ?_) #[true, true, false, false, false, false, false, false, false, false, false, false, false] rfl rfl (by kernel_rfl) (fun _ _ _ h => h) (Or.inl ⟨by rfl, ?_⟩) ?_ ?_
              rotate_left
              · intro w'
                go_simp
                with_reducible rfl
              rotate_left
              · simp only [Act.put, List.setIfInBounds_toArray, List.set_cons_zero, List.set_cons_succ, i64_w, i32_w]
                rfl
              refine pure_ (i := 2) (N := some 67) (v := ?_) (a' := ?_) #[true, true, true, false, false, false, false, false, false, false, false, false, false] rfl rfl (by kernel_rfl) (fun _ _ _ h => h) (Or.inl ⟨by rfl, ?_⟩) ?_ ?_
              rotate_left
              · intro w'
                go_simp
                with_reducible rfl
              rotate_left
              · simp only [Act.put, List.setIfInBounds_toArray, List.set_cons_zero, List.set_cons_succ, i64_w, i32_w]
                rfl
              refine pure_ (i := 3) (N := some 68) (v := ?_) (a' := ?_) #[true, true, true, true, false, false, false, false, false, false, false, false, false] rfl rfl (by kernel_rfl) (fun _ _ _ h => h) (Or.inl ⟨by rfl, ?_⟩) ?_ ?_
              rotate_left
              · intro w'
                go_simp
                with_reducible rfl
              rotate_left
              · simp only [Act.put, List.setIfInBounds_toArray, List.set_cons_zero, List.set_cons_succ, i64_w, i32_w]
                rfl
              refine pure_ (i := 4) (N := some 69) (v := ?_) (a' := ?_) #[true, true, true, true, true, false, false, false, false, false, false, false, false] rfl rfl (by kernel_rfl) (fun _ _ _ h => h) (Or.inl ⟨by rfl, ?_⟩) ?_ ?_
              rotate_left
              · intro w'
                go_simp
                with_reducible rfl
              rotate_left
              · simp only [Act.put, List.setIfInBounds_toArray, List.set_cons_zero, List.set_cons_succ, i64_w, i32_w]
                rfl
              refine take_ (i := 5) (N := some 70) (v := ?_) (a' := ?_) #[true, true, true, true, true, true, false, false, false, false, false, false, false] rfl rfl (by kernel_rfl) (fun _ _ _ h => h) (Or.inl ⟨by rfl, ?_⟩) hHeld ?_ ?_
              rotate_left
              · intro w' hS_
                obtain ⟨s0_, s1_, s2_, s3_, s4_, s5_⟩ := hS_
                go_simp
                with_reducible rfl
              rotate_left
              · simp only [Act.put, List.setIfInBounds_toArray, List.set_cons_zero, List.set_cons_succ, i64_w, i32_w]
                rfl
              refine pure_ (i := 6) (N := some 71) (v := ?_) (a' := ?_) #[true, true, true, true, true, true, true, false, false, false, false, false, false] rfl rfl (by kernel_rfl) (fun _ _ _ h => h) (Or.inl ⟨by rfl, ?_⟩) ?_ ?_
              rotate_left
              · intro w'
                go_simp
                with_reducible rfl
              rotate_left
              · simp only [Act.put, List.setIfInBounds_toArray, List.set_cons_zero, List.set_cons_succ, i64_w, i32_w]
                rfl
              refine pure_ (i := 7) (N := some 72) (v := ?_) (a' := ?_) #[true, true, true, true, true, true, true, true, false, false, false, false, false] rfl rfl (by kernel_rfl) (fun _ _ _ h => h) (Or.inl ⟨by rfl, ?_⟩) ?_ ?_
              rotate_left
              · intro w'
                go_simp
                with_reducible rfl
              rotate_left
              · simp only [Act.put, List.setIfInBounds_toArray, List.set_cons_zero, List.set_cons_succ, i64_w, i32_w]
                rfl
              refine pure_ (i := 8) (N := some 73) (v := ?_) (a' := ?_) #[true, true, true, true, true, true, true, true, true, false, false, false, false] rfl rfl (by kernel_rfl) (fun _ _ _ h => h) (Or.inl ⟨by rfl, ?_⟩) ?_ ?_
              rotate_left
              · intro w'
                go_simp
                with_reducible rfl
              rotate_left
              · simp only [Act.put, List.setIfInBounds_toArray, List.set_cons_zero, List.set_cons_succ, i64_w, i32_w]
                rfl
              refine pure_ (i := 9) (N := some 74) (v := ?_) (a' := ?_) #[true, true, true, true, true, true, true, true, true, true, false, false, false] rfl rfl (by kernel_rfl) (fun _ _ _ h => h) (Or.inl ⟨by rfl, ?_⟩) ?_ ?_
              rotate_left
              · intro w'
                go_simp
                with_reducible rfl
              rotate_left
              · simp only [Act.put, List.setIfInBounds_toArray, List.set_cons_zero, List.set_cons_succ, i64_w, i32_w]
                rfl
              refine take_ (i := 10) (N := some 75) (v := ?_) (a' := ?_) #[true, true, true, true, true, true, true, true, true, true, true, false, false] rfl rfl (by kernel_rfl) (fun _ _ _ h => h) (Or.inl ⟨by rfl, ?_⟩) hHeld ?_ ?_
              rotate_left
              · intro w' hS_
                obtain ⟨s0_, s1_, s2_, s3_, s4_, s5_⟩ := hS_
                go_simp
                with_reducible rfl
              rotate_left
              · simp only [Act.put, List.setIfInBounds_toArray, List.set_cons_zero, List.set_cons_succ, i64_w, i32_w]
                rfl
              refine pure_ (i := 11) (N := some 76) (v := ?_) (a' := ?_) #[true, true, true, true, true, true, true, true, true, true, true, true, false] rfl rfl (by kernel_rfl) (fun _ _ _ h => h) (Or.inl ⟨by rfl, ?_⟩) ?_ ?_
              rotate_left
              · intro w'
                go_simp
                with_reducible rfl
              rotate_left
              · simp only [Act.put, List.setIfInBounds_toArray, List.set_cons_zero, List.set_cons_succ, i64_w, i32_w]
                rfl
              refine one_ (i := 12) (N := some 77) #[true, true, true, true, true, true, true, true, true, true, true, true, true] rfl rfl (by kernel_rfl) (by decide) (fun K hK => ?_)
              refine goes_ Try.func9 (by kernel_rfl) rfl #[.pointer (some ⟨g, 0, none⟩), .int .i64 x2, .agg #[.int .i64 x3, .int .i64 x4], .int .i64 now2] ?hw rfl rfl ?hx ?_
              (case hw => rfl)
              (case hx => (try simp only [List.map_toArray, List.map_cons, List.map_nil]); first | done | rfl)
              rw [hw20]
              refine (BK.enter x2 x3 x4 now2 H20.out B20.out HI.out HJ.out HM.out rfl rfl).mono ?_
              rintro e w21 ⟨rfl, c21, h21, t21⟩
              have H21 := Aside0.mk h21
              have X21 := Aside0.mk (t21.keep _ blk 9 _ _ (by decide) X20.out)
              have B21 := Aside0.mk (t21.far B20.out)
              clear h21 t21
              refine ⟨_, rfl, ?_⟩
              have hHeld := read_act6 (Kd.C_below HC.out B21.out) hlt HX.out
              refine hK.out _ _ hHeld (fun hHeld => ?_)
              clear hK K
              refine norm_ (a' := ?_) ?_ ?_
              rotate_left
              · show Act.put _ (some 77) _ = _
                simp only [Act.put, List.setIfInBounds_toArray, List.set_cons_zero, List.set_cons_succ, i64_w, i32_w]
                rfl
              refine done_ (by kernel_rfl) ?_
              go_wp2
              go_roundw
              case rel => exact ⟨j + 1, c21, _, l2, now2, by omega, by go_num, rfl, HN2.out.1, by have := HN2.out.2; omega, H21.out, X21.out, (HI.out.enter x2 x3 x4 now2).more, B21.out⟩
              case measure => simp [intOf]; omega
            have po : (x1 == 0) = false := beq_eq_false_iff_ne.2 hop
            clear hop
            by_cases h6 : 0 ≤ x6
            rotate_left
            · have d6 : decide (0 ≤ x6) = false := decide_eq_false h6
              clear h6
              go_wp2
              go_roundw
              case rel => exact ⟨j + 1, c, l1, l2, now2, by omega, by go_num, rfl, HN2.out.1, by have := HN2.out.2; omega, HZ.out, XZ.out, HI.out.more, BZ.out⟩
              case measure => simp [intOf]; omega
            have d6 : decide (0 ≤ x6) = true := decide_eq_true h6
            by_cases h7 : x6 < 1099511627776
            rotate_left
            · have d7 : decide (x6 < 1099511627776) = false := decide_eq_false h7
              clear h6 h7
              go_wp2
              go_roundw
              case rel => exact ⟨j + 1, c, l1, l2, now2, by omega, by go_num, rfl, HN2.out.1, by have := HN2.out.2; omega, HZ.out, XZ.out, HI.out.more, BZ.out⟩
              case measure => simp [intOf]; omega
            have d7 : decide (x6 < 1099511627776) = true := decide_eq_true h7
            have hwt : wrap64 (now2 + x6) = now2 + x6 := by have := HN2.out; unfold wrap64; omega
            have HWT := Aside0.mk hwt
            clear h6 h7 hwt
            go_upto_region 15 with (fail)
            obtain ⟨w20, hw20⟩ : ∃ w20 : World, wc.drew = w20 := ⟨_, rfl⟩
            have hb20 : Below wc.heap.size wc w20 := by rw [← hw20]; exact below_drew (Below.refl _ _)
            have B20 := Aside0.mk (Below.trans BZ.out (Below.mono hb20 (Below.size BZ.out)))
            have H20 := Aside0.mk (HZ.out.below hb20)
            have X20 := Aside0.mk (St.below (s := blk) XZ.out hb20)
            clear hb20
            refine start_ (n := 15) (S := fun w' => w'.cell? (ad.add (j * 6)) = some (.int .i64 x1) ∧ w'.cell? ⟨(ad.add (j * 6)).block, (ad.add (j * 6)).off + 1, none⟩ = some (.int .i64 x2) ∧ w'.cell? ⟨(ad.add (j * 6)).block, (ad.add (j * 6)).off + 2, none⟩ = some (.int .i64 x3) ∧ w'.cell? ⟨(ad.add (j * 6)).block, (ad.add (j * 6)).off + 2 + 1, none⟩ = some (.int .i64 x4) ∧ w'.cell? ⟨(ad.add (j * 6)).block, (ad.add (j * 6)).off + 4, none⟩ = some (.int .i64 x5) ∧ w'.cell? ⟨(ad.add (j * 6)).block, (ad.add (j * 6)).off + 5, none⟩ = some (.int .i64 x6)) (ds := []) #[false, false, false, false, false, false, false, false, false, false, false, false, false, false, false] (by kernel_rfl) rfl rfl (by rw [hw20]; exact read_act6 (Kd.C_below HC.out B20.out) hlt HX.out) (fun hHeld => ?_)
            refine pure_ (i := 0) (N := some 92) (v := ?_) (a' := ?_) #[true, false, false, false, false, false, false, false, false, false, false, false, false, false, false] rfl rfl (by kernel_rfl) (fun _ _ _ h => h) (Or.inl ⟨by rfl, ?_⟩) ?_ ?_
            rotate_left
            · intro w'
              go_simp
              with_reducible rfl
            rotate_left
            · simp only [Act.put, List.setIfInBounds_toArray, List.set_cons_zero, List.set_cons_succ, i64_w, i32_w]
              rfl
            refine pure_ (i := 1) (N := some 93) (v := ?_) (a' := ?_) #[true, true, false, false, false, false, false, false, false, false, false, false, false, false, false] rfl rfl (by kernel_rfl) (fun _ _ _ h => h) (Or.inl ⟨by rfl, ?_⟩) ?_ ?_
            rotate_left
            · intro w'
              go_simp
              with_reducible rfl
            rotate_left
            · simp only [Act.put, List.setIfInBounds_toArray, List.set_cons_zero, List.set_cons_succ, i64_w, i32_w]
              rfl
            refine pure_ (i := 2) (N := some 94) (v := ?_) (a' := ?_) #[true, true, true, false, false, false, false, false, false, false, false, false, false, false, false] rfl rfl (by kernel_rfl) (fun _ _ _ h => h) (Or.inl ⟨by rfl, ?_⟩) ?_ ?_
            rotate_left
            · intro w'
              go_simp
              with_reducible rfl
            rotate_left
            · simp only [Act.put, List.setIfInBounds_toArray, List.set_cons_zero, List.set_cons_succ, i64_w, i32_w]
              rfl
            refine pure_ (i := 3) (N := some 95) (v := ?_) (a' := ?_) #[true, true, true, true, false, false, false, false, false, false, false, false, false, false, false] rfl rfl (by kernel_rfl) (fun _ _ _ h => h) (Or.inl ⟨by rfl, ?_⟩) ?_ ?_
            rotate_left
            · intro w'
              go_simp
              with_reducible rfl
            rotate_left
            · simp only [Act.put, List.setIfInBounds_toArray, List.set_cons_zero, List.set_cons_succ, i64_w, i32_w]
              rfl
            refine pure_ (i := 4) (N := some 96) (v := ?_) (a' := ?_) #[true, true, true, true, true, false, false, false, false, false, false, false, false, false, false] rfl rfl (by kernel_rfl) (fun _ _ _ h => h) (Or.inl ⟨by rfl, ?_⟩) ?_ ?_
            rotate_left
            · intro w'
              go_simp
              with_reducible rfl
            rotate_left
            · simp only [Act.put, List.setIfInBounds_toArray, List.set_cons_zero, List.set_cons_succ, i64_w, i32_w]
              rfl
            refine take_ (i := 5) (N := some 97) (v := ?_) (a' := ?_) #[true, true, true, true, true, true, false, false, false, false, false, false, false, false, false] rfl rfl (by kernel_rfl) (fun _ _ _ h => h) (Or.inl ⟨by rfl, ?_⟩) hHeld ?_ ?_
            rotate_left
            · intro w' hS_
              obtain ⟨s0_, s1_, s2_, s3_, s4_, s5_⟩ := hS_
              go_simp
              with_reducible rfl
            rotate_left
            · simp only [Act.put, List.setIfInBounds_toArray, List.set_cons_zero, List.set_cons_succ, i64_w, i32_w]
              rfl
            refine pure_ (i := 6) (N := some 98) (v := ?_) (a' := ?_) #[true, true, true, true, true, true, true, false, false, false, false, false, false, false, false] rfl rfl (by kernel_rfl) (fun _ _ _ h => h) (Or.inl ⟨by rfl, ?_⟩) ?_ ?_
            rotate_left
            · intro w'
              go_simp
              with_reducible rfl
            rotate_left
            · simp only [Act.put, List.setIfInBounds_toArray, List.set_cons_zero, List.set_cons_succ, i64_w, i32_w]
              rfl
            refine pure_ (i := 7) (N := some 99) (v := ?_) (a' := ?_) #[true, true, true, true, true, true, true, true, false, false, false, false, false, false, false] rfl rfl (by kernel_rfl) (fun _ _ _ h => h) (Or.inl ⟨by rfl, ?_⟩) ?_ ?_
            rotate_left
            · intro w'
              go_simp
              with_reducible rfl
            rotate_left
            · simp only [Act.put, List.setIfInBounds_toArray, List.set_cons_zero, List.set_cons_succ, i64_w, i32_w]
              rfl
            refine pure_ (i := 8) (N := some 100) (v := ?_) (a' := ?_) #[true, true, true, true, true, true, true, true, true, false, false, false, false, false, false] rfl rfl (by kernel_rfl) (fun _ _ _ h => h) (Or.inl ⟨by rfl, ?_⟩) ?_ ?_
            rotate_left
            · intro w'
              go_simp
              with_reducible rfl
            rotate_left
            · simp only [Act.put, List.setIfInBounds_toArray, List.set_cons_zero, List.set_cons_succ, i64_w, i32_w]
              rfl
            refine pure_ (i := 9) (N := some 101) (v := ?_) (a' := ?_) #[true, true, true, true, true, true, true, true, true, true, false, false, false, false, false] rfl rfl (by kernel_rfl) (fun _ _ _ h => h) (Or.inl ⟨by rfl, ?_⟩) ?_ ?_
            rotate_left
            · intro w'
              go_simp
              with_reducible rfl
            rotate_left
            · simp only [Act.put, List.setIfInBounds_toArray, List.set_cons_zero, List.set_cons_succ, i64_w, i32_w]
              rfl
            refine pure_ (i := 10) (N := some 102) (v := ?_) (a' := ?_) #[true, true, true, true, true, true, true, true, true, true, true, false, false, false, false] rfl rfl (by kernel_rfl) (fun _ _ _ h => h) (Or.inl ⟨by rfl, ?_⟩) ?_ ?_
            rotate_left
            · intro w'
              go_simp
              with_reducible rfl
            rotate_left
            · simp only [Act.put, List.setIfInBounds_toArray, List.set_cons_zero, List.set_cons_succ, i64_w, i32_w]
              rfl
            refine take_ (i := 11) (N := some 103) (v := ?_) (a' := ?_) #[true, true, true, true, true, true, true, true, true, true, true, true, false, false, false] rfl rfl (by kernel_rfl) (fun _ _ _ h => h) (Or.inl ⟨by rfl, ?_⟩) hHeld ?_ ?_
            rotate_left
            · intro w' hS_
              obtain ⟨s0_, s1_, s2_, s3_, s4_, s5_⟩ := hS_
              go_simp
              with_reducible rfl
            rotate_left
            · simp only [Act.put, List.setIfInBounds_toArray, List.set_cons_zero, List.set_cons_succ, i64_w, i32_w]
              rfl
            refine pure_ (i := 12) (N := some 104) (v := ?_) (a' := ?_) #[true, true, true, true, true, true, true, true, true, true, true, true, true, false, false] rfl rfl (by kernel_rfl) (fun _ _ _ h => h) (Or.inl ⟨by rfl, ?_⟩) ?_ ?_
            rotate_left
            · intro w'
              go_simp
              with_reducible rfl
            rotate_left
            · simp only [Act.put, List.setIfInBounds_toArray, List.set_cons_zero, List.set_cons_succ, i64_w, i32_w]
              rfl
            refine pure_ (i := 13) (N := some 105) (v := ?_) (a' := ?_) #[true, true, true, true, true, true, true, true, true, true, true, true, true, true, false] rfl rfl (by kernel_rfl) (fun _ _ _ h => h) (Or.inl ⟨by rfl, ?_⟩) ?_ ?_
            rotate_left
            · intro w'
              go_simp
              with_reducible rfl
            rotate_left
            · simp only [Act.put, List.setIfInBounds_toArray, List.set_cons_zero, List.set_cons_succ, i64_w, i32_w]
              rfl
            refine one_ (i := 14) (N := some 106) #[true, true, true, true, true, true, true, true, true, true, true, true, true, true, true] rfl rfl (by kernel_rfl) (by decide) (fun K hK => ?_)
            refine goes_ Try.func10 (by kernel_rfl) rfl #[.pointer (some ⟨g, 0, none⟩), .int .i64 x2, .int .i64 (wrap64 (now2 + x6)), .int .i64 now2] ?hw rfl rfl ?hx ?_
            (case hw => rfl)
            (case hx => (try simp only [List.map_toArray, List.map_cons, List.map_nil]); first | done | rfl)
            rw [HWT.out]
            rw [hw20]
            refine (BK.leave x2 (now2 + x6) now2 H20.out B20.out HI.out HJ.out).mono ?_
            rintro e w21 ⟨rfl, c21, h21, t21⟩
            have H21 := Aside0.mk h21
            have X21 := Aside0.mk (t21.keep _ blk 9 _ _ (by decide) X20.out)
            have B21 := Aside0.mk (t21.far B20.out)
            clear h21 t21
            refine ⟨_, rfl, ?_⟩
            have hHeld := read_act6 (Kd.C_below HC.out B21.out) hlt HX.out
            refine hK.out _ _ hHeld (fun hHeld => ?_)
            clear hK K
            refine norm_ (a' := ?_) ?_ ?_
            rotate_left
            · show Act.put _ (some 106) _ = _
              simp only [Act.put, List.setIfInBounds_toArray, List.set_cons_zero, List.set_cons_succ, i64_w, i32_w]
              rfl
            refine done_ (by kernel_rfl) ?_
            go_wp2
            go_roundw
            case rel => exact ⟨j + 1, c21, _, _, now2, by omega, by go_num, rfl, HN2.out.1, by have := HN2.out.2; omega, H21.out, X21.out, HI.out.leave x2 (now2 + x6) now2, B21.out⟩
            case measure => simp [intOf]; omega
      · have pj : decide ((j : Int) < (l.length : Int)) = false := decide_eq_false (by omega)
        have pjn : decide (j < l.length) = false := decide_eq_false hlt
        clear HNW HN1
        have hl32 : l1.length ≤ 32 := HI.out.1
        have HLL := Aside0.mk hl32
        go_upto_region 17 with (first | (go_at_call 11; (with_reducible refine (BK.live HZ.out (by have := HLL.out; omega)).mono ?_); rintro e w5 ⟨A5, k5, rfl, hc5, hb5⟩; have C5 := Aside0.mk hc5; have H5 := Aside0.mk (BK.below HZ.out hb5); have X5 := Aside0.mk (St.below (s := blk) XZ.out hb5); have B5 := Aside0.mk (Below.trans BZ.out (Below.mono hb5 (Below.size BZ.out))); clear hc5 hb5))
        go_wp2
        go_loop [14] (fun i => ∃ k : Nat, k ≤ l1.length ∧ i = .int .i64 (k : Int) ∧ Aside0 (∀ i, i < k → (l1.getD i z4).f0 ≠ id)) (fun i => l1.length - (intOf i).toNat)
        case atStart => exact ⟨0, Nat.zero_le _, rfl, ⟨fun i hi => absurd hi (Nat.not_lt_zero _)⟩⟩
        case round =>
          obtain ⟨k, hk, rfl, HNO⟩ := hrel
          have y0 := blk_cell (blk_at X5.out) 0
          have y1 := blk_cell (blk_at X5.out) 1
          by_cases hkl : k < l1.length
          · have pk : decide ((k : Int) < (l1.length : Int)) = true := decide_eq_true (by omega)
            have bk : (0 ≤ (k : Int) ∧ (k : Int) < (l1.length : Int)) := by omega
            obtain ⟨ae, hAe, e0, -, -, -⟩ := read_e C5.out hkl
            subst hAe
            obtain ⟨y, hy⟩ : ∃ y, (l1.getD k z4).f0 = y := ⟨_, rfl⟩
            rw [hy] at e0
            by_cases he : y = id
            · have pe : (y == id) = true := beq_iff_eq.2 he
              have HV := Aside0.mk (enter_there (m := m) (l2 := l2) (q := q) (p := p) (now := now) (find_there hkl (hy.trans he)))
              obtain ⟨ev, hev⟩ : ∃ ev, enterV m l1 l2 id q p now = ev := ⟨_, rfl⟩
              have HEV := Aside0.mk hev
              have pv : (ev != 0) = true := bne_iff_ne.2 (by rw [← hev]; exact HV.out)
              clear hy he hev
              go_wp2_with (first | (go_at_call 9; (with_reducible refine (BK.enter id q p now H5.out B5.out HI.out HJ.out HM.out HEV.out rfl).mono ?_); rintro e w6 ⟨rfl, c6, h6, t6⟩; have H6 := Aside0.mk h6; have X6 := Aside0.mk (t6.keep _ blk 9 _ _ (by decide) X5.out); have B6 := Aside0.mk (t6.far B5.out); clear h6 t6))
              go_ret
              exact ⟨rfl, B6.out⟩
            · have pe : (y == id) = false := beq_eq_false_iff_ne.2 he
              have HNO2 := Aside0.mk (show ∀ i, i < k + 1 → (l1.getD i z4).f0 ≠ id from fun i hi => by
                rcases Nat.lt_or_ge i k with h | h
                · exact HNO.out i h
                · rw [show i = k by omega, hy]; exact he)
              clear hy he
              go_wp2
              go_round
              case rel => exact ⟨k + 1, by omega, by go_num, HNO2⟩
              case measure => simp [intOf]; omega
          · have pk : decide ((k : Int) < (l1.length : Int)) = false := decide_eq_false (by omega)
            have HFN := Aside0.mk (find_no (l := l1) (id := id) (fun i hi => HNO.out i (by omega)))
            obtain ⟨av, hav⟩ : ∃ av, askV m l1 l2 q p now = av := ⟨_, rfl⟩
            have AV := Aside0.mk hav
            have HEV := Aside0.mk (show enterV m l1 l2 id q p now = av from (enter_ask HFN.out).trans hav)
            obtain ⟨el, hel⟩ : ∃ el, enterL m l1 l2 id q p now = el := ⟨_, rfl⟩
            have HEL := Aside0.mk hel
            have pa : (av == av) = true := by simp
            clear hav hel
            by_cases h0 : av = 0
            · have p0 : (av == 0) = true := beq_iff_eq.2 h0
              have HLN := Aside0.mk (show el.length = l1.length + 1 from by rw [← HEL.out]; unfold enterL; rw [if_pos (HEV.out.trans h0), List.length_append]; rfl)
              clear h0
              have HLE := Aside0.mk (show el.length ≤ 900 from by have := HLN.out; omega)
              go_wp2_with (first | (go_at_call 12; (with_reducible refine (BK.ask q p now H5.out HI.out HJ.out HM.out).mono ?_); rintro e w6 ⟨rfl, hb6⟩; rw [AV.out]; have H6 := Aside0.mk (BK.below H5.out hb6); have X6 := Aside0.mk (St.below (s := blk) X5.out hb6); have B6 := Aside0.mk (Below.trans B5.out (Below.mono hb6 (Below.size B5.out))); clear hb6 y0 y1; have y0 := blk_cell (blk_at X6.out) 0; have y1 := blk_cell (blk_at X6.out) 1) | (go_at_call 9; (with_reducible refine (BK.enter id q p now H6.out B6.out HI.out HJ.out HM.out HEV.out HEL.out).mono ?_); rintro e w7 ⟨rfl, c7, h7, t7⟩; have H7 := Aside0.mk h7; have X7 := Aside0.mk (t7.keep _ blk 9 _ _ (by decide) X6.out); have B7 := Aside0.mk (t7.far B6.out); clear h7 t7) | (go_at_call 11; (with_reducible refine (BK.live H7.out (by have := HLE.out; omega)).mono ?_); rintro e w8 ⟨A8, k8, rfl, hc8, hb8⟩; rw [HLN.out]; have C8 := Aside0.mk hc8; have H8 := Aside0.mk (BK.below H7.out hb8); have X8 := Aside0.mk (St.below (s := blk) X7.out hb8); have B8 := Aside0.mk (Below.trans B7.out (Below.mono hb8 (Below.size B7.out))); clear hc8 hb8))
              go_ret
              exact ⟨by first | rfl | simp, B8.out⟩
            · have p0 : (av == 0) = false := beq_eq_false_iff_ne.2 h0
              have HLN := Aside0.mk (show el.length = l1.length from by rw [← HEL.out]; unfold enterL; rw [if_neg (by rw [HEV.out]; exact h0)])
              clear h0
              have HLE := Aside0.mk (show el.length ≤ 900 from by have := HLN.out; omega)
              go_wp2_with (first | (go_at_call 12; (with_reducible refine (BK.ask q p now H5.out HI.out HJ.out HM.out).mono ?_); rintro e w6 ⟨rfl, hb6⟩; rw [AV.out]; have H6 := Aside0.mk (BK.below H5.out hb6); have X6 := Aside0.mk (St.below (s := blk) X5.out hb6); have B6 := Aside0.mk (Below.trans B5.out (Below.mono hb6 (Below.size B5.out))); clear hb6 y0 y1; have y0 := blk_cell (blk_at X6.out) 0; have y1 := blk_cell (blk_at X6.out) 1) | (go_at_call 9; (with_reducible refine (BK.enter id q p now H6.out B6.out HI.out HJ.out HM.out HEV.out HEL.out).mono ?_); rintro e w7 ⟨rfl, c7, h7, t7⟩; have H7 := Aside0.mk h7; have X7 := Aside0.mk (t7.keep _ blk 9 _ _ (by decide) X6.out); have B7 := Aside0.mk (t7.far B6.out); clear h7 t7) | (go_at_call 11; (with_reducible refine (BK.live H7.out (by have := HLE.out; omega)).mono ?_); rintro e w8 ⟨A8, k8, rfl, hc8, hb8⟩; rw [HLN.out]; have C8 := Aside0.mk hc8; have H8 := Aside0.mk (BK.below H7.out hb8); have X8 := Aside0.mk (St.below (s := blk) X7.out hb8); have B8 := Aside0.mk (Below.trans B7.out (Below.mono hb8 (Below.size B7.out))); clear hc8 hb8))
              go_ret
              exact ⟨by first | rfl | simp, B8.out⟩
end Go.Proofs.Ytmjodeijafoabaa.Admit
