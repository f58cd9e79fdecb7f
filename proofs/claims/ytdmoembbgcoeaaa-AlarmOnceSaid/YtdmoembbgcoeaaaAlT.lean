/- Alarm: the alarms' To (no law is stated here; each says its conditions). -/
import Derived.Test.YtdmoembbgcoeaaaAlB
namespace Go.Proofs.Ytdmoembbgcoeaaa.Alarm
open Go.RowKit Go.Proofs.YtdmoembbgcoeaaaW.PrintWords Go.Proofs.YtdmoembbgcoeaaaW.PrintLast Go.Proofs.YtdmoembbgcoeaaaW.PrintMore Go.Proofs.Ytdmoembbgcoeaaa.St Go.Proofs.Ytdmoembbgcoeaaa.Q Go.Proofs.Ytdmoembbgcoeaaa.Heap
open Go.Sort (HoldsK putRowK grow flatK)
set_option linter.unusedVariables false
set_option linter.unusedSimpArgs false
attribute [local go_sem] max2_int min2_int max_two min_two max_three min_three max_four min_four

def rest (m : List (Int × Int)) (t : Int) : List (Int × Int) := m.filter (fun y => decide (t < y.2))
def due (m : List (Int × Int)) (t : Int) : List (Int × Int) := m.filter (fun y => decide (y.2 ≤ t))
def ring (j : Nat) (y : Int × Int) : Int × Int × Int := ((j : Int), y.1, y.2)
/-- What is armed behind the first j CPUs' turn; what has rung. -/
def restN (hs : List (List (Int × Int))) (t : Int) : Nat → List (List (Int × Int))
  | 0 => hs
  | j + 1 => (restN hs t j).set j (rest (hs.getD j []) t)
def ringsN (hs : List (List (Int × Int))) (t : Int) : Nat → List (Int × Int × Int)
  | 0 => []
  | j + 1 => ringsN hs t j ++ (due (hs.getD j []) t).map (ring j)
theorem restN_len (hs : List (List (Int × Int))) (t : Int) : ∀ j, (restN hs t j).length = hs.length
  | 0 => rfl
  | j + 1 => by rw [restN, List.length_set, restN_len hs t j]
theorem restN_get (hs : List (List (Int × Int))) (t : Int) : ∀ (j q : Nat), q < hs.length → (restN hs t j).getD q [] = if q < j then rest (hs.getD q []) t else hs.getD q []
  | 0, q, h => by rw [if_neg (Nat.not_lt_zero _)]; rfl
  | j + 1, q, h => by
    rw [restN]
    by_cases e : q = j
    · subst e
      rw [if_pos (by omega), List.getD_eq_getElem?_getD, List.getElem?_set_self (by rw [restN_len]; exact h)]
      rfl
    · rw [List.getD_eq_getElem?_getD, List.getElem?_set_ne (fun e2 => e e2.symm), ← List.getD_eq_getElem?_getD, restN_get hs t j q h]
      by_cases h2 : q < j
      · rw [if_pos h2, if_pos (by omega)]
      · rw [if_neg h2, if_neg (by omega)]
/-- All that rings, in order. -/
def inOrder (l : List (Int × Int × Int)) : List (Int × Int × Int) := l.mergeSort fun x y => !(ltOf cfR y x)
theorem inOrder_perm {a b : List (Int × Int × Int)} (h : a.Perm b) : inOrder a = inOrder b := by
  have s : ∀ l : List (Int × Int × Int), (inOrder l).Pairwise (fun x y => (!(ltOf cfR y x)) = true) := fun l => List.pairwise_mergeSort (fun x y z h1 h2 => by
    have k1 : ¬ bef y x := (lt_nbef _ _).1 (by simpa using h1)
    have k2 : ¬ bef z y := (lt_nbef _ _).1 (by simpa using h2)
    have k3 : ¬ bef z x := by unfold bef at *; omega
    simpa using (lt_nbef _ _).2 k3) (fun x y => by
    cases h1 : ltOf cfR y x with
    | false => simp
    | true =>
      have k1 := (lt_bef _ _).1 h1
      have k2 : ltOf cfR x y = false := (lt_nbef _ _).2 (by unfold bef at *; omega)
      simp [k2]) l
  refine List.Perm.eq_of_pairwise (fun x y hx hy h1 h2 => totR x y (by simpa using h2) (by simpa using h1)) (s a) (s b) ?_
  exact ((List.mergeSort_perm a _).trans h).trans (List.mergeSort_perm b _).symm
theorem rest_perm {m pl rem : List (Int × Int)} {t : Int} (h : (pl ++ rem).Perm m) (h1 : ∀ y ∈ pl, y.2 ≤ t) (h2 : ∀ y ∈ rem, t < y.2) : rem.Perm (rest m t) ∧ pl.Perm (due m t) := by
  have a1 : rest pl t = [] := List.filter_eq_nil_iff.2 (fun y hy => by have := h1 y hy; simp; omega)
  have a2 : rest rem t = rem := List.filter_eq_self.2 (fun y hy => by have := h2 y hy; simp; omega)
  have b1 : due pl t = pl := List.filter_eq_self.2 (fun y hy => by have := h1 y hy; simp; omega)
  have b2 : due rem t = [] := List.filter_eq_nil_iff.2 (fun y hy => by have := h2 y hy; simp; omega)
  have h3 : (rest (pl ++ rem) t).Perm (rest m t) := h.filter _
  have h4 : (due (pl ++ rem) t).Perm (due m t) := h.filter _
  unfold rest at *
  unfold due at *
  rw [List.filter_append, a1, a2, List.nil_append] at h3
  rw [List.filter_append, b1, b2, List.append_nil] at h4
  exact ⟨h3, h4⟩
theorem first_least {rem : List (Int × Int)} {z : Int × Int} (h : leastL rem = some z) : ∀ y ∈ rem, z.2 ≤ y.2 := by
  intro y hy
  by_cases e : y = z
  · rw [e]; exact Int.le_refl _
  · have := (leastL_first h).2 y hy e
    rw [lt_def] at this
    simp only [true_and, Bool.false_eq_true, false_and, or_false] at this
    omega
/-- The alarms, with their row in letters; the same without the heap j. -/
def ALx (w0 W : World) (c : Nat → Nat) (i : Nat) (hs : List (List (Int × Int))) (now : Int) (ga : Nat) (A : Option Addr) (k : Nat) (gs : List Nat) : Prop :=
  gs.length = hs.length ∧ blk.M W w0.heap.size (fun k => c k = i) (.cells #[.slice A hs.length k, .int .i64 now] 56 (0, 0)) (.pointer (some ⟨ga, 0, none⟩)) ∧ (row 57 kp).M W w0.heap.size (fun k => c k = i + 1) gs (.slice A hs.length k) ∧
    ∀ j, j < hs.length → hp.M W w0.heap.size (fun k => c k = i + 10 + j) (hs.getD j [], false, 1024) (.pointer (some ⟨gs.getD j 0, 0, none⟩))
def ALy (w0 W : World) (c : Nat → Nat) (i : Nat) (hs : List (List (Int × Int))) (now : Int) (ga : Nat) (A : Option Addr) (k : Nat) (gs : List Nat) (j : Nat) : Prop :=
  gs.length = hs.length ∧ blk.M W w0.heap.size (fun k => c k = i) (.cells #[.slice A hs.length k, .int .i64 now] 56 (0, 0)) (.pointer (some ⟨ga, 0, none⟩)) ∧ (row 57 kp).M W w0.heap.size (fun k => c k = i + 1) gs (.slice A hs.length k) ∧
    ∀ q, q < hs.length → q ≠ j → hp.M W w0.heap.size (fun k => c k = i + 10 + q) (hs.getD q [], false, 1024) (.pointer (some ⟨gs.getD q 0, 0, none⟩))
section
variable {w0 W W1 : World} {c c1 : Nat → Nat} {i ga k j q : Nat} {hs : List (List (Int × Int))} {now : Int} {A : Option Addr} {gs : List Nat}
theorem ALx.hole (h : ALx w0 W c i hs now ga A k gs) : ALy w0 W c i hs now ga A k gs j := ⟨h.1, h.2.1, h.2.2.1, fun q hq _ => h.2.2.2 q hq⟩
theorem ALy.below (h : ALy w0 W c i hs now ga A k gs j) (hb : Below W.heap.size W W1) : ALy w0 W1 c i hs now ga A k gs j :=
  ⟨h.1, St.below (s := blk) h.2.1 hb, St.below (s := row 57 kp) h.2.2.1 hb, fun q hq hn => St.below (s := hp) (h.2.2.2 q hq hn) hb⟩
theorem ALy.keep (h : ALy w0 W c i hs now ga A k gs j) (t : Turned c c1 q w0 W W1) (hq : q < i ∨ q = i + 10 + j) : ALy w0 W1 c1 i hs now ga A k gs j :=
  ⟨h.1, t.keep _ blk _ _ _ (by omega) h.2.1, t.keep _ (row 57 kp) _ _ _ (by omega) h.2.2.1, fun p hp' hn => t.keep _ hp _ _ _ (by omega) (h.2.2.2 p hp' hn)⟩
theorem ALy.fill (h : ALy w0 W c i hs now ga A k gs j) (hj : j < hs.length) {m : List (Int × Int)} (hm : hp.M W w0.heap.size (fun k => c k = i + 10 + j) (m, false, 1024) (.pointer (some ⟨gs.getD j 0, 0, none⟩))) : ALx w0 W c i (hs.set j m) now ga A k gs := by
  refine ⟨by rw [List.length_set]; exact h.1, by rw [List.length_set]; exact h.2.1, by rw [List.length_set]; exact h.2.2.1, fun q hq => ?_⟩
  rw [List.length_set] at hq
  by_cases e : q = j
  · subst e
    rw [List.getD_eq_getElem?_getD, List.getElem?_set_self hq]
    exact hm
  · rw [List.getD_eq_getElem?_getD, List.getElem?_set_ne (fun e2 => e e2.symm), ← List.getD_eq_getElem?_getD]
    exact h.2.2.2 q hq e
end
def slen : Value → Nat
  | .slice _ n _ => n
  | _ => 0
def RelT (w0 W : World) (c : Nat → Nat) (i o ga k : Nat) (hs : List (List (Int × Int))) (t : Int) (A : Option Addr) (gs : List Nat) (ov x : Value) (wr : World) : Prop :=
  ∃ (j : Nat) (c' : Nat → Nat) (out : List (Int × Int × Int)), j ≤ hs.length ∧ x = .int .i64 (j : Int) ∧ ALx w0 wr c' i (restN hs t j) t ga A k gs ∧ (row 34 KR).M wr w0.heap.size (fun k => c' k = o) out ov ∧ out.Perm (ringsN hs t j) ∧ TurnedA c c' o w0 W wr ∧ Below w0.heap.size w0 wr
def RelI (w0 W : World) (c : Nat → Nat) (i o ga k j g : Nat) (hs : List (List (Int × Int))) (m : List (Int × Int)) (t : Int) (A : Option Addr) (gs : List Nat) (out0 : List (Int × Int × Int)) (ov pv kv : Value) (wr : World) : Prop :=
  ∃ (c' : Nat → Nat) (pl rem : List (Int × Int)) (g9 : Nat) (lo : Option (Int × Int)), (pl ++ rem).Perm m ∧ (∀ y ∈ pl, y.2 ≤ t) ∧ leastL rem = lo ∧ pv = .pointer (some ⟨g9, 0, none⟩) ∧ kv = .bool lo.isSome ∧
    (row 34 KR).M wr w0.heap.size (fun k => c' k = o) (out0 ++ pl.map (ring j)) ov ∧ blk.M wr w0.heap.size (fun k => c' k = o + 1) (.cells #[.int .i64 (lo.getD (0, 0)).1, .int .i64 (lo.getD (0, 0)).2] 62 (0, 0)) (.pointer (some ⟨g9, 0, none⟩)) ∧
    hp.M wr w0.heap.size (fun k => c' k = i + 10 + j) (rem, false, 1024) (.pointer (some ⟨g, 0, none⟩)) ∧ ALy w0 wr c' i hs t ga A k gs j ∧ TurnedA c c' o w0 W wr ∧ Below w0.heap.size w0 wr
theorem ALx.keep1 {w0 W W1 : World} {c c1 : Nat → Nat} {i ga k q : Nat} {hs : List (List (Int × Int))} {now : Int} {A : Option Addr} {gs : List Nat} (h : ALx w0 W c i hs now ga A k gs) (t : Turned c c1 q w0 W W1) (hq : q < i) : ALx w0 W1 c1 i hs now ga A k gs :=
  ⟨h.1, t.keep _ blk _ _ _ (by omega) h.2.1, t.keep _ (row 57 kp) _ _ _ (by omega) h.2.2.1, fun p hp' => t.keep _ hp _ _ _ (by omega) (h.2.2.2 p hp')⟩
set_option maxHeartbeats 1000000 in
set_option maxRecDepth 100000 in
theorem to_bad {w0 W : World} {c : Nat → Nat} {i ga : Nat} {hs : List (List (Int × Int))} {now : Int} (t : Int) (h : AL w0 W c i hs now ga) (ht : t < now ∨ 4611686018427387904 < t) :
    Calls Try.prog 11 #[.pointer (some ⟨ga, 0, none⟩), .int .i64 t] W fun e w' => e = .returned (.tuple #[.slice none 0 0, .int .i64 1]) ∧ w' = W := by
  obtain ⟨A, k, hb⟩ := h.at
  have y1 := blk_cell hb 1
  clear hb h
  by_cases h1 : t < now
  · have d1 : decide (t < now) = true := decide_eq_true h1
    clear h1 ht
    go_enter Try.func11, Try.ntmps11
    go_wp2
    go_ret2
    exact ⟨rfl, rfl⟩
  · have d1 : decide (t < now) = false := decide_eq_false h1
    have d2 : decide (4611686018427387904 < t) = true := decide_eq_true (by omega)
    clear h1 ht
    go_enter Try.func11, Try.ntmps11
    go_wp2
    go_ret2
    exact ⟨rfl, rfl⟩
set_option maxHeartbeats 8000000 in
set_option maxRecDepth 100000 in
theorem to_calls {w0 W : World} {c : Nat → Nat} {i ga : Nat} {hs : List (List (Int × Int))} {now : Int} (o : Nat) (t : Int) (h : AL w0 W c i hs now ga) (hB : Below w0.heap.size w0 W) (ho : o + 2 < i) (ht : now ≤ t ∧ t ≤ 4611686018427387904) (hl : hs.length ≤ 64) (hr : ∀ j, j ≤ hs.length → (ringsN hs t j).length + (hs.getD j []).length ≤ 100000)
    {out : List (Int × Int × Int)} (hout : inOrder (ringsN hs t hs.length) = out) :
    Calls Try.prog 11 #[.pointer (some ⟨ga, 0, none⟩), .int .i64 t] W fun e w' => ∃ A k, e = .returned (.tuple #[.slice A out.length k, .int .i64 0]) ∧ ∃ c', AL w0 w' c' i (restN hs t hs.length) t ga ∧ (row 34 KR).M w' w0.heap.size (fun k => c' k = o) out (.slice A out.length k) ∧ TurnedA c c' o w0 W w' := by
  have HOUT := Aside0.mk hout
  obtain ⟨A, k, gs, h0, h1, h2, h3⟩ := h
  have M1 := Aside0.mk h1
  have M2 := Aside0.mk h2
  have M3 := Aside0.mk h3
  have HG := Aside0.mk h0
  have HB := Aside0.mk hB
  have HL := Aside0.mk hl
  have HR := Aside0.mk hr
  have HT := Aside0.mk ht
  have d1 : decide (t < now) = false := decide_eq_false (by omega)
  have d2 : decide (4611686018427387904 < t) = false := decide_eq_false (by omega)
  have y0 := blk_cell (blk_at h1) 0
  have y1 := blk_cell (blk_at h1) 1
  have f1 := blk_frozen (blk_at h1) 1
  clear h0 h1 h2 h3 hB hl hr ht hout
  go_enter Try.func11, Try.ntmps11
  go_upto_region 4 with (fail)
  obtain ⟨c1, k1, t1⟩ := blk_put1 M1.out 1 (.int .i64 t) (Below.size HB.out)
  clear y0 y1 f1 d1 d2
  generalize W.setCell ⟨ga, 1, none⟩ (.int .i64 t) = w1 at k1 t1 ⊢
  have X1 := Aside0.mk (show ALx w0 w1 c1 i hs t ga A k gs from ⟨HG.out, k1, t1.keep _ (row 57 kp) _ _ _ (by omega) M2.out, fun j hj => t1.keep _ hp _ _ _ (by omega) (M3.out j hj)⟩)
  have T1 := Aside0.mk ((TurnedA.refl c o w0 W).step t1 (by omega))
  have B1 := Aside0.mk (t1.far HB.out)
  have y0 := blk_cell (blk_at k1) 0
  clear k1 t1 M1 M2 M3
  go_wp2
  clear y0
  go_loopw [6, 30] (fun ov x wr => RelT w0 W c i o ga k hs t A gs ov x wr) (fun _ x _ => hs.length - (intOf x).toNat)
  case atStart => exact ⟨0, c1, [], Nat.zero_le _, rfl, X1.out, Kd.R_nil _ _ _ _ _, List.Perm.refl _, T1.out, B1.out⟩
  case round =>
    obtain ⟨j, cz, out0, hj, rfl, hX, hR, hP, hT, hBz⟩ := hrel
    have XZ := Aside0.mk hX
    have TZ := Aside0.mk hT
    have BZ := Aside0.mk hBz
    have HP := Aside0.mk hP
    have hj64 : j ≤ 64 := by have := HL.out; omega
    clear X1 T1 B1 hT hBz hP
    by_cases hlt : j < hs.length
    · have pq : decide ((j : Int) < (hs.length : Int)) = true := decide_eq_true (by omega)
      have pqn : decide (j < hs.length) = true := decide_eq_true hlt
      have bq : (0 ≤ (j : Int) ∧ (j : Int) < (hs.length : Int)) := by omega
      obtain ⟨hs1, hhs1⟩ : ∃ hs1, restN hs t j = hs1 := ⟨_, rfl⟩
      have hln : hs1.length = hs.length := by rw [← hhs1, restN_len]
      rw [hhs1] at hX XZ
      have HS1 := Aside0.mk hhs1
      have hlt1 : j < hs1.length := by rw [hln]; exact hlt
      have HJ1 := Aside0.mk hlt1
      have hc2 := row_C hX.2.2.1
      rw [hX.1] at hc2
      obtain ⟨ad, hA, hcell⟩ := read_ptr hc2 hlt1
      subst hA
      obtain ⟨g, hg⟩ : ∃ g, gs.getD j 0 = g := ⟨_, rfl⟩
      rw [hg] at hcell
      have HGJ := Aside0.mk hg
      obtain ⟨m, hm⟩ : ∃ m, hs.getD j [] = m := ⟨_, rfl⟩
      have HMM := Aside0.mk hm
      have hmj : hs1.getD j [] = m := by rw [← hhs1, restN_get hs t j j hlt, if_neg (Nat.lt_irrefl _), hm]
      have HC := Aside0.mk (show hp.M wr w0.heap.size (fun k => cz k = i + 10 + j) (m, false, 1024) (.pointer (some ⟨g, 0, none⟩)) from by have h := hX.2.2.2 j hlt1; rwa [hmj, hg] at h)
      have YZ := Aside0.mk (ALx.hole (j := j) hX)
      obtain ⟨Ar0, kr0, rfl, -, -⟩ := row_reads hR
      have RZ := Aside0.mk hR
      have HRL := Aside0.mk (show out0.length + m.length ≤ 100000 from by rw [HP.out.length_eq, ← hm]; exact HR.out j hj)
      obtain ⟨lo, hlo⟩ : ∃ lo, leastL m = lo := ⟨_, rfl⟩
      have HLO := Aside0.mk hlo
      obtain ⟨⟨u1, u2⟩, hz⟩ : ∃ z, lo.getD (0, 0) = z := ⟨_, rfl⟩
      have HZ := Aside0.mk hz
      obtain ⟨os, hos⟩ : ∃ os, lo.isSome = os := ⟨_, rfl⟩
      have HOS := Aside0.mk hos
      clear hX hR hc2 hg hm hmj hhs1 hlo hz hos XZ hln hlt1
      go_upto_region 9 with (first | (go_at_call 25; (with_reducible refine (topA HC.out HLO.out).mono ?_); rintro e w4 ⟨rfl, hb4⟩; rw [HZ.out, HOS.out]; have Y4 := Aside0.mk (ALy.below YZ.out hb4); have R4 := Aside0.mk (St.below (s := row 34 KR) RZ.out hb4); have C4 := Aside0.mk (St.below (s := hp) HC.out hb4); have T4 := Aside0.mk (TZ.out.below hb4); have B4 := Aside0.mk (Below.trans BZ.out (Below.mono hb4 (Below.size BZ.out))); clear hb4) | ((with_reducible refine gate_dst (N := 9) rfl ?_); refine box_event ?hg (N := 9) ?hd (cs := #[.int .i64 0, .int .i64 0]) (t := 62) ?hr ?_; (case hd => rfl); (case hg => rfl); (case hr => first | (go_simp; done) | (go_simp; rfl) | kernel_rfl); intro g4 hg5 w5 hx5 hb5; have HX5 := Aside0.mk hx5; have HB5 := Aside0.mk hb5; have HG5 := Aside0.mk hg5; have s0 := blk_cell hx5 0; have s1 := blk_cell hx5 1; have t0 := blk_frozen hx5 0; have t1 := blk_frozen hx5 1; clear hx5 hb5 hg5))
      have hgx : w4.heap.size ≤ g4 := Nat.le_of_eq HG5.out.symm
      have hbx : Below w4.heap.size w4 ((w5.setCell ⟨g4, 0, none⟩ (.int .i64 u1)).setCell ⟨g4, 1, none⟩ (.int .i64 u2)) := ((HB5.out.setCell hgx _).setCell hgx _)
      have hxx : ((w5.setCell ⟨g4, 0, none⟩ (.int .i64 u1)).setCell ⟨g4, 1, none⟩ (.int .i64 u2)).heap[g4]? = some (.cells #[.int .i64 u1, .int .i64 u2] 62 (0, 0)) := (by have h1 := blk_set (HX5.out) 0 (.int .i64 u1); have h2 := blk_set h1 1 (.int .i64 u2); exact h2)
      clear s0 s1 t0 t1 HX5 HB5 HG5
      generalize ((w5.setCell ⟨g4, 0, none⟩ (.int .i64 u1)).setCell ⟨g4, 1, none⟩ (.int .i64 u2)) = wa at hbx hxx ⊢
      obtain ⟨c5, h5, t5⟩ := blk_new1 (w0 := w0) cz (o + 1) hgx hxx hbx (Below.size B4.out)
      have X5 := Aside0.mk h5
      have R5 := Aside0.mk (t5.keep _ (row 34 KR) o _ _ (by omega) R4.out)
      have C5 := Aside0.mk (t5.keep _ hp (i + 10 + j) _ _ (by omega) C4.out)
      have Y5 := Aside0.mk (ALy.keep Y4.out t5 (by omega))
      have T5 := Aside0.mk (T4.out.step t5 (by omega))
      have B5 := Aside0.mk (t5.far B4.out)
      clear h5 t5 hgx hxx hbx hcell TZ BZ YZ RZ HC R4 C4 Y4 T4 B4
      go_loopw [6, 9, 10] (fun ov pv kv wr => RelI w0 W c i o ga k j g hs1 m t (some ad) gs out0 ov pv kv wr) (fun ov _ _ _ => out0.length + m.length - slen ov)
      case atStart => exact ⟨c5, [], m, g4, lo, List.Perm.refl _, fun y hy => absurd hy List.not_mem_nil, HLO.out, rfl, by rw [HOS.out], by rw [List.map_nil, List.append_nil]; exact R5.out, by rw [HZ.out]; exact X5.out, C5.out, Y5.out, T5.out, B5.out⟩
      case round =>
        obtain ⟨c2, pl, rem, g9, lo1, hpm, hpl, hlo1, rfl, rfl, hR, hX, hC, hY, hT, hBb⟩ := hrel
        clear X5 R5 C5 Y5 T5 B5 HLO HZ HOS
        obtain ⟨oc, hoc⟩ : ∃ oc, out0 ++ pl.map (ring j) = oc := ⟨_, rfl⟩
        have HOC := Aside0.mk hoc
        rw [hoc] at hR
        obtain ⟨Ar, kr, rfl, -, -⟩ := row_reads hR
        have RI := Aside0.mk hR
        have YI := Aside0.mk hY
        have TI := Aside0.mk hT
        have BI := Aside0.mk hBb
        have HPM := Aside0.mk hpm
        have HPL := Aside0.mk hpl
        have hlen : pl.length + rem.length = m.length := by have := hpm.length_eq; rwa [List.length_append] at this
        have HLEN := Aside0.mk hlen
        cases lo1 with
        | none =>
          have hre := leastL_none.1 hlo1
          subst hre
          have CI := Aside0.mk hC
          clear hR hX hY hT hBb hC hpm hpl hlo1 hlen hoc
          have HRP := Aside0.mk (rest_perm HPM.out HPL.out (fun y hy => absurd hy List.not_mem_nil))
          go_wp2
          exact ⟨⟨j + 1, c2, oc, by omega, by go_num, (by rw [restN, HS1.out, HMM.out]; exact ALy.fill YI.out HJ1.out (by rw [HGJ.out]; exact hp_perm CI.out HRP.out.1)), RI.out, by rw [← HOC.out, ringsN, HMM.out]; exact HP.out.append (HRP.out.2.map _), TI.out, BI.out⟩, by simp [intOf]; omega⟩
        | some z =>
          obtain ⟨z1, z2⟩ := z
          by_cases hzt : z2 ≤ t
          · have dz : decide (z2 ≤ t) = true := decide_eq_true hzt
            have hfi := leastL_first hlo1
            obtain ⟨pq, qq, hsp⟩ := mem_split2 hfi.1
            subst hsp
            have XI := Aside0.mk (show blk.M wr w0.heap.size (fun k => c2 k = o + 1) (.cells #[.int .i64 z1, .int .i64 z2] 62 (0, 0)) (.pointer (some ⟨g9, 0, none⟩)) from hX)
            have CI := Aside0.mk hC
            have HFI := Aside0.mk hfi
            have y0 := blk_cell (blk_at XI.out) 0
            have y1 := blk_cell (blk_at XI.out) 1
            obtain ⟨out1, ho1⟩ : ∃ out1, oc ++ [((j : Int), z1, z2)] = out1 := ⟨_, rfl⟩
            have HTK := Aside0.mk ho1
            have HO1 := Aside0.mk (show out0 ++ (pl ++ [(z1, z2)]).map (ring j) = out1 from by rw [← ho1, ← HOC.out, List.map_append, ← List.append_assoc]; rfl)
            have HPM2 := Aside0.mk (show ((pl ++ [(z1, z2)]) ++ (pq ++ qq)).Perm m from by
              refine List.Perm.trans ?_ hpm
              rw [List.append_assoc]
              refine List.Perm.append_left _ ?_
              rw [List.singleton_append]
              exact List.perm_middle.symm)
            have HPL2 := Aside0.mk (show ∀ y ∈ pl ++ [(z1, z2)], y.2 ≤ t from fun y hy => by
              rcases List.mem_append.1 hy with h | h
              · exact hpl y h
              · rw [List.mem_singleton.1 h]; exact hzt)
            have HBN := Aside0.mk (show oc.length ≤ 100000 from by rw [← HOC.out, List.length_append, List.length_map]; have := HRL.out; omega)
            have hol : out1.length = out0.length + pl.length + 1 := by rw [← ho1, ← HOC.out, List.length_append, List.length_append, List.length_map]; rfl
            have HM1 := Aside0.mk (show oc.length = out0.length + pl.length ∧ out1.length = out0.length + pl.length + 1 ∧ pl.length < m.length from ⟨by rw [← HOC.out, List.length_append, List.length_map], hol, by rw [List.length_append, List.length_cons] at hlen; omega⟩)
            obtain ⟨lo2, hlo2⟩ : ∃ lo2, leastL (pq ++ qq) = lo2 := ⟨_, rfl⟩
            have HLO2 := Aside0.mk hlo2
            obtain ⟨⟨v1, v2⟩, hz2⟩ : ∃ z, lo2.getD (0, 0) = z := ⟨_, rfl⟩
            have HZ2 := Aside0.mk hz2
            obtain ⟨os2, hos2⟩ : ∃ os, lo2.isSome = os := ⟨_, rfl⟩
            have HOS2 := Aside0.mk hos2
            clear hR hX hY hT hBb hC hpm hpl hlo1 hlen hzt hfi ho1 hol hlo2 hz2 hos2 hoc
            go_upto_region 10 with (first | ((with_reducible refine gate_dst (N := 59) rfl ?_); refine lit_list (e := 34) (c := c2) (w0 := w0) (KR) (o + 2) rfl (N := 59) rfl (([((j : Int), z1, z2)] : List (Int × Int × Int))) [.int .i64 (j : Int), .int .i64 z1, .int .i64 z2] ?hr (flatL_reps _ _ _ ([((j : Int), z1, z2)] : List (Int × Int × Int))) ?hz9 (by simp) ?_; (case hr => first | (go_simp; done) | (go_simp; rfl)); (case hz9 => exact Below.size BI.out); intro v20 w20 c20 h20 t20; obtain ⟨A20, k20, rfl, -, -⟩ := row_reads h20; have HN20 := Aside0.mk (show (row 34 KR).M w20 w0.heap.size (fun k => c20 k = o + 2) ([((j : Int), z1, z2)] : List (Int × Int × Int)) (.slice A20 ([((j : Int), z1, z2)] : List (Int × Int × Int)).length k20) from h20); have HR20 := Aside0.mk (t20.keep _ (row 34 KR) (o) _ _ (by omega) RI.out); have HC20 := Aside0.mk (t20.keep _ (hp) (i + 10 + j) _ _ (by omega) CI.out); have B20 := Aside0.mk (t20.far BI.out); have X20 := Aside0.mk (t20.keep _ blk (o + 1) _ _ (by omega) XI.out); have Y20 := Aside0.mk (ALy.keep YI.out t20 (by omega)); have T20 := Aside0.mk (TI.out.step t20 (by omega)); clear h20 t20 y0 y1; have y0 := blk_cell (blk_at X20.out) 0; have y1 := blk_cell (blk_at X20.out) 1) | ((with_reducible refine gate_builtin (b := .append) (xs := #[.tmp 52, .tmp 59]) rfl ?_); refine app_list (e := 34) (c := c20) (w0 := w0) (d := KR) (i := o) rfl (.tmp 52) (.tmp 59) 30 (.agg #[.int .i64 0, .int .i64 0, .int .i64 0]) 24 rfl Try.underlying30 info_ring rfl (by decide) (by decide) (flatR) (.slice Ar oc.length kr) oc ([((j : Int), z1, z2)] : List (Int × Int × Int)) _ _ _ rfl rfl HR20.out (row_C HN20.out) ?hz9 (by have := HBN.out; show (_ + 1) * 24 ≤ _; omega) ?_; (case hz9 => exact Below.size B20.out); intro v21 w21 c21 h21 t21; rw [HTK.out] at h21; obtain ⟨A21, k21, rfl, -, -⟩ := row_reads h21; have HR21 := Aside0.mk (show (row 34 KR).M w21 w0.heap.size (fun k => c21 k = o) out1 (.slice A21 out1.length k21) from h21); have HC21 := Aside0.mk (t21.keep _ (hp) (i + 10 + j) _ _ (by omega) HC20.out); have HN21 := Aside0.mk (t21.keep _ (row 34 KR) (o + 2) _ _ (by omega) HN20.out); have B21 := Aside0.mk (t21.far B20.out); have X21 := Aside0.mk (t21.keep _ blk (o + 1) _ _ (by omega) X20.out); have Y21 := Aside0.mk (ALy.keep Y20.out t21 (by omega)); have T21 := Aside0.mk (T20.out.step t21 (by omega)); clear h21 t21 y0 y1; have y0 := blk_cell (blk_at X21.out) 0; have y1 := blk_cell (blk_at X21.out) 1) | (go_at_call 26; (with_reducible refine (popC (z1, z2) pq qq HC21.out (Below.size B21.out) HFI.out).mono ?_); rintro e w22 ⟨rfl, c22, h22, t22⟩; have HC22 := Aside0.mk (show (hp).M w22 w0.heap.size (fun k => c22 k = i + 10 + j) (pq ++ qq, false, 1024) (.pointer (some ⟨g, 0, none⟩)) from h22); have HR22 := Aside0.mk (t22.keep _ (row 34 KR) (o) _ _ (by omega) HR21.out); have HN22 := Aside0.mk (t22.keep _ (row 34 KR) (o + 2) _ _ (by omega) HN21.out); have B22 := Aside0.mk (t22.far B21.out); have X22 := Aside0.mk (t22.keep _ blk (o + 1) _ _ (by omega) X21.out); have Y22 := Aside0.mk (ALy.keep Y21.out t22 (by omega)); have T22 := Aside0.mk (T21.out.step t22 (by omega)); clear h22 t22 y0 y1; have y0 := blk_cell (blk_at X22.out) 0; have y1 := blk_cell (blk_at X22.out) 1) | ((with_reducible refine gate_dst (N := 9) rfl ?_); refine box_event ?hg (N := 9) ?hd (cs := #[.int .i64 0, .int .i64 0]) (t := 62) ?hr ?_; (case hd => rfl); (case hg => rfl); (case hr => first | (go_simp; done) | (go_simp; rfl) | kernel_rfl); intro g23 hg23 w23 hx23 hb23; have HX23 := Aside0.mk hx23; have HB23 := Aside0.mk hb23; have HG23 := Aside0.mk hg23; have s0 := blk_cell hx23 0; have s1 := blk_cell hx23 1; have t0 := blk_frozen hx23 0; have t1 := blk_frozen hx23 1; clear hx23 hb23 hg23))
            have hgx : w22.heap.size ≤ g23 := Nat.le_of_eq HG23.out.symm
            have hbx : Below w22.heap.size w22 ((w23.setCell ⟨g23, 0, none⟩ (.int .i64 z1)).setCell ⟨g23, 1, none⟩ (.int .i64 z2)) := ((HB23.out.setCell hgx _).setCell hgx _)
            have hxx : ((w23.setCell ⟨g23, 0, none⟩ (.int .i64 z1)).setCell ⟨g23, 1, none⟩ (.int .i64 z2)).heap[g23]? = some (.cells #[.int .i64 z1, .int .i64 z2] 62 (0, 0)) := (by have h1 := blk_set (HX23.out) 0 (.int .i64 z1); have h2 := blk_set h1 1 (.int .i64 z2); exact h2)
            clear s0 s1 t0 t1 HX23 HB23 HG23
            generalize ((w23.setCell ⟨g23, 0, none⟩ (.int .i64 z1)).setCell ⟨g23, 1, none⟩ (.int .i64 z2)) = wb at hbx hxx ⊢
            obtain ⟨c23, h23, t23⟩ := blk_new1 (w0 := w0) c22 (o + 1) hgx hxx hbx (Below.size B22.out)
            clear hgx hxx hbx y0 y1
            have X23 := Aside0.mk h23
            have R23 := Aside0.mk (t23.keep _ (row 34 KR) o _ _ (by omega) HR22.out)
            have C23 := Aside0.mk (t23.keep _ hp (i + 10 + j) _ _ (by omega) HC22.out)
            have Y23 := Aside0.mk (ALy.keep Y22.out t23 (by omega))
            have T23 := Aside0.mk (T22.out.step t23 (by omega))
            have B23 := Aside0.mk (t23.far B22.out)
            clear h23 t23
            have y0 := blk_cell (blk_at X23.out) 0
            have y1 := blk_cell (blk_at X23.out) 1
            go_wp2_with (first | (go_at_call 25; (with_reducible refine (topA C23.out HLO2.out).mono ?_); rintro e w24 ⟨rfl, hb24⟩; rw [HZ2.out, HOS2.out]; have Y24 := Aside0.mk (ALy.below Y23.out hb24); have R24 := Aside0.mk (St.below (s := row 34 KR) R23.out hb24); have C24 := Aside0.mk (St.below (s := hp) C23.out hb24); have X24 := Aside0.mk (St.below (s := blk) X23.out hb24); have T24 := Aside0.mk (T23.out.below hb24); have B24 := Aside0.mk (Below.trans B23.out (Below.mono hb24 (Below.size B23.out))); clear hb24 y0 y1; have y0 := blk_cell (blk_at X24.out) 0; have y1 := blk_cell (blk_at X24.out) 1; have f0 := blk_frozen (blk_at X24.out) 0; have f1 := blk_frozen (blk_at X24.out) 1))
            go_roundw
            case rel =>
              obtain ⟨c25, h25, t25⟩ := blk_put1 X24.out 0 (.int .i64 v1) (Below.size B24.out)
              have B25 := t25.far B24.out
              have R25 := t25.keep _ (row 34 KR) o _ _ (by omega) R24.out
              have C25 := t25.keep _ hp (i + 10 + j) _ _ (by omega) C24.out
              have Y25 := ALy.keep Y24.out t25 (by omega)
              have T25 := T24.out.step t25 (by omega)
              obtain ⟨c26, h26, t26⟩ := blk_put1 h25 1 (.int .i64 v2) (Below.size B25)
              have R26 := t26.keep _ (row 34 KR) o _ _ (by omega) R25
              have C26 := t26.keep _ hp (i + 10 + j) _ _ (by omega) C25
              have Y26 := ALy.keep Y25 t26 (by omega)
              have T26 := T25.step t26 (by omega)
              have B26 := t26.far B25
              exact ⟨c26, pl ++ [(z1, z2)], pq ++ qq, g23, lo2, HPM2.out, HPL2.out, HLO2.out, rfl, by rw [HOS2.out], by rw [HO1.out]; exact R26, by rw [HZ2.out]; exact h26, C26, Y26, T26, B26⟩
            case measure =>
              have hm1 := HM1.out
              show (_ - _ : Nat) < _
              simp only [slen]
              omega
          · have dz : decide (z2 ≤ t) = false := decide_eq_false hzt
            have hmin := first_least hlo1
            have HRP := Aside0.mk (rest_perm HPM.out HPL.out (fun y hy => by have := hmin y hy; show t < y.2; have h : ¬ z2 ≤ t := hzt; have h2 : z2 ≤ y.2 := this; omega))
            have XI := Aside0.mk (show blk.M wr w0.heap.size (fun k => c2 k = o + 1) (.cells #[.int .i64 z1, .int .i64 z2] 62 (0, 0)) (.pointer (some ⟨g9, 0, none⟩)) from hX)
            have CI := Aside0.mk hC
            have y0 := blk_cell (blk_at XI.out) 0
            have y1 := blk_cell (blk_at XI.out) 1
            clear hR hX hY hT hBb hC hpm hpl hlo1 hlen hzt hmin hoc
            go_wp2
            exact ⟨⟨j + 1, c2, oc, by omega, by go_num, (by rw [restN, HS1.out, HMM.out]; exact ALy.fill YI.out HJ1.out (by rw [HGJ.out]; exact hp_perm CI.out HRP.out.1)), RI.out, by rw [← HOC.out, ringsN, HMM.out]; exact HP.out.append (HRP.out.2.map _), TI.out, BI.out⟩, by simp [intOf]; omega⟩
    · have pq : decide ((j : Int) < (hs.length : Int)) = false := decide_eq_false (by omega)
      have pqn : decide (j < hs.length) = false := decide_eq_false hlt
      have hjn : j = hs.length := by omega
      subst hjn
      have HSR := Aside0.mk (show inOrder out0 = out from by rw [← HOUT.out]; exact inOrder_perm HP.out)
      have HOL := Aside0.mk (show out0.length ≤ 100000 from by rw [HP.out.length_eq]; have := HR.out hs.length (Nat.le_refl _); omega)
      obtain ⟨Ar, kr, rfl, -, -⟩ := row_reads hR
      have RZ := Aside0.mk hR
      clear hX hR
      by_cases hz0 : out0 = []
      · subst hz0
        have he : out = [] := by rw [← HSR.out]; exact List.eq_nil_of_length_eq_zero (List.length_mergeSort _)
        subst he
        go_wp2_with (first | (go_at_call 27; (with_reducible refine (sort_none _ _ _).mono ?_); rintro e wz ⟨rfl, hz⟩; have hz := hz.symm; subst hz))
        go_ret2
        exact ⟨Ar, kr, rfl, cz, ⟨_, _, _, XZ.out⟩, RZ.out, TZ.out⟩
      · have hpos : 0 < out0.length := List.length_pos_iff.2 hz0
        obtain ⟨gr, kg, hA, -⟩ := Kd.R_form RZ.out hpos
        injection hA with hA1 hA2 hA3
        subst hA1
        clear hA2 hA3 hz0
        have RS := RZ
        have hlo : out.length = out0.length := by rw [← HSR.out]; exact List.length_mergeSort _
        have HLO := Aside0.mk hlo.symm
        go_wp2_with (first | (go_at_call 27; (with_reducible refine (sort_calls RS.out (Below.size BZ.out) HOL.out).mono ?_); rintro e w5 ⟨rfl, c5, h5, t5⟩; have R5 := Aside0.mk h5; have X5 := Aside0.mk (ALx.keep1 XZ.out t5 (by omega)); have T5 := Aside0.mk (TZ.out.step t5 (Nat.le_refl _)); clear h5 t5))
        go_ret2
        refine ⟨some ⟨gr, 0, none⟩, kr, by rw [← HLO.out]; rfl, c5, ⟨_, _, _, X5.out⟩, ?_, T5.out⟩
        have h := R5.out
        rw [show (out0.mergeSort fun x y => !(ltOf cfR y x)) = out from HSR.out, HLO.out] at h
        exact h
end Go.Proofs.Ytdmoembbgcoeaaa.Alarm
