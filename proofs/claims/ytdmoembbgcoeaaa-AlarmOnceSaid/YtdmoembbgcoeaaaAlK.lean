/- Alarm: rings alike; what the document tells of the fifth tick (no law is stated here; each says its conditions). -/
import Derived.Test.YtdmoembbgcoeaaaAlT
import Derived.Test.YtdmoembbgcoeaaaQx0
import Derived.Test.YtdmoembbgcoeaaaQx39
namespace Go.Proofs.Ytdmoembbgcoeaaa.Alarm
open Go.RowKit Go.Proofs.YtdmoembbgcoeaaaW.PrintWords Go.Proofs.YtdmoembbgcoeaaaW.PrintLast Go.Proofs.YtdmoembbgcoeaaaW.PrintMore Go.Proofs.Ytdmoembbgcoeaaa.St Go.Proofs.Ytdmoembbgcoeaaa.Q Go.Proofs.Ytdmoembbgcoeaaa.Heap
open Go.Sort (HoldsK putRowK grow flatK)
set_option linter.unusedVariables false
set_option linter.unusedSimpArgs false
attribute [local go_sem] max2_int min2_int max_two min_two max_three min_three max_four min_four

theorem reads_map {α β : Type} {P : α → List Value → Prop} {P' : β → List Value → Prop} {f : α → β} {sz : Nat} {w : World} {A : Option Addr} {n : Nat} {l : List α} (hP : ∀ x cs, P x cs → P' (f x) cs) (h : ReadsRow P sz w A n l) : ReadsRow P' sz w A n (l.map f) := by
  obtain ⟨h1, h2, h3⟩ := h
  refine ⟨by rw [List.length_map]; exact h1, h2, fun hn => ?_⟩
  obtain ⟨ad, hA, hr⟩ := h3 hn
  refine ⟨ad, hA, fun j p hj => ?_⟩
  rw [List.getElem?_map] at hj
  cases hx : l[j]? with
  | none => rw [hx] at hj; cases hj
  | some y =>
    rw [hx] at hj
    cases hj
    obtain ⟨c, k1, k2, k3⟩ := hr j y hx
    exact ⟨c, k1, hP _ _ k2, k3⟩
def cv34 (x : Int × Int × Int) : S34 := ⟨x.1, x.2.1, x.2.2⟩
def cv46 (x : Int × Int × Int) : S46 := ⟨x.1, x.2.1, x.2.2⟩
theorem C_cv34 {w : World} {A : Option Addr} {n : Nat} {l : List (Int × Int × Int)} (h : KR.C w A n l) : k34.C w A n (l.map cv34) := reads_map (fun x cs h => by rw [KR_openK h]; exact k34_mk w (cv34 x)) h
theorem C_cv46 {w : World} {A : Option Addr} {n : Nat} {l : List (Int × Int × Int)} (h : KR.C w A n l) : k46.C w A n (l.map cv46) := reads_map (fun x cs h => by rw [KR_openK h]; exact k46_mk w (cv46 x)) h
theorem getD_map34 {l : List (Int × Int × Int)} {j : Nat} (hj : j < l.length) : rd_T34 (l.map cv34) (j : Int) = cv34 (l.getD j default) := by
  unfold rd_T34
  rw [Int.toNat_natCast, List.getD_eq_getElem?_getD, List.getElem?_map, List.getD_eq_getElem?_getD, List.getElem?_eq_getElem hj]
  rfl
theorem getD_map46 {l : List (Int × Int × Int)} {j : Nat} (hj : j < l.length) : rd_T46 (l.map cv46) (j : Int) = cv46 (l.getD j default) := by
  unfold rd_T46
  rw [Int.toNat_natCast, List.getD_eq_getElem?_getD, List.getElem?_map, List.getD_eq_getElem?_getD, List.getElem?_eq_getElem hj]
  rfl
theorem rings_l (l : List (Int × Int × Int)) (hl : l.length ≤ 100000) : ∀ (d j : Nat), l.length - j = d → j ≤ l.length → beadlelaw7_rings.l0 (d + 1) (l.map cv34) (l.map cv46) (j : Int) = some true := by
  intro d
  induction d with
  | zero => intro j hd hj; rw [beadlelaw7_rings.l0, if_neg (by rw [List.length_map]; omega)]
  | succ d ih =>
    intro j hd hj
    have hlt : j < l.length := by omega
    rw [beadlelaw7_rings.l0, if_pos (by rw [List.length_map]; omega), if_pos (by omega), if_pos (by rw [List.length_map]; omega), getD_map34 hlt, getD_map46 hlt, if_pos (show (cv34 (l.getD j default)).f0 = (cv46 (l.getD j default)).f0 from rfl), if_pos (show (cv34 (l.getD j default)).f1 = (cv46 (l.getD j default)).f1 from rfl), if_pos (show (cv34 (l.getD j default)).f2 = (cv46 (l.getD j default)).f2 from rfl), show wrap64 ((j : Int) + 1) = ((j + 1 : Nat) : Int) by unfold wrap64; omega]
    exact ih (j + 1) (by omega) (by omega)
theorem rings_same {w : World} {A A' : Option Addr} {k k' : Nat} {l : List (Int × Int × Int)} (h : KR.C w A l.length l) (hk : l.length ≤ k) (h' : KR.C w A' l.length l) (hk' : l.length ≤ k') (hl : l.length ≤ 100000) {n : Nat} (hn : l.length = n) :
    Calls Try.prog 16 #[.slice A n k, .slice A' n k'] w fun e w' => e = .returned (.bool true) ∧ Below w.heap.size w w' := by
  subst hn
  have hf : beadlelaw7_rings.f (l.length + 1) (l.map cv34) (l.map cv46) = some true := by
    unfold beadlelaw7_rings.f
    rw [if_pos (by rw [List.length_map, List.length_map])]
    exact rings_l l hl l.length 0 (by omega) (by omega)
  have h2 := beadlelaw7_rings.calls (l.length + 1) A k (l.map cv34) A' k' (l.map cv46) true w (by rw [List.length_map]; exact C_cv34 h) (by rw [List.length_map]; exact hk) (by rw [List.length_map]; exact C_cv46 h') (by rw [List.length_map]; exact hk') hf
  rw [List.length_map, List.length_map] at h2
  exact h2.mono (fun e w' h => ⟨h.1, h.2.below⟩)
section
variable {P : Program} {ops : Array Oper} {o : Oper} {a : Act} {Q : Exit → Act → World → Prop} {rest : List Oper} {α : Type} {e : Nat} {w0 W : World} {c : Nat → Nat}
/-- A row written out where the operation is guarded: it takes colour i. -/
theorem lit_list_w (d : Kd α) (i : Nat) (hw : Region.wanted o (yielded ops a.tmps) = true) {N : Tmp} (hd : o.dst = some N) (xs : List α) (inner : List Value)
    (hrun : (execOp a.eval o).run P W = .ok (.value (.slice (some ⟨W.heap.size, 0, none⟩) xs.length xs.length)) (W.alloc (.cells inner.toArray e)))
    (hrep : Reps (d.M W W.heap.size (fun _ => False)) d.sz xs inner) (hs : w0.heap.size ≤ W.heap.size) (hm : xs.length ≤ 9223372036854775807)
    (h : ∀ v1 w1 c1, (row e d).M w1 w0.heap.size (fun k => c1 k = i) xs v1 → Turned c c1 i w0 W w1 → wpList P ops Q rest (a.put o.dst v1) w1) : wpList P ops Q (o :: rest) a W :=
  BigFrame.wpList_want hw (fun K hK => by
    have h2 := lit_step (e := e) (Q := Q) (Kc := K) (c := c) (w0 := w0) d i hw hd xs inner hrun hrep hs hm (fun v1 w1 c1 h1 h3 => hK _ _ (h v1 w1 c1 h1 h3))
    rwa [if_pos hw] at h2)
end
theorem inOrder_sorted {l : List (Int × Int × Int)} (h : l.Pairwise (fun x y => ¬ bef y x)) : inOrder l = l :=
  List.mergeSort_of_pairwise (h.imp (fun {x y} h => by rw [(lt_nbef y x).2 h]; rfl))
theorem new2 {w0 W : World} (c : Nat → Nat) (i : Nat) (m : Int) (n : Nat) (e : m = (n : Int)) (hm : 1 ≤ n ∧ n ≤ 64) (hB : Below w0.heap.size w0 W) {hs : List (List (Int × Int))} (hh : List.replicate n [] = hs) :
    Calls Try.prog 8 #[.int .i64 m] W fun e w' => ∃ ga : Nat, e = .returned (.tuple #[.pointer (some ⟨ga, 0, none⟩), .int .i64 0]) ∧ ∃ c', AL w0 w' c' i hs 0 ga ∧ TurnedA c c' i w0 W w' := by
  subst e; subst hh
  exact new_ok c i n hm hB
section
variable {w0 W : World} {c : Nat → Nat} {i ga : Nat} {hs hs' : List (List (Int × Int))} {now : Int}
theorem arm2 (cpu id at' : Int) (h : AL w0 W c i hs now ga) (hl : ∀ j, j < hs.length → (hs.getD j []).length < 1024) {r : Int} (hr : armV hs.length now cpu id at' = r) (hh : armH hs now cpu id at' = hs') :
    Calls Try.prog 9 #[.pointer (some ⟨ga, 0, none⟩), .int .i64 cpu, .int .i64 id, .int .i64 at'] W fun e w' => e = .returned (.int .i64 r) ∧ ∃ c', AL w0 w' c' i hs' now ga ∧ TurnedA c c' i w0 W w' := by
  subst hr; subst hh
  exact arm_calls cpu id at' h hl
theorem to2 (o : Nat) (t : Int) (h : AL w0 W c i hs now ga) (hB : Below w0.heap.size w0 W) (ho : o + 2 < i) (ht : now ≤ t ∧ t ≤ 4611686018427387904) (hl : hs.length ≤ 64) (hr : ∀ j, j ≤ hs.length → (ringsN hs t j).length + (hs.getD j []).length ≤ 100000)
    {out : List (Int × Int × Int)} (hout : inOrder (ringsN hs t hs.length) = out) (hh : restN hs t hs.length = hs') :
    Calls Try.prog 11 #[.pointer (some ⟨ga, 0, none⟩), .int .i64 t] W fun e w' => ∃ A k, e = .returned (.tuple #[.slice A out.length k, .int .i64 0]) ∧ ∃ c', AL w0 w' c' i hs' t ga ∧ (row 34 KR).M w' w0.heap.size (fun k => c' k = o) out (.slice A out.length k) ∧ TurnedA c c' o w0 W w' := by
  subst hh
  exact to_calls o t h hB ho ht hl hr hout
end
theorem short_all {hs : List (List (Int × Int))} {b : Nat} (h : ∀ m ∈ hs, m.length ≤ b) : ∀ j, (hs.getD j []).length ≤ b := by
  intro j
  rw [List.getD_eq_getElem?_getD]
  cases hj : hs[j]? with
  | none => exact Nat.zero_le _
  | some m => exact h m (List.mem_of_getElem? hj)
theorem due_le (m : List (Int × Int)) (t : Int) : (due m t).length ≤ m.length := List.length_filter_le _ _
theorem rings_le {hs : List (List (Int × Int))} {b : Nat} (t : Int) (h : ∀ j, (hs.getD j []).length ≤ b) : ∀ j, (ringsN hs t j).length ≤ j * b
  | 0 => by simp [ringsN]
  | j + 1 => by
    rw [ringsN, List.length_append, List.length_map, Nat.succ_mul]
    have h1 := rings_le t h j
    have h2 := due_le (hs.getD j []) t
    have h3 := h j
    omega
theorem rings_bound {hs : List (List (Int × Int))} {b : Nat} (t : Int) (h : ∀ j, (hs.getD j []).length ≤ b) (hb : b ≤ 1000) (hl : hs.length ≤ 64) : ∀ j, j ≤ hs.length → (ringsN hs t j).length + (hs.getD j []).length ≤ 100000 := by
  intro j hj
  have h1 := rings_le t h j
  have h2 := h j
  have h3 : j * b ≤ 64 * 1000 := Nat.mul_le_mul (by omega) hb
  omega
theorem aw_new : (List.replicate 2 [] : List (List (Int × Int))) = [[], []] := rfl
theorem aw_v : armV (([[], []] : List (List (Int × Int)))).length 0 0 7 5 = 0 := by decide
theorem aw_h : armH ([[], []] : List (List (Int × Int))) 0 0 7 5 = ([[(7, 5)], []] : List (List (Int × Int))) := by decide
theorem aw_l (j : Nat) : ((([[], []] : List (List (Int × Int)))).getD j []).length ≤ 1 := by
  match j with
  | 0 => decide
  | 1 => decide
  | j + 2 => exact Nat.zero_le _
theorem aw_l3 (j : Nat) : ((([[(7, 5)], []] : List (List (Int × Int)))).getD j []).length ≤ 1 := by
  match j with
  | 0 => decide
  | 1 => decide
  | j + 2 => exact Nat.zero_le _
theorem aw_out : inOrder (ringsN ([[(7, 5)], []] : List (List (Int × Int))) 5 (([[(7, 5)], []] : List (List (Int × Int)))).length) = ([(0, 7, 5)] : List (Int × Int × Int)) := inOrder_sorted (show List.Pairwise _ ([(0, 7, 5)] : List (Int × Int × Int)) from List.pairwise_singleton _ _)
theorem aw_rest : restN ([[(7, 5)], []] : List (List (Int × Int))) 5 (([[(7, 5)], []] : List (List (Int × Int)))).length = ([[], []] : List (List (Int × Int))) := by decide
set_option maxHeartbeats 2000000 in
set_option maxRecDepth 100000 in
theorem awake_calls (w : World) : Calls Try.prog 7 #[] w fun e w' => e = .returned (.bool true) ∧ Below w.heap.size w w' := by
  go_enter Try.func7, Try.ntmps7
  go_wp2_with (first | (go_at_call 8; (with_reducible refine (new2 (w0 := w) (fun _ => 9) 100 2 2 rfl (by decide) (Below.refl _ _) aw_new).mono ?_); rintro e w1 ⟨ga, rfl, c1, h1, t1⟩; have A1 := Aside0.mk h1; have B1 := Aside0.mk (t1.far (Below.refl _ _)); clear h1 t1) | (go_at_call 9; (with_reducible refine (arm2 0 7 5 A1.out (fun j _ => Nat.lt_of_le_of_lt (aw_l j) (by decide)) aw_v aw_h).mono ?_); rintro e w2 ⟨rfl, c2, h2, t2⟩; have A2 := Aside0.mk h2; have B2 := Aside0.mk (t2.far B1.out); clear h2 t2) | (go_at_call 11; (with_reducible refine (to2 20 5 A2.out B2.out (by decide) (by decide) (by decide) (rings_bound 5 aw_l3 (by decide) (by decide)) aw_out aw_rest).mono ?_); rintro e w3 ⟨A3, k3, rfl, c3, h3, r3, t3⟩; have A3' := Aside0.mk h3; have R3 := Aside0.mk r3; have B3 := Aside0.mk (t3.far B2.out); clear h3 r3 t3) | ((with_reducible refine gate_dst (N := 32) rfl ?_); refine lit_list_w (e := 46) (c := c3) (w0 := w) (KR) 30 ?hw (N := 32) rfl (([(0, 7, 5)] : List (Int × Int × Int))) [.int .i64 0, .int .i64 7, .int .i64 5] ?hr (flatL_reps _ _ _ ([(0, 7, 5)] : List (Int × Int × Int))) ?hz9 (by simp) ?_; (case hw => exact wanted_on rfl rfl rfl rfl); (case hr => first | (go_simp; done) | (go_simp; rfl)); (case hz9 => exact Below.size B3.out); intro v4 w4 c4 h4 t4; obtain ⟨A4, k4, rfl, -, -⟩ := row_reads h4; have L4 := Aside0.mk h4; have R4 := Aside0.mk (t4.keep _ (row 34 KR) 20 _ _ (by decide) R3.out); have A4' := Aside0.mk (AL.keep1 A3'.out t4 (by decide)); have B4 := Aside0.mk (t4.far B3.out); clear h4 t4) | (go_at_call 16; (with_reducible refine (rings_same (l := ([(0, 7, 5)] : List (Int × Int × Int))) (n := 1) (row_C R4.out) (row_le R4.out) (row_C L4.out) (row_le L4.out) (by decide) (by decide)).mono ?_); rintro e w5 ⟨rfl, hb5⟩; have A5 := Aside0.mk (AL.below A4'.out hb5); have B5 := Aside0.mk (Below.trans B4.out (Below.mono hb5 (Below.size B4.out))); clear hb5) | (go_at_call 10; (with_reducible refine (now_calls A5.out).mono ?_); rintro e w6 ⟨rfl, hw6⟩; have B6 := Aside0.mk (show Below w.heap.size w w6 from hw6 ▸ B5.out); clear hw6))
  go_ret
  exact ⟨rfl, B6.out⟩
end Go.Proofs.Ytdmoembbgcoeaaa.Alarm
