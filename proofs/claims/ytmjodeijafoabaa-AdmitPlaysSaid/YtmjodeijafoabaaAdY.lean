/- Several texts in one (no law is stated here; each says its conditions). -/
import Derived.Test.YtmjodeijafoabaaSt
import Derived.Test.YtmjodeijafoabaaReg
import Derived.Test.YtmjodeijafoabaaQt
import Derived.Test.YtmjodeijafoabaaAdK
import Derived.Test.YtmjodeijafoabaaPureAdmS
import Derived.Test.YtmjodeijafoabaaAdP
import Derived.StillTailTactics
/- Admit: the reference's book: where one is, who lingers, what is counted (no law is stated here; each says its conditions). -/
namespace Go.Proofs.Ytmjodeijafoabaa.Admit
open Go.RowKit Go.Proofs.YtmjodeijafoabaaW.PrintWords Go.Proofs.YtmjodeijafoabaaW.PrintLast Go.Proofs.YtmjodeijafoabaaW.PrintMore Go.Proofs.Ytmjodeijafoabaa.St Go.Proofs.Ytmjodeijafoabaa.Q Go.Proofs.Ytmjodeijafoabaa.Pure
set_option linter.unusedVariables false
set_option linter.unusedSimpArgs false
attribute [local go_sem] max2_int min2_int max_two min_two max_three min_three max_four min_four

theorem info_rentry : (Try.prog.info? 64).map (fun i => (i.zero, i.size, i.bytes)) = some (some (.agg #[.int .i64 0, .int .i64 0, .int .i64 0, .int .i64 0]), k37.sz, 32) := by kernel_rfl
theorem info_rpair : (Try.prog.info? 45).map (fun i => (i.zero, i.size, i.bytes)) = some (some (.agg #[.int .i64 0, .int .i64 0]), k24.sz, 16) := by kernel_rfl
def RelRF (W : World) (id : Int) (l : List S37) (i : Value) (wr : World) : Prop := ∃ k : Nat, k ≤ l.length ∧ i = .int .i64 (k : Int) ∧ findE id l 0 = findE id (l.drop k) k ∧ wr = W
set_option maxHeartbeats 2000000 in
set_option maxRecDepth 100000 in
theorem rfind_calls {W : World} {g : Nat} {c0 c2 : Value} {A1 : Option Addr} {k1 : Nat} {l : List S37} (id : Int) (hb : W.heap[g]? = some (.cells #[c0, .slice A1 l.length k1, c2] 44 (0, 0))) (hr : k37.C W A1 l.length l) (hl : l.length ≤ 1000) :
    Calls Try.prog 29 #[.pointer (some ⟨g, 0, none⟩), .int .i64 id] W fun e w' => e = .returned (.int .i64 (findE id l 0)) ∧ w' = W := by
  have h1 := blk_cell hb 1
  have HR := Aside0.mk hr
  have HLL := Aside0.mk hl
  clear hb hr hl
  go_enter Try.func29, Try.ntmps29
  go_wp2
  go_loopw [5] (fun i wr => RelRF W id l i wr) (fun i _ => l.length - (intOf i).toNat)
  case atStart => exact ⟨0, Nat.zero_le _, rfl, rfl, rfl⟩
  case round =>
    obtain ⟨k, hk, rfl, hf, hz⟩ := hrel
    have hz := hz.symm
    subst hz
    have HF := Aside0.mk hf
    have hk1000 : k ≤ 1000 := by have := HLL.out; omega
    clear hf
    by_cases hlt : k < l.length
    · have pq : decide ((k : Int) < (l.length : Int)) = true := decide_eq_true (by omega)
      have bq : (0 ≤ (k : Int) ∧ (k : Int) < (l.length : Int)) := by omega
      obtain ⟨ad, hA, z0, z1, z2, z3⟩ := read_e HR.out hlt
      subst hA
      have HD := Aside0.mk (drop_at hlt)
      obtain ⟨⟨e0, ⟨e1, e2⟩, e3⟩, hx⟩ : ∃ x, l.getD k z4 = x := ⟨_, rfl⟩
      rw [hx] at z0 z1 z2 z3 HD
      clear hx
      by_cases he : e0 = id
      · have pe : (e0 == id) = true := beq_iff_eq.2 he
        have HE := Aside0.mk (show findE id l 0 = (k : Int) from by rw [HF.out, HD.out]; unfold findE; rw [if_pos he])
        clear he
        go_wp2
        go_ret
        exact ⟨by rw [HE.out]; rfl, rfl⟩
      · have pe : (e0 == id) = false := beq_eq_false_iff_ne.2 he
        have HE := Aside0.mk (show findE id l 0 = findE id (l.drop (k + 1)) (k + 1) from by rw [HF.out, HD.out, findE, if_neg he])
        clear he
        go_wp2
        exact ⟨⟨k + 1, by omega, by go_num, HE.out, rfl⟩, by simp [intOf]; omega⟩
    · have pq : decide ((k : Int) < (l.length : Int)) = false := decide_eq_false (by omega)
      have HE := Aside0.mk (show findE id l 0 = -1 from by rw [HF.out, List.drop_eq_nil_of_le (by omega)]; rfl)
      go_wp2
      go_ret
      exact ⟨by rw [HE.out]; rfl, rfl⟩
def RelRL (W : World) (now : Int) (l : List S37) (r i : Value) (wr : World) : Prop :=
  ∃ k : Nat, k ≤ l.length ∧ i = .int .i64 (k : Int) ∧ (row 64 k37).M wr W.heap.size (fun k => W.heap.size ≤ k) (ling now (l.take k)) r ∧ Below W.heap.size W wr
set_option maxHeartbeats 2000000 in
set_option maxRecDepth 100000 in
theorem rlingers_calls {W : World} {g : Nat} {c0 c1 : Value} {A2 : Option Addr} {k2 : Nat} {l : List S37} (now : Int) (hb : W.heap[g]? = some (.cells #[c0, c1, .slice A2 l.length k2] 44 (0, 0))) (hr : k37.C W A2 l.length l) (hl : l.length ≤ 1000) :
    Calls Try.prog 20 #[.pointer (some ⟨g, 0, none⟩), .int .i64 now] W fun e w' => ∃ v', e = .returned v' ∧ (row 64 k37).M w' W.heap.size (fun k => W.heap.size ≤ k) (ling now l) v' ∧ Below W.heap.size W w' := by
  have HBK := Aside0.mk hb
  have HG := Aside0.mk (blk_lt hb)
  have HR := Aside0.mk hr
  have HLL := Aside0.mk hl
  clear hb hr hl
  go_enter Try.func20, Try.ntmps20
  go_wp2
  go_loopw [5, 6] (fun r i wr => RelRL W now l r i wr) (fun _ i _ => l.length - (intOf i).toNat)
  case atStart => exact ⟨0, Nat.zero_le _, rfl, Kd.R_nil _ _ _ _ _, Below.refl _ _⟩
  case round =>
    obtain ⟨k, hk, rfl, hq, hB⟩ := hrel
    have BZ := Aside0.mk hB
    obtain ⟨q, hqe⟩ : ∃ q, ling now (l.take k) = q := ⟨_, rfl⟩
    rw [hqe] at hq
    have HQ := Aside0.mk hqe
    have HL := Aside0.mk (show q.length ≤ 1000 from by rw [← hqe]; have h1 := ling_le now (l.take k); have h2 := List.length_take_le k l; have := HLL.out; omega)
    obtain ⟨A, c2, rfl⟩ := Kd.R_slice hq
    have RZ := Aside0.mk hq
    have hk1000 : k ≤ 1000 := by have := HLL.out; omega
    clear hB hq hqe
    have y2 := blk_cell ((BZ.out.block g HG.out).trans HBK.out) 2
    by_cases hlt : k < l.length
    · have pq : decide ((k : Int) < (l.length : Int)) = true := decide_eq_true (by omega)
      have bq : (0 ≤ (k : Int) ∧ (k : Int) < (l.length : Int)) := by omega
      obtain ⟨ad, hA, z0, z1, z2, z3⟩ := read_e (Kd.C_below HR.out BZ.out) hlt
      subst hA
      have HM := Aside0.mk (ling_more (now := now) hlt)
      obtain ⟨⟨e0, ⟨e1, e2⟩, e3⟩, hx⟩ : ∃ x, l.getD k z4 = x := ⟨_, rfl⟩
      rw [hx] at z0 z1 z2 z3 HM
      clear hx
      by_cases hn : now < e3
      · have pn : decide (now < e3) = true := decide_eq_true hn
        have HE := Aside0.mk (show ling now (l.take (k + 1)) = q ++ [⟨e0, ⟨e1, e2⟩, e3⟩] from by rw [HM.out, if_pos hn, HQ.out])
        clear hn
        go_wp2_with (first | ((with_reducible refine gate_builtin (b := .append) (xs := #[.tmp 26, .tmp 34]) rfl ?_); at_builtin; refine Kd.R_append k37 (w0 := W) W.heap.size rfl (.tmp 26) (.tmp 34) 42 64 (.agg #[.int .i64 0, .int .i64 0, .int .i64 0, .int .i64 0]) 32 rfl Try.underlying42 info_rentry rfl (by decide) (by decide) (.slice A q.length c2) q ⟨e0, ⟨e1, e2⟩, e3⟩ [.int .i64 e0, .int .i64 e1, .int .i64 e2, .int .i64 e3] (fun k => W.heap.size ≤ k) (fun _ => False) rfl rfl (k37_mkM _ _ _ ⟨e0, ⟨e1, e2⟩, e3⟩) (fun _ h => h.elim) (fun k hk => Nat.le_trans (Below.size BZ.out) hk) RZ.out BZ.out (Below.size BZ.out) (by have := HL.out; omega) ?_; intro v8 w8 hO hB hG hat; have O8 := Aside0.mk hO; have B8 := Aside0.mk hB; clear hO hB hG hat))
        exact ⟨⟨k + 1, by omega, by go_num, by rw [HE.out]; exact O8.out, B8.out⟩, by simp [intOf]; omega⟩
      · have pn : decide (now < e3) = false := decide_eq_false hn
        have HE := Aside0.mk (show ling now (l.take (k + 1)) = q from by rw [HM.out, if_neg hn, HQ.out])
        clear hn
        go_wp2
        exact ⟨⟨k + 1, by omega, by go_num, by rw [HE.out]; exact RZ.out, BZ.out⟩, by simp [intOf]; omega⟩
    · have pq : decide ((k : Int) < (l.length : Int)) = false := decide_eq_false (by omega)
      have hkn : k = l.length := by omega
      have HE := Aside0.mk (show q = ling now l from by rw [← HQ.out, hkn, List.take_of_length_le (Nat.le_refl _)])
      go_wp2
      go_ret
      exact ⟨_, rfl, by rw [← HE.out]; exact RZ.out, BZ.out⟩
/-- What is counted, with x in place of the i-th live one. -/
def cnt (l1 : List S37) (i q p : Int) : List S24 := if i < 0 then prs l1 else (prs l1).set i.toNat ⟨q, p⟩
theorem cnt_len (l1 : List S37) (i q p : Int) : (cnt l1 i q p).length = l1.length := by
  unfold cnt
  split
  · exact prs_len l1
  · rw [List.length_set, prs_len]
theorem cnt_here {l1 : List S37} {k : Nat} {q p : Int} (hk : k < l1.length) : (cnt l1 (k : Int) q p).take (k + 1) = (cnt l1 (k : Int) q p).take k ++ [⟨q, p⟩] := by
  rw [take_more z24 (by rw [cnt_len]; exact hk)]
  congr 2
  unfold cnt
  rw [if_neg (by omega), Int.toNat_natCast, getD_set_here z24 _ (by rw [prs_len]; exact hk)]
theorem cnt_there {l1 : List S37} {k : Nat} {i q p : Int} (hk : k < l1.length) (hi : (k : Int) ≠ i) : (cnt l1 i q p).take (k + 1) = (cnt l1 i q p).take k ++ [(l1.getD k z4).f1] := by
  rw [take_more z24 (by rw [cnt_len]; exact hk)]
  congr 2
  have e : (prs l1).getD k z24 = (l1.getD k z4).f1 := by
    unfold prs
    rw [List.getD_eq_getElem?_getD, List.getElem?_map, List.getElem?_eq_getElem hk, List.getD_eq_getElem?_getD, List.getElem?_eq_getElem hk]
    rfl
  unfold cnt
  split
  · exact e
  · rw [List.getD_eq_getElem?_getD, List.getElem?_set_ne (by omega), ← List.getD_eq_getElem?_getD]
    exact e
theorem prs_next {l : List S37} {k : Nat} {pre : List S24} (hk : k < l.length) : pre ++ prs (l.take (k + 1)) = (pre ++ prs (l.take k)) ++ [(l.getD k z4).f1] := by
  rw [take_more z4 hk]
  unfold prs
  rw [List.map_append, List.append_assoc]
  rfl
end Go.Proofs.Ytmjodeijafoabaa.Admit

/- Admit: the reference's book: what is counted, who may come in (no law is stated here; each says its conditions). -/
namespace Go.Proofs.Ytmjodeijafoabaa.Admit
open Go.RowKit Go.Proofs.YtmjodeijafoabaaW.PrintWords Go.Proofs.YtmjodeijafoabaaW.PrintLast Go.Proofs.YtmjodeijafoabaaW.PrintMore Go.Proofs.Ytmjodeijafoabaa.St Go.Proofs.Ytmjodeijafoabaa.Q Go.Proofs.Ytmjodeijafoabaa.Pure
set_option linter.unusedVariables false
set_option linter.unusedSimpArgs false
attribute [local go_sem] max2_int min2_int max_two min_two max_three min_three max_four min_four

theorem reads_map {α β : Type} {P : α → List Value → Prop} {P' : β → List Value → Prop} {f : α → β} {sz : Nat} {w : World} {A : Option Addr} {n : Nat} {l : List α} (hP : ∀ x cs, P x cs → P' (f x) cs) (h : ReadsRow P sz w A n l) : ReadsRow P' sz w A n (l.map f) := by
  obtain ⟨h1, h2, h3⟩ := h
  refine ⟨by rw [List.length_map]; exact h1, h2, fun hn => ?_⟩
  obtain ⟨ad, hA, hr⟩ := h3 hn
  refine ⟨ad, hA, fun j p hj => ?_⟩
  rw [List.getElem?_map] at hj
  cases hx : l[j]? with
  | none => rw [hx] at hj; cases hj
  | some y =>
    rw [hx] at hj
    cases hj
    obtain ⟨c, k1, k2, k3⟩ := hr j y hx
    exact ⟨c, k1, hP _ _ k2, k3⟩
theorem C_cv {w : World} {A : Option Addr} {n : Nat} {l : List S24} (h : k24.C w A n l) : k45.C w A n (l.map cv) := reads_map (fun x cs h => by rw [k24_open h]; exact k45_mk w (cv x)) h
theorem rgood_f (q p : Int) : beadleref10_GoodPair.f q p = some (goodP q p) := by
  obtain ⟨b, h1, h2⟩ := good_same q p
  rw [good_f q p] at h1
  cases h1
  exact h2
theorem rall_tells {m : Int} {l : List S24} (hm : 1 ≤ m ∧ m ≤ 64) (h : Okl l) (hl : l.length ≤ 150) : beadleref10_All.f 200 m (l.map cv) = some (allR m l) := by
  obtain ⟨a, e, h1, h2⟩ := all_same (m := m) (l := l) hl
  have h3 := allR_f hm h
  have h4 : win_All.f 200 m l = some (allR m l) := at_rounds (fun n => win_All.mono m l n) (show 140 ≤ 200 by decide) h3
  rw [h4] at h1
  rw [h2, ← h1]
def RelRC (W : World) (l1 : List S37) (i0 q p : Int) (r i : Value) (wr : World) : Prop :=
  ∃ (k : Nat) (c : Nat → Nat), k ≤ l1.length ∧ i = .int .i64 (k : Int) ∧ blk.M wr W.heap.size (fun k => c k = 3) (.cells #[.int .i64 q, .int .i64 p] 45 (0, 0)) (.pointer (some ⟨W.heap.size, 0, none⟩)) ∧ (row 45 k24).M wr W.heap.size (fun k => c k = 1) ((cnt l1 i0 q p).take k) r ∧ Below W.heap.size W wr
def RelRD (W : World) (pre : List S24) (ln : List S37) (vl r i : Value) (wr : World) : Prop :=
  ∃ (k : Nat) (c : Nat → Nat), k ≤ ln.length ∧ i = .int .i64 (k : Int) ∧ (row 64 k37).M wr W.heap.size (fun k => c k = 4) ln vl ∧ (row 45 k24).M wr W.heap.size (fun k => c k = 1) (pre ++ prs (ln.take k)) r ∧ Below W.heap.size W wr
set_option maxHeartbeats 4000000 in
set_option maxRecDepth 100000 in
theorem counted_calls {W : World} {g : Nat} {c0 : Value} {A1 A2 : Option Addr} {k1 k2 : Nat} {l1 l2 : List S37} (now i0 q p : Int) (hb : W.heap[g]? = some (.cells #[c0, .slice A1 l1.length k1, .slice A2 l2.length k2] 44 (0, 0))) (hr1 : k37.C W A1 l1.length l1) (hr2 : k37.C W A2 l2.length l2) (hl : l1.length ≤ 500 ∧ l2.length ≤ 1000) :
    Calls Try.prog 31 #[.pointer (some ⟨g, 0, none⟩), .int .i64 now, .int .i64 i0, .agg #[.int .i64 q, .int .i64 p]] W fun e w' => ∃ v', e = .returned v' ∧ (row 45 k24).M w' W.heap.size (fun k => W.heap.size ≤ k) (cnt l1 i0 q p ++ prs (ling now l2)) v' ∧ Below W.heap.size W w' := by
  have HBK := Aside0.mk hb
  have HG := Aside0.mk (blk_lt hb)
  have HR1 := Aside0.mk hr1
  have HR2 := Aside0.mk hr2
  have HLL := Aside0.mk hl
  obtain ⟨ln, hln⟩ : ∃ ln, ling now l2 = ln := ⟨_, rfl⟩
  have HLN := Aside0.mk hln
  have HLL2 := Aside0.mk (show ln.length ≤ 1000 from by rw [← hln]; have := ling_le now l2; omega)
  rw [hln]
  clear hb hr1 hr2 hl hln
  go_enter Try.func31, Try.ntmps31
  go_upto_region 1 with (fail)
  have hbx : Below W.heap.size W (W.alloc (.cells #[.int .i64 q, .int .i64 p] 45)) := below_alloc (Below.refl _ _) _
  have hX : (W.alloc (.cells #[.int .i64 q, .int .i64 p] 45)).heap[W.heap.size]? = some (.cells #[.int .i64 q, .int .i64 p] 45 (0, 0)) := by simpa using heap_alloc_new W _
  obtain ⟨c1, h1, t1⟩ := blk_new1 (w0 := W) (fun _ => 9) 3 (Nat.le_refl _) hX hbx (Nat.le_refl _)
  have HX1 := Aside0.mk h1
  have B1 := Aside0.mk hbx
  clear h1 t1 hX hbx
  generalize W.alloc (.cells #[.int .i64 q, .int .i64 p] 45) = w1 at HX1 B1 ⊢
  go_wp2
  go_loopw [9, 10] (fun r i wr => RelRC W l1 i0 q p r i wr) (fun _ i _ => l1.length - (intOf i).toNat)
  case atStart => exact ⟨0, c1, Nat.zero_le _, rfl, HX1.out, Kd.R_nil _ _ _ _ _, B1.out⟩
  case round =>
    obtain ⟨k, c, hk, rfl, hX, hP, hB⟩ := hrel
    have XZ := Aside0.mk hX
    have BZ := Aside0.mk hB
    obtain ⟨P0, hP0⟩ : ∃ P0, (cnt l1 i0 q p).take k = P0 := ⟨_, rfl⟩
    rw [hP0] at hP
    obtain ⟨Ap, kp, rfl, -, -⟩ := row_reads hP
    have PZ := Aside0.mk hP
    have HP0 := Aside0.mk hP0
    have HBN := Aside0.mk (show P0.length ≤ 500 from by rw [← hP0, List.length_take, cnt_len]; have := HLL.out; omega)
    have hk500 : k ≤ 500 := by have := HLL.out; omega
    have y1 := blk_cell ((BZ.out.block g HG.out).trans HBK.out) 1
    clear hX hP hB hP0
    by_cases hlt : k < l1.length
    · have pq : decide ((k : Int) < (l1.length : Int)) = true := decide_eq_true (by omega)
      have pqn : decide (k < l1.length) = true := decide_eq_true hlt
      have bq : (0 ≤ (k : Int) ∧ (k : Int) < (l1.length : Int)) := by omega
      obtain ⟨P1, hP1⟩ : ∃ P1, (cnt l1 i0 q p).take (k + 1) = P1 := ⟨_, rfl⟩
      by_cases hi : (k : Int) = i0
      · have pi : ((k : Int) == i0) = true := beq_iff_eq.2 hi
        have HTK := Aside0.mk (show P0 ++ [⟨q, p⟩] = P1 from by rw [← HP0.out, ← hP1, ← hi]; exact (cnt_here hlt).symm)
        have HP1 := Aside0.mk hP1
        clear hi hP1
        have x0 := blk_cell (blk_at XZ.out) 0
        have x1 := blk_cell (blk_at XZ.out) 1
        go_wp2_with (first | ((with_reducible refine gate_dst (N := 27) rfl ?_); refine lit_list (e := 45) (c := c) (w0 := W) (k24) 2 rfl (N := 27) rfl (([⟨q, p⟩] : List S24)) [.int .i64 q, .int .i64 p] ?hr (reps_one _ _ _ _) ?hs (by simp) ?_; (case hr => first | (go_simp; done) | (go_simp; rfl)); (case hs => exact Below.size BZ.out); intro v20 w20 c20 h20 t20; have HN20 := Aside0.mk (show (row 45 (k24)).M w20 W.heap.size (fun k => c20 k = 2) (([⟨q, p⟩] : List S24)) v20 from h20); have HX20 := Aside0.mk (t20.keep _ (blk) 3 _ _ (by decide) XZ.out); have HP20 := Aside0.mk (t20.keep _ (row 45 k24) 1 _ _ (by decide) PZ.out); have B20 := Aside0.mk (t20.far BZ.out); clear h20 t20; have HN20' := HN20.out; obtain ⟨A20, k20, rfl, -, -⟩ := row_reads HN20'; clear HN20') | ((with_reducible refine gate_builtin (b := .append) (xs := #[.tmp 25, .tmp 27]) rfl ?_); refine app_list (e := 45) (c := c20) (w0 := W) (d := k24) (i := 1) rfl (.tmp 25) (.tmp 27) 66 (.agg #[.int .i64 0, .int .i64 0]) 16 rfl Try.underlying66 info_rpair rfl (by decide) (by decide) (flat24) (.slice Ap P0.length kp) (P0) (([⟨q, p⟩] : List S24)) _ _ _ rfl rfl HP20.out (row_C HN20.out) ?hs (by have := HBN.out; show (_ + 1) * 16 ≤ _; omega) ?_; (case hs => exact Below.size B20.out); intro v21 w21 c21 h21 t21; rw [HTK.out] at h21; have HP21 := Aside0.mk (show (row 45 k24).M w21 W.heap.size (fun k => c21 k = 1) P1 v21 from h21); have HX21 := Aside0.mk (t21.keep _ (blk) 3 _ _ (by decide) HX20.out); have HN21 := Aside0.mk (t21.keep _ (row 45 (k24)) 2 _ _ (by decide) HN20.out); have B21 := Aside0.mk (t21.far B20.out); clear h21 t21))
        exact ⟨⟨k + 1, c21, by omega, by go_num, HX21.out, by rw [HP1.out]; exact HP21.out, B21.out⟩, by simp [intOf]; omega⟩
      · have pi : ((k : Int) == i0) = false := beq_eq_false_iff_ne.2 hi
        obtain ⟨ad, hA, z0, z1, z2, z3⟩ := read_e (Kd.C_below HR1.out BZ.out) hlt
        subst hA
        have hT := cnt_there (q := q) (p := p) hlt hi
        obtain ⟨⟨e0, ⟨e1, e2⟩, e3⟩, hx⟩ : ∃ x, l1.getD k z4 = x := ⟨_, rfl⟩
        rw [hx] at z0 z1 z2 z3 hT
        have HTK := Aside0.mk (show P0 ++ [⟨e1, e2⟩] = P1 from by rw [← HP0.out, ← hP1, hT])
        have HP1 := Aside0.mk hP1
        clear hi hP1 hx hT z0 z3
        go_wp2_with (first | ((with_reducible refine gate_dst (N := 38) rfl ?_); refine lit_list (e := 45) (c := c) (w0 := W) (k24) 2 rfl (N := 38) rfl (([⟨e1, e2⟩] : List S24)) [.int .i64 e1, .int .i64 e2] ?hr (reps_one _ _ _ _) ?hs (by simp) ?_; (case hr => first | (go_simp; done) | (go_simp; rfl)); (case hs => exact Below.size BZ.out); intro v20 w20 c20 h20 t20; have HN20 := Aside0.mk (show (row 45 (k24)).M w20 W.heap.size (fun k => c20 k = 2) (([⟨e1, e2⟩] : List S24)) v20 from h20); have HX20 := Aside0.mk (t20.keep _ (blk) 3 _ _ (by decide) XZ.out); have HP20 := Aside0.mk (t20.keep _ (row 45 k24) 1 _ _ (by decide) PZ.out); have B20 := Aside0.mk (t20.far BZ.out); clear h20 t20; have HN20' := HN20.out; obtain ⟨A20, k20, rfl, -, -⟩ := row_reads HN20'; clear HN20') | ((with_reducible refine gate_builtin (b := .append) (xs := #[.tmp 29, .tmp 38]) rfl ?_); refine app_list (e := 45) (c := c20) (w0 := W) (d := k24) (i := 1) rfl (.tmp 29) (.tmp 38) 66 (.agg #[.int .i64 0, .int .i64 0]) 16 rfl Try.underlying66 info_rpair rfl (by decide) (by decide) (flat24) (.slice Ap P0.length kp) (P0) (([⟨e1, e2⟩] : List S24)) _ _ _ rfl rfl HP20.out (row_C HN20.out) ?hs (by have := HBN.out; show (_ + 1) * 16 ≤ _; omega) ?_; (case hs => exact Below.size B20.out); intro v21 w21 c21 h21 t21; rw [HTK.out] at h21; have HP21 := Aside0.mk (show (row 45 k24).M w21 W.heap.size (fun k => c21 k = 1) P1 v21 from h21); have HX21 := Aside0.mk (t21.keep _ (blk) 3 _ _ (by decide) HX20.out); have HN21 := Aside0.mk (t21.keep _ (row 45 (k24)) 2 _ _ (by decide) HN20.out); have B21 := Aside0.mk (t21.far B20.out); clear h21 t21))
        exact ⟨⟨k + 1, c21, by omega, by go_num, HX21.out, by rw [HP1.out]; exact HP21.out, B21.out⟩, by simp [intOf]; omega⟩
    · have pq : decide ((k : Int) < (l1.length : Int)) = false := decide_eq_false (by omega)
      have pqn : decide (k < l1.length) = false := decide_eq_false hlt
      have HPE := Aside0.mk (show P0 = cnt l1 i0 q p from by rw [← HP0.out, List.take_of_length_le (by rw [cnt_len]; omega)])
      clear HP0 hk hlt hk500 HBN
      rename List S24 => pre
      go_wp2_with (first | (go_at_call 20; (with_reducible refine (rlingers_calls (g := g) (c0 := c0) (c1 := .slice A1 l1.length k1) (A2 := A2) (k2 := k2) (l := l2) now ((BZ.out.block g HG.out).trans HBK.out) (Kd.C_below HR2.out BZ.out) HLL.out.2).mono ?_); rintro e w11 ⟨v11, rfl, h11, hb11⟩; rw [HLN.out] at h11; obtain ⟨c11, hh11, t11⟩ := row_new (w0 := W) c 4 (Kd.R_lower h11 (Below.size BZ.out)) hb11 (Below.size BZ.out); obtain ⟨A11, k11, rfl, -, -⟩ := row_reads h11; have L11 := Aside0.mk hh11; have P11 := Aside0.mk (t11.keep _ (row 45 k24) 1 _ _ (by decide) PZ.out); have B11 := Aside0.mk (t11.far BZ.out); clear h11 hh11 hb11 t11))
      clear pq pqn y1
      go_loopw [9, 12] (fun r i wr => RelRD W pre ln (.slice A11 ln.length k11) r i wr) (fun _ i _ => ln.length - (intOf i).toNat)
      case atStart => exact ⟨0, c11, Nat.zero_le _, rfl, L11.out, (by rw [List.take_zero, show prs ([] : List S37) = [] from rfl, List.append_nil]; exact P11.out), B11.out⟩
      case round =>
        clear XZ PZ BZ
        obtain ⟨k, c, hk, rfl, hL, hP, hB⟩ := hrel
        have LZ := Aside0.mk hL
        have BZ := Aside0.mk hB
        have HPS := HPE
        have HPL := Aside0.mk (show pre.length ≤ 500 from by rw [HPS.out, cnt_len]; have := HLL.out; omega)
        clear HPE P11 L11 B11
        obtain ⟨P0, hP0⟩ : ∃ P0, pre ++ prs (ln.take k) = P0 := ⟨_, rfl⟩
        rw [hP0] at hP
        obtain ⟨Ap, kp, rfl, -, -⟩ := row_reads hP
        have PZ := Aside0.mk hP
        have HP0 := Aside0.mk hP0
        have HBN := Aside0.mk (show P0.length ≤ 1500 from by rw [← hP0, List.length_append, prs_len, List.length_take]; have := HPL.out; have := HLL2.out; omega)
        have hk1000 : k ≤ 1000 := by have := HLL2.out; omega
        clear hL hP hB hP0
        by_cases hlt : k < ln.length
        · have pq : decide ((k : Int) < (ln.length : Int)) = true := decide_eq_true (by omega)
          have pqn : decide (k < ln.length) = true := decide_eq_true hlt
          have bq : (0 ≤ (k : Int) ∧ (k : Int) < (ln.length : Int)) := by omega
          obtain ⟨P1, hP1⟩ : ∃ P1, pre ++ prs (ln.take (k + 1)) = P1 := ⟨_, rfl⟩
          obtain ⟨ad, hA, z0, z1, z2, z3⟩ := read_e (row_C LZ.out) hlt
          subst hA
          have hT := prs_next (pre := pre) hlt
          obtain ⟨⟨e0, ⟨e1, e2⟩, e3⟩, hx⟩ : ∃ x, ln.getD k z4 = x := ⟨_, rfl⟩
          rw [hx] at z0 z1 z2 z3 hT
          have HTK := Aside0.mk (show P0 ++ [⟨e1, e2⟩] = P1 from by rw [← HP0.out, ← hP1, hT])
          have HP1 := Aside0.mk hP1
          clear hP1 hx hT z0 z3
          go_wp2_with (first | ((with_reducible refine gate_dst (N := 55) rfl ?_); refine lit_list (e := 45) (c := c) (w0 := W) (k24) 2 rfl (N := 55) rfl (([⟨e1, e2⟩] : List S24)) [.int .i64 e1, .int .i64 e2] ?hr (reps_one _ _ _ _) ?hs (by simp) ?_; (case hr => first | (go_simp; done) | (go_simp; rfl)); (case hs => exact Below.size BZ.out); intro v20 w20 c20 h20 t20; have HN20 := Aside0.mk (show (row 45 (k24)).M w20 W.heap.size (fun k => c20 k = 2) (([⟨e1, e2⟩] : List S24)) v20 from h20); have HL20 := Aside0.mk (t20.keep _ (row 64 k37) 4 _ _ (by decide) LZ.out); have HP20 := Aside0.mk (t20.keep _ (row 45 k24) 1 _ _ (by decide) PZ.out); have B20 := Aside0.mk (t20.far BZ.out); clear h20 t20; have HN20' := HN20.out; obtain ⟨A20, k20, rfl, -, -⟩ := row_reads HN20'; clear HN20') | ((with_reducible refine gate_builtin (b := .append) (xs := #[.tmp 49, .tmp 55]) rfl ?_); refine app_list (e := 45) (c := c20) (w0 := W) (d := k24) (i := 1) rfl (.tmp 49) (.tmp 55) 66 (.agg #[.int .i64 0, .int .i64 0]) 16 rfl Try.underlying66 info_rpair rfl (by decide) (by decide) (flat24) (.slice Ap P0.length kp) (P0) (([⟨e1, e2⟩] : List S24)) _ _ _ rfl rfl HP20.out (row_C HN20.out) ?hs (by have := HBN.out; show (_ + 1) * 16 ≤ _; omega) ?_; (case hs => exact Below.size B20.out); intro v21 w21 c21 h21 t21; rw [HTK.out] at h21; have HP21 := Aside0.mk (show (row 45 k24).M w21 W.heap.size (fun k => c21 k = 1) P1 v21 from h21); have HL21 := Aside0.mk (t21.keep _ (row 64 k37) 4 _ _ (by decide) HL20.out); have HN21 := Aside0.mk (t21.keep _ (row 45 (k24)) 2 _ _ (by decide) HN20.out); have B21 := Aside0.mk (t21.far B20.out); clear h21 t21))
          exact ⟨⟨k + 1, c21, by omega, by go_num, HL21.out, by rw [HP1.out]; exact HP21.out, B21.out⟩, by simp [intOf]; omega⟩
        · have pq : decide ((k : Int) < (ln.length : Int)) = false := decide_eq_false (by omega)
          have pqn : decide (k < ln.length) = false := decide_eq_false hlt
          have HE := Aside0.mk (show P0 = cnt l1 i0 q p ++ prs ln from by rw [← HP0.out, HPS.out, List.take_of_length_le (by omega)])
          go_wp2
          go_ret
          exact ⟨_, rfl, by rw [← HE.out]; exact (row 45 k24).mono (fun k hk => hk.2.1) ((row 45 k24).bound PZ.out), BZ.out⟩
end Go.Proofs.Ytmjodeijafoabaa.Admit

/- Admit: the reference's book: who may come in (no law is stated here; each says its conditions). -/
namespace Go.Proofs.Ytmjodeijafoabaa.Admit
open Go.RowKit Go.Proofs.YtmjodeijafoabaaW.PrintWords Go.Proofs.YtmjodeijafoabaaW.PrintLast Go.Proofs.YtmjodeijafoabaaW.PrintMore Go.Proofs.Ytmjodeijafoabaa.St Go.Proofs.Ytmjodeijafoabaa.Q Go.Proofs.Ytmjodeijafoabaa.Pure
set_option linter.unusedVariables false
set_option linter.unusedSimpArgs false
attribute [local go_sem] max2_int min2_int max_two min_two max_three min_three max_four min_four

theorem allR_fst (m : Int) (l : List S24) : (allR m l).1 = fitB m l := by
  unfold fitB allR
  split <;> simp
theorem rall_calls {w : World} {A : Option Addr} {k : Nat} {l : List S24} {m : Int} {b : Bool} (hm : 1 ≤ m ∧ m ≤ 64) (hO : Okl l) (hl : l.length ≤ 150) (hr : k24.C w A l.length l) (hk : l.length ≤ k) (hb : fitB m l = b) :
    Calls Try.prog 30 #[.int .i64 m, .slice A l.length k] w fun e w' => (∃ f, e = .returned (.tuple #[.bool b, .int .i64 f])) ∧ Below w.heap.size w w' := by
  have h := beadleref10_All.calls 200 m A k (l.map cv) (allR m l).1 (allR m l).2 w (by rw [List.length_map]; exact C_cv hr) (by rw [List.length_map]; exact hk) (rall_tells hm hO hl)
  rw [List.length_map, allR_fst, hb] at h
  exact h.mono (fun e w' h => ⟨⟨_, h.1⟩, h.2⟩)
theorem cnt_neg (l1 : List S37) (q p : Int) : cnt l1 (-1) q p = prs l1 := by unfold cnt; rw [if_pos (by decide)]
theorem ask_fit {m : Int} {l1 ln : List S37} {q p : Int} : fitB m ((prs l1 ++ prs ln) ++ [⟨q, p⟩]) = fitB m (prs l1 ++ [⟨q, p⟩] ++ prs ln) := by
  have h : ((prs l1 ++ prs ln) ++ [(⟨q, p⟩ : S24)]).Perm (prs l1 ++ [⟨q, p⟩] ++ prs ln) := by
    rw [List.append_assoc, List.append_assoc]
    exact List.Perm.append_left _ (List.perm_append_comm)
  cases h1 : fitB m (prs l1 ++ [⟨q, p⟩] ++ prs ln) with
  | true => exact fitB_perm h.symm h1
  | false =>
    cases h2 : fitB m ((prs l1 ++ prs ln) ++ [⟨q, p⟩]) with
    | false => rfl
    | true => rw [fitB_perm h h2] at h1; cases h1
set_option maxHeartbeats 8000000 in
set_option maxRecDepth 100000 in
theorem rask_calls {W : World} {g : Nat} {m : Int} {A1 A2 : Option Addr} {k1 k2 : Nat} {l1 l2 : List S37} (q p now : Int) (hb : W.heap[g]? = some (.cells #[.int .i64 m, .slice A1 l1.length k1, .slice A2 l2.length k2] 44 (0, 0))) (hr1 : k37.C W A1 l1.length l1) (hr2 : k37.C W A2 l2.length l2)
    (hl1 : l1.length ≤ 500) (hl2 : l2.length ≤ 1000) (hm : 1 ≤ m ∧ m ≤ 64) (hok1 : Okl (prs l1)) (hok2 : Okl (prs l2)) :
    Calls Try.prog 18 #[.pointer (some ⟨g, 0, none⟩), .agg #[.int .i64 q, .int .i64 p], .int .i64 now] W fun e w' => e = .returned (.int .i64 (askV m l1 l2 q p now)) ∧ Below W.heap.size W w' := by
  have HBK := Aside0.mk hb
  have HG := Aside0.mk (blk_lt hb)
  have HR1 := Aside0.mk hr1
  have HR2 := Aside0.mk hr2
  have HL := Aside0.mk (show l1.length ≤ 500 ∧ l2.length ≤ 1000 from ⟨hl1, hl2⟩)
  have HM := Aside0.mk hm
  obtain ⟨ln, hln⟩ : ∃ ln, ling now l2 = ln := ⟨_, rfl⟩
  have HLN := Aside0.mk hln
  have hll : ln.length ≤ 1000 := by rw [← hln]; have := ling_le now l2; omega
  obtain ⟨P0, hps⟩ : ∃ P0, prs l1 ++ prs ln = P0 := ⟨_, rfl⟩
  have HPS := Aside0.mk hps
  have HPN := Aside0.mk (show P0.length = l1.length + ln.length from by rw [← hps, List.length_append, prs_len, prs_len])
  have HPL := Aside0.mk (show P0.length ≤ 1500 from by rw [HPN.out]; omega)
  obtain ⟨P1, hp1⟩ : ∃ P1, P0 ++ [⟨q, p⟩] = P1 := ⟨_, rfl⟩
  have HP1 := Aside0.mk hp1
  obtain ⟨gb, hgb⟩ : ∃ gb, goodP q p = gb := ⟨_, rfl⟩
  have GB := Aside0.mk hgb
  have HKO := Aside0.mk (show gb = true → Okl P1 from fun h x hx => by
    rw [← hp1, ← hps, ← hln] at hx
    refine okl_all hok1 (good_ok (hgb.trans h)) hok2 (now := now) x ?_
    simp only [List.mem_append, List.mem_singleton] at hx ⊢
    rcases hx with (h | h) | h
    · exact Or.inl (Or.inl h)
    · exact Or.inr h
    · exact Or.inl (Or.inr h))
  obtain ⟨av, hav⟩ : ∃ av, askV m l1 l2 q p now = av := ⟨_, rfl⟩
  have HAV := Aside0.mk hav
  rw [hav]
  clear hb hr1 hr2 hm hok1 hok2 hln hgb hav hps hp1
  have hl1' : l1.length ≤ 500 := hl1
  clear hl1 hl2
  go_enter Try.func18, Try.ntmps18
  go_upto_region 1 with (fail)
  have hbx : Below W.heap.size W (W.alloc (.cells #[.int .i64 q, .int .i64 p] 45)) := below_alloc (Below.refl _ _) _
  have hX : (W.alloc (.cells #[.int .i64 q, .int .i64 p] 45)).heap[W.heap.size]? = some (.cells #[.int .i64 q, .int .i64 p] 45 (0, 0)) := by simpa using heap_alloc_new W _
  obtain ⟨c1, h1, t1⟩ := blk_new1 (w0 := W) (fun _ => 9) 3 (Nat.le_refl _) hX hbx (Nat.le_refl _)
  have HX1 := Aside0.mk h1
  have B1 := Aside0.mk hbx
  clear h1 t1 hX hbx
  generalize W.alloc (.cells #[.int .i64 q, .int .i64 p] 45) = w1 at HX1 B1 ⊢
  cases gb with
  | false =>
    have HV := Aside0.mk (show av = 1 from by rw [← HAV.out]; unfold askV; rw [if_pos (Or.inl GB.out)])
    have y0 := blk_cell (blk_at HX1.out) 0
    have y1 := blk_cell (blk_at HX1.out) 1
    go_wp2_with (first | (go_at_call 28; (with_reducible refine (beadleref10_GoodPair.calls q p _ _ (rgood_f q p)).mono ?_); rintro e w2 ⟨rfl, hd2⟩; rw [GB.out]; have hb2 := hd2.below; have HX2 := Aside0.mk (St.below (s := blk) HX1.out hb2); have B2 := Aside0.mk (Below.trans B1.out (Below.mono hb2 (Below.size B1.out))); clear hd2 hb2 y0 y1; have y0 := blk_cell (blk_at HX2.out) 0; have y1 := blk_cell (blk_at HX2.out) 1))
    go_ret
    exact ⟨by rw [HV.out]; rfl, B2.out⟩
  | true =>
    by_cases hn : now < 0
    · have pn : decide (now < 0) = true := decide_eq_true hn
      have HV := Aside0.mk (show av = 1 from by rw [← HAV.out]; unfold askV; rw [if_pos (Or.inr hn)])
      clear hn
      have y0 := blk_cell (blk_at HX1.out) 0
      have y1 := blk_cell (blk_at HX1.out) 1
      go_wp2_with (first | (go_at_call 28; (with_reducible refine (beadleref10_GoodPair.calls q p _ _ (rgood_f q p)).mono ?_); rintro e w2 ⟨rfl, hd2⟩; rw [GB.out]; have hb2 := hd2.below; have HX2 := Aside0.mk (St.below (s := blk) HX1.out hb2); have B2 := Aside0.mk (Below.trans B1.out (Below.mono hb2 (Below.size B1.out))); clear hd2 hb2 y0 y1; have y0 := blk_cell (blk_at HX2.out) 0; have y1 := blk_cell (blk_at HX2.out) 1))
      go_ret
      exact ⟨by rw [HV.out]; rfl, B2.out⟩
    have pn : decide (now < 0) = false := decide_eq_false hn
    have HA2 := Aside0.mk (show av = if 32 ≤ l1.length ∨ 63 ≤ l1.length + ln.length then 3 else if fitB m (prs l1 ++ [⟨q, p⟩] ++ prs ln) = true then 0 else 7 from by
      rw [← HAV.out]; unfold askV; rw [if_neg (by rintro (h | h); rw [GB.out] at h; cases h; exact hn h), HLN.out])
    have HOK := Aside0.mk (HKO.out rfl)
    clear hn HKO
    by_cases h32 : 32 ≤ l1.length
    · have d32 : decide ((32 : Int) ≤ (l1.length : Int)) = true := decide_eq_true (by omega)
      have d32n : decide (32 ≤ l1.length) = true := decide_eq_true h32
      have HV := Aside0.mk (show av = 3 from by rw [HA2.out, if_pos (Or.inl h32)])
      clear h32
      have y0 := blk_cell (blk_at HX1.out) 0
      have y1 := blk_cell (blk_at HX1.out) 1
      go_wp2_with (first | (go_at_call 28; (with_reducible refine (beadleref10_GoodPair.calls q p _ _ (rgood_f q p)).mono ?_); rintro e w2 ⟨rfl, hd2⟩; rw [GB.out]; have hb2 := hd2.below; have HX2 := Aside0.mk (St.below (s := blk) HX1.out hb2); have B2 := Aside0.mk (Below.trans B1.out (Below.mono hb2 (Below.size B1.out))); clear hd2 hb2 y0 y1; have y0 := blk_cell (blk_at HX2.out) 0; have y1 := blk_cell (blk_at HX2.out) 1) | (go_at_call 31; (with_reducible refine (counted_calls (g := g) (c0 := .int .i64 m) (A1 := A1) (A2 := A2) (k1 := k1) (k2 := k2) (l1 := l1) (l2 := l2) now (-1) q p ((B2.out.block g HG.out).trans HBK.out) (Kd.C_below HR1.out B2.out) (Kd.C_below HR2.out B2.out) HL.out).mono ?_); rintro e w3 ⟨v3, rfl, r3, b3⟩; rw [cnt_neg, HLN.out, HPS.out] at r3; obtain ⟨c3, h3, t3⟩ := row_new (w0 := W) c1 1 (Kd.R_lower r3 (Below.size B2.out)) b3 (Below.size B2.out); obtain ⟨A3, k3, rfl, -, -⟩ := row_reads r3; have HP3 := Aside0.mk (show (row 45 k24).M w3 W.heap.size (fun k => c3 k = 1) P0 (.slice A3 P0.length k3) from h3); have HX3 := Aside0.mk (t3.keep _ (blk) 3 _ _ (by decide) HX2.out); have B3 := Aside0.mk (t3.far B2.out); clear r3 b3 h3 t3 y0 y1; have z1 := blk_cell ((B3.out.block g HG.out).trans HBK.out) 1))
      go_ret
      exact ⟨by rw [HV.out]; rfl, B3.out⟩
    have d32 : decide ((32 : Int) ≤ (l1.length : Int)) = false := decide_eq_false (by omega)
    have d32n : decide (32 ≤ l1.length) = false := decide_eq_false h32
    by_cases h63 : 63 ≤ l1.length + ln.length
    · have d63 : decide ((63 : Int) ≤ (P0.length : Int)) = true := decide_eq_true (by rw [HPN.out]; omega)
      have d63n : decide (63 ≤ P0.length) = true := decide_eq_true (by rw [HPN.out]; omega)
      have HV := Aside0.mk (show av = 3 from by rw [HA2.out, if_pos (Or.inr h63)])
      clear h63 h32
      have y0 := blk_cell (blk_at HX1.out) 0
      have y1 := blk_cell (blk_at HX1.out) 1
      go_wp2_with (first | (go_at_call 28; (with_reducible refine (beadleref10_GoodPair.calls q p _ _ (rgood_f q p)).mono ?_); rintro e w2 ⟨rfl, hd2⟩; rw [GB.out]; have hb2 := hd2.below; have HX2 := Aside0.mk (St.below (s := blk) HX1.out hb2); have B2 := Aside0.mk (Below.trans B1.out (Below.mono hb2 (Below.size B1.out))); clear hd2 hb2 y0 y1; have y0 := blk_cell (blk_at HX2.out) 0; have y1 := blk_cell (blk_at HX2.out) 1) | (go_at_call 31; (with_reducible refine (counted_calls (g := g) (c0 := .int .i64 m) (A1 := A1) (A2 := A2) (k1 := k1) (k2 := k2) (l1 := l1) (l2 := l2) now (-1) q p ((B2.out.block g HG.out).trans HBK.out) (Kd.C_below HR1.out B2.out) (Kd.C_below HR2.out B2.out) HL.out).mono ?_); rintro e w3 ⟨v3, rfl, r3, b3⟩; rw [cnt_neg, HLN.out, HPS.out] at r3; obtain ⟨c3, h3, t3⟩ := row_new (w0 := W) c1 1 (Kd.R_lower r3 (Below.size B2.out)) b3 (Below.size B2.out); obtain ⟨A3, k3, rfl, -, -⟩ := row_reads r3; have HP3 := Aside0.mk (show (row 45 k24).M w3 W.heap.size (fun k => c3 k = 1) P0 (.slice A3 P0.length k3) from h3); have HX3 := Aside0.mk (t3.keep _ (blk) 3 _ _ (by decide) HX2.out); have B3 := Aside0.mk (t3.far B2.out); clear r3 b3 h3 t3 y0 y1; have z1 := blk_cell ((B3.out.block g HG.out).trans HBK.out) 1))
      go_ret
      exact ⟨by rw [HV.out]; rfl, B3.out⟩
    have d63 : decide ((63 : Int) ≤ (P0.length : Int)) = false := decide_eq_false (by rw [HPN.out]; omega)
    have d63n : decide (63 ≤ P0.length) = false := decide_eq_false (by rw [HPN.out]; omega)
    have HPL1 := Aside0.mk (show P1.length ≤ 150 from by rw [← HP1.out, List.length_append, HPN.out]; show _ + 1 ≤ _; omega)
    have HA3 := Aside0.mk (show av = if fitB m P1 = true then 0 else 7 from by rw [HA2.out, if_neg (by omega), ← HP1.out, ← HPS.out, ask_fit])
    clear h63 h32
    obtain ⟨fb, hfb⟩ : ∃ fb, fitB m P1 = fb := ⟨_, rfl⟩
    have HFB := Aside0.mk hfb
    clear hfb
    cases fb with
    | false =>
      have HV := Aside0.mk (show av = 7 from by rw [HA3.out, HFB.out, if_neg Bool.false_ne_true])
      have y0 := blk_cell (blk_at HX1.out) 0
      have y1 := blk_cell (blk_at HX1.out) 1
      go_upto_region 6 with (first | (go_at_call 28; (with_reducible refine (beadleref10_GoodPair.calls q p _ _ (rgood_f q p)).mono ?_); rintro e w2 ⟨rfl, hd2⟩; rw [GB.out]; have hb2 := hd2.below; have HX2 := Aside0.mk (St.below (s := blk) HX1.out hb2); have B2 := Aside0.mk (Below.trans B1.out (Below.mono hb2 (Below.size B1.out))); clear hd2 hb2 y0 y1; have y0 := blk_cell (blk_at HX2.out) 0; have y1 := blk_cell (blk_at HX2.out) 1) | (go_at_call 31; (with_reducible refine (counted_calls (g := g) (c0 := .int .i64 m) (A1 := A1) (A2 := A2) (k1 := k1) (k2 := k2) (l1 := l1) (l2 := l2) now (-1) q p ((B2.out.block g HG.out).trans HBK.out) (Kd.C_below HR1.out B2.out) (Kd.C_below HR2.out B2.out) HL.out).mono ?_); rintro e w3 ⟨v3, rfl, r3, b3⟩; rw [cnt_neg, HLN.out, HPS.out] at r3; obtain ⟨c3, h3, t3⟩ := row_new (w0 := W) c1 1 (Kd.R_lower r3 (Below.size B2.out)) b3 (Below.size B2.out); obtain ⟨A3, k3, rfl, -, -⟩ := row_reads r3; have HP3 := Aside0.mk (show (row 45 k24).M w3 W.heap.size (fun k => c3 k = 1) P0 (.slice A3 P0.length k3) from h3); have HX3 := Aside0.mk (t3.keep _ (blk) 3 _ _ (by decide) HX2.out); have B3 := Aside0.mk (t3.far B2.out); clear r3 b3 h3 t3 y0 y1; have z1 := blk_cell ((B3.out.block g HG.out).trans HBK.out) 1))
      clear z1
      obtain ⟨w4, hw4⟩ : ∃ w4 : World, w3.drew = w4 := ⟨_, rfl⟩
      have hb4 : Below w3.heap.size w3 w4 := by rw [← hw4]; exact below_drew (Below.refl _ _)
      have HX4 := Aside0.mk (St.below (s := blk) HX3.out hb4)
      have HP4 := Aside0.mk (St.below (s := row 45 k24) HP3.out hb4)
      have B4 := Aside0.mk (Below.trans B3.out (Below.mono hb4 (Below.size B3.out)))
      clear hb4
      refine start_ (n := 14) (S := fun w' => w'.cell? ⟨g, 0, none⟩ = some (.int .i64 m) ∧ w'.cell? ⟨W.heap.size, 0, none⟩ = some (.int .i64 q) ∧ w'.cell? ⟨W.heap.size, 1, none⟩ = some (.int .i64 p)) (ds := []) #[false, false, false, false, false, false, false, false, false, false, false, false, false, false] (by kernel_rfl) rfl rfl (by rw [hw4]; exact ⟨blk_cell ((B4.out.block g HG.out).trans HBK.out) 0, blk_cell (blk_at HX4.out) 0, blk_cell (blk_at HX4.out) 1⟩) (fun hHeld => ?_)
      refine pure_ (i := 0) (N := some 36) (v := ?_) (a' := ?_) #[true, false, false, false, false, false, false, false, false, false, false, false, false, false] rfl rfl (by kernel_rfl) (fun _ _ _ h => h) (Or.inl ⟨by rfl, ?_⟩) ?_ ?_
      rotate_left
      · intro w'
        go_simp
        with_reducible rfl
      rotate_left
      · simp only [Act.put, List.setIfInBounds_toArray, List.set_cons_zero, List.set_cons_succ, i64_w, i32_w]
        rfl
      refine pure_ (i := 1) (N := some 37) (v := ?_) (a' := ?_) #[true, true, false, false, false, false, false, false, false, false, false, false, false, false] rfl rfl (by kernel_rfl) (fun _ _ _ h => h) (Or.inl ⟨by rfl, ?_⟩) ?_ ?_
      rotate_left
      · intro w'
        go_simp
        with_reducible rfl
      rotate_left
      · simp only [Act.put, List.setIfInBounds_toArray, List.set_cons_zero, List.set_cons_succ, i64_w, i32_w]
        rfl
      refine pure_ (i := 2) (N := some 38) (v := ?_) (a' := ?_) #[true, true, true, false, false, false, false, false, false, false, false, false, false, false] rfl rfl (by kernel_rfl) (fun _ _ _ h => h) (Or.inl ⟨by rfl, ?_⟩) ?_ ?_
      rotate_left
      · intro w'
        go_simp
        with_reducible rfl
      rotate_left
      · simp only [Act.put, List.setIfInBounds_toArray, List.set_cons_zero, List.set_cons_succ, i64_w, i32_w]
        rfl
      refine take_ (i := 3) (N := some 39) (v := ?_) (a' := ?_) #[true, true, true, true, false, false, false, false, false, false, false, false, false, false] rfl rfl (by kernel_rfl) (fun _ _ _ h => h) (Or.inl ⟨by rfl, ?_⟩) hHeld ?_ ?_
      rotate_left
      · intro w' hS_
        obtain ⟨s0_, s1_, s2_⟩ := hS_
        go_simp
        with_reducible rfl
      rotate_left
      · simp only [Act.put, List.setIfInBounds_toArray, List.set_cons_zero, List.set_cons_succ, i64_w, i32_w]
        rfl
      refine pure_ (i := 4) (N := some 40) (v := ?_) (a' := ?_) #[true, true, true, true, true, false, false, false, false, false, false, false, false, false] rfl rfl (by kernel_rfl) (fun _ _ _ h => h) (Or.inl ⟨by rfl, ?_⟩) ?_ ?_
      rotate_left
      · intro w'
        go_simp
        with_reducible rfl
      rotate_left
      · simp only [Act.put, List.setIfInBounds_toArray, List.set_cons_zero, List.set_cons_succ, i64_w, i32_w]
        rfl
      refine take_ (i := 5) (N := some 41) (v := ?_) (a' := ?_) #[true, true, true, true, true, true, false, false, false, false, false, false, false, false] rfl rfl (by kernel_rfl) (fun _ _ _ h => h) (Or.inl ⟨by rfl, ?_⟩) hHeld ?_ ?_
      rotate_left
      · intro w' hS_
        obtain ⟨s0_, s1_, s2_⟩ := hS_
        go_simp
        with_reducible rfl
      rotate_left
      · simp only [Act.put, List.setIfInBounds_toArray, List.set_cons_zero, List.set_cons_succ, i64_w, i32_w]
        rfl
      refine one_ (i := 6) (N := some 42) #[true, true, true, true, true, true, true, false, false, false, false, false, false, false] rfl rfl (by kernel_rfl) (by decide) (fun K hK => ?_)
      rw [hw4]
      refine lit_step (e := 45) (c := c3) (w0 := W) k24 2 ?hg (N := 42) ?hd ([⟨q, p⟩] : List S24) [.int .i64 q, .int .i64 p] ?hr ?hp ?hs (by simp) ?_
      (case hd => rfl)
      (case hg => rfl)
      (case hp => exact reps_one _ _ _ _)
      (case hr => first | (go_simp; done) | (go_simp; rfl))
      (case hs => exact Below.size B4.out)
      intro v5 w5 c5 h5 t5
      obtain ⟨A5, k5, rfl, -, -⟩ := row_reads h5
      have HQ5 := Aside0.mk (show (row 45 k24).M w5 W.heap.size (fun k => c5 k = 2) ([⟨q, p⟩] : List S24) (.slice A5 ([⟨q, p⟩] : List S24).length k5) from h5)
      have HX5 := Aside0.mk (t5.keep _ (blk) 3 _ _ (by decide) HX4.out)
      have HP5 := Aside0.mk (t5.keep _ (row 45 k24) 1 _ _ (by decide) HP4.out)
      have B5 := Aside0.mk (t5.far B4.out)
      clear h5 t5
      have hHeld := (show _ = some (Value.int IntKind.i64 m) ∧ _ = some (Value.int IntKind.i64 q) ∧ _ = some (Value.int IntKind.i64 p) from ⟨blk_cell ((B5.out.block g HG.out).trans HBK.out) 0, blk_cell (blk_at HX5.out) 0, blk_cell (blk_at HX5.out) 1⟩)
      refine hK.out _ _ hHeld (fun hHeld => ?_)
      clear hK K
      refine norm_ (a' := ?_) ?_ ?_
      rotate_left
      · show Act.put _ (some 42) _ = _
        simp only [Act.put, List.setIfInBounds_toArray, List.set_cons_zero, List.set_cons_succ, i64_w, i32_w]
        rfl
      refine one_ (i := 7) (N := some 43) #[true, true, true, true, true, true, true, true, false, false, false, false, false, false] rfl rfl (by kernel_rfl) (by decide) (fun K hK => ?_)
      refine app_step (e := 45) (c := c5) (w0 := W) (d := k24) (i := 1) (by rfl) (.tmp 40) (.tmp 42) 66 (.agg #[.int .i64 0, .int .i64 0]) 16 rfl Try.underlying66 info_rpair rfl (by decide) (by decide) flat24 (.slice A3 P0.length k3) P0 ([⟨q, p⟩] : List S24) _ _ _ rfl rfl HP5.out (row_C HQ5.out) ?hs (by have := HPL.out; show (_ + 1) * 16 ≤ _; omega) ?_
      (case hs => exact Below.size B5.out)
      intro v6 w6 c6 h6 t6
      rw [HP1.out] at h6
      obtain ⟨A6, k6, rfl, -, -⟩ := row_reads h6
      have HP6 := Aside0.mk (show (row 45 k24).M w6 W.heap.size (fun k => c6 k = 1) P1 (.slice A6 P1.length k6) from h6)
      have HX6 := Aside0.mk (t6.keep _ (blk) 3 _ _ (by decide) HX5.out)
      have HQ6 := Aside0.mk (t6.keep _ (row 45 k24) 2 _ _ (by decide) HQ5.out)
      have B6 := Aside0.mk (t6.far B5.out)
      clear h6 t6
      have hHeld := (show _ = some (Value.int IntKind.i64 m) ∧ _ = some (Value.int IntKind.i64 q) ∧ _ = some (Value.int IntKind.i64 p) from ⟨blk_cell ((B6.out.block g HG.out).trans HBK.out) 0, blk_cell (blk_at HX6.out) 0, blk_cell (blk_at HX6.out) 1⟩)
      refine hK.out _ _ hHeld (fun hHeld => ?_)
      clear hK K
      refine norm_ (a' := ?_) ?_ ?_
      rotate_left
      · show Act.put _ (some 43) _ = _
        simp only [Act.put, List.setIfInBounds_toArray, List.set_cons_zero, List.set_cons_succ, i64_w, i32_w]
        rfl
      refine one_ (i := 8) (N := some 44) #[true, true, true, true, true, true, true, true, true, false, false, false, false, false] rfl rfl (by kernel_rfl) (by decide) (fun K hK => ?_)
      refine goes_ Try.func30 (by kernel_rfl) rfl #[.int .i64 m, .slice A6 P1.length k6] ?hw rfl rfl ?hx ?_
      (case hw => rfl)
      (case hx => (try simp only [List.map_toArray, List.map_cons, List.map_nil]); first | done | rfl)
      refine (rall_calls HM.out HOK.out HPL1.out (row_C HP6.out) (row_le HP6.out) HFB.out).mono ?_
      rintro e w7 ⟨⟨fe, rfl⟩, b7⟩
      have HX7 := Aside0.mk (St.below (s := blk) HX6.out b7)
      have HP7 := Aside0.mk (St.below (s := row 45 k24) HP6.out b7)
      have HQ7 := Aside0.mk (St.below (s := row 45 k24) HQ6.out b7)
      have B7 := Aside0.mk (Below.trans B6.out (Below.mono b7 (Below.size B6.out)))
      clear b7
      refine ⟨_, rfl, ?_⟩
      have hHeld := (show _ = some (Value.int IntKind.i64 m) ∧ _ = some (Value.int IntKind.i64 q) ∧ _ = some (Value.int IntKind.i64 p) from ⟨blk_cell ((B7.out.block g HG.out).trans HBK.out) 0, blk_cell (blk_at HX7.out) 0, blk_cell (blk_at HX7.out) 1⟩)
      refine hK.out _ _ hHeld (fun hHeld => ?_)
      clear hK K
      refine norm_ (a' := ?_) ?_ ?_
      rotate_left
      · show Act.put _ (some 44) _ = _
        simp only [Act.put, List.setIfInBounds_toArray, List.set_cons_zero, List.set_cons_succ, i64_w, i32_w]
        rfl
      refine pure_ (i := 9) (N := some 35) (v := ?_) (a' := ?_) #[true, true, true, true, true, true, true, true, true, true, false, false, false, false] rfl rfl (by kernel_rfl) (fun _ _ _ h => h) (Or.inl ⟨by rfl, ?_⟩) ?_ ?_
      rotate_left
      · intro w'
        go_simp
        with_reducible rfl
      rotate_left
      · simp only [Act.put, List.setIfInBounds_toArray, List.set_cons_zero, List.set_cons_succ, i64_w, i32_w]
        rfl
      refine pure_ (i := 10) (N := some 45) (v := ?_) (a' := ?_) #[true, true, true, true, true, true, true, true, true, true, true, false, false, false] rfl rfl (by kernel_rfl) (fun _ _ _ h => h) (Or.inl ⟨by rfl, ?_⟩) ?_ ?_
      rotate_left
      · intro w'
        go_simp
        with_reducible rfl
      rotate_left
      · simp only [Act.put, List.setIfInBounds_toArray, List.set_cons_zero, List.set_cons_succ, i64_w, i32_w]
        rfl
      refine pure_ (i := 11) (N := some 46) (v := ?_) (a' := ?_) #[true, true, true, true, true, true, true, true, true, true, true, true, false, false] rfl rfl (by kernel_rfl) (fun _ _ _ h => h) (Or.inl ⟨by rfl, ?_⟩) ?_ ?_
      rotate_left
      · intro w'
        go_simp
        with_reducible rfl
      rotate_left
      · simp only [Act.put, List.setIfInBounds_toArray, List.set_cons_zero, List.set_cons_succ, i64_w, i32_w]
        rfl
      refine pure_ (i := 12) (N := some 8) (v := ?_) (a' := ?_) #[true, true, true, true, true, true, true, true, true, true, true, true, true, false] rfl rfl (by kernel_rfl) (fun _ _ _ h => h) (Or.inl ⟨by rfl, ?_⟩) ?_ ?_
      rotate_left
      · intro w'
        go_simp
        with_reducible rfl
      rotate_left
      · simp only [Act.put, List.setIfInBounds_toArray, List.set_cons_zero, List.set_cons_succ, i64_w, i32_w]
        rfl
      refine pure_ (i := 13) (N := some 9) (v := ?_) (a' := ?_) #[true, true, true, true, true, true, true, true, true, true, true, true, true, true] rfl rfl (by kernel_rfl) (fun _ _ _ h => h) (Or.inl ⟨by rfl, ?_⟩) ?_ ?_
      rotate_left
      · intro w'
        go_simp
        with_reducible rfl
      rotate_left
      · simp only [Act.put, List.setIfInBounds_toArray, List.set_cons_zero, List.set_cons_succ, i64_w, i32_w]
        rfl
      refine done_ (by kernel_rfl) ?_
      go_wp2
      go_ret
      exact ⟨by rw [HV.out]; rfl, B7.out⟩
    | true =>
      have HV := Aside0.mk (show av = 0 from by rw [HA3.out, HFB.out, if_pos rfl])
      have y0 := blk_cell (blk_at HX1.out) 0
      have y1 := blk_cell (blk_at HX1.out) 1
      go_upto_region 6 with (first | (go_at_call 28; (with_reducible refine (beadleref10_GoodPair.calls q p _ _ (rgood_f q p)).mono ?_); rintro e w2 ⟨rfl, hd2⟩; rw [GB.out]; have hb2 := hd2.below; have HX2 := Aside0.mk (St.below (s := blk) HX1.out hb2); have B2 := Aside0.mk (Below.trans B1.out (Below.mono hb2 (Below.size B1.out))); clear hd2 hb2 y0 y1; have y0 := blk_cell (blk_at HX2.out) 0; have y1 := blk_cell (blk_at HX2.out) 1) | (go_at_call 31; (with_reducible refine (counted_calls (g := g) (c0 := .int .i64 m) (A1 := A1) (A2 := A2) (k1 := k1) (k2 := k2) (l1 := l1) (l2 := l2) now (-1) q p ((B2.out.block g HG.out).trans HBK.out) (Kd.C_below HR1.out B2.out) (Kd.C_below HR2.out B2.out) HL.out).mono ?_); rintro e w3 ⟨v3, rfl, r3, b3⟩; rw [cnt_neg, HLN.out, HPS.out] at r3; obtain ⟨c3, h3, t3⟩ := row_new (w0 := W) c1 1 (Kd.R_lower r3 (Below.size B2.out)) b3 (Below.size B2.out); obtain ⟨A3, k3, rfl, -, -⟩ := row_reads r3; have HP3 := Aside0.mk (show (row 45 k24).M w3 W.heap.size (fun k => c3 k = 1) P0 (.slice A3 P0.length k3) from h3); have HX3 := Aside0.mk (t3.keep _ (blk) 3 _ _ (by decide) HX2.out); have B3 := Aside0.mk (t3.far B2.out); clear r3 b3 h3 t3 y0 y1; have z1 := blk_cell ((B3.out.block g HG.out).trans HBK.out) 1))
      clear z1
      obtain ⟨w4, hw4⟩ : ∃ w4 : World, w3.drew = w4 := ⟨_, rfl⟩
      have hb4 : Below w3.heap.size w3 w4 := by rw [← hw4]; exact below_drew (Below.refl _ _)
      have HX4 := Aside0.mk (St.below (s := blk) HX3.out hb4)
      have HP4 := Aside0.mk (St.below (s := row 45 k24) HP3.out hb4)
      have B4 := Aside0.mk (Below.trans B3.out (Below.mono hb4 (Below.size B3.out)))
      clear hb4
      refine start_ (n := 14) (S := fun w' => w'.cell? ⟨g, 0, none⟩ = some (.int .i64 m) ∧ w'.cell? ⟨W.heap.size, 0, none⟩ = some (.int .i64 q) ∧ w'.cell? ⟨W.heap.size, 1, none⟩ = some (.int .i64 p)) (ds := []) #[false, false, false, false, false, false, false, false, false, false, false, false, false, false] (by kernel_rfl) rfl rfl (by rw [hw4]; exact ⟨blk_cell ((B4.out.block g HG.out).trans HBK.out) 0, blk_cell (blk_at HX4.out) 0, blk_cell (blk_at HX4.out) 1⟩) (fun hHeld => ?_)
      refine pure_ (i := 0) (N := some 36) (v := ?_) (a' := ?_) #[true, false, false, false, false, false, false, false, false, false, false, false, false, false] rfl rfl (by kernel_rfl) (fun _ _ _ h => h) (Or.inl ⟨by rfl, ?_⟩) ?_ ?_
      rotate_left
      · intro w'
        go_simp
        with_reducible rfl
      rotate_left
      · simp only [Act.put, List.setIfInBounds_toArray, List.set_cons_zero, List.set_cons_succ, i64_w, i32_w]
        rfl
      refine pure_ (i := 1) (N := some 37) (v := ?_) (a' := ?_) #[true, true, false, false, false, false, false, false, false, false, false, false, false, false] rfl rfl (by kernel_rfl) (fun _ _ _ h => h) (Or.inl ⟨by rfl, ?_⟩) ?_ ?_
      rotate_left
      · intro w'
        go_simp
        with_reducible rfl
      rotate_left
      · simp only [Act.put, List.setIfInBounds_toArray, List.set_cons_zero, List.set_cons_succ, i64_w, i32_w]
        rfl
      refine pure_ (i := 2) (N := some 38) (v := ?_) (a' := ?_) #[true, true, true, false, false, false, false, false, false, false, false, false, false, false] rfl rfl (by kernel_rfl) (fun _ _ _ h => h) (Or.inl ⟨by rfl, ?_⟩) ?_ ?_
      rotate_left
      · intro w'
        go_simp
        with_reducible rfl
      rotate_left
      · simp only [Act.put, List.setIfInBounds_toArray, List.set_cons_zero, List.set_cons_succ, i64_w, i32_w]
        rfl
      refine take_ (i := 3) (N := some 39) (v := ?_) (a' := ?_) #[true, true, true, true, false, false, false, false, false, false, false, false, false, false] rfl rfl (by kernel_rfl) (fun _ _ _ h => h) (Or.inl ⟨by rfl, ?_⟩) hHeld ?_ ?_
      rotate_left
      · intro w' hS_
        obtain ⟨s0_, s1_, s2_⟩ := hS_
        go_simp
        with_reducible rfl
      rotate_left
      · simp only [Act.put, List.setIfInBounds_toArray, List.set_cons_zero, List.set_cons_succ, i64_w, i32_w]
        rfl
      refine pure_ (i := 4) (N := some 40) (v := ?_) (a' := ?_) #[true, true, true, true, true, false, false, false, false, false, false, false, false, false] rfl rfl (by kernel_rfl) (fun _ _ _ h => h) (Or.inl ⟨by rfl, ?_⟩) ?_ ?_
      rotate_left
      · intro w'
        go_simp
        with_reducible rfl
      rotate_left
      · simp only [Act.put, List.setIfInBounds_toArray, List.set_cons_zero, List.set_cons_succ, i64_w, i32_w]
        rfl
      refine take_ (i := 5) (N := some 41) (v := ?_) (a' := ?_) #[true, true, true, true, true, true, false, false, false, false, false, false, false, false] rfl rfl (by kernel_rfl) (fun _ _ _ h => h) (Or.inl ⟨by rfl, ?_⟩) hHeld ?_ ?_
      rotate_left
      · intro w' hS_
        obtain ⟨s0_, s1_, s2_⟩ := hS_
        go_simp
        with_reducible rfl
      rotate_left
      · simp only [Act.put, List.setIfInBounds_toArray, List.set_cons_zero, List.set_cons_succ, i64_w, i32_w]
        rfl
      refine one_ (i := 6) (N := some 42) #[true, true, true, true, true, true, true, false, false, false, false, false, false, false] rfl rfl (by kernel_rfl) (by decide) (fun K hK => ?_)
      rw [hw4]
      refine lit_step (e := 45) (c := c3) (w0 := W) k24 2 ?hg (N := 42) ?hd ([⟨q, p⟩] : List S24) [.int .i64 q, .int .i64 p] ?hr ?hp ?hs (by simp) ?_
      (case hd => rfl)
      (case hg => rfl)
      (case hp => exact reps_one _ _ _ _)
      (case hr => first | (go_simp; done) | (go_simp; rfl))
      (case hs => exact Below.size B4.out)
      intro v5 w5 c5 h5 t5
      obtain ⟨A5, k5, rfl, -, -⟩ := row_reads h5
      have HQ5 := Aside0.mk (show (row 45 k24).M w5 W.heap.size (fun k => c5 k = 2) ([⟨q, p⟩] : List S24) (.slice A5 ([⟨q, p⟩] : List S24).length k5) from h5)
      have HX5 := Aside0.mk (t5.keep _ (blk) 3 _ _ (by decide) HX4.out)
      have HP5 := Aside0.mk (t5.keep _ (row 45 k24) 1 _ _ (by decide) HP4.out)
      have B5 := Aside0.mk (t5.far B4.out)
      clear h5 t5
      have hHeld := (show _ = some (Value.int IntKind.i64 m) ∧ _ = some (Value.int IntKind.i64 q) ∧ _ = some (Value.int IntKind.i64 p) from ⟨blk_cell ((B5.out.block g HG.out).trans HBK.out) 0, blk_cell (blk_at HX5.out) 0, blk_cell (blk_at HX5.out) 1⟩)
      refine hK.out _ _ hHeld (fun hHeld => ?_)
      clear hK K
      refine norm_ (a' := ?_) ?_ ?_
      rotate_left
      · show Act.put _ (some 42) _ = _
        simp only [Act.put, List.setIfInBounds_toArray, List.set_cons_zero, List.set_cons_succ, i64_w, i32_w]
        rfl
      refine one_ (i := 7) (N := some 43) #[true, true, true, true, true, true, true, true, false, false, false, false, false, false] rfl rfl (by kernel_rfl) (by decide) (fun K hK => ?_)
      refine app_step (e := 45) (c := c5) (w0 := W) (d := k24) (i := 1) (by rfl) (.tmp 40) (.tmp 42) 66 (.agg #[.int .i64 0, .int .i64 0]) 16 rfl Try.underlying66 info_rpair rfl (by decide) (by decide) flat24 (.slice A3 P0.length k3) P0 ([⟨q, p⟩] : List S24) _ _ _ rfl rfl HP5.out (row_C HQ5.out) ?hs (by have := HPL.out; show (_ + 1) * 16 ≤ _; omega) ?_
      (case hs => exact Below.size B5.out)
      intro v6 w6 c6 h6 t6
      rw [HP1.out] at h6
      obtain ⟨A6, k6, rfl, -, -⟩ := row_reads h6
      have HP6 := Aside0.mk (show (row 45 k24).M w6 W.heap.size (fun k => c6 k = 1) P1 (.slice A6 P1.length k6) from h6)
      have HX6 := Aside0.mk (t6.keep _ (blk) 3 _ _ (by decide) HX5.out)
      have HQ6 := Aside0.mk (t6.keep _ (row 45 k24) 2 _ _ (by decide) HQ5.out)
      have B6 := Aside0.mk (t6.far B5.out)
      clear h6 t6
      have hHeld := (show _ = some (Value.int IntKind.i64 m) ∧ _ = some (Value.int IntKind.i64 q) ∧ _ = some (Value.int IntKind.i64 p) from ⟨blk_cell ((B6.out.block g HG.out).trans HBK.out) 0, blk_cell (blk_at HX6.out) 0, blk_cell (blk_at HX6.out) 1⟩)
      refine hK.out _ _ hHeld (fun hHeld => ?_)
      clear hK K
      refine norm_ (a' := ?_) ?_ ?_
      rotate_left
      · show Act.put _ (some 43) _ = _
        simp only [Act.put, List.setIfInBounds_toArray, List.set_cons_zero, List.set_cons_succ, i64_w, i32_w]
        rfl
      refine one_ (i := 8) (N := some 44) #[true, true, true, true, true, true, true, true, true, false, false, false, false, false] rfl rfl (by kernel_rfl) (by decide) (fun K hK => ?_)
      refine goes_ Try.func30 (by kernel_rfl) rfl #[.int .i64 m, .slice A6 P1.length k6] ?hw rfl rfl ?hx ?_
      (case hw => rfl)
      (case hx => (try simp only [List.map_toArray, List.map_cons, List.map_nil]); first | done | rfl)
      refine (rall_calls HM.out HOK.out HPL1.out (row_C HP6.out) (row_le HP6.out) HFB.out).mono ?_
      rintro e w7 ⟨⟨fe, rfl⟩, b7⟩
      have HX7 := Aside0.mk (St.below (s := blk) HX6.out b7)
      have HP7 := Aside0.mk (St.below (s := row 45 k24) HP6.out b7)
      have HQ7 := Aside0.mk (St.below (s := row 45 k24) HQ6.out b7)
      have B7 := Aside0.mk (Below.trans B6.out (Below.mono b7 (Below.size B6.out)))
      clear b7
      refine ⟨_, rfl, ?_⟩
      have hHeld := (show _ = some (Value.int IntKind.i64 m) ∧ _ = some (Value.int IntKind.i64 q) ∧ _ = some (Value.int IntKind.i64 p) from ⟨blk_cell ((B7.out.block g HG.out).trans HBK.out) 0, blk_cell (blk_at HX7.out) 0, blk_cell (blk_at HX7.out) 1⟩)
      refine hK.out _ _ hHeld (fun hHeld => ?_)
      clear hK K
      refine norm_ (a' := ?_) ?_ ?_
      rotate_left
      · show Act.put _ (some 44) _ = _
        simp only [Act.put, List.setIfInBounds_toArray, List.set_cons_zero, List.set_cons_succ, i64_w, i32_w]
        rfl
      refine pure_ (i := 9) (N := some 35) (v := ?_) (a' := ?_) #[true, true, true, true, true, true, true, true, true, true, false, false, false, false] rfl rfl (by kernel_rfl) (fun _ _ _ h => h) (Or.inl ⟨by rfl, ?_⟩) ?_ ?_
      rotate_left
      · intro w'
        go_simp
        with_reducible rfl
      rotate_left
      · simp only [Act.put, List.setIfInBounds_toArray, List.set_cons_zero, List.set_cons_succ, i64_w, i32_w]
        rfl
      refine pure_ (i := 10) (N := some 45) (v := ?_) (a' := ?_) #[true, true, true, true, true, true, true, true, true, true, true, false, false, false] rfl rfl (by kernel_rfl) (fun _ _ _ h => h) (Or.inl ⟨by rfl, ?_⟩) ?_ ?_
      rotate_left
      · intro w'
        go_simp
        with_reducible rfl
      rotate_left
      · simp only [Act.put, List.setIfInBounds_toArray, List.set_cons_zero, List.set_cons_succ, i64_w, i32_w]
        rfl
      refine pure_ (i := 11) (N := some 46) (v := ?_) (a' := ?_) #[true, true, true, true, true, true, true, true, true, true, true, true, false, false] rfl rfl (by kernel_rfl) (fun _ _ _ h => h) (Or.inl ⟨by rfl, ?_⟩) ?_ ?_
      rotate_left
      · intro w'
        go_simp
        with_reducible rfl
      rotate_left
      · simp only [Act.put, List.setIfInBounds_toArray, List.set_cons_zero, List.set_cons_succ, i64_w, i32_w]
        rfl
      refine pure_ (i := 12) (N := some 8) (v := ?_) (a' := ?_) #[true, true, true, true, true, true, true, true, true, true, true, true, true, false] rfl rfl (by kernel_rfl) (fun _ _ _ h => h) (Or.inl ⟨by rfl, ?_⟩) ?_ ?_
      rotate_left
      · intro w'
        go_simp
        with_reducible rfl
      rotate_left
      · simp only [Act.put, List.setIfInBounds_toArray, List.set_cons_zero, List.set_cons_succ, i64_w, i32_w]
        rfl
      refine pure_ (i := 13) (N := some 9) (v := ?_) (a' := ?_) #[true, true, true, true, true, true, true, true, true, true, true, true, true, true] rfl rfl (by kernel_rfl) (fun _ _ _ h => h) (Or.inl ⟨by rfl, ?_⟩) ?_ ?_
      rotate_left
      · intro w'
        go_simp
        with_reducible rfl
      rotate_left
      · simp only [Act.put, List.setIfInBounds_toArray, List.set_cons_zero, List.set_cons_succ, i64_w, i32_w]
        rfl
      refine done_ (by kernel_rfl) ?_
      go_wp2
      go_ret
      exact ⟨by rw [HV.out]; rfl, B7.out⟩
end Go.Proofs.Ytmjodeijafoabaa.Admit

/- Admit: the reference's book by colours: Enter (no law is stated here; each says its conditions). -/
namespace Go.Proofs.Ytmjodeijafoabaa.Admit
open Go.RowKit Go.Proofs.YtmjodeijafoabaaW.PrintWords Go.Proofs.YtmjodeijafoabaaW.PrintLast Go.Proofs.YtmjodeijafoabaaW.PrintMore Go.Proofs.Ytmjodeijafoabaa.St Go.Proofs.Ytmjodeijafoabaa.Q Go.Proofs.Ytmjodeijafoabaa.Pure
set_option linter.unusedVariables false
set_option linter.unusedSimpArgs false
attribute [local go_sem] max2_int min2_int max_two min_two max_three min_three max_four min_four

/-- The reference's book: its block, its two rows, by colours. -/
def RB (w0 W : World) (c : Nat → Nat) (i : Nat) (m : Int) (l1 l2 : List S37) (g : Nat) : Prop :=
  ∃ A1 k1 A2 k2, blk.M W w0.heap.size (fun k => c k = i) (.cells #[.int .i64 m, .slice A1 l1.length k1, .slice A2 l2.length k2] 44 (0, 0)) (.pointer (some ⟨g, 0, none⟩)) ∧ (row 64 k37).M W w0.heap.size (fun k => c k = (i + 1)) l1 (.slice A1 l1.length k1) ∧ (row 64 k37).M W w0.heap.size (fun k => c k = (i + 2)) l2 (.slice A2 l2.length k2)
theorem RB.below {w0 W W1 : World} {c : Nat → Nat} {i : Nat} {m : Int} {l1 l2 : List S37} {g : Nat} (h : RB w0 W c i m l1 l2 g) (hb : Below W.heap.size W W1) : RB w0 W1 c i m l1 l2 g := by
  obtain ⟨A1, k1, A2, k2, h1, h2, h3⟩ := h
  exact ⟨A1, k1, A2, k2, St.below (s := blk) h1 hb, St.below (s := row 64 k37) h2 hb, St.below (s := row 64 k37) h3 hb⟩
/-- The row that was made anew takes the elder one's colour. -/
theorem RB.take {w0 Wa W : World} {c0 c : Nat → Nat} {i g : Nat} {m : Int} {A1 A2 : Option Addr} {k1 k2 : Nat} {l1 l2 : List S37} (h1 : blk.M W w0.heap.size (fun k => c k = i) (.cells #[.int .i64 m, .slice A1 l1.length k1, .slice A2 l2.length k2] 44 (0, 0)) (.pointer (some ⟨g, 0, none⟩))) (h2 : (row 64 k37).M W w0.heap.size (fun k => c k = (i + 5)) l1 (.slice A1 l1.length k1)) (h3 : (row 64 k37).M W w0.heap.size (fun k => c k = (i + 2)) l2 (.slice A2 l2.length k2)) (t : TurnedL c0 c [i, (i + 1), (i + 2), (i + 3), (i + 4), (i + 5)] w0 Wa W) :
    ∃ c', RB w0 W c' i m l1 l2 g ∧ TurnedL c0 c' [i, (i + 1), (i + 2), (i + 3), (i + 4), (i + 5)] w0 Wa W := by
  refine ⟨fun k => if c k = i + 5 then i + 1 else c k, ⟨A1, k1, A2, k2, ?_, ?_, ?_⟩, t.far, fun α s j y u hj hm => ?_⟩
  · exact blk.mono (fun k hk => by show (if _ then _ else _) = _; rw [if_neg (by omega)]; exact hk) h1
  · exact (row 64 k37).mono (fun k hk => by show (if _ then _ else _) = _; rw [if_pos hk]) h2
  · exact (row 64 k37).mono (fun k hk => by show (if _ then _ else _) = _; rw [if_neg (by omega)]; exact hk) h3
  · have hj5 : j ≠ i + 5 := fun e => hj (by simp [e])
    exact s.mono (fun k hk => by show (if _ then _ else _) = _; rw [if_neg (by omega)]; exact hk) (t.keep α s j y u hj hm)
theorem rrow1 (w : World) (b : Nat) (x : S37) : Reps (k37.M w b (fun _ => False)) k37.sz [x] [.int .i64 x.f0, .int .i64 x.f1.f0, .int .i64 x.f1.f1, .int .i64 x.f2] := row1 w b x
set_option maxHeartbeats 8000000 in
set_option maxRecDepth 100000 in
theorem renter_calls {w0 W : World} {c : Nat → Nat} {i g : Nat} {m : Int} {l1 l2 : List S37} (id q p now : Int) (h : RB w0 W c i m l1 l2 g) (hB : Below w0.heap.size w0 W) (hl : l1.length ≤ 400 ∧ l2.length ≤ 900) (hm : 1 ≤ m ∧ m ≤ 64) (hok1 : Okl (prs l1)) (hok2 : Okl (prs l2)) :
    Calls Try.prog 15 #[.pointer (some ⟨g, 0, none⟩), .int .i64 id, .agg #[.int .i64 q, .int .i64 p], .int .i64 now] W fun e w' => e = .returned (.int .i64 (enterV m l1 l2 id q p now)) ∧ ∃ c', RB w0 w' c' i m (enterL m l1 l2 id q p now) l2 g ∧ TurnedL c c' [i, (i + 1), (i + 2), (i + 3), (i + 4), (i + 5)] w0 W w' := by
  obtain ⟨A1, k1, A2, k2, hb1, hb2, hb3⟩ := h
  have HLN := Aside0.mk hl
  have HM := Aside0.mk hm
  have HK1 := Aside0.mk hok1
  have HK2 := Aside0.mk hok2
  obtain ⟨gb, hgb⟩ : ∃ gb, goodP q p = gb := ⟨_, rfl⟩
  have GB := Aside0.mk hgb
  obtain ⟨fv, hfv⟩ : ∃ fv, findE id l1 0 = fv := ⟨_, rfl⟩
  have FV := Aside0.mk hfv
  obtain ⟨av, hav⟩ : ∃ av, askV m l1 l2 q p now = av := ⟨_, rfl⟩
  have AV := Aside0.mk hav
  have HEV := Aside0.mk (show enterV m l1 l2 id q p now = if gb = false ∨ now < 0 then 1 else if 0 ≤ fv then 5 else av from by unfold enterV; rw [hgb, hfv, hav])
  obtain ⟨ev, hev⟩ : ∃ ev, enterV m l1 l2 id q p now = ev := ⟨_, rfl⟩
  obtain ⟨el, hel⟩ : ∃ el, enterL m l1 l2 id q p now = el := ⟨_, rfl⟩
  have HEL := Aside0.mk (show el = if ev = 0 then l1 ++ [⟨id, ⟨q, p⟩, -1⟩] else l1 from by rw [← hel, ← hev]; rfl)
  rw [hev] at HEV
  rw [hev, hel]
  have M1 := Aside0.mk hb1
  have M2 := Aside0.mk hb2
  have M3 := Aside0.mk hb3
  have HB := Aside0.mk hB
  clear hgb hfv hav hev hel hb1 hb2 hb3 hB hl hm hok1 hok2
  go_enter Try.func15, Try.ntmps15
  go_upto_region 1 with (fail)
  have hbx : Below W.heap.size W (W.alloc (.cells #[.int .i64 q, .int .i64 p] 45)) := below_alloc (Below.refl _ _) _
  have hX : (W.alloc (.cells #[.int .i64 q, .int .i64 p] 45)).heap[W.heap.size]? = some (.cells #[.int .i64 q, .int .i64 p] 45 (0, 0)) := by simpa using heap_alloc_new W _
  obtain ⟨c1, h1, t1⟩ := blk_new1 (w0 := w0) c (i + 3) (Nat.le_refl _) hX hbx HB.out.size
  have HX1 := Aside0.mk h1
  have HB1 := Aside0.mk (t1.keep _ blk i _ _ (by omega) M1.out)
  have HL1 := Aside0.mk (t1.keep _ (row 64 k37) (i + 1) _ _ (by omega) M2.out)
  have HO1 := Aside0.mk (t1.keep _ (row 64 k37) (i + 2) _ _ (by omega) M3.out)
  have B1 := Aside0.mk (t1.far HB.out)
  have T1 := Aside0.mk ((TurnedL.refl c [i, (i + 1), (i + 2), (i + 3), (i + 4), (i + 5)] w0 W).step t1 (by simp))
  clear h1 t1 hX hbx M1 M2 M3
  generalize W.alloc (.cells #[.int .i64 q, .int .i64 p] 45) = w1 at HX1 HB1 HL1 HO1 B1 T1 ⊢
  cases gb with
  | false =>
    have HV := Aside0.mk (show ev = 1 from by rw [HEV.out, if_pos (Or.inl rfl)])
    have HVL := Aside0.mk (show el = l1 from by rw [HEL.out, HV.out, if_neg (by decide)])
    have y0 := blk_cell (blk_at HX1.out) 0
    have y1 := blk_cell (blk_at HX1.out) 1
    go_wp2_with (first | (go_at_call 28; (with_reducible refine (beadleref10_GoodPair.calls q p _ _ (rgood_f q p)).mono ?_); rintro e w2 ⟨rfl, hd2⟩; rw [GB.out]; have hb2 := hd2.below; have HB2 := Aside0.mk (St.below (s := blk) HB1.out hb2); have HL2 := Aside0.mk (St.below (s := row 64 k37) HL1.out hb2); have HO2 := Aside0.mk (St.below (s := row 64 k37) HO1.out hb2); have HX2 := Aside0.mk (St.below (s := blk) HX1.out hb2); have B2 := Aside0.mk (Below.trans B1.out (Below.mono hb2 (Below.size B1.out))); have T2 := Aside0.mk (T1.out.below hb2); clear hd2 hb2 y0 y1; have y0 := blk_cell (blk_at HX2.out) 0; have y1 := blk_cell (blk_at HX2.out) 1))
    go_ret
    exact ⟨by rw [HV.out]; rfl, c1, by rw [HVL.out]; exact ⟨_, _, _, _, HB2.out, HL2.out, HO2.out⟩, T2.out⟩
  | true =>
    by_cases hn : now < 0
    · have pn : decide (now < 0) = true := decide_eq_true hn
      have HV := Aside0.mk (show ev = 1 from by rw [HEV.out, if_pos (Or.inr hn)])
      have HVL := Aside0.mk (show el = l1 from by rw [HEL.out, HV.out, if_neg (by decide)])
      clear hn
      have y0 := blk_cell (blk_at HX1.out) 0
      have y1 := blk_cell (blk_at HX1.out) 1
      go_wp2_with (first | (go_at_call 28; (with_reducible refine (beadleref10_GoodPair.calls q p _ _ (rgood_f q p)).mono ?_); rintro e w2 ⟨rfl, hd2⟩; rw [GB.out]; have hb2 := hd2.below; have HB2 := Aside0.mk (St.below (s := blk) HB1.out hb2); have HL2 := Aside0.mk (St.below (s := row 64 k37) HL1.out hb2); have HO2 := Aside0.mk (St.below (s := row 64 k37) HO1.out hb2); have HX2 := Aside0.mk (St.below (s := blk) HX1.out hb2); have B2 := Aside0.mk (Below.trans B1.out (Below.mono hb2 (Below.size B1.out))); have T2 := Aside0.mk (T1.out.below hb2); clear hd2 hb2 y0 y1; have y0 := blk_cell (blk_at HX2.out) 0; have y1 := blk_cell (blk_at HX2.out) 1))
      go_ret
      exact ⟨by rw [HV.out]; rfl, c1, by rw [HVL.out]; exact ⟨_, _, _, _, HB2.out, HL2.out, HO2.out⟩, T2.out⟩
    have pn : decide (now < 0) = false := decide_eq_false hn
    have HE2 := Aside0.mk (show ev = if 0 ≤ fv then 5 else av from by rw [HEV.out, if_neg (by rintro (h | h); cases h; exact hn h)])
    clear hn
    by_cases hf : 0 ≤ fv
    · have pf : decide (0 ≤ fv) = true := decide_eq_true hf
      have HV := Aside0.mk (show ev = 5 from by rw [HE2.out, if_pos hf])
      have HVL := Aside0.mk (show el = l1 from by rw [HEL.out, HV.out, if_neg (by decide)])
      clear hf
      have y0 := blk_cell (blk_at HX1.out) 0
      have y1 := blk_cell (blk_at HX1.out) 1
      go_wp2_with (first | (go_at_call 28; (with_reducible refine (beadleref10_GoodPair.calls q p _ _ (rgood_f q p)).mono ?_); rintro e w2 ⟨rfl, hd2⟩; rw [GB.out]; have hb2 := hd2.below; have HB2 := Aside0.mk (St.below (s := blk) HB1.out hb2); have HL2 := Aside0.mk (St.below (s := row 64 k37) HL1.out hb2); have HO2 := Aside0.mk (St.below (s := row 64 k37) HO1.out hb2); have HX2 := Aside0.mk (St.below (s := blk) HX1.out hb2); have B2 := Aside0.mk (Below.trans B1.out (Below.mono hb2 (Below.size B1.out))); have T2 := Aside0.mk (T1.out.below hb2); clear hd2 hb2 y0 y1; have y0 := blk_cell (blk_at HX2.out) 0; have y1 := blk_cell (blk_at HX2.out) 1) | (go_at_call 29; (with_reducible refine (rfind_calls id (blk_at HB2.out) (row_C HL2.out) (by have := HLN.out; omega)).mono ?_); rintro e wz ⟨rfl, hz⟩; have hz := hz.symm; subst hz; rw [FV.out]))
      go_ret
      exact ⟨by rw [HV.out]; rfl, c1, by rw [HVL.out]; exact ⟨_, _, _, _, HB2.out, HL2.out, HO2.out⟩, T2.out⟩
    have pf : decide (0 ≤ fv) = false := decide_eq_false hf
    have HE3 := Aside0.mk (show ev = av from by rw [HE2.out, if_neg hf])
    clear hf
    by_cases ha : av = 0
    · have pa : (av == 0) = true := beq_iff_eq.2 ha
      have HV := Aside0.mk (show ev = av from HE3.out)
      obtain ⟨ls, hls⟩ : ∃ ls, l1 ++ [⟨id, ⟨q, p⟩, -1⟩] = ls := ⟨_, rfl⟩
      have HLS := Aside0.mk hls
      have HVL := Aside0.mk (show el = ls from by rw [HEL.out, HV.out, if_pos ha, hls])
      clear ha hls
      have y0 := blk_cell (blk_at HX1.out) 0
      have y1 := blk_cell (blk_at HX1.out) 1
      go_upto_region 7 with (first | (go_at_call 28; (with_reducible refine (beadleref10_GoodPair.calls q p _ _ (rgood_f q p)).mono ?_); rintro e w2 ⟨rfl, hd2⟩; rw [GB.out]; have hb2 := hd2.below; have HB2 := Aside0.mk (St.below (s := blk) HB1.out hb2); have HL2 := Aside0.mk (St.below (s := row 64 k37) HL1.out hb2); have HO2 := Aside0.mk (St.below (s := row 64 k37) HO1.out hb2); have HX2 := Aside0.mk (St.below (s := blk) HX1.out hb2); have B2 := Aside0.mk (Below.trans B1.out (Below.mono hb2 (Below.size B1.out))); have T2 := Aside0.mk (T1.out.below hb2); clear hd2 hb2 y0 y1; have y0 := blk_cell (blk_at HX2.out) 0; have y1 := blk_cell (blk_at HX2.out) 1) | (go_at_call 29; (with_reducible refine (rfind_calls id (blk_at HB2.out) (row_C HL2.out) (by have := HLN.out; omega)).mono ?_); rintro e wz ⟨rfl, hz⟩; have hz := hz.symm; subst hz; rw [FV.out]) | (go_at_call 18; (with_reducible refine (rask_calls q p now (blk_at HB2.out) (row_C HL2.out) (row_C HO2.out) (by have := HLN.out; omega) (by have := HLN.out; omega) HM.out HK1.out HK2.out).mono ?_); rintro e w4 ⟨rfl, hb4⟩; rw [AV.out]; have HB4 := Aside0.mk (St.below (s := blk) HB2.out hb4); have HL4 := Aside0.mk (St.below (s := row 64 k37) HL2.out hb4); have HO4 := Aside0.mk (St.below (s := row 64 k37) HO2.out hb4); have HX4 := Aside0.mk (St.below (s := blk) HX2.out hb4); have B4 := Aside0.mk (Below.trans B2.out (Below.mono hb4 (Below.size B2.out))); have T4 := Aside0.mk (T2.out.below hb4); clear hb4 y0 y1))
      obtain ⟨w5, hw5⟩ : ∃ w5 : World, w4.drew = w5 := ⟨_, rfl⟩
      have hb5 : Below w4.heap.size w4 w5 := by rw [← hw5]; exact below_drew (Below.refl _ _)
      have HB5 := Aside0.mk (St.below (s := blk) HB4.out hb5)
      have HL5 := Aside0.mk (St.below (s := row 64 k37) HL4.out hb5)
      have HO5 := Aside0.mk (St.below (s := row 64 k37) HO4.out hb5)
      have HX5 := Aside0.mk (St.below (s := blk) HX4.out hb5)
      have B5 := Aside0.mk (Below.trans B4.out (Below.mono hb5 (Below.size B4.out)))
      have T5 := Aside0.mk (T4.out.below hb5)
      clear hb5
      refine start_ (n := 15) (S := fun w' => w'.cell? ⟨g, 1, none⟩ = some (.slice A1 l1.length k1) ∧ w'.cell? ⟨W.heap.size, 0, none⟩ = some (.int .i64 q) ∧ w'.cell? ⟨W.heap.size, 1, none⟩ = some (.int .i64 p)) (ds := [14]) #[false, false, false, false, false, false, false, false, false, false, false, false, false, false, false] (by kernel_rfl) rfl rfl (by rw [hw5]; exact ⟨blk_cell (blk_at HB5.out) 1, blk_cell (blk_at HX5.out) 0, blk_cell (blk_at HX5.out) 1⟩) (fun hHeld => ?_)
      rw [hw5] at hHeld ⊢
      refine pure_ (i := 0) (N := some 30) (v := ?_) (a' := ?_) #[true, false, false, false, false, false, false, false, false, false, false, false, false, false, false] rfl rfl (by kernel_rfl) (fun _ _ _ h => h) (Or.inl ⟨by rfl, ?_⟩) ?_ ?_
      rotate_left
      · intro w'
        go_simp
        with_reducible rfl
      rotate_left
      · simp only [Act.put, List.setIfInBounds_toArray, List.set_cons_zero, List.set_cons_succ, i64_w, i32_w]
        rfl
      refine pure_ (i := 2) (N := some 32) (v := ?_) (a' := ?_) #[true, false, true, false, false, false, false, false, false, false, false, false, false, false, false] rfl rfl (by kernel_rfl) (fun _ _ _ h => h) (Or.inl ⟨by rfl, ?_⟩) ?_ ?_
      rotate_left
      · intro w'
        go_simp
        with_reducible rfl
      rotate_left
      · simp only [Act.put, List.setIfInBounds_toArray, List.set_cons_zero, List.set_cons_succ, i64_w, i32_w]
        rfl
      refine pure_ (i := 3) (N := some 33) (v := ?_) (a' := ?_) #[true, false, true, true, false, false, false, false, false, false, false, false, false, false, false] rfl rfl (by kernel_rfl) (fun _ _ _ h => h) (Or.inl ⟨by rfl, ?_⟩) ?_ ?_
      rotate_left
      · intro w'
        go_simp
        with_reducible rfl
      rotate_left
      · simp only [Act.put, List.setIfInBounds_toArray, List.set_cons_zero, List.set_cons_succ, i64_w, i32_w]
        rfl
      refine pure_ (i := 4) (N := some 34) (v := ?_) (a' := ?_) #[true, false, true, true, true, false, false, false, false, false, false, false, false, false, false] rfl rfl (by kernel_rfl) (fun _ _ _ h => h) (Or.inl ⟨by rfl, ?_⟩) ?_ ?_
      rotate_left
      · intro w'
        go_simp
        with_reducible rfl
      rotate_left
      · simp only [Act.put, List.setIfInBounds_toArray, List.set_cons_zero, List.set_cons_succ, i64_w, i32_w]
        rfl
      refine take_ (i := 5) (N := some 35) (v := ?_) (a' := ?_) #[true, false, true, true, true, true, false, false, false, false, false, false, false, false, false] rfl rfl (by kernel_rfl) (fun _ _ _ h => h) (Or.inl ⟨by rfl, ?_⟩) hHeld ?_ ?_
      rotate_left
      · intro w' hS_
        obtain ⟨s0_, s1_, s2_⟩ := hS_
        go_simp
        with_reducible rfl
      rotate_left
      · simp only [Act.put, List.setIfInBounds_toArray, List.set_cons_zero, List.set_cons_succ, i64_w, i32_w]
        rfl
      refine pure_ (i := 7) (N := some 37) (v := ?_) (a' := ?_) #[true, false, true, true, true, true, false, true, false, false, false, false, false, false, false] rfl rfl (by kernel_rfl) (fun _ _ _ h => h) (Or.inl ⟨by rfl, ?_⟩) ?_ ?_
      rotate_left
      · intro w'
        go_simp
        with_reducible rfl
      rotate_left
      · simp only [Act.put, List.setIfInBounds_toArray, List.set_cons_zero, List.set_cons_succ, i64_w, i32_w]
        rfl
      refine take_ (i := 8) (N := some 38) (v := ?_) (a' := ?_) #[true, false, true, true, true, true, false, true, true, false, false, false, false, false, false] rfl rfl (by kernel_rfl) (fun _ _ _ h => h) (Or.inl ⟨by rfl, ?_⟩) hHeld ?_ ?_
      rotate_left
      · intro w' hS_
        obtain ⟨s0_, s1_, s2_⟩ := hS_
        go_simp
        with_reducible rfl
      rotate_left
      · simp only [Act.put, List.setIfInBounds_toArray, List.set_cons_zero, List.set_cons_succ, i64_w, i32_w]
        rfl
      refine pure_ (i := 9) (N := some 39) (v := ?_) (a' := ?_) #[true, false, true, true, true, true, false, true, true, true, false, false, false, false, false] rfl rfl (by kernel_rfl) (fun _ _ _ h => h) (Or.inl ⟨by rfl, ?_⟩) ?_ ?_
      rotate_left
      · intro w'
        go_simp
        with_reducible rfl
      rotate_left
      · simp only [Act.put, List.setIfInBounds_toArray, List.set_cons_zero, List.set_cons_succ, i64_w, i32_w]
        rfl
      refine two_ (i := 1) (j := 10) (Ni := some 31) (Nj := some 40) #[true, true, true, true, true, true, false, true, true, true, false, false, false, false, false] #[true, false, true, true, true, true, false, true, true, true, true, false, false, false, false] rfl rfl rfl rfl (by kernel_rfl) (by decide) (by decide) (fun K hK => ?_) (fun K hK => ?_)
      · skip
        refine lit_step (e := 64) (c := c1) (w0 := w0) k37 (i + 5) ?hg (N := 31) ?hd (([] : List S37)) [] ?hr ?hp ?hs (by simp) ?_
        (case hd => rfl)
        (case hg => rfl)
        (case hp => exact Reps.none _ _)
        (case hr => first | (go_simp; done) | (go_simp; rfl))
        (case hs => exact Below.size B5.out)
        intro vax1 wax1 cax1 hax1 tax1
        obtain ⟨Aax1, kax1, rfl, -, -⟩ := row_reads hax1
        have HNax1 := Aside0.mk (show (row 64 k37).M wax1 w0.heap.size (fun k => cax1 k = (i + 5)) ([] : List S37) (.slice Aax1 ([] : List S37).length kax1) from hax1)
        have HBax1 := Aside0.mk (tax1.keep _ (blk) i _ _ (by omega) HB5.out)
        have HLax1 := Aside0.mk (tax1.keep _ (row 64 k37) (i + 1) _ _ (by omega) HL5.out)
        have HOax1 := Aside0.mk (tax1.keep _ (row 64 k37) (i + 2) _ _ (by omega) HO5.out)
        have HXax1 := Aside0.mk (tax1.keep _ (blk) (i + 3) _ _ (by omega) HX5.out)
        have Bax1 := Aside0.mk (tax1.far B5.out)
        have Tax1 := Aside0.mk (T5.out.step tax1 (by simp))
        clear hax1 tax1
        have hHeld := (show _ = some (Value.slice A1 l1.length k1) ∧ _ = some (Value.int IntKind.i64 q) ∧ _ = some (Value.int IntKind.i64 p) from ⟨blk_cell (blk_at HBax1.out) 1, blk_cell (blk_at HXax1.out) 0, blk_cell (blk_at HXax1.out) 1⟩)
        refine hK.out _ _ hHeld (fun hHeld => ?_)
        clear hK K
        refine norm_ (a' := ?_) ?_ ?_
        rotate_left
        · show Act.put _ (some 31) _ = _
          simp only [Act.put, List.setIfInBounds_toArray, List.set_cons_zero, List.set_cons_succ, i64_w, i32_w]
          rfl
        refine two_ (i := 6) (j := 10) (Ni := some 36) (Nj := some 40) #[true, true, true, true, true, true, true, true, true, true, false, false, false, false, false] #[true, true, true, true, true, true, false, true, true, true, true, false, false, false, false] rfl rfl rfl rfl (by kernel_rfl) (by decide) (by decide) (fun K hK => ?_) (fun K hK => ?_)
        · skip
          refine app_step (e := 64) (c := cax1) (w0 := w0) (d := k37) (i := (i + 5)) (by rfl) (.tmp 31) (.tmp 35) 42 (.agg #[.int .i64 0, .int .i64 0, .int .i64 0, .int .i64 0]) 32 rfl Try.underlying42 info_rentry rfl (by decide) (by decide) flat37 (.slice Aax1 ([] : List S37).length kax1) ([] : List S37) l1 _ _ _ rfl rfl HNax1.out (row_C HLax1.out) ?hs (by have := HLN.out; show (0 + _) * 32 ≤ _; omega) ?_
          (case hs => exact Below.size Bax1.out)
          intro vbx1x6 wbx1x6 cbx1x6 hbx1x6 tbx1x6
          rw [List.nil_append] at hbx1x6
          obtain ⟨Abx1x6, kbx1x6, rfl, -, -⟩ := row_reads hbx1x6
          have HNbx1x6 := Aside0.mk (show (row 64 k37).M wbx1x6 w0.heap.size (fun k => cbx1x6 k = (i + 5)) l1 (.slice Abx1x6 l1.length kbx1x6) from hbx1x6)
          have HBbx1x6 := Aside0.mk (tbx1x6.keep _ (blk) i _ _ (by omega) HBax1.out)
          have HLbx1x6 := Aside0.mk (tbx1x6.keep _ (row 64 k37) (i + 1) _ _ (by omega) HLax1.out)
          have HObx1x6 := Aside0.mk (tbx1x6.keep _ (row 64 k37) (i + 2) _ _ (by omega) HOax1.out)
          have HXbx1x6 := Aside0.mk (tbx1x6.keep _ (blk) (i + 3) _ _ (by omega) HXax1.out)
          have Bbx1x6 := Aside0.mk (tbx1x6.far Bax1.out)
          have Tbx1x6 := Aside0.mk (Tax1.out.step tbx1x6 (by simp))
          clear hbx1x6 tbx1x6
          have hHeld := (show _ = some (Value.slice A1 l1.length k1) ∧ _ = some (Value.int IntKind.i64 q) ∧ _ = some (Value.int IntKind.i64 p) from ⟨blk_cell (blk_at HBbx1x6.out) 1, blk_cell (blk_at HXbx1x6.out) 0, blk_cell (blk_at HXbx1x6.out) 1⟩)
          refine hK.out _ _ hHeld (fun hHeld => ?_)
          clear hK K
          refine norm_ (a' := ?_) ?_ ?_
          rotate_left
          · show Act.put _ (some 36) _ = _
            simp only [Act.put, List.setIfInBounds_toArray, List.set_cons_zero, List.set_cons_succ, i64_w, i32_w]
            rfl
          refine one_ (i := 10) (N := some 40) #[true, true, true, true, true, true, true, true, true, true, true, false, false, false, false] rfl rfl (by kernel_rfl) (by decide) (fun K hK => ?_)
          refine lit_step (e := 64) (c := cbx1x6) (w0 := w0) k37 (i + 4) ?hg (N := 40) ?hd (([⟨id, ⟨q, p⟩, -1⟩] : List S37)) [.int .i64 id, .int .i64 q, .int .i64 p, .int .i64 (-1)] ?hr ?hp ?hs (by simp) ?_
          (case hd => rfl)
          (case hg => rfl)
          (case hp => exact row1 _ _ ⟨id, ⟨q, p⟩, -1⟩)
          (case hr => first | (go_simp; done) | (go_simp; rfl))
          (case hs => exact Below.size Bbx1x6.out)
          intro vdx1x6x10 wdx1x6x10 cdx1x6x10 hdx1x6x10 tdx1x6x10
          obtain ⟨Adx1x6x10, kdx1x6x10, rfl, -, -⟩ := row_reads hdx1x6x10
          have HEdx1x6x10 := Aside0.mk (show (row 64 k37).M wdx1x6x10 w0.heap.size (fun k => cdx1x6x10 k = (i + 4)) ([⟨id, ⟨q, p⟩, -1⟩] : List S37) (.slice Adx1x6x10 ([⟨id, ⟨q, p⟩, -1⟩] : List S37).length kdx1x6x10) from hdx1x6x10)
          have HBdx1x6x10 := Aside0.mk (tdx1x6x10.keep _ (blk) i _ _ (by omega) HBbx1x6.out)
          have HLdx1x6x10 := Aside0.mk (tdx1x6x10.keep _ (row 64 k37) (i + 1) _ _ (by omega) HLbx1x6.out)
          have HOdx1x6x10 := Aside0.mk (tdx1x6x10.keep _ (row 64 k37) (i + 2) _ _ (by omega) HObx1x6.out)
          have HXdx1x6x10 := Aside0.mk (tdx1x6x10.keep _ (blk) (i + 3) _ _ (by omega) HXbx1x6.out)
          have HNdx1x6x10 := Aside0.mk (tdx1x6x10.keep _ (row 64 k37) (i + 5) _ _ (by omega) HNbx1x6.out)
          have Bdx1x6x10 := Aside0.mk (tdx1x6x10.far Bbx1x6.out)
          have Tdx1x6x10 := Aside0.mk (Tbx1x6.out.step tdx1x6x10 (by simp))
          clear hdx1x6x10 tdx1x6x10
          have hHeld := (show _ = some (Value.slice A1 l1.length k1) ∧ _ = some (Value.int IntKind.i64 q) ∧ _ = some (Value.int IntKind.i64 p) from ⟨blk_cell (blk_at HBdx1x6x10.out) 1, blk_cell (blk_at HXdx1x6x10.out) 0, blk_cell (blk_at HXdx1x6x10.out) 1⟩)
          refine hK.out _ _ hHeld (fun hHeld => ?_)
          clear hK K
          refine norm_ (a' := ?_) ?_ ?_
          rotate_left
          · show Act.put _ (some 40) _ = _
            simp only [Act.put, List.setIfInBounds_toArray, List.set_cons_zero, List.set_cons_succ, i64_w, i32_w]
            rfl
          refine one_ (i := 11) (N := some 41) #[true, true, true, true, true, true, true, true, true, true, true, true, false, false, false] rfl rfl (by kernel_rfl) (by decide) (fun K hK => ?_)
          refine app_step (e := 64) (c := cdx1x6x10) (w0 := w0) (d := k37) (i := (i + 5)) (by rfl) (.tmp 36) (.tmp 40) 42 (.agg #[.int .i64 0, .int .i64 0, .int .i64 0, .int .i64 0]) 32 rfl Try.underlying42 info_rentry rfl (by decide) (by decide) flat37 (.slice Abx1x6 l1.length kbx1x6) l1 ([⟨id, ⟨q, p⟩, -1⟩] : List S37) _ _ _ rfl rfl HNdx1x6x10.out (row_C HEdx1x6x10.out) ?hs (by have := HLN.out; show (_ + 1) * 32 ≤ _; omega) ?_
          (case hs => exact Below.size Bdx1x6x10.out)
          intro vex1x6x10x11 wex1x6x10x11 cex1x6x10x11 hex1x6x10x11 tex1x6x10x11
          rw [HLS.out] at hex1x6x10x11
          obtain ⟨Aex1x6x10x11, kex1x6x10x11, rfl, -, -⟩ := row_reads hex1x6x10x11
          have HNex1x6x10x11 := Aside0.mk (show (row 64 k37).M wex1x6x10x11 w0.heap.size (fun k => cex1x6x10x11 k = (i + 5)) ls (.slice Aex1x6x10x11 ls.length kex1x6x10x11) from hex1x6x10x11)
          have HBex1x6x10x11 := Aside0.mk (tex1x6x10x11.keep _ (blk) i _ _ (by omega) HBdx1x6x10.out)
          have HLex1x6x10x11 := Aside0.mk (tex1x6x10x11.keep _ (row 64 k37) (i + 1) _ _ (by omega) HLdx1x6x10.out)
          have HOex1x6x10x11 := Aside0.mk (tex1x6x10x11.keep _ (row 64 k37) (i + 2) _ _ (by omega) HOdx1x6x10.out)
          have HXex1x6x10x11 := Aside0.mk (tex1x6x10x11.keep _ (blk) (i + 3) _ _ (by omega) HXdx1x6x10.out)
          have HEex1x6x10x11 := Aside0.mk (tex1x6x10x11.keep _ (row 64 k37) (i + 4) _ _ (by omega) HEdx1x6x10.out)
          have Bex1x6x10x11 := Aside0.mk (tex1x6x10x11.far Bdx1x6x10.out)
          have Tex1x6x10x11 := Aside0.mk (Tdx1x6x10.out.step tex1x6x10x11 (by simp))
          clear hex1x6x10x11 tex1x6x10x11
          have hHeld := (show _ = some (Value.slice A1 l1.length k1) ∧ _ = some (Value.int IntKind.i64 q) ∧ _ = some (Value.int IntKind.i64 p) from ⟨blk_cell (blk_at HBex1x6x10x11.out) 1, blk_cell (blk_at HXex1x6x10x11.out) 0, blk_cell (blk_at HXex1x6x10x11.out) 1⟩)
          refine hK.out _ _ hHeld (fun hHeld => ?_)
          clear hK K
          refine norm_ (a' := ?_) ?_ ?_
          rotate_left
          · show Act.put _ (some 41) _ = _
            simp only [Act.put, List.setIfInBounds_toArray, List.set_cons_zero, List.set_cons_succ, i64_w, i32_w]
            rfl
          refine pure_ (i := 12) (N := some 42) (v := ?_) (a' := ?_) #[true, true, true, true, true, true, true, true, true, true, true, true, true, false, false] rfl rfl (by kernel_rfl) (fun _ _ _ h => h) (Or.inl ⟨by rfl, ?_⟩) ?_ ?_
          rotate_left
          · intro w'
            go_simp
            with_reducible rfl
          rotate_left
          · simp only [Act.put, List.setIfInBounds_toArray, List.set_cons_zero, List.set_cons_succ, i64_w, i32_w]
            rfl
          refine pure_ (i := 13) (N := some 43) (v := ?_) (a' := ?_) #[true, true, true, true, true, true, true, true, true, true, true, true, true, true, false] rfl rfl (by kernel_rfl) (fun _ _ _ h => h) (Or.inl ⟨by rfl, ?_⟩) ?_ ?_
          rotate_left
          · intro w'
            go_simp
            with_reducible rfl
          rotate_left
          · simp only [Act.put, List.setIfInBounds_toArray, List.set_cons_zero, List.set_cons_succ, i64_w, i32_w]
            rfl
          refine last_ (i := 14) (N := none) #[true, true, true, true, true, true, true, true, true, true, true, true, true, true, true] rfl rfl (by kernel_rfl) (by decide) (fun K hK => ?_)
          have z1 := blk_cell (blk_at HBex1x6x10x11.out) 1
          have f1 := blk_frozen (blk_at HBex1x6x10x11.out) 1
          refine store_step (w1 := wex1x6x10x11.setCell ⟨g, 1, none⟩ (.slice Aex1x6x10x11 ls.length kex1x6x10x11)) ?hw rfl ?hr ?_
          (case hw => rfl)
          (case hr => go_simp)
          obtain ⟨cgx1x6x10x11, hgx1x6x10x11, tgx1x6x10x11⟩ := blk_put1 HBex1x6x10x11.out 1 (.slice Aex1x6x10x11 ls.length kex1x6x10x11) (Below.size Bex1x6x10x11.out)
          clear z1 f1
          generalize wex1x6x10x11.setCell ⟨g, 1, none⟩ (.slice Aex1x6x10x11 ls.length kex1x6x10x11) = wgx1x6x10x11 at hgx1x6x10x11 tgx1x6x10x11 ⊢
          have HBgx1x6x10x11 := Aside0.mk (show (blk).M wgx1x6x10x11 w0.heap.size (fun k => cgx1x6x10x11 k = i) (.cells #[.int .i64 m, .slice Aex1x6x10x11 ls.length kex1x6x10x11, .slice A2 l2.length k2] 44 (0, 0)) (.pointer (some ⟨g, 0, none⟩)) from hgx1x6x10x11)
          have HLgx1x6x10x11 := Aside0.mk (tgx1x6x10x11.keep _ (row 64 k37) (i + 1) _ _ (by omega) HLex1x6x10x11.out)
          have HOgx1x6x10x11 := Aside0.mk (tgx1x6x10x11.keep _ (row 64 k37) (i + 2) _ _ (by omega) HOex1x6x10x11.out)
          have HXgx1x6x10x11 := Aside0.mk (tgx1x6x10x11.keep _ (blk) (i + 3) _ _ (by omega) HXex1x6x10x11.out)
          have HNgx1x6x10x11 := Aside0.mk (tgx1x6x10x11.keep _ (row 64 k37) (i + 5) _ _ (by omega) HNex1x6x10x11.out)
          have HEgx1x6x10x11 := Aside0.mk (tgx1x6x10x11.keep _ (row 64 k37) (i + 4) _ _ (by omega) HEex1x6x10x11.out)
          have Bgx1x6x10x11 := Aside0.mk (tgx1x6x10x11.far Bex1x6x10x11.out)
          have Tgx1x6x10x11 := Aside0.mk (Tex1x6x10x11.out.step tgx1x6x10x11 (by simp))
          clear hgx1x6x10x11 tgx1x6x10x11
          refine hK.out _ _ ?_
          clear hK K hHeld
          refine norm_ (a' := ?_) ?_ ?_
          rotate_left
          · show Act.put _ (none) _ = _
            simp only [Act.put, List.setIfInBounds_toArray, List.set_cons_zero, List.set_cons_succ, i64_w, i32_w]
            rfl
          refine done_ (by kernel_rfl) ?_
          go_wp2
          go_ret
          obtain ⟨c99, h99, t99⟩ := RB.take HBgx1x6x10x11.out HNgx1x6x10x11.out HOgx1x6x10x11.out Tgx1x6x10x11.out
          exact ⟨by rw [HV.out]; rfl, c99, by rw [HVL.out]; exact h99, t99⟩
        · skip
          refine lit_step (e := 64) (c := cax1) (w0 := w0) k37 (i + 4) ?hg (N := 40) ?hd (([⟨id, ⟨q, p⟩, -1⟩] : List S37)) [.int .i64 id, .int .i64 q, .int .i64 p, .int .i64 (-1)] ?hr ?hp ?hs (by simp) ?_
          (case hd => rfl)
          (case hg => rfl)
          (case hp => exact row1 _ _ ⟨id, ⟨q, p⟩, -1⟩)
          (case hr => first | (go_simp; done) | (go_simp; rfl))
          (case hs => exact Below.size Bax1.out)
          intro vdx1x10 wdx1x10 cdx1x10 hdx1x10 tdx1x10
          obtain ⟨Adx1x10, kdx1x10, rfl, -, -⟩ := row_reads hdx1x10
          have HEdx1x10 := Aside0.mk (show (row 64 k37).M wdx1x10 w0.heap.size (fun k => cdx1x10 k = (i + 4)) ([⟨id, ⟨q, p⟩, -1⟩] : List S37) (.slice Adx1x10 ([⟨id, ⟨q, p⟩, -1⟩] : List S37).length kdx1x10) from hdx1x10)
          have HBdx1x10 := Aside0.mk (tdx1x10.keep _ (blk) i _ _ (by omega) HBax1.out)
          have HLdx1x10 := Aside0.mk (tdx1x10.keep _ (row 64 k37) (i + 1) _ _ (by omega) HLax1.out)
          have HOdx1x10 := Aside0.mk (tdx1x10.keep _ (row 64 k37) (i + 2) _ _ (by omega) HOax1.out)
          have HXdx1x10 := Aside0.mk (tdx1x10.keep _ (blk) (i + 3) _ _ (by omega) HXax1.out)
          have HNdx1x10 := Aside0.mk (tdx1x10.keep _ (row 64 k37) (i + 5) _ _ (by omega) HNax1.out)
          have Bdx1x10 := Aside0.mk (tdx1x10.far Bax1.out)
          have Tdx1x10 := Aside0.mk (Tax1.out.step tdx1x10 (by simp))
          clear hdx1x10 tdx1x10
          have hHeld := (show _ = some (Value.slice A1 l1.length k1) ∧ _ = some (Value.int IntKind.i64 q) ∧ _ = some (Value.int IntKind.i64 p) from ⟨blk_cell (blk_at HBdx1x10.out) 1, blk_cell (blk_at HXdx1x10.out) 0, blk_cell (blk_at HXdx1x10.out) 1⟩)
          refine hK.out _ _ hHeld (fun hHeld => ?_)
          clear hK K
          refine norm_ (a' := ?_) ?_ ?_
          rotate_left
          · show Act.put _ (some 40) _ = _
            simp only [Act.put, List.setIfInBounds_toArray, List.set_cons_zero, List.set_cons_succ, i64_w, i32_w]
            rfl
          refine one_ (i := 6) (N := some 36) #[true, true, true, true, true, true, true, true, true, true, true, false, false, false, false] rfl rfl (by kernel_rfl) (by decide) (fun K hK => ?_)
          refine app_step (e := 64) (c := cdx1x10) (w0 := w0) (d := k37) (i := (i + 5)) (by rfl) (.tmp 31) (.tmp 35) 42 (.agg #[.int .i64 0, .int .i64 0, .int .i64 0, .int .i64 0]) 32 rfl Try.underlying42 info_rentry rfl (by decide) (by decide) flat37 (.slice Aax1 ([] : List S37).length kax1) ([] : List S37) l1 _ _ _ rfl rfl HNdx1x10.out (row_C HLdx1x10.out) ?hs (by have := HLN.out; show (0 + _) * 32 ≤ _; omega) ?_
          (case hs => exact Below.size Bdx1x10.out)
          intro vbx1x10x6 wbx1x10x6 cbx1x10x6 hbx1x10x6 tbx1x10x6
          rw [List.nil_append] at hbx1x10x6
          obtain ⟨Abx1x10x6, kbx1x10x6, rfl, -, -⟩ := row_reads hbx1x10x6
          have HNbx1x10x6 := Aside0.mk (show (row 64 k37).M wbx1x10x6 w0.heap.size (fun k => cbx1x10x6 k = (i + 5)) l1 (.slice Abx1x10x6 l1.length kbx1x10x6) from hbx1x10x6)
          have HBbx1x10x6 := Aside0.mk (tbx1x10x6.keep _ (blk) i _ _ (by omega) HBdx1x10.out)
          have HLbx1x10x6 := Aside0.mk (tbx1x10x6.keep _ (row 64 k37) (i + 1) _ _ (by omega) HLdx1x10.out)
          have HObx1x10x6 := Aside0.mk (tbx1x10x6.keep _ (row 64 k37) (i + 2) _ _ (by omega) HOdx1x10.out)
          have HXbx1x10x6 := Aside0.mk (tbx1x10x6.keep _ (blk) (i + 3) _ _ (by omega) HXdx1x10.out)
          have HEbx1x10x6 := Aside0.mk (tbx1x10x6.keep _ (row 64 k37) (i + 4) _ _ (by omega) HEdx1x10.out)
          have Bbx1x10x6 := Aside0.mk (tbx1x10x6.far Bdx1x10.out)
          have Tbx1x10x6 := Aside0.mk (Tdx1x10.out.step tbx1x10x6 (by simp))
          clear hbx1x10x6 tbx1x10x6
          have hHeld := (show _ = some (Value.slice A1 l1.length k1) ∧ _ = some (Value.int IntKind.i64 q) ∧ _ = some (Value.int IntKind.i64 p) from ⟨blk_cell (blk_at HBbx1x10x6.out) 1, blk_cell (blk_at HXbx1x10x6.out) 0, blk_cell (blk_at HXbx1x10x6.out) 1⟩)
          refine hK.out _ _ hHeld (fun hHeld => ?_)
          clear hK K
          refine norm_ (a' := ?_) ?_ ?_
          rotate_left
          · show Act.put _ (some 36) _ = _
            simp only [Act.put, List.setIfInBounds_toArray, List.set_cons_zero, List.set_cons_succ, i64_w, i32_w]
            rfl
          refine one_ (i := 11) (N := some 41) #[true, true, true, true, true, true, true, true, true, true, true, true, false, false, false] rfl rfl (by kernel_rfl) (by decide) (fun K hK => ?_)
          refine app_step (e := 64) (c := cbx1x10x6) (w0 := w0) (d := k37) (i := (i + 5)) (by rfl) (.tmp 36) (.tmp 40) 42 (.agg #[.int .i64 0, .int .i64 0, .int .i64 0, .int .i64 0]) 32 rfl Try.underlying42 info_rentry rfl (by decide) (by decide) flat37 (.slice Abx1x10x6 l1.length kbx1x10x6) l1 ([⟨id, ⟨q, p⟩, -1⟩] : List S37) _ _ _ rfl rfl HNbx1x10x6.out (row_C HEbx1x10x6.out) ?hs (by have := HLN.out; show (_ + 1) * 32 ≤ _; omega) ?_
          (case hs => exact Below.size Bbx1x10x6.out)
          intro vex1x10x6x11 wex1x10x6x11 cex1x10x6x11 hex1x10x6x11 tex1x10x6x11
          rw [HLS.out] at hex1x10x6x11
          obtain ⟨Aex1x10x6x11, kex1x10x6x11, rfl, -, -⟩ := row_reads hex1x10x6x11
          have HNex1x10x6x11 := Aside0.mk (show (row 64 k37).M wex1x10x6x11 w0.heap.size (fun k => cex1x10x6x11 k = (i + 5)) ls (.slice Aex1x10x6x11 ls.length kex1x10x6x11) from hex1x10x6x11)
          have HBex1x10x6x11 := Aside0.mk (tex1x10x6x11.keep _ (blk) i _ _ (by omega) HBbx1x10x6.out)
          have HLex1x10x6x11 := Aside0.mk (tex1x10x6x11.keep _ (row 64 k37) (i + 1) _ _ (by omega) HLbx1x10x6.out)
          have HOex1x10x6x11 := Aside0.mk (tex1x10x6x11.keep _ (row 64 k37) (i + 2) _ _ (by omega) HObx1x10x6.out)
          have HXex1x10x6x11 := Aside0.mk (tex1x10x6x11.keep _ (blk) (i + 3) _ _ (by omega) HXbx1x10x6.out)
          have HEex1x10x6x11 := Aside0.mk (tex1x10x6x11.keep _ (row 64 k37) (i + 4) _ _ (by omega) HEbx1x10x6.out)
          have Bex1x10x6x11 := Aside0.mk (tex1x10x6x11.far Bbx1x10x6.out)
          have Tex1x10x6x11 := Aside0.mk (Tbx1x10x6.out.step tex1x10x6x11 (by simp))
          clear hex1x10x6x11 tex1x10x6x11
          have hHeld := (show _ = some (Value.slice A1 l1.length k1) ∧ _ = some (Value.int IntKind.i64 q) ∧ _ = some (Value.int IntKind.i64 p) from ⟨blk_cell (blk_at HBex1x10x6x11.out) 1, blk_cell (blk_at HXex1x10x6x11.out) 0, blk_cell (blk_at HXex1x10x6x11.out) 1⟩)
          refine hK.out _ _ hHeld (fun hHeld => ?_)
          clear hK K
          refine norm_ (a' := ?_) ?_ ?_
          rotate_left
          · show Act.put _ (some 41) _ = _
            simp only [Act.put, List.setIfInBounds_toArray, List.set_cons_zero, List.set_cons_succ, i64_w, i32_w]
            rfl
          refine pure_ (i := 12) (N := some 42) (v := ?_) (a' := ?_) #[true, true, true, true, true, true, true, true, true, true, true, true, true, false, false] rfl rfl (by kernel_rfl) (fun _ _ _ h => h) (Or.inl ⟨by rfl, ?_⟩) ?_ ?_
          rotate_left
          · intro w'
            go_simp
            with_reducible rfl
          rotate_left
          · simp only [Act.put, List.setIfInBounds_toArray, List.set_cons_zero, List.set_cons_succ, i64_w, i32_w]
            rfl
          refine pure_ (i := 13) (N := some 43) (v := ?_) (a' := ?_) #[true, true, true, true, true, true, true, true, true, true, true, true, true, true, false] rfl rfl (by kernel_rfl) (fun _ _ _ h => h) (Or.inl ⟨by rfl, ?_⟩) ?_ ?_
          rotate_left
          · intro w'
            go_simp
            with_reducible rfl
          rotate_left
          · simp only [Act.put, List.setIfInBounds_toArray, List.set_cons_zero, List.set_cons_succ, i64_w, i32_w]
            rfl
          refine last_ (i := 14) (N := none) #[true, true, true, true, true, true, true, true, true, true, true, true, true, true, true] rfl rfl (by kernel_rfl) (by decide) (fun K hK => ?_)
          have z1 := blk_cell (blk_at HBex1x10x6x11.out) 1
          have f1 := blk_frozen (blk_at HBex1x10x6x11.out) 1
          refine store_step (w1 := wex1x10x6x11.setCell ⟨g, 1, none⟩ (.slice Aex1x10x6x11 ls.length kex1x10x6x11)) ?hw rfl ?hr ?_
          (case hw => rfl)
          (case hr => go_simp)
          obtain ⟨cgx1x10x6x11, hgx1x10x6x11, tgx1x10x6x11⟩ := blk_put1 HBex1x10x6x11.out 1 (.slice Aex1x10x6x11 ls.length kex1x10x6x11) (Below.size Bex1x10x6x11.out)
          clear z1 f1
          generalize wex1x10x6x11.setCell ⟨g, 1, none⟩ (.slice Aex1x10x6x11 ls.length kex1x10x6x11) = wgx1x10x6x11 at hgx1x10x6x11 tgx1x10x6x11 ⊢
          have HBgx1x10x6x11 := Aside0.mk (show (blk).M wgx1x10x6x11 w0.heap.size (fun k => cgx1x10x6x11 k = i) (.cells #[.int .i64 m, .slice Aex1x10x6x11 ls.length kex1x10x6x11, .slice A2 l2.length k2] 44 (0, 0)) (.pointer (some ⟨g, 0, none⟩)) from hgx1x10x6x11)
          have HLgx1x10x6x11 := Aside0.mk (tgx1x10x6x11.keep _ (row 64 k37) (i + 1) _ _ (by omega) HLex1x10x6x11.out)
          have HOgx1x10x6x11 := Aside0.mk (tgx1x10x6x11.keep _ (row 64 k37) (i + 2) _ _ (by omega) HOex1x10x6x11.out)
          have HXgx1x10x6x11 := Aside0.mk (tgx1x10x6x11.keep _ (blk) (i + 3) _ _ (by omega) HXex1x10x6x11.out)
          have HNgx1x10x6x11 := Aside0.mk (tgx1x10x6x11.keep _ (row 64 k37) (i + 5) _ _ (by omega) HNex1x10x6x11.out)
          have HEgx1x10x6x11 := Aside0.mk (tgx1x10x6x11.keep _ (row 64 k37) (i + 4) _ _ (by omega) HEex1x10x6x11.out)
          have Bgx1x10x6x11 := Aside0.mk (tgx1x10x6x11.far Bex1x10x6x11.out)
          have Tgx1x10x6x11 := Aside0.mk (Tex1x10x6x11.out.step tgx1x10x6x11 (by simp))
          clear hgx1x10x6x11 tgx1x10x6x11
          refine hK.out _ _ ?_
          clear hK K hHeld
          refine norm_ (a' := ?_) ?_ ?_
          rotate_left
          · show Act.put _ (none) _ = _
            simp only [Act.put, List.setIfInBounds_toArray, List.set_cons_zero, List.set_cons_succ, i64_w, i32_w]
            rfl
          refine done_ (by kernel_rfl) ?_
          go_wp2
          go_ret
          obtain ⟨c99, h99, t99⟩ := RB.take HBgx1x10x6x11.out HNgx1x10x6x11.out HOgx1x10x6x11.out Tgx1x10x6x11.out
          exact ⟨by rw [HV.out]; rfl, c99, by rw [HVL.out]; exact h99, t99⟩
      · skip
        refine lit_step (e := 64) (c := c1) (w0 := w0) k37 (i + 4) ?hg (N := 40) ?hd (([⟨id, ⟨q, p⟩, -1⟩] : List S37)) [.int .i64 id, .int .i64 q, .int .i64 p, .int .i64 (-1)] ?hr ?hp ?hs (by simp) ?_
        (case hd => rfl)
        (case hg => rfl)
        (case hp => exact row1 _ _ ⟨id, ⟨q, p⟩, -1⟩)
        (case hr => first | (go_simp; done) | (go_simp; rfl))
        (case hs => exact Below.size B5.out)
        intro vdx10 wdx10 cdx10 hdx10 tdx10
        obtain ⟨Adx10, kdx10, rfl, -, -⟩ := row_reads hdx10
        have HEdx10 := Aside0.mk (show (row 64 k37).M wdx10 w0.heap.size (fun k => cdx10 k = (i + 4)) ([⟨id, ⟨q, p⟩, -1⟩] : List S37) (.slice Adx10 ([⟨id, ⟨q, p⟩, -1⟩] : List S37).length kdx10) from hdx10)
        have HBdx10 := Aside0.mk (tdx10.keep _ (blk) i _ _ (by omega) HB5.out)
        have HLdx10 := Aside0.mk (tdx10.keep _ (row 64 k37) (i + 1) _ _ (by omega) HL5.out)
        have HOdx10 := Aside0.mk (tdx10.keep _ (row 64 k37) (i + 2) _ _ (by omega) HO5.out)
        have HXdx10 := Aside0.mk (tdx10.keep _ (blk) (i + 3) _ _ (by omega) HX5.out)
        have Bdx10 := Aside0.mk (tdx10.far B5.out)
        have Tdx10 := Aside0.mk (T5.out.step tdx10 (by simp))
        clear hdx10 tdx10
        have hHeld := (show _ = some (Value.slice A1 l1.length k1) ∧ _ = some (Value.int IntKind.i64 q) ∧ _ = some (Value.int IntKind.i64 p) from ⟨blk_cell (blk_at HBdx10.out) 1, blk_cell (blk_at HXdx10.out) 0, blk_cell (blk_at HXdx10.out) 1⟩)
        refine hK.out _ _ hHeld (fun hHeld => ?_)
        clear hK K
        refine norm_ (a' := ?_) ?_ ?_
        rotate_left
        · show Act.put _ (some 40) _ = _
          simp only [Act.put, List.setIfInBounds_toArray, List.set_cons_zero, List.set_cons_succ, i64_w, i32_w]
          rfl
        refine one_ (i := 1) (N := some 31) #[true, true, true, true, true, true, false, true, true, true, true, false, false, false, false] rfl rfl (by kernel_rfl) (by decide) (fun K hK => ?_)
        refine lit_step (e := 64) (c := cdx10) (w0 := w0) k37 (i + 5) ?hg (N := 31) ?hd (([] : List S37)) [] ?hr ?hp ?hs (by simp) ?_
        (case hd => rfl)
        (case hg => rfl)
        (case hp => exact Reps.none _ _)
        (case hr => first | (go_simp; done) | (go_simp; rfl))
        (case hs => exact Below.size Bdx10.out)
        intro vax10x1 wax10x1 cax10x1 hax10x1 tax10x1
        obtain ⟨Aax10x1, kax10x1, rfl, -, -⟩ := row_reads hax10x1
        have HNax10x1 := Aside0.mk (show (row 64 k37).M wax10x1 w0.heap.size (fun k => cax10x1 k = (i + 5)) ([] : List S37) (.slice Aax10x1 ([] : List S37).length kax10x1) from hax10x1)
        have HBax10x1 := Aside0.mk (tax10x1.keep _ (blk) i _ _ (by omega) HBdx10.out)
        have HLax10x1 := Aside0.mk (tax10x1.keep _ (row 64 k37) (i + 1) _ _ (by omega) HLdx10.out)
        have HOax10x1 := Aside0.mk (tax10x1.keep _ (row 64 k37) (i + 2) _ _ (by omega) HOdx10.out)
        have HXax10x1 := Aside0.mk (tax10x1.keep _ (blk) (i + 3) _ _ (by omega) HXdx10.out)
        have HEax10x1 := Aside0.mk (tax10x1.keep _ (row 64 k37) (i + 4) _ _ (by omega) HEdx10.out)
        have Bax10x1 := Aside0.mk (tax10x1.far Bdx10.out)
        have Tax10x1 := Aside0.mk (Tdx10.out.step tax10x1 (by simp))
        clear hax10x1 tax10x1
        have hHeld := (show _ = some (Value.slice A1 l1.length k1) ∧ _ = some (Value.int IntKind.i64 q) ∧ _ = some (Value.int IntKind.i64 p) from ⟨blk_cell (blk_at HBax10x1.out) 1, blk_cell (blk_at HXax10x1.out) 0, blk_cell (blk_at HXax10x1.out) 1⟩)
        refine hK.out _ _ hHeld (fun hHeld => ?_)
        clear hK K
        refine norm_ (a' := ?_) ?_ ?_
        rotate_left
        · show Act.put _ (some 31) _ = _
          simp only [Act.put, List.setIfInBounds_toArray, List.set_cons_zero, List.set_cons_succ, i64_w, i32_w]
          rfl
        refine one_ (i := 6) (N := some 36) #[true, true, true, true, true, true, true, true, true, true, true, false, false, false, false] rfl rfl (by kernel_rfl) (by decide) (fun K hK => ?_)
        refine app_step (e := 64) (c := cax10x1) (w0 := w0) (d := k37) (i := (i + 5)) (by rfl) (.tmp 31) (.tmp 35) 42 (.agg #[.int .i64 0, .int .i64 0, .int .i64 0, .int .i64 0]) 32 rfl Try.underlying42 info_rentry rfl (by decide) (by decide) flat37 (.slice Aax10x1 ([] : List S37).length kax10x1) ([] : List S37) l1 _ _ _ rfl rfl HNax10x1.out (row_C HLax10x1.out) ?hs (by have := HLN.out; show (0 + _) * 32 ≤ _; omega) ?_
        (case hs => exact Below.size Bax10x1.out)
        intro vbx10x1x6 wbx10x1x6 cbx10x1x6 hbx10x1x6 tbx10x1x6
        rw [List.nil_append] at hbx10x1x6
        obtain ⟨Abx10x1x6, kbx10x1x6, rfl, -, -⟩ := row_reads hbx10x1x6
        have HNbx10x1x6 := Aside0.mk (show (row 64 k37).M wbx10x1x6 w0.heap.size (fun k => cbx10x1x6 k = (i + 5)) l1 (.slice Abx10x1x6 l1.length kbx10x1x6) from hbx10x1x6)
        have HBbx10x1x6 := Aside0.mk (tbx10x1x6.keep _ (blk) i _ _ (by omega) HBax10x1.out)
        have HLbx10x1x6 := Aside0.mk (tbx10x1x6.keep _ (row 64 k37) (i + 1) _ _ (by omega) HLax10x1.out)
        have HObx10x1x6 := Aside0.mk (tbx10x1x6.keep _ (row 64 k37) (i + 2) _ _ (by omega) HOax10x1.out)
        have HXbx10x1x6 := Aside0.mk (tbx10x1x6.keep _ (blk) (i + 3) _ _ (by omega) HXax10x1.out)
        have HEbx10x1x6 := Aside0.mk (tbx10x1x6.keep _ (row 64 k37) (i + 4) _ _ (by omega) HEax10x1.out)
        have Bbx10x1x6 := Aside0.mk (tbx10x1x6.far Bax10x1.out)
        have Tbx10x1x6 := Aside0.mk (Tax10x1.out.step tbx10x1x6 (by simp))
        clear hbx10x1x6 tbx10x1x6
        have hHeld := (show _ = some (Value.slice A1 l1.length k1) ∧ _ = some (Value.int IntKind.i64 q) ∧ _ = some (Value.int IntKind.i64 p) from ⟨blk_cell (blk_at HBbx10x1x6.out) 1, blk_cell (blk_at HXbx10x1x6.out) 0, blk_cell (blk_at HXbx10x1x6.out) 1⟩)
        refine hK.out _ _ hHeld (fun hHeld => ?_)
        clear hK K
        refine norm_ (a' := ?_) ?_ ?_
        rotate_left
        · show Act.put _ (some 36) _ = _
          simp only [Act.put, List.setIfInBounds_toArray, List.set_cons_zero, List.set_cons_succ, i64_w, i32_w]
          rfl
        refine one_ (i := 11) (N := some 41) #[true, true, true, true, true, true, true, true, true, true, true, true, false, false, false] rfl rfl (by kernel_rfl) (by decide) (fun K hK => ?_)
        refine app_step (e := 64) (c := cbx10x1x6) (w0 := w0) (d := k37) (i := (i + 5)) (by rfl) (.tmp 36) (.tmp 40) 42 (.agg #[.int .i64 0, .int .i64 0, .int .i64 0, .int .i64 0]) 32 rfl Try.underlying42 info_rentry rfl (by decide) (by decide) flat37 (.slice Abx10x1x6 l1.length kbx10x1x6) l1 ([⟨id, ⟨q, p⟩, -1⟩] : List S37) _ _ _ rfl rfl HNbx10x1x6.out (row_C HEbx10x1x6.out) ?hs (by have := HLN.out; show (_ + 1) * 32 ≤ _; omega) ?_
        (case hs => exact Below.size Bbx10x1x6.out)
        intro vex10x1x6x11 wex10x1x6x11 cex10x1x6x11 hex10x1x6x11 tex10x1x6x11
        rw [HLS.out] at hex10x1x6x11
        obtain ⟨Aex10x1x6x11, kex10x1x6x11, rfl, -, -⟩ := row_reads hex10x1x6x11
        have HNex10x1x6x11 := Aside0.mk (show (row 64 k37).M wex10x1x6x11 w0.heap.size (fun k => cex10x1x6x11 k = (i + 5)) ls (.slice Aex10x1x6x11 ls.length kex10x1x6x11) from hex10x1x6x11)
        have HBex10x1x6x11 := Aside0.mk (tex10x1x6x11.keep _ (blk) i _ _ (by omega) HBbx10x1x6.out)
        have HLex10x1x6x11 := Aside0.mk (tex10x1x6x11.keep _ (row 64 k37) (i + 1) _ _ (by omega) HLbx10x1x6.out)
        have HOex10x1x6x11 := Aside0.mk (tex10x1x6x11.keep _ (row 64 k37) (i + 2) _ _ (by omega) HObx10x1x6.out)
        have HXex10x1x6x11 := Aside0.mk (tex10x1x6x11.keep _ (blk) (i + 3) _ _ (by omega) HXbx10x1x6.out)
        have HEex10x1x6x11 := Aside0.mk (tex10x1x6x11.keep _ (row 64 k37) (i + 4) _ _ (by omega) HEbx10x1x6.out)
        have Bex10x1x6x11 := Aside0.mk (tex10x1x6x11.far Bbx10x1x6.out)
        have Tex10x1x6x11 := Aside0.mk (Tbx10x1x6.out.step tex10x1x6x11 (by simp))
        clear hex10x1x6x11 tex10x1x6x11
        have hHeld := (show _ = some (Value.slice A1 l1.length k1) ∧ _ = some (Value.int IntKind.i64 q) ∧ _ = some (Value.int IntKind.i64 p) from ⟨blk_cell (blk_at HBex10x1x6x11.out) 1, blk_cell (blk_at HXex10x1x6x11.out) 0, blk_cell (blk_at HXex10x1x6x11.out) 1⟩)
        refine hK.out _ _ hHeld (fun hHeld => ?_)
        clear hK K
        refine norm_ (a' := ?_) ?_ ?_
        rotate_left
        · show Act.put _ (some 41) _ = _
          simp only [Act.put, List.setIfInBounds_toArray, List.set_cons_zero, List.set_cons_succ, i64_w, i32_w]
          rfl
        refine pure_ (i := 12) (N := some 42) (v := ?_) (a' := ?_) #[true, true, true, true, true, true, true, true, true, true, true, true, true, false, false] rfl rfl (by kernel_rfl) (fun _ _ _ h => h) (Or.inl ⟨by rfl, ?_⟩) ?_ ?_
        rotate_left
        · intro w'
          go_simp
          with_reducible rfl
        rotate_left
        · simp only [Act.put, List.setIfInBounds_toArray, List.set_cons_zero, List.set_cons_succ, i64_w, i32_w]
          rfl
        refine pure_ (i := 13) (N := some 43) (v := ?_) (a' := ?_) #[true, true, true, true, true, true, true, true, true, true, true, true, true, true, false] rfl rfl (by kernel_rfl) (fun _ _ _ h => h) (Or.inl ⟨by rfl, ?_⟩) ?_ ?_
        rotate_left
        · intro w'
          go_simp
          with_reducible rfl
        rotate_left
        · simp only [Act.put, List.setIfInBounds_toArray, List.set_cons_zero, List.set_cons_succ, i64_w, i32_w]
          rfl
        refine last_ (i := 14) (N := none) #[true, true, true, true, true, true, true, true, true, true, true, true, true, true, true] rfl rfl (by kernel_rfl) (by decide) (fun K hK => ?_)
        have z1 := blk_cell (blk_at HBex10x1x6x11.out) 1
        have f1 := blk_frozen (blk_at HBex10x1x6x11.out) 1
        refine store_step (w1 := wex10x1x6x11.setCell ⟨g, 1, none⟩ (.slice Aex10x1x6x11 ls.length kex10x1x6x11)) ?hw rfl ?hr ?_
        (case hw => rfl)
        (case hr => go_simp)
        obtain ⟨cgx10x1x6x11, hgx10x1x6x11, tgx10x1x6x11⟩ := blk_put1 HBex10x1x6x11.out 1 (.slice Aex10x1x6x11 ls.length kex10x1x6x11) (Below.size Bex10x1x6x11.out)
        clear z1 f1
        generalize wex10x1x6x11.setCell ⟨g, 1, none⟩ (.slice Aex10x1x6x11 ls.length kex10x1x6x11) = wgx10x1x6x11 at hgx10x1x6x11 tgx10x1x6x11 ⊢
        have HBgx10x1x6x11 := Aside0.mk (show (blk).M wgx10x1x6x11 w0.heap.size (fun k => cgx10x1x6x11 k = i) (.cells #[.int .i64 m, .slice Aex10x1x6x11 ls.length kex10x1x6x11, .slice A2 l2.length k2] 44 (0, 0)) (.pointer (some ⟨g, 0, none⟩)) from hgx10x1x6x11)
        have HLgx10x1x6x11 := Aside0.mk (tgx10x1x6x11.keep _ (row 64 k37) (i + 1) _ _ (by omega) HLex10x1x6x11.out)
        have HOgx10x1x6x11 := Aside0.mk (tgx10x1x6x11.keep _ (row 64 k37) (i + 2) _ _ (by omega) HOex10x1x6x11.out)
        have HXgx10x1x6x11 := Aside0.mk (tgx10x1x6x11.keep _ (blk) (i + 3) _ _ (by omega) HXex10x1x6x11.out)
        have HEgx10x1x6x11 := Aside0.mk (tgx10x1x6x11.keep _ (row 64 k37) (i + 4) _ _ (by omega) HEex10x1x6x11.out)
        have HNgx10x1x6x11 := Aside0.mk (tgx10x1x6x11.keep _ (row 64 k37) (i + 5) _ _ (by omega) HNex10x1x6x11.out)
        have Bgx10x1x6x11 := Aside0.mk (tgx10x1x6x11.far Bex10x1x6x11.out)
        have Tgx10x1x6x11 := Aside0.mk (Tex10x1x6x11.out.step tgx10x1x6x11 (by simp))
        clear hgx10x1x6x11 tgx10x1x6x11
        refine hK.out _ _ ?_
        clear hK K hHeld
        refine norm_ (a' := ?_) ?_ ?_
        rotate_left
        · show Act.put _ (none) _ = _
          simp only [Act.put, List.setIfInBounds_toArray, List.set_cons_zero, List.set_cons_succ, i64_w, i32_w]
          rfl
        refine done_ (by kernel_rfl) ?_
        go_wp2
        go_ret
        obtain ⟨c99, h99, t99⟩ := RB.take HBgx10x1x6x11.out HNgx10x1x6x11.out HOgx10x1x6x11.out Tgx10x1x6x11.out
        exact ⟨by rw [HV.out]; rfl, c99, by rw [HVL.out]; exact h99, t99⟩
    · have pa : (av == 0) = false := beq_eq_false_iff_ne.2 ha
      have HV := Aside0.mk (show ev = av from HE3.out)
      have HVL := Aside0.mk (show el = l1 from by rw [HEL.out, HE3.out, if_neg ha])
      clear ha
      have y0 := blk_cell (blk_at HX1.out) 0
      have y1 := blk_cell (blk_at HX1.out) 1
      go_wp2_with (first | (go_at_call 28; (with_reducible refine (beadleref10_GoodPair.calls q p _ _ (rgood_f q p)).mono ?_); rintro e w2 ⟨rfl, hd2⟩; rw [GB.out]; have hb2 := hd2.below; have HB2 := Aside0.mk (St.below (s := blk) HB1.out hb2); have HL2 := Aside0.mk (St.below (s := row 64 k37) HL1.out hb2); have HO2 := Aside0.mk (St.below (s := row 64 k37) HO1.out hb2); have HX2 := Aside0.mk (St.below (s := blk) HX1.out hb2); have B2 := Aside0.mk (Below.trans B1.out (Below.mono hb2 (Below.size B1.out))); have T2 := Aside0.mk (T1.out.below hb2); clear hd2 hb2 y0 y1; have y0 := blk_cell (blk_at HX2.out) 0; have y1 := blk_cell (blk_at HX2.out) 1) | (go_at_call 29; (with_reducible refine (rfind_calls id (blk_at HB2.out) (row_C HL2.out) (by have := HLN.out; omega)).mono ?_); rintro e wz ⟨rfl, hz⟩; have hz := hz.symm; subst hz; rw [FV.out]) | (go_at_call 18; (with_reducible refine (rask_calls q p now (blk_at HB2.out) (row_C HL2.out) (row_C HO2.out) (by have := HLN.out; omega) (by have := HLN.out; omega) HM.out HK1.out HK2.out).mono ?_); rintro e w4 ⟨rfl, hb4⟩; rw [AV.out]; have HB4 := Aside0.mk (St.below (s := blk) HB2.out hb4); have HL4 := Aside0.mk (St.below (s := row 64 k37) HL2.out hb4); have HO4 := Aside0.mk (St.below (s := row 64 k37) HO2.out hb4); have HX4 := Aside0.mk (St.below (s := blk) HX2.out hb4); have B4 := Aside0.mk (Below.trans B2.out (Below.mono hb4 (Below.size B2.out))); have T4 := Aside0.mk (T2.out.below hb4); clear hb4 y0 y1))
      go_ret
      exact ⟨by rw [HV.out]; rfl, c1, by rw [HVL.out]; exact ⟨_, _, _, _, HB4.out, HL4.out, HO4.out⟩, T4.out⟩
end Go.Proofs.Ytmjodeijafoabaa.Admit

/- Admit: the reference's Leave (no law is stated here; each says its conditions). -/
namespace Go.Proofs.Ytmjodeijafoabaa.Admit
open Go.RowKit Go.Proofs.YtmjodeijafoabaaW.PrintWords Go.Proofs.YtmjodeijafoabaaW.PrintLast Go.Proofs.YtmjodeijafoabaaW.PrintMore Go.Proofs.Ytmjodeijafoabaa.St Go.Proofs.Ytmjodeijafoabaa.Q Go.Proofs.Ytmjodeijafoabaa.Pure
set_option linter.unusedVariables false
set_option linter.unusedSimpArgs false
attribute [local go_sem] max2_int min2_int max_two min_two max_three min_three max_four min_four

theorem info_rentry2 : ∃ i : TypeInfo, Try.prog.info? 64 = some i ∧ i.size = k37.sz := by
  have h := info_rentry
  cases hi : Try.prog.info? 64 with
  | none => rw [hi] at h; cases h
  | some i =>
    rw [hi] at h
    simp only [Option.map_some, Option.some.injEq, Prod.mk.injEq] at h
    exact ⟨i, rfl, h.2.1⟩
theorem kd_from {P : Program} {α : Type} {d : Kd α} (t e : TypeId) {i : TypeInfo} (ht : P.underlying t = some (.slice e)) (hi : P.info? e = some i) (hsz : i.size = d.sz) (A : Option Addr) (c m : Nat) (xs : List α) (hm : m ≤ xs.length) :
    ∃ A', (∀ W : World, (Instr.slice t (.slice A xs.length c) (some (.int .i64 (m : Int))) none none).run P W = .ok (.slice A' (xs.length - m) (c - m)) W) ∧
      (∀ w : World, xs.length ≤ c → d.C w A xs.length xs → d.C w A' (xs.length - m) (xs.drop m)) := by
  refine ⟨if c = m then A else A.map (·.add (m * d.sz)), fun W => ?_, fun w hc h => ?_⟩
  · have h := cut_from t e .i64 ht hi d.sz hsz A xs.length c (m : Int) (by omega) (by omega) W
    rwa [Int.toNat_natCast] at h
  · have h2 := Kd.C_drop h hm hc
    rwa [List.length_drop] at h2
theorem kd_to {P : Program} {α : Type} {d : Kd α} (t e : TypeId) {i : TypeInfo} (ht : P.underlying t = some (.slice e)) (hi : P.info? e = some i) (A : Option Addr) (c m : Nat) (xs : List α) (hm : m ≤ xs.length) (hc : xs.length ≤ c) :
    (∀ W : World, (Instr.slice t (.slice A xs.length c) none (some (.int .i64 (m : Int))) none).run P W = .ok (.slice A m c) W) ∧
      (∀ w : World, d.C w A xs.length xs → d.C w A m (xs.take m)) := by
  refine ⟨fun W => ?_, fun w h => ?_⟩
  · have h := cut_to t e .i64 ht hi A xs.length c (m : Int) (by omega) (by omega) hc W
    rwa [Int.toNat_natCast] at h
  · have h2 := Kd.C_take h hm
    rwa [List.length_take, Nat.min_eq_left hm] at h2
set_option maxHeartbeats 8000000 in
set_option maxRecDepth 100000 in
theorem rleave_calls {w0 W : World} {c : Nat → Nat} {i g : Nat} {m : Int} {l1 l2 : List S37} (id till now : Int) (h : RB w0 W c i m l1 l2 g) (hB : Below w0.heap.size w0 W) (hl : l1.length ≤ 400 ∧ l2.length ≤ 900) :
    Calls Try.prog 16 #[.pointer (some ⟨g, 0, none⟩), .int .i64 id, .int .i64 till, .int .i64 now] W fun e w' => e = .returned (.int .i64 (leaveV l1 id till now)) ∧ ∃ c', RB w0 w' c' i m (leaveL l1 id till now) (leaveO l1 l2 id till now) g ∧ TurnedL c c' [i, (i + 1), (i + 2), (i + 3), (i + 4), (i + 5)] w0 W w' := by
  obtain ⟨A1, k1, A2, k2, hb1, hb2, hb3⟩ := h
  have HLN := Aside0.mk hl
  have hl400 : l1.length ≤ 400 := hl.1
  obtain ⟨ev, hev⟩ : ∃ ev, leaveV l1 id till now = ev := ⟨_, rfl⟩
  obtain ⟨el, hel⟩ : ∃ el, leaveL l1 id till now = el := ⟨_, rfl⟩
  obtain ⟨eo, heo⟩ : ∃ eo, leaveO l1 l2 id till now = eo := ⟨_, rfl⟩
  have HEV := Aside0.mk (show ev = if till < 0 ∨ now < 0 then 1 else if findE id l1 0 < 0 then 2 else 0 from by rw [← hev]; rfl)
  have HEL := Aside0.mk (show el = if ev = 0 then l1.eraseIdx (findE id l1 0).toNat else l1 from by rw [← hel, ← hev]; rfl)
  have HEO := Aside0.mk (show eo = if ev = 0 ∧ now < till then l2 ++ [⟨id, (l1.getD (findE id l1 0).toNat z4).f1, till⟩] else l2 from by rw [← heo, ← hev]; rfl)
  rw [hev, hel, heo]
  have T0 := Aside0.mk (TurnedL.refl c [i, (i + 1), (i + 2), (i + 3), (i + 4), (i + 5)] w0 W)
  have M1 := Aside0.mk hb1
  have M2 := Aside0.mk hb2
  have M3 := Aside0.mk hb3
  have HB := Aside0.mk hB
  have HFC := Aside0.mk (find_cases id l1 0)
  obtain ⟨fv, hfv⟩ : ∃ fv, findE id l1 0 = fv := ⟨_, rfl⟩
  have FV := Aside0.mk hfv
  rw [hfv] at HEV HEL HEO HFC
  clear hev hel heo hb1 hb2 hb3 hB hl hfv
  by_cases ht : till < 0
  · have pt : decide (till < 0) = true := decide_eq_true ht
    have HV := Aside0.mk (show ev = 1 from by rw [HEV.out, if_pos (Or.inl ht)])
    have HVL := Aside0.mk (show el = l1 from by rw [HEL.out, HV.out, if_neg (by decide)])
    have HVO := Aside0.mk (show eo = l2 from by rw [HEO.out, HV.out, if_neg (fun e => absurd e.1 (by decide))])
    clear ht
    go_enter Try.func16, Try.ntmps16
    go_wp2
    go_ret
    exact ⟨by rw [HV.out]; rfl, c, by rw [HVL.out, HVO.out]; exact ⟨_, _, _, _, M1.out, M2.out, M3.out⟩, T0.out⟩
  have pt : decide (till < 0) = false := decide_eq_false ht
  by_cases hn : now < 0
  · have pn : decide (now < 0) = true := decide_eq_true hn
    have HV := Aside0.mk (show ev = 1 from by rw [HEV.out, if_pos (Or.inr hn)])
    have HVL := Aside0.mk (show el = l1 from by rw [HEL.out, HV.out, if_neg (by decide)])
    have HVO := Aside0.mk (show eo = l2 from by rw [HEO.out, HV.out, if_neg (fun e => absurd e.1 (by decide))])
    clear ht hn
    go_enter Try.func16, Try.ntmps16
    go_wp2
    go_ret
    exact ⟨by rw [HV.out]; rfl, c, by rw [HVL.out, HVO.out]; exact ⟨_, _, _, _, M1.out, M2.out, M3.out⟩, T0.out⟩
  have pn : decide (now < 0) = false := decide_eq_false hn
  have HE2 := Aside0.mk (show ev = if fv < 0 then 2 else 0 from by rw [HEV.out, if_neg (by omega)])
  clear ht hn
  rcases HFC.out with ⟨k, hkl, hfe, hfi, -⟩ | ⟨hfe, -⟩
  rotate_left
  · subst hfe
    have HV := Aside0.mk (show ev = 2 from by rw [HE2.out, if_pos (by decide)])
    have HVL := Aside0.mk (show el = l1 from by rw [HEL.out, HV.out, if_neg (by decide)])
    have HVO := Aside0.mk (show eo = l2 from by rw [HEO.out, HV.out, if_neg (fun e => absurd e.1 (by decide))])
    go_enter Try.func16, Try.ntmps16
    go_wp2_with (first | (go_at_call 29; (with_reducible refine (rfind_calls id (blk_at M1.out) (row_C M2.out) (by have := HLN.out; omega)).mono ?_); rintro e wz ⟨rfl, hz⟩; have hz := hz.symm; subst hz; rw [FV.out]))
    go_ret
    exact ⟨by rw [HV.out]; rfl, c, by rw [HVL.out, HVO.out]; exact ⟨_, _, _, _, M1.out, M2.out, M3.out⟩, T0.out⟩
  rw [Nat.zero_add] at hfe
  subst hfe
  have HV := Aside0.mk (show ev = 0 from by rw [HE2.out, if_neg (by omega)])
  obtain ⟨le, hle⟩ : ∃ le, l1.eraseIdx k = le := ⟨_, rfl⟩
  have HEE := Aside0.mk (show l1.take k ++ l1.drop (k + 1) = le from by rw [← hle, List.eraseIdx_eq_take_drop_succ])
  have HTL := Aside0.mk (show (l1.take k).length = k from by rw [List.length_take]; omega)
  have HDL := Aside0.mk (show (l1.drop (k + 1)).length = l1.length - (k + 1) from List.length_drop)
  have HVL := Aside0.mk (show el = le from by rw [HEL.out, HV.out, if_pos rfl, Int.toNat_natCast, hle])
  clear hle
  obtain ⟨gl, kk, hA, -⟩ := Kd.R_form M2.out (show 0 < l1.length by omega)
  injection hA with hA1 hA2 hA3
  subst hA1
  subst hA3
  clear hA2
  have bk : (0 ≤ (k : Int) ∧ (k : Int) < (l1.length : Int)) := by omega
  have pk : decide ((k : Int) < 0) = false := decide_eq_false (by omega)
  have hwk : wrap64 ((k : Int) + 1) = (k : Int) + 1 := by unfold wrap64; omega
  obtain ⟨⟨x0, ⟨x1, x2⟩, x3⟩, hx⟩ : ∃ x, l1.getD k z4 = x := ⟨_, rfl⟩
  have hfi2 : x0 = id := by rw [hx] at hfi; exact hfi
  subst hfi2
  clear hfi
  have HX := Aside0.mk hx
  obtain ⟨ad, hAd, a0, a1, a2, a3⟩ := read_e (row_C M2.out) hkl
  cases hAd
  rw [hx] at a0 a1 a2 a3
  rw [add_base] at a0 a1 a2 a3
  clear hx
  go_enter Try.func16, Try.ntmps16
  have z1 := blk_cell (blk_at M1.out) 1
  go_upto_region 7 with (first | (go_at_call 29; (with_reducible refine (rfind_calls x0 (blk_at M1.out) (row_C M2.out) (by have := HLN.out; omega)).mono ?_); rintro e wz ⟨rfl, hz⟩; have hz := hz.symm; subst hz; rw [FV.out]) | ((with_reducible refine gate_dst (N := 10) rfl ?_); refine box_event ?hg (N := 10) ?hd (cs := #[.int .i64 0, .int .i64 0, .int .i64 0, .int .i64 0]) (t := 64) ?hr ?_; (case hd => rfl); (case hg => rfl); (case hr => first | (go_simp; done) | (go_simp; rfl) | kernel_rfl); intro g9 hg5 w5 hx5 hb5; have HX5 := Aside0.mk hx5; have HB5 := Aside0.mk hb5; have HG5 := Aside0.mk hg5; have s0 := blk_cell hx5 0; have t0 := blk_frozen hx5 0; have s1 := blk_cell hx5 1; have t1 := blk_frozen hx5 1; have s2 := blk_cell hx5 2; have t2 := blk_frozen hx5 2; have s3 := blk_cell hx5 3; have t3 := blk_frozen hx5 3; clear hx5 hb5 hg5))
  clear z1
  have hgx : W.heap.size ≤ g9 := Nat.le_of_eq HG5.out.symm
  have hb5 : Below W.heap.size W ((((w5.setCell ⟨g9, 0, none⟩ (.int .i64 x0)).setCell ⟨g9, 1, none⟩ (.int .i64 x1)).setCell ⟨g9, 2, none⟩ (.int .i64 x2)).setCell ⟨g9, 3, none⟩ (.int .i64 x3)) := ((((HB5.out.setCell hgx _).setCell hgx _).setCell hgx _).setCell hgx _)
  have hx5 : ((((w5.setCell ⟨g9, 0, none⟩ (.int .i64 x0)).setCell ⟨g9, 1, none⟩ (.int .i64 x1)).setCell ⟨g9, 2, none⟩ (.int .i64 x2)).setCell ⟨g9, 3, none⟩ (.int .i64 x3)).heap[g9]? = some (.cells #[.int .i64 x0, .int .i64 x1, .int .i64 x2, .int .i64 x3] 64 (0, 0)) := (blk_put (cs := #[.int .i64 x0, .int .i64 x1, .int .i64 x2, .int .i64 0]) (blk_put (cs := #[.int .i64 x0, .int .i64 x1, .int .i64 0, .int .i64 0]) (blk_put (cs := #[.int .i64 x0, .int .i64 0, .int .i64 0, .int .i64 0]) (blk_put (cs := #[.int .i64 0, .int .i64 0, .int .i64 0, .int .i64 0]) HX5.out 0 _ rfl) 1 _ rfl) 2 _ rfl) 3 _ rfl)
  clear s0 t0 a0 s1 t1 a1 s2 t2 a2 s3 t3 a3 HX5 HB5 HG5
  generalize ((((w5.setCell ⟨g9, 0, none⟩ (.int .i64 x0)).setCell ⟨g9, 1, none⟩ (.int .i64 x1)).setCell ⟨g9, 2, none⟩ (.int .i64 x2)).setCell ⟨g9, 3, none⟩ (.int .i64 x3)) = wa at hb5 hx5 ⊢
  obtain ⟨ca, ha, ta⟩ := blk_new1 (w0 := w0) c (i + 3) hgx hx5 hb5 (Below.size HB.out)
  clear hgx hx5 hb5
  have HXa := Aside0.mk (show (blk).M wa w0.heap.size (fun k => ca k = (i + 3)) (.cells #[.int .i64 x0, .int .i64 x1, .int .i64 x2, .int .i64 x3] 64 (0, 0)) (.pointer (some ⟨g9, 0, none⟩)) from ha)
  have HBa := Aside0.mk (ta.keep _ (blk) i _ _ (by omega) M1.out)
  have HLa := Aside0.mk (ta.keep _ (row 64 k37) (i + 1) _ _ (by omega) M2.out)
  have HOa := Aside0.mk (ta.keep _ (row 64 k37) (i + 2) _ _ (by omega) M3.out)
  have Ba := Aside0.mk (ta.far HB.out)
  have Ta := Aside0.mk (T0.out.step ta (by simp))
  clear ha ta
  obtain ⟨w5, hw5⟩ : ∃ w5 : World, wa.drew = w5 := ⟨_, rfl⟩
  have hb5 : Below wa.heap.size wa w5 := by rw [← hw5]; exact below_drew (Below.refl _ _)
  have HB5 := Aside0.mk (St.below (s := blk) HBa.out hb5)
  have HL5 := Aside0.mk (St.below (s := row 64 k37) HLa.out hb5)
  have HO5 := Aside0.mk (St.below (s := row 64 k37) HOa.out hb5)
  have HX5 := Aside0.mk (St.below (s := blk) HXa.out hb5)
  have B5 := Aside0.mk (Below.trans Ba.out (Below.mono hb5 (Below.size Ba.out)))
  have T5 := Aside0.mk (Ta.out.below hb5)
  clear hb5
  obtain ⟨ie, hie, his⟩ := info_rentry2
  have hle1 : l1.length ≤ k1 := row_le M2.out
  obtain ⟨hrt, hct⟩ := kd_to (d := k37) 42 64 Try.underlying42 hie (some ⟨gl, 0, none⟩) k1 k l1 (by omega) hle1
  obtain ⟨Af, hrf, hcf⟩ := kd_from (d := k37) 42 64 Try.underlying42 hie his (some ⟨gl, 0, none⟩) k1 (k + 1) l1 (by omega)
  rw [show ((k + 1 : Nat) : Int) = (k : Int) + 1 by omega] at hrf
  have HCT := Aside0.mk hct
  have HCF := Aside0.mk hcf
  clear hct hcf hie his
  refine start_ (n := 20) (S := fun w' => w'.cell? ⟨g, 1, none⟩ = some (.slice (some ⟨gl, 0, none⟩) l1.length k1)) (ds := [19]) #[false, false, false, false, false, false, false, false, false, false, false, false, false, false, false, false, false, false, false, false] (by kernel_rfl) rfl rfl (by rw [hw5]; exact blk_cell (blk_at HB5.out) 1) (fun hHeld => ?_)
  refine pure_ (i := 0) (N := some 29) (v := ?_) (a' := ?_) #[true, false, false, false, false, false, false, false, false, false, false, false, false, false, false, false, false, false, false, false] rfl rfl (by kernel_rfl) (fun _ _ _ h => h) (Or.inl ⟨by rfl, ?_⟩) ?_ ?_
  rotate_left
  · intro w'
    go_simp
    with_reducible rfl
  rotate_left
  · simp only [Act.put, List.setIfInBounds_toArray, List.set_cons_zero, List.set_cons_succ, i64_w, i32_w]
    rfl
  refine pure_ (i := 2) (N := some 31) (v := ?_) (a' := ?_) #[true, false, true, false, false, false, false, false, false, false, false, false, false, false, false, false, false, false, false, false] rfl rfl (by kernel_rfl) (fun _ _ _ h => h) (Or.inl ⟨by rfl, ?_⟩) ?_ ?_
  rotate_left
  · intro w'
    go_simp
    with_reducible rfl
  rotate_left
  · simp only [Act.put, List.setIfInBounds_toArray, List.set_cons_zero, List.set_cons_succ, i64_w, i32_w]
    rfl
  refine pure_ (i := 3) (N := some 32) (v := ?_) (a' := ?_) #[true, false, true, true, false, false, false, false, false, false, false, false, false, false, false, false, false, false, false, false] rfl rfl (by kernel_rfl) (fun _ _ _ h => h) (Or.inl ⟨by rfl, ?_⟩) ?_ ?_
  rotate_left
  · intro w'
    go_simp
    with_reducible rfl
  rotate_left
  · simp only [Act.put, List.setIfInBounds_toArray, List.set_cons_zero, List.set_cons_succ, i64_w, i32_w]
    rfl
  refine pure_ (i := 4) (N := some 33) (v := ?_) (a' := ?_) #[true, false, true, true, true, false, false, false, false, false, false, false, false, false, false, false, false, false, false, false] rfl rfl (by kernel_rfl) (fun _ _ _ h => h) (Or.inl ⟨by rfl, ?_⟩) ?_ ?_
  rotate_left
  · intro w'
    go_simp
    with_reducible rfl
  rotate_left
  · simp only [Act.put, List.setIfInBounds_toArray, List.set_cons_zero, List.set_cons_succ, i64_w, i32_w]
    rfl
  refine take_ (i := 5) (N := some 34) (v := ?_) (a' := ?_) #[true, false, true, true, true, true, false, false, false, false, false, false, false, false, false, false, false, false, false, false] rfl rfl (by kernel_rfl) (fun _ _ _ h => h) (Or.inl ⟨by rfl, ?_⟩) hHeld ?_ ?_
  rotate_left
  · intro w' hS_
    obtain s0_ := hS_
    go_simp
    with_reducible rfl
  rotate_left
  · simp only [Act.put, List.setIfInBounds_toArray, List.set_cons_zero, List.set_cons_succ, i64_w, i32_w]
    rfl
  refine pure_ (i := 6) (N := some 35) (v := ?_) (a' := ?_) #[true, false, true, true, true, true, true, false, false, false, false, false, false, false, false, false, false, false, false, false] rfl rfl (by kernel_rfl) (fun _ _ _ h => h) (Or.inl ⟨by rfl, ?_⟩) ?_ ?_
  rotate_left
  · intro w'
    go_simp
    with_reducible rfl
  rotate_left
  · simp only [Act.put, List.setIfInBounds_toArray, List.set_cons_zero, List.set_cons_succ, i64_w, i32_w]
    rfl
  refine pure_ (i := 7) (N := some 36) (v := ?_) (a' := ?_) #[true, false, true, true, true, true, true, true, false, false, false, false, false, false, false, false, false, false, false, false] rfl rfl (by kernel_rfl) (fun _ _ _ h => h) (Or.inl ⟨by rfl, ?_⟩) ?_ ?_
  rotate_left
  · intro w'
    go_simp
    with_reducible rfl
  rotate_left
  · simp only [Act.put, List.setIfInBounds_toArray, List.set_cons_zero, List.set_cons_succ, i64_w, i32_w]
    rfl
  refine pure_ (i := 9) (N := some 38) (v := ?_) (a' := ?_) #[true, false, true, true, true, true, true, true, false, true, false, false, false, false, false, false, false, false, false, false] rfl rfl (by kernel_rfl) (fun _ _ _ h => h) (Or.inl ⟨by rfl, ?_⟩) ?_ ?_
  rotate_left
  · intro w'
    go_simp
    with_reducible rfl
  rotate_left
  · simp only [Act.put, List.setIfInBounds_toArray, List.set_cons_zero, List.set_cons_succ, i64_w, i32_w]
    rfl
  refine pure_ (i := 10) (N := some 39) (v := ?_) (a' := ?_) #[true, false, true, true, true, true, true, true, false, true, true, false, false, false, false, false, false, false, false, false] rfl rfl (by kernel_rfl) (fun _ _ _ h => h) (Or.inl ⟨by rfl, ?_⟩) ?_ ?_
  rotate_left
  · intro w'
    go_simp
    with_reducible rfl
  rotate_left
  · simp only [Act.put, List.setIfInBounds_toArray, List.set_cons_zero, List.set_cons_succ, i64_w, i32_w]
    rfl
  refine pure_ (i := 11) (N := some 40) (v := ?_) (a' := ?_) #[true, false, true, true, true, true, true, true, false, true, true, true, false, false, false, false, false, false, false, false] rfl rfl (by kernel_rfl) (fun _ _ _ h => h) (Or.inl ⟨by rfl, ?_⟩) ?_ ?_
  rotate_left
  · intro w'
    go_simp
    with_reducible rfl
  rotate_left
  · simp only [Act.put, List.setIfInBounds_toArray, List.set_cons_zero, List.set_cons_succ, i64_w, i32_w]
    rfl
  refine take_ (i := 12) (N := some 41) (v := ?_) (a' := ?_) #[true, false, true, true, true, true, true, true, false, true, true, true, true, false, false, false, false, false, false, false] rfl rfl (by kernel_rfl) (fun _ _ _ h => h) (Or.inl ⟨by rfl, ?_⟩) hHeld ?_ ?_
  rotate_left
  · intro w' hS_
    obtain s0_ := hS_
    go_simp
    with_reducible rfl
  rotate_left
  · simp only [Act.put, List.setIfInBounds_toArray, List.set_cons_zero, List.set_cons_succ, i64_w, i32_w]
    rfl
  refine pure_ (i := 13) (N := some 42) (v := ?_) (a' := ?_) #[true, false, true, true, true, true, true, true, false, true, true, true, true, true, false, false, false, false, false, false] rfl rfl (by kernel_rfl) (fun _ _ _ h => h) (Or.inl ⟨by rfl, ?_⟩) ?_ ?_
  rotate_left
  · intro w'
    go_simp
    with_reducible rfl
  rotate_left
  · simp only [Act.put, List.setIfInBounds_toArray, List.set_cons_zero, List.set_cons_succ, i64_w, i32_w]
    rfl
  refine pure_ (i := 14) (N := some 43) (v := ?_) (a' := ?_) #[true, false, true, true, true, true, true, true, false, true, true, true, true, true, true, false, false, false, false, false] rfl rfl (by kernel_rfl) (fun _ _ _ h => h) (Or.inl ⟨by rfl, ?_⟩) ?_ ?_
  rotate_left
  · intro w'
    go_simp
    with_reducible rfl
  rotate_left
  · simp only [Act.put, List.setIfInBounds_toArray, List.set_cons_zero, List.set_cons_succ, i64_w, i32_w]
    rfl
  refine pure_ (i := 15) (N := some 44) (v := ?_) (a' := ?_) #[true, false, true, true, true, true, true, true, false, true, true, true, true, true, true, true, false, false, false, false] rfl rfl (by kernel_rfl) (fun _ _ _ h => h) (Or.inl ⟨by rfl, ?_⟩) ?_ ?_
  rotate_left
  · intro w'
    go_simp
    with_reducible rfl
  rotate_left
  · simp only [Act.put, List.setIfInBounds_toArray, List.set_cons_zero, List.set_cons_succ, i64_w, i32_w]
    rfl
  refine one_ (i := 1) (N := some 30) #[true, true, true, true, true, true, true, true, false, true, true, true, true, true, true, true, false, false, false, false] rfl rfl (by kernel_rfl) (by decide) (fun K hK => ?_)
  rw [hw5]
  refine lit_step (e := 64) (c := ca) (w0 := w0) k37 (i + 5) ?hg (N := 30) ?hd (([] : List S37)) [] ?hr ?hp ?hs (by simp) ?_
  (case hd => rfl)
  (case hg => rfl)
  (case hp => exact Reps.none _ _)
  (case hr => first | (go_simp; done) | (go_simp; rfl))
  (case hs => exact Below.size B5.out)
  intro v6 w6 c6 h6 t6
  obtain ⟨A6, k6, rfl, -, -⟩ := row_reads h6
  have HN6 := Aside0.mk (show (row 64 k37).M w6 w0.heap.size (fun k => c6 k = (i + 5)) ([] : List S37) (.slice A6 ([] : List S37).length k6) from h6)
  have HB6 := Aside0.mk (t6.keep _ (blk) i _ _ (by omega) HB5.out)
  have HL6 := Aside0.mk (t6.keep _ (row 64 k37) (i + 1) _ _ (by omega) HL5.out)
  have HO6 := Aside0.mk (t6.keep _ (row 64 k37) (i + 2) _ _ (by omega) HO5.out)
  have HX6 := Aside0.mk (t6.keep _ (blk) (i + 3) _ _ (by omega) HX5.out)
  have B6 := Aside0.mk (t6.far B5.out)
  have T6 := Aside0.mk (T5.out.step t6 (by simp))
  clear h6 t6
  have hHeld := (show _ = some (Value.slice (some ⟨gl, 0, none⟩) l1.length k1) from blk_cell (blk_at HB6.out) 1)
  refine hK.out _ _ hHeld (fun hHeld => ?_)
  clear hK K
  refine norm_ (a' := ?_) ?_ ?_
  rotate_left
  · show Act.put _ (some 30) _ = _
    simp only [Act.put, List.setIfInBounds_toArray, List.set_cons_zero, List.set_cons_succ, i64_w, i32_w]
    rfl
  refine one_ (i := 8) (N := some 37) #[true, true, true, true, true, true, true, true, true, true, true, true, true, true, true, true, false, false, false, false] rfl rfl (by kernel_rfl) (by decide) (fun K hK => ?_)
  refine app_step (e := 64) (c := c6) (w0 := w0) (d := k37) (i := (i + 5)) (by rfl) (.tmp 30) (.tmp 36) 42 (.agg #[.int .i64 0, .int .i64 0, .int .i64 0, .int .i64 0]) 32 rfl Try.underlying42 info_rentry rfl (by decide) (by decide) flat37 (.slice A6 ([] : List S37).length k6) ([] : List S37) (l1.take k) _ _ _ rfl rfl HN6.out (HCT.out _ (row_C HL6.out)) ?hs (by show (0 + _) * 32 ≤ _; omega) ?_
  (case hs => exact Below.size B6.out)
  intro v7 w7 c7 h7 t7
  rw [List.nil_append] at h7
  obtain ⟨A7, k7, rfl, -, -⟩ := row_reads h7
  have HN7 := Aside0.mk (show (row 64 k37).M w7 w0.heap.size (fun k => c7 k = (i + 5)) (l1.take k) (.slice A7 (l1.take k).length k7) from h7)
  have HB7 := Aside0.mk (t7.keep _ (blk) i _ _ (by omega) HB6.out)
  have HL7 := Aside0.mk (t7.keep _ (row 64 k37) (i + 1) _ _ (by omega) HL6.out)
  have HO7 := Aside0.mk (t7.keep _ (row 64 k37) (i + 2) _ _ (by omega) HO6.out)
  have HX7 := Aside0.mk (t7.keep _ (blk) (i + 3) _ _ (by omega) HX6.out)
  have B7 := Aside0.mk (t7.far B6.out)
  have T7 := Aside0.mk (T6.out.step t7 (by simp))
  clear h7 t7
  have hHeld := (show _ = some (Value.slice (some ⟨gl, 0, none⟩) l1.length k1) from blk_cell (blk_at HB7.out) 1)
  refine hK.out _ _ hHeld (fun hHeld => ?_)
  clear hK K
  refine norm_ (a' := ?_) ?_ ?_
  rotate_left
  · show Act.put _ (some 37) _ = _
    simp only [Act.put, List.setIfInBounds_toArray, List.set_cons_zero, List.set_cons_succ, i64_w, i32_w]
    rfl
  refine one_ (i := 16) (N := some 45) #[true, true, true, true, true, true, true, true, true, true, true, true, true, true, true, true, true, false, false, false] rfl rfl (by kernel_rfl) (by decide) (fun K hK => ?_)
  refine app_step (e := 64) (c := c7) (w0 := w0) (d := k37) (i := (i + 5)) (by rfl) (.tmp 37) (.tmp 44) 42 (.agg #[.int .i64 0, .int .i64 0, .int .i64 0, .int .i64 0]) 32 rfl Try.underlying42 info_rentry rfl (by decide) (by decide) flat37 (.slice A7 (l1.take k).length k7) (l1.take k) (l1.drop (k + 1)) _ _ _ rfl rfl HN7.out (HCF.out _ hle1 (row_C HL7.out)) ?hs (by rw [HTL.out]; omega) ?_
  (case hs => exact Below.size B7.out)
  intro v8 w8 c8 h8 t8
  rw [HEE.out] at h8
  obtain ⟨A8, k8, rfl, -, -⟩ := row_reads h8
  have HN8 := Aside0.mk (show (row 64 k37).M w8 w0.heap.size (fun k => c8 k = (i + 5)) le (.slice A8 le.length k8) from h8)
  have HB8 := Aside0.mk (t8.keep _ (blk) i _ _ (by omega) HB7.out)
  have HL8 := Aside0.mk (t8.keep _ (row 64 k37) (i + 1) _ _ (by omega) HL7.out)
  have HO8 := Aside0.mk (t8.keep _ (row 64 k37) (i + 2) _ _ (by omega) HO7.out)
  have HX8 := Aside0.mk (t8.keep _ (blk) (i + 3) _ _ (by omega) HX7.out)
  have B8 := Aside0.mk (t8.far B7.out)
  have T8 := Aside0.mk (T7.out.step t8 (by simp))
  clear h8 t8
  have hHeld := (show _ = some (Value.slice (some ⟨gl, 0, none⟩) l1.length k1) from blk_cell (blk_at HB8.out) 1)
  refine hK.out _ _ hHeld (fun hHeld => ?_)
  clear hK K
  refine norm_ (a' := ?_) ?_ ?_
  rotate_left
  · show Act.put _ (some 45) _ = _
    simp only [Act.put, List.setIfInBounds_toArray, List.set_cons_zero, List.set_cons_succ, i64_w, i32_w]
    rfl
  refine pure_ (i := 17) (N := some 46) (v := ?_) (a' := ?_) #[true, true, true, true, true, true, true, true, true, true, true, true, true, true, true, true, true, true, false, false] rfl rfl (by kernel_rfl) (fun _ _ _ h => h) (Or.inl ⟨by rfl, ?_⟩) ?_ ?_
  rotate_left
  · intro w'
    go_simp
    with_reducible rfl
  rotate_left
  · simp only [Act.put, List.setIfInBounds_toArray, List.set_cons_zero, List.set_cons_succ, i64_w, i32_w]
    rfl
  refine pure_ (i := 18) (N := some 47) (v := ?_) (a' := ?_) #[true, true, true, true, true, true, true, true, true, true, true, true, true, true, true, true, true, true, true, false] rfl rfl (by kernel_rfl) (fun _ _ _ h => h) (Or.inl ⟨by rfl, ?_⟩) ?_ ?_
  rotate_left
  · intro w'
    go_simp
    with_reducible rfl
  rotate_left
  · simp only [Act.put, List.setIfInBounds_toArray, List.set_cons_zero, List.set_cons_succ, i64_w, i32_w]
    rfl
  refine last_ (i := 19) (N := none) #[true, true, true, true, true, true, true, true, true, true, true, true, true, true, true, true, true, true, true, true] rfl rfl (by kernel_rfl) (by decide) (fun K hK => ?_)
  have z1 := blk_cell (blk_at HB8.out) 1
  have f1 := blk_frozen (blk_at HB8.out) 1
  refine store_step (w1 := w8.setCell ⟨g, 1, none⟩ (.slice A8 le.length k8)) ?hw rfl ?hr ?_
  (case hw => rfl)
  (case hr => go_simp)
  obtain ⟨c9, h9, t9⟩ := blk_put1 HB8.out 1 (.slice A8 le.length k8) (Below.size B8.out)
  clear z1 f1
  generalize w8.setCell ⟨g, 1, none⟩ (.slice A8 le.length k8) = w9 at h9 t9 ⊢
  have HB9 := Aside0.mk (show (blk).M w9 w0.heap.size (fun k => c9 k = i) (.cells #[.int .i64 m, .slice A8 le.length k8, .slice A2 l2.length k2] 44 (0, 0)) (.pointer (some ⟨g, 0, none⟩)) from h9)
  have HL9 := Aside0.mk (t9.keep _ (row 64 k37) (i + 1) _ _ (by omega) HL8.out)
  have HO9 := Aside0.mk (t9.keep _ (row 64 k37) (i + 2) _ _ (by omega) HO8.out)
  have HX9 := Aside0.mk (t9.keep _ (blk) (i + 3) _ _ (by omega) HX8.out)
  have HN9 := Aside0.mk (t9.keep _ (row 64 k37) (i + 5) _ _ (by omega) HN8.out)
  have B9 := Aside0.mk (t9.far B8.out)
  have T9 := Aside0.mk (T8.out.step t9 (by simp))
  clear h9 t9
  refine hK.out _ _ ?_
  clear hK K hHeld
  refine norm_ (a' := ?_) ?_ ?_
  rotate_left
  · show Act.put _ (none) _ = _
    simp only [Act.put, List.setIfInBounds_toArray, List.set_cons_zero, List.set_cons_succ, i64_w, i32_w]
    rfl
  refine done_ (by kernel_rfl) ?_
  by_cases hg : now < till
  · have pg : decide (now < till) = true := decide_eq_true hg
    obtain ⟨ls, hls⟩ : ∃ ls, l2 ++ [⟨x0, ⟨x1, x2⟩, till⟩] = ls := ⟨_, rfl⟩
    have HLS := Aside0.mk hls
    have HVO := Aside0.mk (show eo = ls from by rw [HEO.out, HV.out, if_pos ⟨rfl, hg⟩, Int.toNat_natCast, HX.out, hls])
    clear hls hg
    have y3 := blk_cell (blk_at HX9.out) 3
    have v3 := blk_frozen (blk_at HX9.out) 3
    go_upto_region 10 with (fail)
    clear y3 v3
    obtain ⟨c10, h10, t10⟩ := blk_put1 HX9.out 3 (.int .i64 till) (Below.size B9.out)
    generalize w9.setCell ⟨g9, 3, none⟩ (.int .i64 till) = w10 at h10 t10 ⊢
    have HX10 := Aside0.mk (show (blk).M w10 w0.heap.size (fun k => c10 k = (i + 3)) (.cells #[.int .i64 x0, .int .i64 x1, .int .i64 x2, .int .i64 till] 64 (0, 0)) (.pointer (some ⟨g9, 0, none⟩)) from h10)
    have HB10 := Aside0.mk (t10.keep _ (blk) i _ _ (by omega) HB9.out)
    have HL10 := Aside0.mk (t10.keep _ (row 64 k37) (i + 1) _ _ (by omega) HL9.out)
    have HO10 := Aside0.mk (t10.keep _ (row 64 k37) (i + 2) _ _ (by omega) HO9.out)
    have HN10 := Aside0.mk (t10.keep _ (row 64 k37) (i + 5) _ _ (by omega) HN9.out)
    have B10 := Aside0.mk (t10.far B9.out)
    have T10 := Aside0.mk (T9.out.step t10 (by simp))
    clear h10 t10
    obtain ⟨w11, hw11⟩ : ∃ w11 : World, w10.drew = w11 := ⟨_, rfl⟩
    have hb11 : Below w10.heap.size w10 w11 := by rw [← hw11]; exact below_drew (Below.refl _ _)
    have HB11 := Aside0.mk (St.below (s := blk) HB10.out hb11)
    have HL11 := Aside0.mk (St.below (s := row 64 k37) HL10.out hb11)
    have HO11 := Aside0.mk (St.below (s := row 64 k37) HO10.out hb11)
    have HX11 := Aside0.mk (St.below (s := blk) HX10.out hb11)
    have HN11 := Aside0.mk (St.below (s := row 64 k37) HN10.out hb11)
    have B11 := Aside0.mk (Below.trans B10.out (Below.mono hb11 (Below.size B10.out)))
    have T11 := Aside0.mk (T10.out.below hb11)
    clear hb11
    refine start_ (n := 11) (S := fun w' => w'.cell? ⟨g, 2, none⟩ = some (.slice A2 l2.length k2) ∧ w'.cell? ⟨g9, 0, none⟩ = some (.int .i64 x0) ∧ w'.cell? ⟨g9, 1, none⟩ = some (.int .i64 x1) ∧ w'.cell? ⟨g9, 2, none⟩ = some (.int .i64 x2) ∧ w'.cell? ⟨g9, 3, none⟩ = some (.int .i64 till)) (ds := [10]) #[false, false, false, false, false, false, false, false, false, false, false] (by kernel_rfl) rfl rfl (by rw [hw11]; exact ⟨blk_cell (blk_at HB11.out) 2, blk_cell (blk_at HX11.out) 0, blk_cell (blk_at HX11.out) 1, blk_cell (blk_at HX11.out) 2, blk_cell (blk_at HX11.out) 3⟩) (fun hHeld => ?_)
    refine pure_ (i := 0) (N := some 53) (v := ?_) (a' := ?_) #[true, false, false, false, false, false, false, false, false, false, false] rfl rfl (by kernel_rfl) (fun _ _ _ h => h) (Or.inl ⟨by rfl, ?_⟩) ?_ ?_
    rotate_left
    · intro w'
      go_simp
      with_reducible rfl
    rotate_left
    · simp only [Act.put, List.setIfInBounds_toArray, List.set_cons_zero, List.set_cons_succ, i64_w, i32_w]
      rfl
    refine pure_ (i := 1) (N := some 54) (v := ?_) (a' := ?_) #[true, true, false, false, false, false, false, false, false, false, false] rfl rfl (by kernel_rfl) (fun _ _ _ h => h) (Or.inl ⟨by rfl, ?_⟩) ?_ ?_
    rotate_left
    · intro w'
      go_simp
      with_reducible rfl
    rotate_left
    · simp only [Act.put, List.setIfInBounds_toArray, List.set_cons_zero, List.set_cons_succ, i64_w, i32_w]
      rfl
    refine pure_ (i := 2) (N := some 55) (v := ?_) (a' := ?_) #[true, true, true, false, false, false, false, false, false, false, false] rfl rfl (by kernel_rfl) (fun _ _ _ h => h) (Or.inl ⟨by rfl, ?_⟩) ?_ ?_
    rotate_left
    · intro w'
      go_simp
      with_reducible rfl
    rotate_left
    · simp only [Act.put, List.setIfInBounds_toArray, List.set_cons_zero, List.set_cons_succ, i64_w, i32_w]
      rfl
    refine pure_ (i := 3) (N := some 56) (v := ?_) (a' := ?_) #[true, true, true, true, false, false, false, false, false, false, false] rfl rfl (by kernel_rfl) (fun _ _ _ h => h) (Or.inl ⟨by rfl, ?_⟩) ?_ ?_
    rotate_left
    · intro w'
      go_simp
      with_reducible rfl
    rotate_left
    · simp only [Act.put, List.setIfInBounds_toArray, List.set_cons_zero, List.set_cons_succ, i64_w, i32_w]
      rfl
    refine take_ (i := 4) (N := some 57) (v := ?_) (a' := ?_) #[true, true, true, true, true, false, false, false, false, false, false] rfl rfl (by kernel_rfl) (fun _ _ _ h => h) (Or.inl ⟨by rfl, ?_⟩) hHeld ?_ ?_
    rotate_left
    · intro w' hS_
      obtain ⟨s0_, s1_, s2_, s3_, s4_⟩ := hS_
      go_simp
      with_reducible rfl
    rotate_left
    · simp only [Act.put, List.setIfInBounds_toArray, List.set_cons_zero, List.set_cons_succ, i64_w, i32_w]
      rfl
    refine take_ (i := 5) (N := some 58) (v := ?_) (a' := ?_) #[true, true, true, true, true, true, false, false, false, false, false] rfl rfl (by kernel_rfl) (fun _ _ _ h => h) (Or.inl ⟨by rfl, ?_⟩) hHeld ?_ ?_
    rotate_left
    · intro w' hS_
      obtain ⟨s0_, s1_, s2_, s3_, s4_⟩ := hS_
      go_simp
      with_reducible rfl
    rotate_left
    · simp only [Act.put, List.setIfInBounds_toArray, List.set_cons_zero, List.set_cons_succ, i64_w, i32_w]
      rfl
    refine one_ (i := 6) (N := some 59) #[true, true, true, true, true, true, true, false, false, false, false] rfl rfl (by kernel_rfl) (by decide) (fun K hK => ?_)
    rw [hw11]
    refine lit_step (e := 64) (c := c10) (w0 := w0) k37 (i + 4) ?hg (N := 59) ?hd (([⟨x0, ⟨x1, x2⟩, till⟩] : List S37)) [.int .i64 x0, .int .i64 x1, .int .i64 x2, .int .i64 till] ?hr ?hp ?hs (by simp) ?_
    (case hd => rfl)
    (case hg => rfl)
    (case hp => exact row1 _ _ ⟨x0, ⟨x1, x2⟩, till⟩)
    (case hr => first | (go_simp; done) | (go_simp; rfl))
    (case hs => exact Below.size B11.out)
    intro v12 w12 c12 h12 t12
    obtain ⟨A12, k12, rfl, -, -⟩ := row_reads h12
    have HE12 := Aside0.mk (show (row 64 k37).M w12 w0.heap.size (fun k => c12 k = (i + 4)) ([⟨x0, ⟨x1, x2⟩, till⟩] : List S37) (.slice A12 ([⟨x0, ⟨x1, x2⟩, till⟩] : List S37).length k12) from h12)
    have HB12 := Aside0.mk (t12.keep _ (blk) i _ _ (by omega) HB11.out)
    have HL12 := Aside0.mk (t12.keep _ (row 64 k37) (i + 1) _ _ (by omega) HL11.out)
    have HO12 := Aside0.mk (t12.keep _ (row 64 k37) (i + 2) _ _ (by omega) HO11.out)
    have HX12 := Aside0.mk (t12.keep _ (blk) (i + 3) _ _ (by omega) HX11.out)
    have HN12 := Aside0.mk (t12.keep _ (row 64 k37) (i + 5) _ _ (by omega) HN11.out)
    have B12 := Aside0.mk (t12.far B11.out)
    have T12 := Aside0.mk (T11.out.step t12 (by simp))
    clear h12 t12
    have hHeld := (show _ = some (Value.slice A2 l2.length k2) ∧ _ = some (Value.int IntKind.i64 x0) ∧ _ = some (Value.int IntKind.i64 x1) ∧ _ = some (Value.int IntKind.i64 x2) ∧ _ = some (Value.int IntKind.i64 till) from ⟨blk_cell (blk_at HB12.out) 2, blk_cell (blk_at HX12.out) 0, blk_cell (blk_at HX12.out) 1, blk_cell (blk_at HX12.out) 2, blk_cell (blk_at HX12.out) 3⟩)
    refine hK.out _ _ hHeld (fun hHeld => ?_)
    clear hK K
    refine norm_ (a' := ?_) ?_ ?_
    rotate_left
    · show Act.put _ (some 59) _ = _
      simp only [Act.put, List.setIfInBounds_toArray, List.set_cons_zero, List.set_cons_succ, i64_w, i32_w]
      rfl
    refine one_ (i := 7) (N := some 60) #[true, true, true, true, true, true, true, true, false, false, false] rfl rfl (by kernel_rfl) (by decide) (fun K hK => ?_)
    refine app_step (e := 64) (c := c12) (w0 := w0) (d := k37) (i := (i + 2)) (by rfl) (.tmp 57) (.tmp 59) 42 (.agg #[.int .i64 0, .int .i64 0, .int .i64 0, .int .i64 0]) 32 rfl Try.underlying42 info_rentry rfl (by decide) (by decide) flat37 (.slice A2 l2.length k2) l2 ([⟨x0, ⟨x1, x2⟩, till⟩] : List S37) _ _ _ rfl rfl HO12.out (row_C HE12.out) ?hs (by have := HLN.out; show (_ + 1) * 32 ≤ _; omega) ?_
    (case hs => exact Below.size B12.out)
    intro v13 w13 c13 h13 t13
    rw [HLS.out] at h13
    obtain ⟨A13, k13, rfl, -, -⟩ := row_reads h13
    have HO13 := Aside0.mk (show (row 64 k37).M w13 w0.heap.size (fun k => c13 k = (i + 2)) ls (.slice A13 ls.length k13) from h13)
    have HB13 := Aside0.mk (t13.keep _ (blk) i _ _ (by omega) HB12.out)
    have HL13 := Aside0.mk (t13.keep _ (row 64 k37) (i + 1) _ _ (by omega) HL12.out)
    have HX13 := Aside0.mk (t13.keep _ (blk) (i + 3) _ _ (by omega) HX12.out)
    have HN13 := Aside0.mk (t13.keep _ (row 64 k37) (i + 5) _ _ (by omega) HN12.out)
    have HE13 := Aside0.mk (t13.keep _ (row 64 k37) (i + 4) _ _ (by omega) HE12.out)
    have B13 := Aside0.mk (t13.far B12.out)
    have T13 := Aside0.mk (T12.out.step t13 (by simp))
    clear h13 t13
    have hHeld := (show _ = some (Value.slice A2 l2.length k2) ∧ _ = some (Value.int IntKind.i64 x0) ∧ _ = some (Value.int IntKind.i64 x1) ∧ _ = some (Value.int IntKind.i64 x2) ∧ _ = some (Value.int IntKind.i64 till) from ⟨blk_cell (blk_at HB13.out) 2, blk_cell (blk_at HX13.out) 0, blk_cell (blk_at HX13.out) 1, blk_cell (blk_at HX13.out) 2, blk_cell (blk_at HX13.out) 3⟩)
    refine hK.out _ _ hHeld (fun hHeld => ?_)
    clear hK K
    refine norm_ (a' := ?_) ?_ ?_
    rotate_left
    · show Act.put _ (some 60) _ = _
      simp only [Act.put, List.setIfInBounds_toArray, List.set_cons_zero, List.set_cons_succ, i64_w, i32_w]
      rfl
    refine pure_ (i := 8) (N := some 61) (v := ?_) (a' := ?_) #[true, true, true, true, true, true, true, true, true, false, false] rfl rfl (by kernel_rfl) (fun _ _ _ h => h) (Or.inl ⟨by rfl, ?_⟩) ?_ ?_
    rotate_left
    · intro w'
      go_simp
      with_reducible rfl
    rotate_left
    · simp only [Act.put, List.setIfInBounds_toArray, List.set_cons_zero, List.set_cons_succ, i64_w, i32_w]
      rfl
    refine pure_ (i := 9) (N := some 62) (v := ?_) (a' := ?_) #[true, true, true, true, true, true, true, true, true, true, false] rfl rfl (by kernel_rfl) (fun _ _ _ h => h) (Or.inl ⟨by rfl, ?_⟩) ?_ ?_
    rotate_left
    · intro w'
      go_simp
      with_reducible rfl
    rotate_left
    · simp only [Act.put, List.setIfInBounds_toArray, List.set_cons_zero, List.set_cons_succ, i64_w, i32_w]
      rfl
    refine last_ (i := 10) (N := none) #[true, true, true, true, true, true, true, true, true, true, true] rfl rfl (by kernel_rfl) (by decide) (fun K hK => ?_)
    have z1 := blk_cell (blk_at HB13.out) 2
    have f1 := blk_frozen (blk_at HB13.out) 2
    refine store_step (w1 := w13.setCell ⟨g, 2, none⟩ (.slice A13 ls.length k13)) ?hw rfl ?hr ?_
    (case hw => rfl)
    (case hr => go_simp)
    obtain ⟨c14, h14, t14⟩ := blk_put1 HB13.out 2 (.slice A13 ls.length k13) (Below.size B13.out)
    clear z1 f1
    generalize w13.setCell ⟨g, 2, none⟩ (.slice A13 ls.length k13) = w14 at h14 t14 ⊢
    have HB14 := Aside0.mk (show (blk).M w14 w0.heap.size (fun k => c14 k = i) (.cells #[.int .i64 m, .slice A8 le.length k8, .slice A13 ls.length k13] 44 (0, 0)) (.pointer (some ⟨g, 0, none⟩)) from h14)
    have HL14 := Aside0.mk (t14.keep _ (row 64 k37) (i + 1) _ _ (by omega) HL13.out)
    have HO14 := Aside0.mk (t14.keep _ (row 64 k37) (i + 2) _ _ (by omega) HO13.out)
    have HX14 := Aside0.mk (t14.keep _ (blk) (i + 3) _ _ (by omega) HX13.out)
    have HN14 := Aside0.mk (t14.keep _ (row 64 k37) (i + 5) _ _ (by omega) HN13.out)
    have HE14 := Aside0.mk (t14.keep _ (row 64 k37) (i + 4) _ _ (by omega) HE13.out)
    have B14 := Aside0.mk (t14.far B13.out)
    have T14 := Aside0.mk (T13.out.step t14 (by simp))
    clear h14 t14
    refine hK.out _ _ ?_
    clear hK K hHeld
    refine norm_ (a' := ?_) ?_ ?_
    rotate_left
    · show Act.put _ (none) _ = _
      simp only [Act.put, List.setIfInBounds_toArray, List.set_cons_zero, List.set_cons_succ, i64_w, i32_w]
      rfl
    refine done_ (by kernel_rfl) ?_
    go_wp2
    go_ret
    obtain ⟨c99, h99, t99⟩ := RB.take HB14.out HN14.out HO14.out T14.out
    exact ⟨by rw [HV.out]; rfl, c99, by rw [HVL.out, HVO.out]; exact h99, t99⟩
  · have pg : decide (now < till) = false := decide_eq_false hg
    have HVO := Aside0.mk (show eo = l2 from by rw [HEO.out, if_neg (fun e => hg e.2)])
    clear hg
    go_wp2
    go_ret
    obtain ⟨c99, h99, t99⟩ := RB.take HB9.out HN9.out HO9.out T9.out
    exact ⟨by rw [HV.out]; rfl, c99, by rw [HVL.out, HVO.out]; exact h99, t99⟩
end Go.Proofs.Ytmjodeijafoabaa.Admit

/- Admit: the reference's Change (no law is stated here; each says its conditions). -/
namespace Go.Proofs.Ytmjodeijafoabaa.Admit
open Go.RowKit Go.Proofs.YtmjodeijafoabaaW.PrintWords Go.Proofs.YtmjodeijafoabaaW.PrintLast Go.Proofs.YtmjodeijafoabaaW.PrintMore Go.Proofs.Ytmjodeijafoabaa.St Go.Proofs.Ytmjodeijafoabaa.Q Go.Proofs.Ytmjodeijafoabaa.Pure
set_option linter.unusedVariables false
set_option linter.unusedSimpArgs false
attribute [local go_sem] max2_int min2_int max_two min_two max_three min_three max_four min_four
theorem re_set {W : World} {base g n cap : Nat} {ok : Nat → Prop} {xs : List S37} (h : k37.R 64 W base ok (.slice (some ⟨g, 0, none⟩) n cap) xs) {j f : Nat} (hj : j < n) (hf : f < 4) (u : Value) (x' : S37) (hx : cells37 x' = (cells37 (xs.getD j z4)).set f u) :
    k37.R 64 (W.setCell ⟨g, j * 4 + f, none⟩ u) base ok (.slice (some ⟨g, 0, none⟩) n cap) (xs.set j x') ∧ W.grownBy (W.setCell ⟨g, j * 4 + f, none⟩ u) (some g) := by
  obtain ⟨c, hcl, hM, hcell, hfr⟩ := Kd.R_elem h z4 (j : Int) (by omega) (by omega)
  have hcs : c = cells37 (xs.getD (j : Int).toNat z4) := k37_openM hM
  subst hcs
  have hM2 : k37.M W base (fun _ => False) x' ((cells37 (xs.getD (j : Int).toNat z4)).take f ++ [u] ++ (cells37 (xs.getD (j : Int).toNat z4)).drop (f + 1)) := by
    rw [Int.toNat_natCast]
    have e : (cells37 (xs.getD j z4)).take f ++ [u] ++ (cells37 (xs.getD j z4)).drop (f + 1) = cells37 x' := by
      rw [hx]
      have h3 : f = 0 ∨ f = 1 ∨ f = 2 ∨ f = 3 := by omega
      rcases h3 with rfl | rfl | rfl | rfl <;> rfl
    rw [e]
    exact k37_mkM _ _ _ x'
  have h2 := Kd.R_seg h (j : Int) (by omega) (by omega) hcl hcell (seg := [u]) (j := f) (by show f + 1 ≤ 4; omega) hM2 (fun _ hk => hk.elim)
  rw [Int.toNat_natCast] at h2
  exact h2
theorem re_set_at {W : World} {base g n cap : Nat} {ok : Nat → Prop} {xs : List S37} (h : k37.R 64 W base ok (.slice (some ⟨g, 0, none⟩) n cap) xs) {j f : Nat} (hj : j < n) (hf : f < 4) :
    (∃ u, W.cell? ⟨g, j * 4 + f, none⟩ = some u) ∧ W.frozen? ⟨g, j * 4 + f, none⟩ = false := by
  obtain ⟨c, hcl, hM, hcell, hfr⟩ := Kd.R_elem h z4 (j : Int) (by omega) (by omega)
  have hcs : c = cells37 (xs.getD (j : Int).toNat z4) := k37_openM hM
  subst hcs
  rw [Int.toNat_natCast] at hcell hfr
  have hl : f < (cells37 (xs.getD j z4)).length := hf
  exact ⟨⟨_, hcell f _ (List.getElem?_eq_getElem hl)⟩, hfr f⟩
theorem re_set_C {w0 W : World} {c : Nat → Nat} {i g k : Nat} {l : List S37} {n : Nat} (h : (row 64 k37).M W w0.heap.size (fun k => c k = i) l (.slice (some ⟨g, 0, none⟩) n k)) {j f : Nat} (hj : j < n) (hf : f < 4) (u : Value) (x' : S37) (hx : cells37 x' = (cells37 (l.getD j z4)).set f u) (hs : w0.heap.size ≤ W.heap.size) :
    ∃ c', (row 64 k37).M (W.setCell ⟨g, j * 4 + f, none⟩ u) w0.heap.size (fun k => c' k = i) (l.set j x') (.slice (some ⟨g, 0, none⟩) n k) ∧ Turned c c' i w0 W (W.setCell ⟨g, j * 4 + f, none⟩ u) :=
  row_turned h (re_set (row_ready h) hj hf u x' hx).1 (re_set (row_ready h) hj hf u x' hx).2 hs
theorem rpair_C37 {w0 W : World} {c : Nat → Nat} {i g k : Nat} {l : List S37} (q p : Int) (h : (row 64 k37).M W w0.heap.size (fun k => c k = i) l (.slice (some ⟨g, 0, none⟩) l.length k)) {j : Nat} (hj : j < l.length) (hs : w0.heap.size ≤ W.heap.size) :
    ∃ c', (row 64 k37).M ((W.setCell ⟨g, j * 4 + 1, none⟩ (.int .i64 q)).setCell ⟨g, j * 4 + 1 + 1, none⟩ (.int .i64 p)) w0.heap.size (fun k => c' k = i) (l.set j ⟨(l.getD j z4).f0, ⟨q, p⟩, (l.getD j z4).f2⟩) (.slice (some ⟨g, 0, none⟩) l.length k) ∧ Turned c c' i w0 W ((W.setCell ⟨g, j * 4 + 1, none⟩ (.int .i64 q)).setCell ⟨g, j * 4 + 1 + 1, none⟩ (.int .i64 p)) := by
  obtain ⟨c1, h1, t1⟩ := re_set_C h hj (f := 1) (by decide) (.int .i64 q) ⟨(l.getD j z4).f0, ⟨q, (l.getD j z4).f1.f1⟩, (l.getD j z4).f2⟩ rfl hs
  have hs1 : w0.heap.size ≤ (W.setCell ⟨g, j * 4 + 1, none⟩ (.int .i64 q)).heap.size := by simp [World.setCell]; exact hs
  obtain ⟨c2, h2, t2⟩ := re_set_C h1 hj (f := 2) (by decide) (.int .i64 p) ⟨(l.getD j z4).f0, ⟨q, p⟩, (l.getD j z4).f2⟩ (by rw [getD_set_here z4 _ hj]; rfl) hs1
  rw [List.set_set] at h2
  exact ⟨c2, h2, turned_two t1 t2⟩
theorem cnt_pos (l1 : List S37) (k : Nat) (q p : Int) : cnt l1 (k : Int) q p = (prs l1).set k ⟨q, p⟩ := by unfold cnt; rw [if_neg (by omega), Int.toNat_natCast]
set_option maxHeartbeats 8000000 in
set_option maxRecDepth 100000 in
theorem rchange_calls {w0 W : World} {c : Nat → Nat} {i g : Nat} {m : Int} {l1 l2 : List S37} (id q p now : Int) (h : RB w0 W c i m l1 l2 g) (hB : Below w0.heap.size w0 W) (hl : l1.length ≤ 60 ∧ l2.length ≤ 90) (hm : 1 ≤ m ∧ m ≤ 64) (hok1 : Okl (prs l1)) (hok2 : Okl (prs l2)) :
    Calls Try.prog 17 #[.pointer (some ⟨g, 0, none⟩), .int .i64 id, .agg #[.int .i64 q, .int .i64 p], .int .i64 now] W fun e w' => e = .returned (.int .i64 (changeV m l1 l2 id q p now)) ∧ ∃ c', RB w0 w' c' i m (changeL m l1 l2 id q p now) l2 g ∧ TurnedL c c' [i, (i + 1), (i + 2), (i + 3), (i + 4), (i + 5)] w0 W w' := by
  obtain ⟨A1, k1, A2, k2, hb1, hb2, hb3⟩ := h
  have HLN := Aside0.mk hl
  have HM := Aside0.mk hm
  have hl400 : l1.length ≤ 60 := hl.1
  obtain ⟨gb, hgb⟩ : ∃ gb, goodP q p = gb := ⟨_, rfl⟩
  have GB := Aside0.mk hgb
  have HFC := Aside0.mk (find_cases id l1 0)
  obtain ⟨fv, hfv⟩ : ∃ fv, findE id l1 0 = fv := ⟨_, rfl⟩
  have FV := Aside0.mk hfv
  obtain ⟨ln, hln⟩ : ∃ ln, ling now l2 = ln := ⟨_, rfl⟩
  have HLNG := Aside0.mk hln
  have hll : ln.length ≤ 90 := by rw [← hln]; have := ling_le now l2; omega
  have HKO := Aside0.mk (show gb = true → Okl ((prs l1).set fv.toNat ⟨q, p⟩ ++ prs ln) from fun h => by rw [← hln]; exact okl_set hok1 (good_ok (hgb.trans h)) hok2)
  obtain ⟨ev, hev⟩ : ∃ ev, changeV m l1 l2 id q p now = ev := ⟨_, rfl⟩
  obtain ⟨el, hel⟩ : ∃ el, changeL m l1 l2 id q p now = el := ⟨_, rfl⟩
  have HEV := Aside0.mk (show ev = if gb = false ∨ now < 0 then 1 else if fv < 0 then 2 else if fitB m ((prs l1).set fv.toNat ⟨q, p⟩ ++ prs ln) = true then 0 else 7 from by rw [← hev]; unfold changeV; rw [hgb, hfv, hln])
  have HEL := Aside0.mk (show el = if ev = 0 then l1.set fv.toNat ⟨(l1.getD fv.toNat z4).f0, ⟨q, p⟩, (l1.getD fv.toNat z4).f2⟩ else l1 from by rw [← hel, ← hev]; unfold changeL; rw [hfv])
  rw [hev, hel]
  have M1 := Aside0.mk hb1
  have M2 := Aside0.mk hb2
  have M3 := Aside0.mk hb3
  have HB := Aside0.mk hB
  rw [hfv] at HFC
  clear hgb hfv hev hel hb1 hb2 hb3 hB hl hm hok1 hok2 hln
  go_enter Try.func17, Try.ntmps17
  go_upto_region 1 with (fail)
  have hbx : Below W.heap.size W (W.alloc (.cells #[.int .i64 q, .int .i64 p] 45)) := below_alloc (Below.refl _ _) _
  have hX : (W.alloc (.cells #[.int .i64 q, .int .i64 p] 45)).heap[W.heap.size]? = some (.cells #[.int .i64 q, .int .i64 p] 45 (0, 0)) := by simpa using heap_alloc_new W _
  obtain ⟨c1, h1, t1⟩ := blk_new1 (w0 := w0) c (i + 3) (Nat.le_refl _) hX hbx HB.out.size
  have HX1 := Aside0.mk h1
  have HB1 := Aside0.mk (t1.keep _ blk i _ _ (by omega) M1.out)
  have HL1 := Aside0.mk (t1.keep _ (row 64 k37) (i + 1) _ _ (by omega) M2.out)
  have HO1 := Aside0.mk (t1.keep _ (row 64 k37) (i + 2) _ _ (by omega) M3.out)
  have B1 := Aside0.mk (t1.far HB.out)
  have T1 := Aside0.mk ((TurnedL.refl c [i, (i + 1), (i + 2), (i + 3), (i + 4), (i + 5)] w0 W).step t1 (by simp))
  clear h1 t1 hX hbx M1 M2 M3
  generalize W.alloc (.cells #[.int .i64 q, .int .i64 p] 45) = w1 at HX1 HB1 HL1 HO1 B1 T1 ⊢
  cases gb with
  | false =>
    have HV := Aside0.mk (show ev = 1 from by rw [HEV.out, if_pos (Or.inl rfl)])
    have HVL := Aside0.mk (show el = l1 from by rw [HEL.out, HV.out, if_neg (by decide)])
    have y0 := blk_cell (blk_at HX1.out) 0
    have y1 := blk_cell (blk_at HX1.out) 1
    go_wp2_with (first | (go_at_call 28; (with_reducible refine (beadleref10_GoodPair.calls q p _ _ (rgood_f q p)).mono ?_); rintro e w2 ⟨rfl, hd2⟩; rw [GB.out]; have hb2 := hd2.below; have HB2 := Aside0.mk (St.below (s := blk) HB1.out hb2); have HL2 := Aside0.mk (St.below (s := row 64 k37) HL1.out hb2); have HO2 := Aside0.mk (St.below (s := row 64 k37) HO1.out hb2); have HX2 := Aside0.mk (St.below (s := blk) HX1.out hb2); have B2 := Aside0.mk (Below.trans B1.out (Below.mono hb2 (Below.size B1.out))); have T2 := Aside0.mk (T1.out.below hb2); clear hd2 hb2 y0 y1; have y0 := blk_cell (blk_at HX2.out) 0; have y1 := blk_cell (blk_at HX2.out) 1))
    go_ret
    exact ⟨by rw [HV.out]; rfl, c1, by rw [HVL.out]; exact ⟨_, _, _, _, HB2.out, HL2.out, HO2.out⟩, T2.out⟩
  | true =>
    by_cases hn : now < 0
    · have pn : decide (now < 0) = true := decide_eq_true hn
      have HV := Aside0.mk (show ev = 1 from by rw [HEV.out, if_pos (Or.inr hn)])
      have HVL := Aside0.mk (show el = l1 from by rw [HEL.out, HV.out, if_neg (by decide)])
      clear hn
      have y0 := blk_cell (blk_at HX1.out) 0
      have y1 := blk_cell (blk_at HX1.out) 1
      go_wp2_with (first | (go_at_call 28; (with_reducible refine (beadleref10_GoodPair.calls q p _ _ (rgood_f q p)).mono ?_); rintro e w2 ⟨rfl, hd2⟩; rw [GB.out]; have hb2 := hd2.below; have HB2 := Aside0.mk (St.below (s := blk) HB1.out hb2); have HL2 := Aside0.mk (St.below (s := row 64 k37) HL1.out hb2); have HO2 := Aside0.mk (St.below (s := row 64 k37) HO1.out hb2); have HX2 := Aside0.mk (St.below (s := blk) HX1.out hb2); have B2 := Aside0.mk (Below.trans B1.out (Below.mono hb2 (Below.size B1.out))); have T2 := Aside0.mk (T1.out.below hb2); clear hd2 hb2 y0 y1; have y0 := blk_cell (blk_at HX2.out) 0; have y1 := blk_cell (blk_at HX2.out) 1))
      go_ret
      exact ⟨by rw [HV.out]; rfl, c1, by rw [HVL.out]; exact ⟨_, _, _, _, HB2.out, HL2.out, HO2.out⟩, T2.out⟩
    have pn : decide (now < 0) = false := decide_eq_false hn
    have HE2 := Aside0.mk (show ev = if fv < 0 then 2 else if fitB m ((prs l1).set fv.toNat ⟨q, p⟩ ++ prs ln) = true then 0 else 7 from by rw [HEV.out, if_neg (by rintro (h | h); cases h; exact hn h)])
    clear hn
    rcases HFC.out with ⟨k, hkl, hfe, -, -⟩ | ⟨hfe, -⟩
    rotate_left
    · subst hfe
      have HV := Aside0.mk (show ev = 2 from by rw [HE2.out, if_pos (by decide)])
      have HVL := Aside0.mk (show el = l1 from by rw [HEL.out, HV.out, if_neg (by decide)])
      have y0 := blk_cell (blk_at HX1.out) 0
      have y1 := blk_cell (blk_at HX1.out) 1
      go_wp2_with (first | (go_at_call 28; (with_reducible refine (beadleref10_GoodPair.calls q p _ _ (rgood_f q p)).mono ?_); rintro e w2 ⟨rfl, hd2⟩; rw [GB.out]; have hb2 := hd2.below; have HB2 := Aside0.mk (St.below (s := blk) HB1.out hb2); have HL2 := Aside0.mk (St.below (s := row 64 k37) HL1.out hb2); have HO2 := Aside0.mk (St.below (s := row 64 k37) HO1.out hb2); have HX2 := Aside0.mk (St.below (s := blk) HX1.out hb2); have B2 := Aside0.mk (Below.trans B1.out (Below.mono hb2 (Below.size B1.out))); have T2 := Aside0.mk (T1.out.below hb2); clear hd2 hb2 y0 y1; have y0 := blk_cell (blk_at HX2.out) 0; have y1 := blk_cell (blk_at HX2.out) 1) | (go_at_call 29; (with_reducible refine (rfind_calls id (blk_at HB2.out) (row_C HL2.out) (by have := HLN.out; omega)).mono ?_); rintro e wz ⟨rfl, hz⟩; have hz := hz.symm; subst hz; rw [FV.out]))
      go_ret
      exact ⟨by rw [HV.out]; rfl, c1, by rw [HVL.out]; exact ⟨_, _, _, _, HB2.out, HL2.out, HO2.out⟩, T2.out⟩
    rw [Nat.zero_add] at hfe
    subst hfe
    have hk0 : 0 < l1.length := by omega
    have bk : (0 ≤ (k : Int) ∧ (k : Int) < (l1.length : Int)) := by omega
    have pk : decide ((k : Int) < 0) = false := decide_eq_false (by omega)
    have HOK := Aside0.mk (HKO.out rfl)
    rw [Int.toNat_natCast] at HOK HE2 HEL
    have HE3 := Aside0.mk (show ev = if fitB m ((prs l1).set k ⟨q, p⟩ ++ prs ln) = true then 0 else 7 from by rw [HE2.out, if_neg (by omega)])
    obtain ⟨ps, hps⟩ : ∃ ps, (prs l1).set k ⟨q, p⟩ ++ prs ln = ps := ⟨_, rfl⟩
    have HPS := Aside0.mk hps
    have HPN := Aside0.mk (show ps.length ≤ 150 from by rw [← hps, List.length_append, List.length_set, prs_len, prs_len]; omega)
    rw [hps] at HE3 HOK
    obtain ⟨fb, hfb⟩ : ∃ fb, fitB m ps = fb := ⟨_, rfl⟩
    have HFB := Aside0.mk hfb
    rw [hfb] at HE3
    clear hps hfb HKO HEV HE2 HFC
    cases fb with
    | false =>
      have HV := Aside0.mk (show ev = 7 from by rw [HE3.out, if_neg Bool.false_ne_true])
      have HVL := Aside0.mk (show el = l1 from by rw [HEL.out, HV.out, if_neg (by decide)])
      have y0 := blk_cell (blk_at HX1.out) 0
      have y1 := blk_cell (blk_at HX1.out) 1
      go_upto_region 6 with (first | (go_at_call 28; (with_reducible refine (beadleref10_GoodPair.calls q p _ _ (rgood_f q p)).mono ?_); rintro e w2 ⟨rfl, hd2⟩; rw [GB.out]; have hb2 := hd2.below; have HB2 := Aside0.mk (St.below (s := blk) HB1.out hb2); have HL2 := Aside0.mk (St.below (s := row 64 k37) HL1.out hb2); have HO2 := Aside0.mk (St.below (s := row 64 k37) HO1.out hb2); have HX2 := Aside0.mk (St.below (s := blk) HX1.out hb2); have B2 := Aside0.mk (Below.trans B1.out (Below.mono hb2 (Below.size B1.out))); have T2 := Aside0.mk (T1.out.below hb2); clear hd2 hb2 y0 y1; have y0 := blk_cell (blk_at HX2.out) 0; have y1 := blk_cell (blk_at HX2.out) 1) | (go_at_call 29; (with_reducible refine (rfind_calls id (blk_at HB2.out) (row_C HL2.out) (by have := HLN.out; omega)).mono ?_); rintro e wz ⟨rfl, hz⟩; have hz := hz.symm; subst hz; rw [FV.out]))
      clear y0 y1
      obtain ⟨w5, hw5⟩ : ∃ w5 : World, w2.drew = w5 := ⟨_, rfl⟩
      have hb5 : Below w2.heap.size w2 w5 := by rw [← hw5]; exact below_drew (Below.refl _ _)
      have HB5 := Aside0.mk (St.below (s := blk) HB2.out hb5)
      have HL5 := Aside0.mk (St.below (s := row 64 k37) HL2.out hb5)
      have HO5 := Aside0.mk (St.below (s := row 64 k37) HO2.out hb5)
      have HX5 := Aside0.mk (St.below (s := blk) HX2.out hb5)
      have B5 := Aside0.mk (Below.trans B2.out (Below.mono hb5 (Below.size B2.out)))
      have T5 := Aside0.mk (T2.out.below hb5)
      clear hb5
      refine start_ (n := 15) (S := fun w' => w'.cell? ⟨g, 0, none⟩ = some (.int .i64 m) ∧ w'.cell? ⟨W.heap.size, 0, none⟩ = some (.int .i64 q) ∧ w'.cell? ⟨W.heap.size, 1, none⟩ = some (.int .i64 p)) (ds := []) #[false, false, false, false, false, false, false, false, false, false, false, false, false, false, false] (by kernel_rfl) rfl rfl (by rw [hw5]; exact ⟨blk_cell (blk_at HB5.out) 0, blk_cell (blk_at HX5.out) 0, blk_cell (blk_at HX5.out) 1⟩) (fun hHeld => ?_)
      refine pure_ (i := 0) (N := some 28) (v := ?_) (a' := ?_) #[true, false, false, false, false, false, false, false, false, false, false, false, false, false, false] rfl rfl (by kernel_rfl) (fun _ _ _ h => h) (Or.inl ⟨by rfl, ?_⟩) ?_ ?_
      rotate_left
      · intro w'
        go_simp
        with_reducible rfl
      rotate_left
      · simp only [Act.put, List.setIfInBounds_toArray, List.set_cons_zero, List.set_cons_succ, i64_w, i32_w]
        rfl
      refine pure_ (i := 1) (N := some 29) (v := ?_) (a' := ?_) #[true, true, false, false, false, false, false, false, false, false, false, false, false, false, false] rfl rfl (by kernel_rfl) (fun _ _ _ h => h) (Or.inl ⟨by rfl, ?_⟩) ?_ ?_
      rotate_left
      · intro w'
        go_simp
        with_reducible rfl
      rotate_left
      · simp only [Act.put, List.setIfInBounds_toArray, List.set_cons_zero, List.set_cons_succ, i64_w, i32_w]
        rfl
      refine pure_ (i := 2) (N := some 30) (v := ?_) (a' := ?_) #[true, true, true, false, false, false, false, false, false, false, false, false, false, false, false] rfl rfl (by kernel_rfl) (fun _ _ _ h => h) (Or.inl ⟨by rfl, ?_⟩) ?_ ?_
      rotate_left
      · intro w'
        go_simp
        with_reducible rfl
      rotate_left
      · simp only [Act.put, List.setIfInBounds_toArray, List.set_cons_zero, List.set_cons_succ, i64_w, i32_w]
        rfl
      refine take_ (i := 3) (N := some 31) (v := ?_) (a' := ?_) #[true, true, true, true, false, false, false, false, false, false, false, false, false, false, false] rfl rfl (by kernel_rfl) (fun _ _ _ h => h) (Or.inl ⟨by rfl, ?_⟩) hHeld ?_ ?_
      rotate_left
      · intro w' hS_
        obtain ⟨s0_, s1_, s2_⟩ := hS_
        go_simp
        with_reducible rfl
      rotate_left
      · simp only [Act.put, List.setIfInBounds_toArray, List.set_cons_zero, List.set_cons_succ, i64_w, i32_w]
        rfl
      refine pure_ (i := 4) (N := some 32) (v := ?_) (a' := ?_) #[true, true, true, true, true, false, false, false, false, false, false, false, false, false, false] rfl rfl (by kernel_rfl) (fun _ _ _ h => h) (Or.inl ⟨by rfl, ?_⟩) ?_ ?_
      rotate_left
      · intro w'
        go_simp
        with_reducible rfl
      rotate_left
      · simp only [Act.put, List.setIfInBounds_toArray, List.set_cons_zero, List.set_cons_succ, i64_w, i32_w]
        rfl
      refine pure_ (i := 5) (N := some 33) (v := ?_) (a' := ?_) #[true, true, true, true, true, true, false, false, false, false, false, false, false, false, false] rfl rfl (by kernel_rfl) (fun _ _ _ h => h) (Or.inl ⟨by rfl, ?_⟩) ?_ ?_
      rotate_left
      · intro w'
        go_simp
        with_reducible rfl
      rotate_left
      · simp only [Act.put, List.setIfInBounds_toArray, List.set_cons_zero, List.set_cons_succ, i64_w, i32_w]
        rfl
      refine pure_ (i := 6) (N := some 34) (v := ?_) (a' := ?_) #[true, true, true, true, true, true, true, false, false, false, false, false, false, false, false] rfl rfl (by kernel_rfl) (fun _ _ _ h => h) (Or.inl ⟨by rfl, ?_⟩) ?_ ?_
      rotate_left
      · intro w'
        go_simp
        with_reducible rfl
      rotate_left
      · simp only [Act.put, List.setIfInBounds_toArray, List.set_cons_zero, List.set_cons_succ, i64_w, i32_w]
        rfl
      refine take_ (i := 7) (N := some 35) (v := ?_) (a' := ?_) #[true, true, true, true, true, true, true, true, false, false, false, false, false, false, false] rfl rfl (by kernel_rfl) (fun _ _ _ h => h) (Or.inl ⟨by rfl, ?_⟩) hHeld ?_ ?_
      rotate_left
      · intro w' hS_
        obtain ⟨s0_, s1_, s2_⟩ := hS_
        go_simp
        with_reducible rfl
      rotate_left
      · simp only [Act.put, List.setIfInBounds_toArray, List.set_cons_zero, List.set_cons_succ, i64_w, i32_w]
        rfl
      refine one_ (i := 8) (N := some 36) #[true, true, true, true, true, true, true, true, true, false, false, false, false, false, false] rfl rfl (by kernel_rfl) (by decide) (fun K hK => ?_)
      refine goes_ Try.func31 (by kernel_rfl) rfl #[.pointer (some ⟨g, 0, none⟩), .int .i64 now, .int .i64 (k : Int), .agg #[.int .i64 q, .int .i64 p]] ?hw rfl rfl ?hx ?_
      (case hw => rfl)
      (case hx => (try simp only [List.map_toArray, List.map_cons, List.map_nil]); first | done | rfl)
      rw [hw5]
      refine (counted_calls now (k : Int) q p (blk_at HB5.out) (row_C HL5.out) (row_C HO5.out) (by have := HLN.out; omega)).mono ?_
      rintro e w6 ⟨v6, rfl, r6, b6⟩
      rw [cnt_pos, HLNG.out, HPS.out] at r6
      obtain ⟨c6, h6, t6⟩ := row_new (w0 := w0) c1 (i + 4) (Kd.R_lower r6 (Below.size B5.out)) b6 (Below.size B5.out)
      obtain ⟨A6, k6, rfl, -, -⟩ := row_reads h6
      have HP6 := Aside0.mk (show (row 45 k24).M w6 w0.heap.size (fun k => c6 k = (i + 4)) ps (.slice A6 ps.length k6) from h6)
      have HB6 := Aside0.mk (t6.keep _ (blk) i _ _ (by omega) HB5.out)
      have HL6 := Aside0.mk (t6.keep _ (row 64 k37) (i + 1) _ _ (by omega) HL5.out)
      have HO6 := Aside0.mk (t6.keep _ (row 64 k37) (i + 2) _ _ (by omega) HO5.out)
      have HX6 := Aside0.mk (t6.keep _ (blk) (i + 3) _ _ (by omega) HX5.out)
      have B6 := Aside0.mk (t6.far B5.out)
      have T6 := Aside0.mk (T5.out.step t6 (by simp))
      clear r6 b6 h6 t6
      refine ⟨_, rfl, ?_⟩
      have hHeld := (show _ = some (Value.int IntKind.i64 m) ∧ _ = some (Value.int IntKind.i64 q) ∧ _ = some (Value.int IntKind.i64 p) from ⟨blk_cell (blk_at HB6.out) 0, blk_cell (blk_at HX6.out) 0, blk_cell (blk_at HX6.out) 1⟩)
      refine hK.out _ _ hHeld (fun hHeld => ?_)
      clear hK K
      refine norm_ (a' := ?_) ?_ ?_
      rotate_left
      · show Act.put _ (some 36) _ = _
        simp only [Act.put, List.setIfInBounds_toArray, List.set_cons_zero, List.set_cons_succ, i64_w, i32_w]
        rfl
      refine one_ (i := 9) (N := some 37) #[true, true, true, true, true, true, true, true, true, true, false, false, false, false, false] rfl rfl (by kernel_rfl) (by decide) (fun K hK => ?_)
      refine goes_ Try.func30 (by kernel_rfl) rfl #[.int .i64 m, .slice A6 ps.length k6] ?hw rfl rfl ?hx ?_
      (case hw => rfl)
      (case hx => (try simp only [List.map_toArray, List.map_cons, List.map_nil]); first | done | rfl)
      refine (rall_calls HM.out HOK.out HPN.out (row_C HP6.out) (row_le HP6.out) HFB.out).mono ?_
      rintro e w7 ⟨⟨fe, rfl⟩, b7⟩
      have HB7 := Aside0.mk (St.below (s := blk) HB6.out b7)
      have HL7 := Aside0.mk (St.below (s := row 64 k37) HL6.out b7)
      have HO7 := Aside0.mk (St.below (s := row 64 k37) HO6.out b7)
      have HX7 := Aside0.mk (St.below (s := blk) HX6.out b7)
      have HP7 := Aside0.mk (St.below (s := row 45 k24) HP6.out b7)
      have B7 := Aside0.mk (Below.trans B6.out (Below.mono b7 (Below.size B6.out)))
      have T7 := Aside0.mk (T6.out.below b7)
      clear b7
      refine ⟨_, rfl, ?_⟩
      have hHeld := (show _ = some (Value.int IntKind.i64 m) ∧ _ = some (Value.int IntKind.i64 q) ∧ _ = some (Value.int IntKind.i64 p) from ⟨blk_cell (blk_at HB7.out) 0, blk_cell (blk_at HX7.out) 0, blk_cell (blk_at HX7.out) 1⟩)
      refine hK.out _ _ hHeld (fun hHeld => ?_)
      clear hK K
      refine norm_ (a' := ?_) ?_ ?_
      rotate_left
      · show Act.put _ (some 37) _ = _
        simp only [Act.put, List.setIfInBounds_toArray, List.set_cons_zero, List.set_cons_succ, i64_w, i32_w]
        rfl
      refine pure_ (i := 10) (N := some 27) (v := ?_) (a' := ?_) #[true, true, true, true, true, true, true, true, true, true, true, false, false, false, false] rfl rfl (by kernel_rfl) (fun _ _ _ h => h) (Or.inl ⟨by rfl, ?_⟩) ?_ ?_
      rotate_left
      · intro w'
        go_simp
        with_reducible rfl
      rotate_left
      · simp only [Act.put, List.setIfInBounds_toArray, List.set_cons_zero, List.set_cons_succ, i64_w, i32_w]
        rfl
      refine pure_ (i := 11) (N := some 38) (v := ?_) (a' := ?_) #[true, true, true, true, true, true, true, true, true, true, true, true, false, false, false] rfl rfl (by kernel_rfl) (fun _ _ _ h => h) (Or.inl ⟨by rfl, ?_⟩) ?_ ?_
      rotate_left
      · intro w'
        go_simp
        with_reducible rfl
      rotate_left
      · simp only [Act.put, List.setIfInBounds_toArray, List.set_cons_zero, List.set_cons_succ, i64_w, i32_w]
        rfl
      refine pure_ (i := 12) (N := some 39) (v := ?_) (a' := ?_) #[true, true, true, true, true, true, true, true, true, true, true, true, true, false, false] rfl rfl (by kernel_rfl) (fun _ _ _ h => h) (Or.inl ⟨by rfl, ?_⟩) ?_ ?_
      rotate_left
      · intro w'
        go_simp
        with_reducible rfl
      rotate_left
      · simp only [Act.put, List.setIfInBounds_toArray, List.set_cons_zero, List.set_cons_succ, i64_w, i32_w]
        rfl
      refine pure_ (i := 13) (N := some 10) (v := ?_) (a' := ?_) #[true, true, true, true, true, true, true, true, true, true, true, true, true, true, false] rfl rfl (by kernel_rfl) (fun _ _ _ h => h) (Or.inl ⟨by rfl, ?_⟩) ?_ ?_
      rotate_left
      · intro w'
        go_simp
        with_reducible rfl
      rotate_left
      · simp only [Act.put, List.setIfInBounds_toArray, List.set_cons_zero, List.set_cons_succ, i64_w, i32_w]
        rfl
      refine pure_ (i := 14) (N := some 11) (v := ?_) (a' := ?_) #[true, true, true, true, true, true, true, true, true, true, true, true, true, true, true] rfl rfl (by kernel_rfl) (fun _ _ _ h => h) (Or.inl ⟨by rfl, ?_⟩) ?_ ?_
      rotate_left
      · intro w'
        go_simp
        with_reducible rfl
      rotate_left
      · simp only [Act.put, List.setIfInBounds_toArray, List.set_cons_zero, List.set_cons_succ, i64_w, i32_w]
        rfl
      refine done_ (by kernel_rfl) ?_
      go_wp2
      go_ret
      exact ⟨by rw [HV.out]; rfl, c6, by rw [HVL.out]; exact ⟨_, _, _, _, HB7.out, HL7.out, HO7.out⟩, T7.out⟩
    | true =>
      have HV := Aside0.mk (show ev = 0 from by rw [HE3.out, if_pos rfl])
      obtain ⟨ls, hls⟩ : ∃ ls, l1.set k ⟨(l1.getD k z4).f0, ⟨q, p⟩, (l1.getD k z4).f2⟩ = ls := ⟨_, rfl⟩
      have HLE := Aside0.mk hls
      have HLL := Aside0.mk (show l1.length = ls.length from by rw [← hls, List.length_set])
      have HVL := Aside0.mk (show el = ls from by rw [HEL.out, HV.out, if_pos rfl, hls])
      clear hls
      have y0 := blk_cell (blk_at HX1.out) 0
      have y1 := blk_cell (blk_at HX1.out) 1
      go_upto_region 6 with (first | (go_at_call 28; (with_reducible refine (beadleref10_GoodPair.calls q p _ _ (rgood_f q p)).mono ?_); rintro e w2 ⟨rfl, hd2⟩; rw [GB.out]; have hb2 := hd2.below; have HB2 := Aside0.mk (St.below (s := blk) HB1.out hb2); have HL2 := Aside0.mk (St.below (s := row 64 k37) HL1.out hb2); have HO2 := Aside0.mk (St.below (s := row 64 k37) HO1.out hb2); have HX2 := Aside0.mk (St.below (s := blk) HX1.out hb2); have B2 := Aside0.mk (Below.trans B1.out (Below.mono hb2 (Below.size B1.out))); have T2 := Aside0.mk (T1.out.below hb2); clear hd2 hb2 y0 y1; have y0 := blk_cell (blk_at HX2.out) 0; have y1 := blk_cell (blk_at HX2.out) 1) | (go_at_call 29; (with_reducible refine (rfind_calls id (blk_at HB2.out) (row_C HL2.out) (by have := HLN.out; omega)).mono ?_); rintro e wz ⟨rfl, hz⟩; have hz := hz.symm; subst hz; rw [FV.out]))
      clear y0 y1
      obtain ⟨w5, hw5⟩ : ∃ w5 : World, w2.drew = w5 := ⟨_, rfl⟩
      have hb5 : Below w2.heap.size w2 w5 := by rw [← hw5]; exact below_drew (Below.refl _ _)
      have HB5 := Aside0.mk (St.below (s := blk) HB2.out hb5)
      have HL5 := Aside0.mk (St.below (s := row 64 k37) HL2.out hb5)
      have HO5 := Aside0.mk (St.below (s := row 64 k37) HO2.out hb5)
      have HX5 := Aside0.mk (St.below (s := blk) HX2.out hb5)
      have B5 := Aside0.mk (Below.trans B2.out (Below.mono hb5 (Below.size B2.out)))
      have T5 := Aside0.mk (T2.out.below hb5)
      clear hb5
      refine start_ (n := 15) (S := fun w' => w'.cell? ⟨g, 0, none⟩ = some (.int .i64 m) ∧ w'.cell? ⟨W.heap.size, 0, none⟩ = some (.int .i64 q) ∧ w'.cell? ⟨W.heap.size, 1, none⟩ = some (.int .i64 p)) (ds := []) #[false, false, false, false, false, false, false, false, false, false, false, false, false, false, false] (by kernel_rfl) rfl rfl (by rw [hw5]; exact ⟨blk_cell (blk_at HB5.out) 0, blk_cell (blk_at HX5.out) 0, blk_cell (blk_at HX5.out) 1⟩) (fun hHeld => ?_)
      refine pure_ (i := 0) (N := some 28) (v := ?_) (a' := ?_) #[true, false, false, false, false, false, false, false, false, false, false, false, false, false, false] rfl rfl (by kernel_rfl) (fun _ _ _ h => h) (Or.inl ⟨by rfl, ?_⟩) ?_ ?_
      rotate_left
      · intro w'
        go_simp
        with_reducible rfl
      rotate_left
      · simp only [Act.put, List.setIfInBounds_toArray, List.set_cons_zero, List.set_cons_succ, i64_w, i32_w]
        rfl
      refine pure_ (i := 1) (N := some 29) (v := ?_) (a' := ?_) #[true, true, false, false, false, false, false, false, false, false, false, false, false, false, false] rfl rfl (by kernel_rfl) (fun _ _ _ h => h) (Or.inl ⟨by rfl, ?_⟩) ?_ ?_
      rotate_left
      · intro w'
        go_simp
        with_reducible rfl
      rotate_left
      · simp only [Act.put, List.setIfInBounds_toArray, List.set_cons_zero, List.set_cons_succ, i64_w, i32_w]
        rfl
      refine pure_ (i := 2) (N := some 30) (v := ?_) (a' := ?_) #[true, true, true, false, false, false, false, false, false, false, false, false, false, false, false] rfl rfl (by kernel_rfl) (fun _ _ _ h => h) (Or.inl ⟨by rfl, ?_⟩) ?_ ?_
      rotate_left
      · intro w'
        go_simp
        with_reducible rfl
      rotate_left
      · simp only [Act.put, List.setIfInBounds_toArray, List.set_cons_zero, List.set_cons_succ, i64_w, i32_w]
        rfl
      refine take_ (i := 3) (N := some 31) (v := ?_) (a' := ?_) #[true, true, true, true, false, false, false, false, false, false, false, false, false, false, false] rfl rfl (by kernel_rfl) (fun _ _ _ h => h) (Or.inl ⟨by rfl, ?_⟩) hHeld ?_ ?_
      rotate_left
      · intro w' hS_
        obtain ⟨s0_, s1_, s2_⟩ := hS_
        go_simp
        with_reducible rfl
      rotate_left
      · simp only [Act.put, List.setIfInBounds_toArray, List.set_cons_zero, List.set_cons_succ, i64_w, i32_w]
        rfl
      refine pure_ (i := 4) (N := some 32) (v := ?_) (a' := ?_) #[true, true, true, true, true, false, false, false, false, false, false, false, false, false, false] rfl rfl (by kernel_rfl) (fun _ _ _ h => h) (Or.inl ⟨by rfl, ?_⟩) ?_ ?_
      rotate_left
      · intro w'
        go_simp
        with_reducible rfl
      rotate_left
      · simp only [Act.put, List.setIfInBounds_toArray, List.set_cons_zero, List.set_cons_succ, i64_w, i32_w]
        rfl
      refine pure_ (i := 5) (N := some 33) (v := ?_) (a' := ?_) #[true, true, true, true, true, true, false, false, false, false, false, false, false, false, false] rfl rfl (by kernel_rfl) (fun _ _ _ h => h) (Or.inl ⟨by rfl, ?_⟩) ?_ ?_
      rotate_left
      · intro w'
        go_simp
        with_reducible rfl
      rotate_left
      · simp only [Act.put, List.setIfInBounds_toArray, List.set_cons_zero, List.set_cons_succ, i64_w, i32_w]
        rfl
      refine pure_ (i := 6) (N := some 34) (v := ?_) (a' := ?_) #[true, true, true, true, true, true, true, false, false, false, false, false, false, false, false] rfl rfl (by kernel_rfl) (fun _ _ _ h => h) (Or.inl ⟨by rfl, ?_⟩) ?_ ?_
      rotate_left
      · intro w'
        go_simp
        with_reducible rfl
      rotate_left
      · simp only [Act.put, List.setIfInBounds_toArray, List.set_cons_zero, List.set_cons_succ, i64_w, i32_w]
        rfl
      refine take_ (i := 7) (N := some 35) (v := ?_) (a' := ?_) #[true, true, true, true, true, true, true, true, false, false, false, false, false, false, false] rfl rfl (by kernel_rfl) (fun _ _ _ h => h) (Or.inl ⟨by rfl, ?_⟩) hHeld ?_ ?_
      rotate_left
      · intro w' hS_
        obtain ⟨s0_, s1_, s2_⟩ := hS_
        go_simp
        with_reducible rfl
      rotate_left
      · simp only [Act.put, List.setIfInBounds_toArray, List.set_cons_zero, List.set_cons_succ, i64_w, i32_w]
        rfl
      refine one_ (i := 8) (N := some 36) #[true, true, true, true, true, true, true, true, true, false, false, false, false, false, false] rfl rfl (by kernel_rfl) (by decide) (fun K hK => ?_)
      refine goes_ Try.func31 (by kernel_rfl) rfl #[.pointer (some ⟨g, 0, none⟩), .int .i64 now, .int .i64 (k : Int), .agg #[.int .i64 q, .int .i64 p]] ?hw rfl rfl ?hx ?_
      (case hw => rfl)
      (case hx => (try simp only [List.map_toArray, List.map_cons, List.map_nil]); first | done | rfl)
      rw [hw5]
      refine (counted_calls now (k : Int) q p (blk_at HB5.out) (row_C HL5.out) (row_C HO5.out) (by have := HLN.out; omega)).mono ?_
      rintro e w6 ⟨v6, rfl, r6, b6⟩
      rw [cnt_pos, HLNG.out, HPS.out] at r6
      obtain ⟨c6, h6, t6⟩ := row_new (w0 := w0) c1 (i + 4) (Kd.R_lower r6 (Below.size B5.out)) b6 (Below.size B5.out)
      obtain ⟨A6, k6, rfl, -, -⟩ := row_reads h6
      have HP6 := Aside0.mk (show (row 45 k24).M w6 w0.heap.size (fun k => c6 k = (i + 4)) ps (.slice A6 ps.length k6) from h6)
      have HB6 := Aside0.mk (t6.keep _ (blk) i _ _ (by omega) HB5.out)
      have HL6 := Aside0.mk (t6.keep _ (row 64 k37) (i + 1) _ _ (by omega) HL5.out)
      have HO6 := Aside0.mk (t6.keep _ (row 64 k37) (i + 2) _ _ (by omega) HO5.out)
      have HX6 := Aside0.mk (t6.keep _ (blk) (i + 3) _ _ (by omega) HX5.out)
      have B6 := Aside0.mk (t6.far B5.out)
      have T6 := Aside0.mk (T5.out.step t6 (by simp))
      clear r6 b6 h6 t6
      refine ⟨_, rfl, ?_⟩
      have hHeld := (show _ = some (Value.int IntKind.i64 m) ∧ _ = some (Value.int IntKind.i64 q) ∧ _ = some (Value.int IntKind.i64 p) from ⟨blk_cell (blk_at HB6.out) 0, blk_cell (blk_at HX6.out) 0, blk_cell (blk_at HX6.out) 1⟩)
      refine hK.out _ _ hHeld (fun hHeld => ?_)
      clear hK K
      refine norm_ (a' := ?_) ?_ ?_
      rotate_left
      · show Act.put _ (some 36) _ = _
        simp only [Act.put, List.setIfInBounds_toArray, List.set_cons_zero, List.set_cons_succ, i64_w, i32_w]
        rfl
      refine one_ (i := 9) (N := some 37) #[true, true, true, true, true, true, true, true, true, true, false, false, false, false, false] rfl rfl (by kernel_rfl) (by decide) (fun K hK => ?_)
      refine goes_ Try.func30 (by kernel_rfl) rfl #[.int .i64 m, .slice A6 ps.length k6] ?hw rfl rfl ?hx ?_
      (case hw => rfl)
      (case hx => (try simp only [List.map_toArray, List.map_cons, List.map_nil]); first | done | rfl)
      refine (rall_calls HM.out HOK.out HPN.out (row_C HP6.out) (row_le HP6.out) HFB.out).mono ?_
      rintro e w7 ⟨⟨fe, rfl⟩, b7⟩
      have HB7 := Aside0.mk (St.below (s := blk) HB6.out b7)
      have HL7 := Aside0.mk (St.below (s := row 64 k37) HL6.out b7)
      have HO7 := Aside0.mk (St.below (s := row 64 k37) HO6.out b7)
      have HX7 := Aside0.mk (St.below (s := blk) HX6.out b7)
      have HP7 := Aside0.mk (St.below (s := row 45 k24) HP6.out b7)
      have B7 := Aside0.mk (Below.trans B6.out (Below.mono b7 (Below.size B6.out)))
      have T7 := Aside0.mk (T6.out.below b7)
      clear b7
      refine ⟨_, rfl, ?_⟩
      have hHeld := (show _ = some (Value.int IntKind.i64 m) ∧ _ = some (Value.int IntKind.i64 q) ∧ _ = some (Value.int IntKind.i64 p) from ⟨blk_cell (blk_at HB7.out) 0, blk_cell (blk_at HX7.out) 0, blk_cell (blk_at HX7.out) 1⟩)
      refine hK.out _ _ hHeld (fun hHeld => ?_)
      clear hK K
      refine norm_ (a' := ?_) ?_ ?_
      rotate_left
      · show Act.put _ (some 37) _ = _
        simp only [Act.put, List.setIfInBounds_toArray, List.set_cons_zero, List.set_cons_succ, i64_w, i32_w]
        rfl
      refine pure_ (i := 10) (N := some 27) (v := ?_) (a' := ?_) #[true, true, true, true, true, true, true, true, true, true, true, false, false, false, false] rfl rfl (by kernel_rfl) (fun _ _ _ h => h) (Or.inl ⟨by rfl, ?_⟩) ?_ ?_
      rotate_left
      · intro w'
        go_simp
        with_reducible rfl
      rotate_left
      · simp only [Act.put, List.setIfInBounds_toArray, List.set_cons_zero, List.set_cons_succ, i64_w, i32_w]
        rfl
      refine pure_ (i := 11) (N := some 38) (v := ?_) (a' := ?_) #[true, true, true, true, true, true, true, true, true, true, true, true, false, false, false] rfl rfl (by kernel_rfl) (fun _ _ _ h => h) (Or.inl ⟨by rfl, ?_⟩) ?_ ?_
      rotate_left
      · intro w'
        go_simp
        with_reducible rfl
      rotate_left
      · simp only [Act.put, List.setIfInBounds_toArray, List.set_cons_zero, List.set_cons_succ, i64_w, i32_w]
        rfl
      refine pure_ (i := 12) (N := some 39) (v := ?_) (a' := ?_) #[true, true, true, true, true, true, true, true, true, true, true, true, true, false, false] rfl rfl (by kernel_rfl) (fun _ _ _ h => h) (Or.inl ⟨by rfl, ?_⟩) ?_ ?_
      rotate_left
      · intro w'
        go_simp
        with_reducible rfl
      rotate_left
      · simp only [Act.put, List.setIfInBounds_toArray, List.set_cons_zero, List.set_cons_succ, i64_w, i32_w]
        rfl
      refine pure_ (i := 13) (N := some 10) (v := ?_) (a' := ?_) #[true, true, true, true, true, true, true, true, true, true, true, true, true, true, false] rfl rfl (by kernel_rfl) (fun _ _ _ h => h) (Or.inl ⟨by rfl, ?_⟩) ?_ ?_
      rotate_left
      · intro w'
        go_simp
        with_reducible rfl
      rotate_left
      · simp only [Act.put, List.setIfInBounds_toArray, List.set_cons_zero, List.set_cons_succ, i64_w, i32_w]
        rfl
      refine pure_ (i := 14) (N := some 11) (v := ?_) (a' := ?_) #[true, true, true, true, true, true, true, true, true, true, true, true, true, true, true] rfl rfl (by kernel_rfl) (fun _ _ _ h => h) (Or.inl ⟨by rfl, ?_⟩) ?_ ?_
      rotate_left
      · intro w'
        go_simp
        with_reducible rfl
      rotate_left
      · simp only [Act.put, List.setIfInBounds_toArray, List.set_cons_zero, List.set_cons_succ, i64_w, i32_w]
        rfl
      refine done_ (by kernel_rfl) ?_
      have z1 := blk_cell (blk_at HB7.out) 1
      have f1 := blk_frozen (blk_at HB7.out) 1
      go_upto_region 10 with (first | ((with_reducible refine gate_dst (N := 43) rfl ?_); refine lit_list (e := 64) (c := c6) (w0 := w0) (k37) (i + 5) rfl (N := 43) rfl (([] : List S37)) [] ?hr (Reps.none _ _) ?hs (by simp) ?_; (case hr => first | (go_simp; done) | (go_simp; rfl)); (case hs => exact Below.size B7.out); intro v20 w20 c20 h20 t20; obtain ⟨A20, k20, rfl, -, -⟩ := row_reads h20; have HN20 := Aside0.mk (show (row 64 k37).M w20 w0.heap.size (fun k => c20 k = (i + 5)) ([] : List S37) (.slice A20 ([] : List S37).length k20) from h20); have HB20 := Aside0.mk (t20.keep _ (blk) i _ _ (by omega) HB7.out); have HL20 := Aside0.mk (t20.keep _ (row 64 k37) (i + 1) _ _ (by omega) HL7.out); have HO20 := Aside0.mk (t20.keep _ (row 64 k37) (i + 2) _ _ (by omega) HO7.out); have HX20 := Aside0.mk (t20.keep _ (blk) (i + 3) _ _ (by omega) HX7.out); have B20 := Aside0.mk (t20.far B7.out); have T20 := Aside0.mk (T7.out.step t20 (by simp)); clear h20 t20 z1 f1; have z1 := blk_cell (blk_at HB20.out) 1; have f1 := blk_frozen (blk_at HB20.out) 1) | ((with_reducible refine gate_builtin (b := .append) (xs := #[.tmp 43, .tmp 47]) rfl ?_); refine app_list (e := 64) (c := c20) (w0 := w0) (d := k37) (i := (i + 5)) rfl (.tmp 43) (.tmp 47) 42 (.agg #[.int .i64 0, .int .i64 0, .int .i64 0, .int .i64 0]) 32 rfl Try.underlying42 info_rentry rfl (by decide) (by decide) (flat37) (.slice A20 ([] : List S37).length k20) ([] : List S37) l1 _ _ _ rfl rfl HN20.out (row_C HL20.out) ?hs (by have := HLN.out; show (0 + _) * 32 ≤ _; omega) ?_; (case hs => exact Below.size B20.out); intro v21 w21 c21 h21 t21; rw [List.nil_append] at h21; obtain ⟨gn, kn, rfl, -⟩ := Kd.R_form h21 hk0; have HN21 := Aside0.mk (show (row 64 k37).M w21 w0.heap.size (fun k => c21 k = (i + 5)) l1 (.slice (some ⟨gn, 0, none⟩) l1.length kn) from h21); have HB21 := Aside0.mk (t21.keep _ (blk) i _ _ (by omega) HB20.out); have HL21 := Aside0.mk (t21.keep _ (row 64 k37) (i + 1) _ _ (by omega) HL20.out); have HO21 := Aside0.mk (t21.keep _ (row 64 k37) (i + 2) _ _ (by omega) HO20.out); have HX21 := Aside0.mk (t21.keep _ (blk) (i + 3) _ _ (by omega) HX20.out); have B21 := Aside0.mk (t21.far B20.out); have T21 := Aside0.mk (T20.out.step t21 (by simp)); clear h21 t21 z1 f1; have z1 := blk_cell (blk_at HB21.out) 1; have f1 := blk_frozen (blk_at HB21.out) 1))
      clear z1 f1
      obtain ⟨c22, h22, t22⟩ := blk_put1 HB21.out 1 (.slice (some ⟨gn, 0, none⟩) l1.length kn) (Below.size B21.out)
      generalize w21.setCell ⟨g, 1, none⟩ (.slice (some ⟨gn, 0, none⟩) l1.length kn) = w22 at h22 t22 ⊢
      have HB22 := Aside0.mk (show (blk).M w22 w0.heap.size (fun k => c22 k = i) (.cells #[.int .i64 m, .slice (some ⟨gn, 0, none⟩) l1.length kn, .slice A2 l2.length k2] 44 (0, 0)) (.pointer (some ⟨g, 0, none⟩)) from h22)
      have HL22 := Aside0.mk (t22.keep _ (row 64 k37) (i + 1) _ _ (by omega) HL21.out)
      have HO22 := Aside0.mk (t22.keep _ (row 64 k37) (i + 2) _ _ (by omega) HO21.out)
      have HX22 := Aside0.mk (t22.keep _ (blk) (i + 3) _ _ (by omega) HX21.out)
      have HN22 := Aside0.mk (t22.keep _ (row 64 k37) (i + 5) _ _ (by omega) HN21.out)
      have B22 := Aside0.mk (t22.far B21.out)
      have T22 := Aside0.mk (T21.out.step t22 (by simp))
      clear h22 t22
      have y0 := blk_cell (blk_at HX22.out) 0
      have y1 := blk_cell (blk_at HX22.out) 1
      have z9 := blk_cell (blk_at HB22.out) 1
      obtain ⟨⟨u1, z1⟩, f1⟩ := re_set_at HN22.out (j := k) (f := 1) hkl (by decide)
      obtain ⟨⟨u2, z2⟩, f2⟩ := re_set_at HN22.out (j := k) (f := 2) hkl (by decide)
      go_region
      go_wp2
      go_ret
      obtain ⟨c23, h23, t23⟩ := rpair_C37 q p HN22.out hkl (Below.size B22.out)
      generalize (w22.setCell ⟨gn, k * 4 + 1, none⟩ (.int .i64 q)).setCell ⟨gn, k * 4 + 1 + 1, none⟩ (.int .i64 p) = w23 at h23 t23 ⊢
      have T23 := T22.out.step t23 (by simp)
      have K23 := t23.keep _ blk i _ _ (by omega) HB22.out
      have O23 := t23.keep _ (row 64 k37) (i + 2) _ _ (by omega) HO22.out
      rw [HLE.out] at h23
      rw [HLL.out] at h23 K23
      obtain ⟨c99, h99, t99⟩ := RB.take K23 h23 O23 T23
      have bd : Below w23.heap.size w23 w23.drew := below_drew (Below.refl _ _)
      exact ⟨by rw [HV.out]; rfl, c99, by rw [HVL.out]; exact RB.below h99 bd, t99.below bd⟩
end Go.Proofs.Ytmjodeijafoabaa.Admit
