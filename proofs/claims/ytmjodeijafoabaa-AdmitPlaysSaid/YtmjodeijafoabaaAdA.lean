/- Admit: what is read of a book: who lingers, who is live, where one is (no law is stated here; each says its conditions). -/
import Derived.Test.YtmjodeijafoabaaSt
import Derived.Test.YtmjodeijafoabaaReg
import Derived.Test.YtmjodeijafoabaaQt
import Derived.Test.YtmjodeijafoabaaQx0
namespace Go.Proofs.Ytmjodeijafoabaa.Admit
open Go.RowKit Go.Proofs.YtmjodeijafoabaaW.PrintWords Go.Proofs.YtmjodeijafoabaaW.PrintLast Go.Proofs.YtmjodeijafoabaaW.PrintMore Go.Proofs.Ytmjodeijafoabaa.St Go.Proofs.Ytmjodeijafoabaa.Q
set_option linter.unusedVariables false
set_option linter.unusedSimpArgs false
attribute [local go_sem] max2_int min2_int max_two min_two max_three min_three max_four min_four

theorem info_entry : (Try.prog.info? 37).map (fun i => (i.zero, i.size, i.bytes)) = some (some (.agg #[.int .i64 0, .int .i64 0, .int .i64 0, .int .i64 0]), k37.sz, 32) := by kernel_rfl
theorem blk_put {w : World} {g : Nat} {cs cs' : Array Value} {t : TypeId} (h : w.heap[g]? = some (.cells cs t (0, 0))) (j : Nat) (u : Value) (hc : cs.setIfInBounds j u = cs') : (w.setCell ⟨g, j, none⟩ u).heap[g]? = some (.cells cs' t (0, 0)) := by
  subst hc
  exact blk_set h j u
theorem flat37 : Flat k37 := fun w b x cs h => by rw [k37_open h]; exact k37_mkM w b _ x
theorem flat24 : Flat k24 := fun w b x cs h => by rw [k24_open h]; exact k24_mkM w b _ x
def z4 : S37 := ⟨0, ⟨0, 0⟩, 0⟩
theorem read_e {w : World} {A : Option Addr} {m k : Nat} {l : List S37} (h : k37.C w A m l) (hk : k < m) :
    ∃ ad, A = some ad ∧ w.cell? (ad.add (k * 4)) = some (.int .i64 (l.getD k z4).f0) ∧ w.cell? ⟨(ad.add (k * 4)).block, (ad.add (k * 4)).off + 1, none⟩ = some (.int .i64 (l.getD k z4).f1.f0) ∧ w.cell? ⟨(ad.add (k * 4)).block, (ad.add (k * 4)).off + 2, none⟩ = some (.int .i64 (l.getD k z4).f1.f1) ∧ w.cell? ⟨(ad.add (k * 4)).block, (ad.add (k * 4)).off + 3, none⟩ = some (.int .i64 (l.getD k z4).f2) := by
  obtain ⟨ad, c, e, _, hK, hc0⟩ := Kd.C_get h z4 (k : Int) (by omega) (by omega)
  rw [Int.toNat_natCast] at hK hc0
  have ho := k37_open hK
  subst ho
  have hc : ∀ i u, ([.int .i64 (l.getD k z4).f0, .int .i64 (l.getD k z4).f1.f0, .int .i64 (l.getD k z4).f1.f1, .int .i64 (l.getD k z4).f2] : List Value)[i]? = some u → w.cell? (ad.add (k * 4 + i)) = some u := hc0
  exact ⟨ad, e, hc 0 _ rfl, by rw [← add_field _ _ 1 (by omega)]; exact hc 1 _ rfl, by rw [← add_field _ _ 2 (by omega)]; exact hc 2 _ rfl, by rw [← add_field _ _ 3 (by omega)]; exact hc 3 _ rfl⟩
theorem take_more {α : Type} {l : List α} {k : Nat} (z : α) (hk : k < l.length) : l.take (k + 1) = l.take k ++ [l.getD k z] := by
  rw [List.take_add_one, List.getElem?_eq_getElem hk, List.getD_eq_getElem?_getD, List.getElem?_eq_getElem hk]
  rfl
/-- Who still lingers. -/
def ling (now : Int) (l : List S37) : List S37 := l.filter (fun x => decide (now < x.f2))
theorem ling_le (now : Int) (l : List S37) : (ling now l).length ≤ l.length := List.length_filter_le _ _
theorem ling_more {now : Int} {l : List S37} {k : Nat} (hk : k < l.length) : ling now (l.take (k + 1)) = if now < (l.getD k z4).f2 then ling now (l.take k) ++ [l.getD k z4] else ling now (l.take k) := by
  unfold ling
  rw [take_more z4 hk, List.filter_append]
  by_cases h : now < (l.getD k z4).f2
  · rw [if_pos h, List.filter_cons_of_pos (by simpa using h), List.filter_nil]
  · rw [if_neg h, List.filter_cons_of_neg (by simpa using h), List.filter_nil, List.append_nil]
def RelL (W : World) (now : Int) (l : List S37) (r i : Value) (wr : World) : Prop :=
  ∃ k : Nat, k ≤ l.length ∧ i = .int .i64 (k : Int) ∧ (row 37 k37).M wr W.heap.size (fun k => W.heap.size ≤ k) (ling now (l.take k)) r ∧ Below W.heap.size W wr
set_option maxHeartbeats 2000000 in
set_option maxRecDepth 100000 in
theorem lingers_calls {W : World} {g : Nat} {c0 c1 : Value} {A2 : Option Addr} {k2 : Nat} {l : List S37} (now : Int) (hb : W.heap[g]? = some (.cells #[c0, c1, .slice A2 l.length k2] 55 (0, 0))) (hr : k37.C W A2 l.length l) (hl : l.length ≤ 1000) :
    Calls Try.prog 13 #[.pointer (some ⟨g, 0, none⟩), .int .i64 now] W fun e w' => ∃ v', e = .returned v' ∧ (row 37 k37).M w' W.heap.size (fun k => W.heap.size ≤ k) (ling now l) v' ∧ Below W.heap.size W w' := by
  have h2 := blk_cell hb 2
  have HR := Aside0.mk hr
  have HLL := Aside0.mk hl
  clear hb hr hl
  go_enter Try.func13, Try.ntmps13
  go_wp2
  go_loopw [5, 13] (fun r i wr => RelL W now l r i wr) (fun _ i _ => l.length - (intOf i).toNat)
  case atStart => exact ⟨0, Nat.zero_le _, rfl, Kd.R_nil _ _ _ _ _, Below.refl _ _⟩
  case round =>
    obtain ⟨k, hk, rfl, hq, hB⟩ := hrel
    have BZ := Aside0.mk hB
    obtain ⟨q, hqe⟩ : ∃ q, ling now (l.take k) = q := ⟨_, rfl⟩
    rw [hqe] at hq
    have HQ := Aside0.mk hqe
    have HL := Aside0.mk (show q.length ≤ 1000 from by rw [← hqe]; have h1 := ling_le now (l.take k); have h2 := List.length_take_le k l; have := HLL.out; omega)
    obtain ⟨A, c2, rfl⟩ := Kd.R_slice hq
    have RZ := Aside0.mk hq
    have hk1000 : k ≤ 1000 := by have := HLL.out; omega
    clear hB hq hqe h2
    by_cases hlt : k < l.length
    · have pq : decide ((k : Int) < (l.length : Int)) = true := decide_eq_true (by omega)
      have bq : (0 ≤ (k : Int) ∧ (k : Int) < (l.length : Int)) := by omega
      obtain ⟨ad, hA, z0, z1, z2, z3⟩ := read_e (Kd.C_below HR.out BZ.out) hlt
      subst hA
      have HM := Aside0.mk (ling_more (now := now) hlt)
      obtain ⟨⟨e0, ⟨e1, e2⟩, e3⟩, hx⟩ : ∃ x, l.getD k z4 = x := ⟨_, rfl⟩
      rw [hx] at z0 z1 z2 z3 HM
      clear hx
      go_upto_region 5 with (first | ((with_reducible refine gate_dst (N := 7) rfl ?_); refine box_event ?hg (N := 7) ?hd (cs := #[.int .i64 0, .int .i64 0, .int .i64 0, .int .i64 0]) (t := 37) ?hr ?_; (case hd => rfl); (case hg => rfl); (case hr => first | (go_simp; done) | (go_simp; rfl) | kernel_rfl); intro g5 hg5 w5 hx5 hb5; have HX5 := Aside0.mk hx5; have HB5 := Aside0.mk hb5; have HG5 := Aside0.mk hg5; have r05 := blk_cell hx5 0; have q05 := blk_frozen hx5 0; have r15 := blk_cell hx5 1; have q15 := blk_frozen hx5 1; have r25 := blk_cell hx5 2; have q25 := blk_frozen hx5 2; have r35 := blk_cell hx5 3; have q35 := blk_frozen hx5 3; clear hx5 hb5 hg5))
      have hz5 : wr.heap.size ≤ g5 := by have := HG5.out; omega
      have hbz : Below wr.heap.size wr ((((w5.setCell ⟨g5, 0, none⟩ (.int .i64 (e0))).setCell ⟨g5, 1, none⟩ (.int .i64 (e1))).setCell ⟨g5, 2, none⟩ (.int .i64 (e2))).setCell ⟨g5, 3, none⟩ (.int .i64 (e3))) := ((((HB5.out.setCell hz5 _).setCell hz5 _).setCell hz5 _).setCell hz5 _)
      have hy : ((((w5.setCell ⟨g5, 0, none⟩ (.int .i64 (e0))).setCell ⟨g5, 1, none⟩ (.int .i64 (e1))).setCell ⟨g5, 2, none⟩ (.int .i64 (e2))).setCell ⟨g5, 3, none⟩ (.int .i64 (e3))).heap[g5]? = some (.cells #[.int .i64 (e0), .int .i64 (e1), .int .i64 (e2), .int .i64 (e3)] 37 (0, 0)) := (blk_put (cs := #[.int .i64 (e0), .int .i64 (e1), .int .i64 (e2), .int .i64 0]) (blk_put (cs := #[.int .i64 (e0), .int .i64 (e1), .int .i64 0, .int .i64 0]) (blk_put (cs := #[.int .i64 (e0), .int .i64 0, .int .i64 0, .int .i64 0]) (blk_put (cs := #[.int .i64 0, .int .i64 0, .int .i64 0, .int .i64 0]) HX5.out 0 _ rfl) 1 _ rfl) 2 _ rfl) 3 _ rfl)
      clear r05 q05 r15 q15 r25 q25 r35 q35
      generalize ((((w5.setCell ⟨g5, 0, none⟩ (.int .i64 (e0))).setCell ⟨g5, 1, none⟩ (.int .i64 (e1))).setCell ⟨g5, 2, none⟩ (.int .i64 (e2))).setCell ⟨g5, 3, none⟩ (.int .i64 (e3))) = w5b at hbz hy ⊢
      clear hz5 HX5 HB5 HG5
      have B5 := Aside0.mk (BZ.out.trans (hbz.mono BZ.out.size))
      have R5 := Aside0.mk (Kd.R_below RZ.out hbz)
      have y0 := blk_cell hy 0
      have y1 := blk_cell hy 1
      have y2 := blk_cell hy 2
      have y3 := blk_cell hy 3
      clear hbz hy z0 z1 z2 z3
      by_cases hn : now < e3
      · have pn : decide (now < e3) = true := decide_eq_true hn
        have HE := Aside0.mk (show ling now (l.take (k + 1)) = q ++ [⟨e0, ⟨e1, e2⟩, e3⟩] from by rw [HM.out, if_pos hn, HQ.out])
        clear hn
        go_wp2_with (first | ((with_reducible refine gate_builtin (b := .append) (xs := #[.tmp 21, .tmp 23]) rfl ?_); at_builtin; refine Kd.R_append k37 (w0 := W) W.heap.size rfl (.tmp 21) (.tmp 23) 34 37 (.agg #[.int .i64 0, .int .i64 0, .int .i64 0, .int .i64 0]) 32 rfl Try.underlying34 info_entry rfl (by decide) (by decide) (.slice A q.length c2) q ⟨e0, ⟨e1, e2⟩, e3⟩ [.int .i64 e0, .int .i64 e1, .int .i64 e2, .int .i64 e3] (fun k => W.heap.size ≤ k) (fun _ => False) rfl rfl (k37_mkM _ _ _ ⟨e0, ⟨e1, e2⟩, e3⟩) (fun _ h => h.elim) (fun k hk => Nat.le_trans (Below.size B5.out) hk) R5.out B5.out (Below.size B5.out) (by have := HL.out; omega) ?_; intro v1 w1 hO1 hB1 hG1 hat1; have HO1 := Aside0.mk hO1; have HB1 := Aside0.mk hB1; clear hO1 hB1 hG1 hat1))
        exact ⟨⟨k + 1, by omega, by go_num, by rw [HE.out]; exact HO1.out, HB1.out⟩, by simp [intOf]; omega⟩
      · have pn : decide (now < e3) = false := decide_eq_false hn
        have HE := Aside0.mk (show ling now (l.take (k + 1)) = q from by rw [HM.out, if_neg hn, HQ.out])
        clear hn
        go_wp2
        exact ⟨⟨k + 1, by omega, by go_num, by rw [HE.out]; exact R5.out, B5.out⟩, by simp [intOf]; omega⟩
    · have pq : decide ((k : Int) < (l.length : Int)) = false := decide_eq_false (by omega)
      have hkn : k = l.length := by omega
      have HE := Aside0.mk (show q = ling now l from by rw [← HQ.out, hkn, List.take_of_length_le (Nat.le_refl _)])
      go_wp2
      go_ret
      exact ⟨_, rfl, by rw [← HE.out]; exact RZ.out, BZ.out⟩
set_option maxHeartbeats 2000000 in
set_option maxRecDepth 100000 in
theorem clone_calls {W : World} {A : Option Addr} {k : Nat} {l : List S37} (hr : k37.C W A l.length l) (hk : l.length ≤ k) (hl : l.length ≤ 1000) :
    Calls Try.prog 25 #[.slice A l.length k] W fun e w' => ∃ v', e = .returned v' ∧ (row 37 k37).M w' W.heap.size (fun k => W.heap.size ≤ k) l v' ∧ Below W.heap.size W w' := by
  have HR := Aside0.mk hr
  have HL := Aside0.mk hl
  cases A with
  | none =>
    have hn : l = [] := by
      cases l with
      | nil => rfl
      | cons x t =>
        obtain ⟨ad, e, _⟩ := read_e hr (show 0 < (x :: t).length by simp)
        cases e
    subst hn
    clear hr hl hk
    have he := fun w => Lib.run_eql_slice_nil (P := Try.prog) w 34 37 none 0 k 0 0 Try.underlying34
    simp only [Option.isNone_none] at he
    go_enter Try.func25, Try.ntmps25
    go_wp2
    all_goals (go_ret; exact ⟨_, rfl, Kd.R_nil _ _ _ _ _, Below.refl _ _⟩)
  | some ad =>
    clear hr hl
    have he := fun w => Lib.run_eql_slice_nil (P := Try.prog) w 34 37 (some ad) l.length k 0 0 Try.underlying34
    simp only [Option.isNone_some] at he
    go_enter Try.func25, Try.ntmps25
    go_wp2_with (first | ((with_reducible refine gate_dst (N := 5) rfl ?_); refine Kd.R_lit k37 (w0 := W) W.heap.size 37 rfl rfl (xs := ([] : List S37)) (inner := []) (ok := fun k => W.heap.size ≤ k) (okp := fun _ => False) ?hr (Reps.none _ _) (fun _ h => h.elim) (Nat.le_refl _) (Below.refl _ _) (Nat.le_refl _) (by simp) ?_; (case hr => first | (go_simp; done) | (go_simp; rfl)); intro v2 w2 hR hB _ _; have H2 := Aside0.mk hR; have B2 := Aside0.mk hB; clear hR hB) | ((with_reducible refine gate_builtin (b := .append) (xs := #[.tmp 5, .tmp 6]) rfl ?_); at_builtin; refine Kd.R_append_rows k37 (w0 := W) W.heap.size rfl (.tmp 5) (.tmp 6) 34 37 (.agg #[.int .i64 0, .int .i64 0, .int .i64 0, .int .i64 0]) 32 rfl Try.underlying34 info_entry rfl (by decide) (by decide) v2 ([] : List S37) l (some ad) l.length k (fun k => W.heap.size ≤ k) (fun _ => False) rfl rfl H2.out (Kd.C_below HR.out B2.out) (fun y cs hy => flat37 _ _ y cs hy) (fun _ h => h.elim) (fun k hk => Nat.le_trans (Below.size B2.out) hk) B2.out (Below.size B2.out) (by have := HL.out; show (0 + _) * 32 ≤ _; omega) ?_; intro v3 w3 hR hB _ _; have H3 := Aside0.mk (show (row 37 k37).M w3 W.heap.size (fun k => W.heap.size ≤ k) l v3 from hR); have B3 := Aside0.mk hB; clear hR hB))
    go_ret
    exact ⟨_, rfl, H3.out, B3.out⟩
set_option maxHeartbeats 2000000 in
set_option maxRecDepth 100000 in
theorem live_calls {W : World} {g : Nat} {c0 c2 : Value} {A1 : Option Addr} {k1 : Nat} {l : List S37} (hb : W.heap[g]? = some (.cells #[c0, .slice A1 l.length k1, c2] 55 (0, 0))) (hr : k37.C W A1 l.length l) (hk : l.length ≤ k1) (hl : l.length ≤ 1000) :
    Calls Try.prog 11 #[.pointer (some ⟨g, 0, none⟩)] W fun e w' => ∃ v', e = .returned v' ∧ (row 37 k37).M w' W.heap.size (fun k => W.heap.size ≤ k) l v' ∧ Below W.heap.size W w' := by
  have h1 := blk_cell hb 1
  have HR := Aside0.mk hr
  have HK := Aside0.mk hk
  have HL := Aside0.mk hl
  clear hb hr hl hk
  go_enter Try.func11, Try.ntmps11
  go_wp2_with (first | (go_at_call 25; (with_reducible refine (clone_calls HR.out HK.out HL.out).mono ?_); rintro e w2 ⟨v2, rfl, h2, b2⟩; have H2 := Aside0.mk h2; have B2 := Aside0.mk b2; clear h2 b2))
  go_ret
  exact ⟨_, rfl, H2.out, B2.out⟩
end Go.Proofs.Ytmjodeijafoabaa.Admit
