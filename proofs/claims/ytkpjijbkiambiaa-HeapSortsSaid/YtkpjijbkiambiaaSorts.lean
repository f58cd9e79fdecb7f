/- HeapSorts: what is put in comes out in order, each once (the walk; no condition). -/
import Derived.Test.YtkpjijbkiambiaaSortsP
import Derived.BigQuiet
import Derived.Deep.DeepCutAuto
namespace Go.Proofs.Ytkpjijbkiambiaa.Heap
open Go.RowKit Go.Proofs.YtkpjijbkiambiaaW.PrintWords Go.Proofs.YtkpjijbkiambiaaW.PrintLast Go.Proofs.YtkpjijbkiambiaaW.PrintMore Go.Proofs.Ytkpjijbkiambiaa.St Go.Proofs.Ytkpjijbkiambiaa.Q
set_option linter.unusedVariables false
set_option linter.unusedSimpArgs false
attribute [local go_sem] max2_int min2_int max_two min_two max_three min_three max_four min_four

def RelA (w : World) (l : List Int) (great : Bool) (v : Value) (i : Value) (wr : World) : Prop :=
  ∃ (j : Nat) (x : H), j ≤ l.length ∧ i = .int .i64 j ∧ x.great = great ∧ x.room = 200 ∧ Ok x ∧ x.l.Perm (pairs l j) ∧ Own w wr x v
/-- The block of who came. -/
def SeenIs (W : World) (gs : Nat) (s : List Bool) : Prop := ∃ cs : Array Value, W.heap[gs]? = some (.cells cs 37 (0, 0)) ∧ ∀ i : Nat, i < 100 → cs[i]? = some (.bool (s.getD i false))
theorem SeenIs.set {W : World} {gs a : Nat} {s : List Bool} (h : SeenIs W gs s) (hl : s.length = 100) (ha : a < 100) : SeenIs (W.setCell ⟨gs, a, none⟩ (.bool true)) gs (s.set a true) := by
  obtain ⟨cs, h1, h2⟩ := h
  refine ⟨_, blk_set h1 a _, fun i hi => ?_⟩
  by_cases c : a = i
  · subst c
    have h3 := h2 a ha
    have h4 : a < cs.size := (Array.getElem?_eq_some_iff.1 h3).1
    rw [Array.getElem?_setIfInBounds_self_of_lt h4, List.getD_eq_getElem?_getD, List.getElem?_set_self (by omega)]
    rfl
  · rw [Array.getElem?_setIfInBounds_ne c, h2 i hi, List.getD_eq_getElem?_getD, List.getD_eq_getElem?_getD, List.getElem?_set_ne c]
theorem SeenIs.move {W W1 : World} {gs : Nat} {s : List Bool} (h : SeenIs W gs s) (e : W1.heap[gs]? = W.heap[gs]?) : SeenIs W1 gs s := by
  obtain ⟨cs, h1, h2⟩ := h
  exact ⟨cs, e.trans h1, h2⟩
theorem SeenIs.lt {W : World} {gs : Nat} {s : List Bool} (h : SeenIs W gs s) : gs < W.heap.size := by
  obtain ⟨cs, h1, _⟩ := h
  exact blk_lt h1
/-- Where loop two stands. -/
def At2 (w : World) (l : List Int) (great : Bool) (v : Value) (gs gl : Nat) (x : H) (P : List (Int × Int)) (s : List Bool) (last : Int × Int) (wr : World) : Prop :=
  Run l great x P s last ∧ heap.M wr w.heap.size (fun k => w.heap.size ≤ k ∧ k ≠ gs ∧ k ≠ gl) x v ∧ SeenIs wr gs s ∧ wr.heap[gl]? = some (.cells #[.int .i64 last.1, .int .i64 last.2] 32 (0, 0)) ∧ Below w.heap.size w wr
def RelB (w : World) (l : List Int) (great : Bool) (v : Value) (gs gl : Nat) (i : Value) (wr : World) : Prop :=
  ∃ (q : Nat) (x : H) (P : List (Int × Int)) (s : List Bool) (last : Int × Int), P.length = q ∧ q ≤ l.length ∧ i = .int .i64 (q : Int) ∧ At2 w l great v gs gl x P s last wr
/-- Where it stands behind a Pop. -/
def Mid (w : World) (v : Value) (gs gl gx : Nat) (x : H) (s : List Bool) (last z : Int × Int) (W : World) : Prop :=
  heap.M W w.heap.size (fun k => w.heap.size ≤ k ∧ k ≠ gs ∧ k ≠ gl) x v ∧ SeenIs W gs s ∧ W.heap[gl]? = some (.cells #[.int .i64 last.1, .int .i64 last.2] 32 (0, 0)) ∧ W.heap[gx]? = some (.cells #[.int .i64 z.1, .int .i64 z.2] 32 (0, 0)) ∧ Below w.heap.size w W
section
variable {w W W1 : World} {v : Value} {gs gl gx : Nat} {x : H} {s : List Bool} {last z : Int × Int}
theorem Mid.drewN (h : Mid w v gs gl gx x s last z W) (n : Nat) : Mid w v gs gl gx x s last z (W.drewN n) :=
  ⟨heap.move (fun _ _ => rfl) h.1, h.2.1.move rfl, h.2.2.1, h.2.2.2.1, h.2.2.2.2.trans ⟨rfl, rfl, rfl, Nat.le_refl _, fun _ _ => rfl⟩⟩
theorem Mid.cells (h : Mid w v gs gl gx x s last z W) (a : Nat) (ha : a < 100) :
    (W.cell? ⟨gx, 0, none⟩ = some (.int .i64 z.1) ∧ W.cell? ⟨gx, 1, none⟩ = some (.int .i64 z.2)) ∧ (W.cell? ⟨gl, 0, none⟩ = some (.int .i64 last.1) ∧ W.cell? ⟨gl, 1, none⟩ = some (.int .i64 last.2)) ∧ W.cell? ⟨gs, a, none⟩ = some (.bool (s.getD a false)) ∧ W.frozen? ⟨gs, a, none⟩ = false ∧ W.frozen? ⟨gl, 0, none⟩ = false ∧ W.frozen? ⟨gl, 1, none⟩ = false := by
  obtain ⟨h1, ⟨cs, h2, h3⟩, h4, h5, h6⟩ := h
  exact ⟨⟨blk_cell h5 0, blk_cell h5 1⟩, ⟨blk_cell h4 0, blk_cell h4 1⟩, (blk_cell h2 a).trans (h3 a ha), blk_frozen h2 a, blk_frozen h4 0, blk_frozen h4 1⟩
theorem Mid.next {a : Nat} (h : Mid w v gs gl gx x s last z W) (hne : gs ≠ gl) (hs : w.heap.size ≤ gs) (hl : w.heap.size ≤ gl) (hlen : s.length = 100) (ha : a < 100) (u0 u1 : Int) :
    heap.M (((W.setCell ⟨gs, a, none⟩ (.bool true)).setCell ⟨gl, 0, none⟩ (.int .i64 u0)).setCell ⟨gl, 1, none⟩ (.int .i64 u1)) w.heap.size (fun k => w.heap.size ≤ k ∧ k ≠ gs ∧ k ≠ gl) x v ∧ SeenIs (((W.setCell ⟨gs, a, none⟩ (.bool true)).setCell ⟨gl, 0, none⟩ (.int .i64 u0)).setCell ⟨gl, 1, none⟩ (.int .i64 u1)) gs (s.set a true) ∧
      (((W.setCell ⟨gs, a, none⟩ (.bool true)).setCell ⟨gl, 0, none⟩ (.int .i64 u0)).setCell ⟨gl, 1, none⟩ (.int .i64 u1)).heap[gl]? = some (.cells #[.int .i64 u0, .int .i64 u1] 32 (0, 0)) ∧ Below w.heap.size w (((W.setCell ⟨gs, a, none⟩ (.bool true)).setCell ⟨gl, 0, none⟩ (.int .i64 u0)).setCell ⟨gl, 1, none⟩ (.int .i64 u1)) := by
  obtain ⟨h1, h2, h4, h5, h6⟩ := h
  refine ⟨heap.move (fun k hk => ?_) h1, (h2.set hlen ha).move ?_, ?_, ((h6.setCell hs _).setCell hl _).setCell hl _⟩
  · rw [Below.heap_setCell _ _ _ k hk.2.2, Below.heap_setCell _ _ _ k hk.2.2, Below.heap_setCell _ _ _ k hk.2.1]
  · rw [Below.heap_setCell _ _ _ gs hne, Below.heap_setCell _ _ _ gs hne]
  · exact blk_put (cs := #[.int .i64 u0, .int .i64 last.2]) (blk_put (cs := #[.int .i64 last.1, .int .i64 last.2]) (blk_far h4 (fun e => hne e.symm) _) 0 _ rfl) 1 _ rfl
end
set_option maxHeartbeats 2000000 in
set_option maxRecDepth 100000 in
theorem sorts_walk (A : Option Addr) (cap : Nat) (l : List Int) {w : World} (hr : (Kd.int .i64).C w A l.length l) (hc : l.length ≤ cap) (hg : ∀ a ∈ l, (Lit.int .i64 a).wf = true) (great : Bool) (_ : World) :
    Calls Try.prog 4 #[.slice A l.length cap, .bool great] w fun e w' => e = .returned (.bool true) ∧ Below w.heap.size w w' := by
  have HC := Aside0.mk hr
  clear hr hg
  by_cases hl : l.length ≤ 100
  · have hd : decide (100 < l.length) = false := decide_eq_false (by omega)
    have HL := Aside0.mk hl
    go_enter Try.func4, Try.ntmps4
    go_wp2_with (first | (go_at_call 8; (with_reducible refine (awake_calls _).mono ?_); rintro e w1 ⟨rfl, hb1⟩; have HB1 := Aside0.mk hb1; clear hb1) | (go_at_call 9; (with_reducible refine (new1 (w0 := w) 200 great HB1.out).mono ?_); rintro e w2 ⟨g, rfl, h2⟩; have H2 := Aside0.mk h2; clear h2))
    generalize hv : (Value.pointer (some ⟨g, 0, none⟩)) = v at H2 ⊢
    go_loopw [6] (fun i wr => RelA w l great v i wr) (fun i _ => l.length - (intOf i).toNat)
    case atStart => exact ⟨0, newH 200 great, Nat.zero_le _, rfl, rfl, rfl, ok_new 200 great, List.Perm.refl _, H2.out⟩
    case round =>
      obtain ⟨j, x, hj, rfl, hgr, hrm, hO, hp, hW⟩ := hrel
      have HO := Aside0.mk hO
      have HP := Aside0.mk hp
      have HW := Aside0.mk hW
      have HG := Aside0.mk hgr
      have HR := Aside0.mk hrm
      clear hO hp hW hgr hrm H2
      by_cases hlt : j < l.length
      · obtain ⟨ad, hA, hcell⟩ := Mine.read_at (Kd.C_below HC.out HW.out.far) hlt
        subst hA
        have HN := Aside0.mk (pairs_next l j)
        generalize l.getD j 0 = y at hcell HN
        have HWF := Aside0.mk (show (Lit.int .i64 ((j : Nat) : Int)).wf = true from by have := HL.out; exact wf_small j (by omega))
        go_wp2_with (first | (go_at_call 11; (with_reducible refine (put1 ((j : Nat) : Int) y (pairs l j) HW.out HWF.out HO.out HP.out (pairs_new l j) (by rw [pairs_len, HR.out]; have := HL.out; omega) (by rw [pairs_len]; have := HL.out; omega)).mono ?_); rintro e w3 ⟨rfl, x3, e1, e2, e3, e4, h3⟩; rw [← HN.out] at e4; have H3 := Aside0.mk h3; have E1 := Aside0.mk (e1.trans HG.out); have E2 := Aside0.mk (e2.trans HR.out); have E3 := Aside0.mk e3; have E4 := Aside0.mk e4; clear h3 e1 e2 e3 e4))
        go_roundw
        case rel => exact ⟨j + 1, x3, by omega, by go_num, E1.out, E2.out, E3.out, E4.out, H3.out⟩
        case measure => simp [intOf]; omega
      · have hje : j = l.length := by omega
        subst hje
        have HRUN := Aside0.mk (run_new HG.out HO.out HP.out)
        clear hlt hj HG HO HP HR
        go_upto_region 13 with (first | ((with_reducible refine gate_dst (N := 7) rfl ?_); refine box_event ?hg (N := 7) ?hd (cs := Array.replicate 100 (.bool false)) (t := 37) ?hr ?_; (case hd => rfl); (case hg => rfl); (case hr => first | (go_simp; done) | (go_simp; rfl) | kernel_rfl); intro gs hgs w5 hx5 hb5; have HX5 := Aside0.mk hx5; have HB5 := Aside0.mk hb5; have HG5 := Aside0.mk hgs; clear hx5 hb5 hgs) | ((with_reducible refine gate_dst (N := 8) rfl ?_); refine box_event ?hg (N := 8) ?hd (cs := #[.int .i64 0, .int .i64 0]) (t := 32) ?hr ?_; (case hd => rfl); (case hg => rfl); (case hr => first | (go_simp; done) | (go_simp; rfl)); intro gl hgl w6 hx6 hb6; have HX6 := Aside0.mk hx6; have HB6 := Aside0.mk hb6; have HG6 := Aside0.mk hgl; have s0 := blk_cell hx6 0; have s1 := blk_cell hx6 1; have t0 := blk_frozen hx6 0; have t1 := blk_frozen hx6 1; clear hx6 hb6 hgl))
        have hB7 : Below wr.heap.size wr ((w6.setCell ⟨gl, 0, none⟩ (.int .i64 0)).setCell ⟨gl, 1, none⟩ (.int .i64 0)) := by
          have h1 : wr.heap.size ≤ gl := by have := HG6.out; have := HB5.out.size; omega
          exact ((HB5.out.trans (HB6.out.mono HB5.out.size)).setCell h1 _).setCell h1 _
        have hne : gs ≠ gl := by have := blk_lt HX5.out; have := HG6.out; omega
        have H7 := Aside0.mk (show At2 w l great v gs gl x [] (List.replicate 100 false) (0, 0) ((w6.setCell ⟨gl, 0, none⟩ (.int .i64 0)).setCell ⟨gl, 1, none⟩ (.int .i64 0)) from
          ⟨HRUN.out, heap.mono (fun k hk => ⟨hk.1, by have := hk.2.2; have := HG5.out; omega, by have := hk.2.2; have := HG6.out; have := HB5.out.size; omega⟩) (heap.move (fun k hk => hB7.block k hk.2.2) (heap.bound HW.out.m)),
            ⟨_, blk_far (blk_far ((HB6.out.block _ (blk_lt HX5.out)).trans HX5.out) hne _) hne _, fun i hi => by rw [Array.getElem?_replicate, if_pos hi, List.getD_eq_getElem?_getD, List.getElem?_replicate, if_pos hi]; rfl⟩,
            blk_put (cs := #[.int .i64 0, .int .i64 0]) (blk_put (cs := #[.int .i64 0, .int .i64 0]) HX6.out 0 _ rfl) 1 _ rfl, HW.out.far.trans (hB7.mono HW.out.far.size)⟩)
        have HNE := Aside0.mk hne
        have HLO := Aside0.mk (show w.heap.size ≤ gs ∧ w.heap.size ≤ gl from by have := HG5.out; have := HG6.out; have := HB5.out.size; have := HW.out.far.size; exact ⟨by omega, by omega⟩)
        clear s0 s1 t0 t1 hB7 hne HX5 HX6 HB5 HB6 HG5 HG6 HW
        generalize ((w6.setCell ⟨gl, 0, none⟩ (.int .i64 0)).setCell ⟨gl, 1, none⟩ (.int .i64 0)) = w7 at H7 ⊢
        go_wp2
        obtain ⟨wo, rfl⟩ : ∃ wo : World, wo = w7 := ⟨_, rfl⟩
        go_loopw [9] (fun i wr => RelB w l great v gs gl i wr) (fun i _ => l.length - (intOf i).toNat)
        case atStart => exact ⟨0, x, [], List.replicate 100 false, (0, 0), rfl, Nat.zero_le _, rfl, H7.out⟩
        case round =>
          obtain ⟨q, x, P, s, last, hq, hPl, rfl, hR, hM, hS, hL, hB⟩ := hrel
          have hq100 : q ≤ 100 := by have := HL.out; omega
          have HM := Aside0.mk hM
          have HS := Aside0.mk hS
          have HLA := Aside0.mk hL
          have HB := Aside0.mk hB
          have HQ := Aside0.mk hq
          clear hM hS hL hB H7
          by_cases hlt : q < l.length
          · obtain ⟨h0, a, ha, hz, hsa, hah, hnext⟩ := hR.step (by rw [hq]; exact hlt)
            have HO := Aside0.mk hR.ok
            have HSL := Aside0.mk hR.len
            have H0 := Aside0.mk h0
            have HZ := Aside0.mk hz
            have HSA := Aside0.mk hsa
            have HNX := Aside0.mk hnext
            rw [hq] at hah
            clear hR h0 hz hsa hnext hq
            have HCA := Aside0.mk (fun {W : World} (h : Below w.heap.size w W) => Mine.read_at (Kd.C_below HC.out h) ha)
            generalize hy : l.getD a 0 = y at HZ hah HNX HCA
            clear hy
            go_upto_region 17 with (first | (go_at_call 14; (with_reducible refine (pop_some HM.out HO.out H0.out).mono ?_); rintro e w3 ⟨rfl, ⟨x', g1, g2, o1, p1, m1⟩, hw3⟩; rw [HZ.out]; have RN := Aside0.mk (HNX.out x' g1 o1 p1); have M3 := Aside0.mk m1; have W3 := Aside0.mk hw3; clear g1 g2 o1 p1 m1 hw3) | ((with_reducible refine gate_dst (N := 10) rfl ?_); refine box_event ?hg (N := 10) ?hd (cs := #[.int .i64 0, .int .i64 0]) (t := 32) ?hr ?_; (case hd => rfl); (case hg => rfl); (case hr => first | (go_simp; done) | (go_simp; rfl)); intro gx hgx w4 hx4 hb4; have HX4 := Aside0.mk hx4; have HB4 := Aside0.mk hb4; have HG4 := Aside0.mk hgx; have s0 := blk_cell hx4 0; have s1 := blk_cell hx4 1; have t0 := blk_frozen hx4 0; have t1 := blk_frozen hx4 1; clear hx4 hb4 hgx))
            have hgx : wr.heap.size ≤ gx := by have := HG4.out; have := W3.out.size; omega
            have hgs : gs < wr.heap.size := HS.out.lt
            have hgl : gl < wr.heap.size := blk_lt HLA.out
            have hwr : w.heap.size ≤ wr.heap.size := HB.out.size
            have hB8 : Below w3.heap.size w3 ((w4.setCell ⟨gx, 0, none⟩ (.int .i64 (a : Int))).setCell ⟨gx, 1, none⟩ (.int .i64 y)) := by
              have h1 : w3.heap.size ≤ gx := by have := HG4.out; omega
              exact (HB4.out.setCell h1 _).setCell h1 _
            have e8 : ∀ k, k < wr.heap.size → ¬ (w.heap.size ≤ k ∧ k ≠ gs ∧ k ≠ gl) → ((w4.setCell ⟨gx, 0, none⟩ (.int .i64 (a : Int))).setCell ⟨gx, 1, none⟩ (.int .i64 y)).heap[k]? = wr.heap[k]? := fun k hk hn => (hB8.block k (Nat.lt_of_lt_of_le hk W3.out.size)).trans (W3.out.block k hk hn)
            have S8 := Aside0.mk (HS.out.move (e8 gs hgs (fun h => h.2.1 rfl)))
            have L8 := Aside0.mk ((e8 gl hgl (fun h => h.2.2 rfl)).trans HLA.out)
            have M8 := Aside0.mk (show heap.M ((w4.setCell ⟨gx, 0, none⟩ (.int .i64 (a : Int))).setCell ⟨gx, 1, none⟩ (.int .i64 y)) w.heap.size (fun k => w.heap.size ≤ k ∧ k ≠ gs ∧ k ≠ gl) x' v from
              heap.mono (fun k hk => hk.1.elim id (fun h => ⟨by omega, by omega, by omega⟩)) (heap.move (fun k hk => hB8.block k hk.2.2) (heap.bound M3.out)))
            have X8 := Aside0.mk (show ((w4.setCell ⟨gx, 0, none⟩ (.int .i64 (a : Int))).setCell ⟨gx, 1, none⟩ (.int .i64 y)).heap[gx]? = some (.cells #[.int .i64 (a : Int), .int .i64 y] 32 (0, 0)) from blk_put (cs := #[.int .i64 (a : Int), .int .i64 0]) (blk_put (cs := #[.int .i64 0, .int .i64 0]) HX4.out 0 _ rfl) 1 _ rfl)
            have B8 := Aside0.mk (show Below w.heap.size w ((w4.setCell ⟨gx, 0, none⟩ (.int .i64 (a : Int))).setCell ⟨gx, 1, none⟩ (.int .i64 y)) from (W3.out.below HB.out (fun k hk => hk.1)).trans (hB8.mono (Nat.le_trans hwr W3.out.size)))
            have NX := Aside0.mk (show gx ≠ gs ∧ gx ≠ gl from ⟨by omega, by omega⟩)
            have MID := Aside0.mk (show Mid w v gs gl gx x' s last ((a : Int), y) ((w4.setCell ⟨gx, 0, none⟩ (.int .i64 (a : Int))).setCell ⟨gx, 1, none⟩ (.int .i64 y)) from ⟨M8.out, S8.out, L8.out, X8.out, B8.out⟩)
            clear s0 s1 t0 t1 hB8 e8 hgx hgs hgl hwr HX4 HB4 HG4 W3 M3 HM HS HLA HB
            clear S8 L8 M8 X8 B8
            generalize ((w4.setCell ⟨gx, 0, none⟩ (.int .i64 (a : Int))).setCell ⟨gx, 1, none⟩ (.int .i64 y)) = w8 at MID ⊢
            obtain ⟨ad, hA, hcell⟩ := HCA.out MID.out.2.2.2.2
            subst hA
            have ha100 : a < 100 := by have := HL.out; omega
            obtain ⟨⟨c0, c1⟩, _, c2, _, _, _⟩ := MID.out.cells a ha100
            rw [HSA.out] at c2
            obtain ⟨li, lk⟩ := last
            have d1 : decide ((l.length : Int) ≤ (a : Int)) = false := decide_eq_false (by omega)
            have d2 : decide (l.length ≤ a) = false := decide_eq_false (by omega)
            have d3 : (y != y) = false := by simp
            have d4 : (0 ≤ (a : Int) ∧ (a : Int) < 100) := by omega
            go_quiet (fail)
            obtain ⟨w9, hw9⟩ : ∃ w9 : World, w9 = w8.drewN nq := ⟨_, rfl⟩
            rw [← hw9]
            have MID9 := Aside0.mk (show Mid w v gs gl gx x' s (li, lk) ((a : Int), y) w9 from by rw [hw9]; exact MID.out.drewN nq)
            clear hw9 MID c0 c1 c2 hcell d1 d2 d3
            obtain ⟨⟨c0, c1⟩, ⟨c2, c3⟩, c4, c5, c6, c7⟩ := MID9.out.cells a ha100
            have HW9 := Aside0.mk hah
            clear hah
            rcases Nat.eq_zero_or_pos q with hq0 | hq0
            · have e1 : decide (0 < q) = false := decide_eq_false (by omega)
              have e2 : decide ((0 : Int) < (q : Int)) = false := decide_eq_false (by omega)
              clear hq0
              obtain ⟨x1, x2⟩ := NX.out
              have x3 := x1.symm
              have x4 := x2.symm
              have x5 := HNE.out
              have x6 := x5.symm
              go_wp2
              go_roundw
              case rel =>
                obtain ⟨k1, k2, k3, k4⟩ := MID9.out.next HNE.out HLO.out.1 HLO.out.2 HSL.out ha100 (a : Int) y
                exact ⟨q + 1, x', P ++ [((a : Int), y)], s.set a true, ((a : Int), y), by rw [List.length_append, HQ.out]; rfl, by omega, by go_num, RN.out, k1, k2, k3, k4⟩
              case measure => simp [intOf]; omega
            · have e1 : decide (0 < q) = true := decide_eq_true hq0
              have e2 : decide ((0 : Int) < (q : Int)) = true := decide_eq_true (by omega)
              have hlt0 := HW9.out hq0
              clear hq0
              by_cases hyk : y = lk
              · have e3 : (y == lk) = true := beq_iff_eq.mpr hyk
                have e4 : (y != lk) = false := by rw [bne, e3]; rfl
                have e5 : decide ((a : Int) < li) = false := by rw [lt, if_pos hyk] at hlt0; exact hlt0
                clear hyk hlt0
                obtain ⟨x1, x2⟩ := NX.out
                have x3 := x1.symm
                have x4 := x2.symm
                have x5 := HNE.out
                have x6 := x5.symm
                go_wp2
                go_roundw
                case rel =>
                  obtain ⟨k1, k2, k3, k4⟩ := MID9.out.next HNE.out HLO.out.1 HLO.out.2 HSL.out ha100 (a : Int) y
                  exact ⟨q + 1, x', P ++ [((a : Int), y)], s.set a true, ((a : Int), y), by rw [List.length_append, HQ.out]; rfl, by omega, by go_num, RN.out, k1, k2, k3, k4⟩
                case measure => simp [intOf]; omega
              · have e3 : (y == lk) = false := beq_eq_false_iff_ne.mpr hyk
                have e4 : (y != lk) = true := by rw [bne, e3]; rfl
                have e5 : decide (y < lk) = great := by rw [lt, if_neg hyk] at hlt0; revert hlt0; cases decide (y < lk) <;> cases great <;> decide
                have e6 : (great != great) = false := by cases great <;> rfl
                clear hyk hlt0
                obtain ⟨x1, x2⟩ := NX.out
                have x3 := x1.symm
                have x4 := x2.symm
                have x5 := HNE.out
                have x6 := x5.symm
                go_wp2
                go_roundw
                case rel =>
                  obtain ⟨k1, k2, k3, k4⟩ := MID9.out.next HNE.out HLO.out.1 HLO.out.2 HSL.out ha100 (a : Int) y
                  exact ⟨q + 1, x', P ++ [((a : Int), y)], s.set a true, ((a : Int), y), by rw [List.length_append, HQ.out]; rfl, by omega, by go_num, RN.out, k1, k2, k3, k4⟩
                case measure => simp [intOf]; omega
          · have hqe : q = l.length := by omega
            have HN0 := Aside0.mk (show x.l.length = 0 from by have := hR.left; omega)
            clear hlt hPl hR HS HLA HQ hq
            go_wp2_with (first | (go_at_call 13; (with_reducible refine (len_calls HM.out).mono ?_); rintro e w3 ⟨rfl, rfl⟩; rw [HN0.out]))
            go_ret
            exact ⟨rfl, HB.out⟩
  · have hd : decide (100 < l.length) = true := decide_eq_true (by omega)
    go_enter Try.func4, Try.ntmps4
    go_wp2_with (first | (go_at_call 8; (with_reducible refine (awake_calls _).mono ?_); rintro e w1 ⟨rfl, hb1⟩; have HB1 := Aside0.mk hb1; clear hb1))
    go_ret
    exact ⟨rfl, HB1.out⟩
end Go.Proofs.Ytkpjijbkiambiaa.Heap
