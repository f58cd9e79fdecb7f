/- SemPlays: any calls: who holds it, who waits, in which order, is as the document says (the walk; no condition). -/
import Derived.Test.YtnfpgdcnihbokaaBoth
namespace Go.Proofs.Ytnfpgdcnihbokaa.Sem
open Go.RowKit Go.Proofs.YtnfpgdcnihbokaaW.PrintWords Go.Proofs.YtnfpgdcnihbokaaW.PrintLast Go.Proofs.YtnfpgdcnihbokaaW.PrintMore Go.Proofs.Ytnfpgdcnihbokaa.St Go.Proofs.Ytnfpgdcnihbokaa.Q Go.Proofs.Ytnfpgdcnihbokaa.Fifo
set_option linter.unusedVariables false
set_option linter.unusedSimpArgs false
attribute [local go_sem] max2_int min2_int max_two min_two max_three min_three max_four min_four

/-- The document's own, its block and its row named. -/
def rat (g : Nat) (rv : Value) : St (Int × Bool × List Int) where
  M := fun w b ok x v => v = .pointer (some ⟨g, 0, none⟩) ∧ RAt w b ok x g rv
  mono := fun h ⟨e, h1, h2, h3, h4, h5⟩ => ⟨e, h _ h1, h2, h3, h4, (crow .i64).mono (fun k hk => ⟨h k hk.1, hk.2⟩) h5⟩
  move := fun h ⟨e, h1, h2, h3, h4, h5⟩ => ⟨e, h1, h2, blk_lt ((h g h1).trans h4), (h g h1).trans h4, (crow .i64).move (fun k hk => h k hk.1) h5⟩
  bound := fun ⟨e, h1, h2, h3, h4, h5⟩ => ⟨e, ⟨h1, h2, h3⟩, h2, h3, h4, (crow .i64).mono (fun k hk => ⟨⟨hk.1.1, hk.2.1, hk.2.2⟩, hk.1.2⟩) ((crow .i64).bound h5)⟩
theorem rsem_rat {w : World} {b : Nat} {ok : Nat → Prop} {x : Int × Bool × List Int} {g : Nat} (h : rsem.M w b ok x (.pointer (some ⟨g, 0, none⟩))) : ∃ A k, (rat g (.slice A x.2.2.length k)).M w b ok x (.pointer (some ⟨g, 0, none⟩)) := by
  obtain ⟨g2, rv, e, hA⟩ := h
  injection e with e
  injection e with e
  injection e with e
  subst e
  obtain ⟨A, k, e2, _, _⟩ := crow_reads hA.2.2.2.2
  subst e2
  exact ⟨A, k, rfl, hA⟩
theorem rat_cells {w : World} {b : Nat} {ok : Nat → Prop} {h : Int} {d : Bool} {q : List Int} {g : Nat} {rv : Value} (H : (rat g rv).M w b ok (h, d, q) (.pointer (some ⟨g, 0, none⟩))) :
    w.cell? ⟨g, 1, none⟩ = some (.int .i64 h) ∧ w.cell? ⟨g, 2, none⟩ = some rv ∧ w.cell? ⟨g, 3, none⟩ = some (.bool d) :=
  ⟨blk_cell H.2.2.2.2.1 1, blk_cell H.2.2.2.2.1 2, blk_cell H.2.2.2.2.1 3⟩
theorem seml {w : World} {b : Nat} {ok : Nat → Prop} {m h : Int} {d : Bool} {q : List Int} {v : Value} (H : sem.M w b ok (m, h, d, q) v) : q.length ≤ 63 := by
  obtain ⟨g, pv, _, hA⟩ := H
  have := (fifo_len hA.fif).1
  omega
/-- The document's own, made anew. -/
theorem rnew {w0 W W1 : World} (c : Nat → Nat) (i : Nat) {g : Nat} (hg : W.heap.size ≤ g) (hX : W1.heap[g]? = some (.cells #[.int .i64 7, .int .i64 (-1), .slice none 0 0, .bool false] 40 (0, 0))) (hb : Below W.heap.size W W1) (hs : w0.heap.size ≤ W.heap.size) :
    ∃ c', rsem.M W1 w0.heap.size (fun k => c' k = i) (-1, false, []) (.pointer (some ⟨g, 0, none⟩)) ∧ Turned c c' i w0 W W1 :=
  turned_new (s := rsem) ⟨g, _, rfl, hg, hg, blk_lt hX, hX, crow_nil _ _ _ _⟩ hb hs (fun ⟨g2, rv, e, h1, h2, h3, h4, h5⟩ => ⟨g2, rv, e, h1, Nat.le_trans hs h2, h3, h4, by
    obtain ⟨A, c, k1, k2, k3, k4⟩ := h5
    exact ⟨A, c, k1, k2, k3, fun a ha => ⟨(k4 a ha).1, Nat.le_trans hs (k4 a ha).2.1, (k4 a ha).2.2⟩⟩⟩)
/-- Its flag is set. -/
theorem rflag {w0 W : World} {c : Nat → Nat} {i : Nat} {h : Int} {d : Bool} {q : List Int} {g : Nat} (hM : rsem.M W w0.heap.size (fun k => c k = i) (h, d, q) (.pointer (some ⟨g, 0, none⟩))) (d' : Bool) :
    ∃ c', rsem.M (W.setCell ⟨g, 3, none⟩ (.bool d')) w0.heap.size (fun k => c' k = i) (h, d', q) (.pointer (some ⟨g, 0, none⟩)) ∧ Turned c c' i w0 W (W.setCell ⟨g, 3, none⟩ (.bool d')) := by
  obtain ⟨A, k, e, hA⟩ := rsem_rat (St.mine (s := rsem) hM)
  exact turned (s := rsem) (rsem.mono (fun k hk => Or.inl hk) (hA.set3 d').toM) ((Wrote.refl W _).setCell (Or.inl hA.1) _) (rsem_size hM)
def RelP (w : World) (m g : Nat) (vs i : Value) (wr : World) : Prop :=
  ∃ (j : Nat) (c : Nat → Nat) (h : Int) (d : Bool) (q : List Int), j ≤ m ∧ i = .int .i64 (j : Int) ∧ Inv h d q ∧ sem.M wr w.heap.size (fun k => c k = 0) (7, h, d, q) vs ∧ rsem.M wr w.heap.size (fun k => c k = 1) (h, d, q) (.pointer (some ⟨g, 0, none⟩)) ∧ Below w.heap.size w wr
def CutP (w : World) (g : Nat) (vs : Value) (wr : World) : Prop :=
  ∃ (c : Nat → Nat) (h : Int) (d : Bool) (q : List Int), Inv h d q ∧ sem.M wr w.heap.size (fun k => c k = 0) (7, h, d, q) vs ∧ rsem.M wr w.heap.size (fun k => c k = 1) (h, d, q) (.pointer (some ⟨g, 0, none⟩)) ∧ Below w.heap.size w wr
set_option maxHeartbeats 4000000 in
set_option maxRecDepth 100000 in
theorem plays_walk (A : Option Addr) (cap : Nat) (l : List (Int × Int)) {good : Int × Int → Prop} {w : World} (hr : (Kd.pair (Kd.int .i64) (Kd.int .i64)).C w A l.length l) (hc : l.length ≤ cap) (hg : ∀ a ∈ l, good a) (_ : World) :
    Calls Try.prog 5 #[.slice A l.length cap] w fun e w' => e = .returned (.bool true) ∧ Below w.heap.size w w' := by
  have HC := Aside0.mk hr
  clear hr hg
  by_cases hl : l.length ≤ 150
  · have d1 : decide (150 < l.length) = false := decide_eq_false (by omega)
    go_enter Try.func5, Try.ntmps5
    go_wp2_with (first | (go_at_call 7; (with_reducible refine (awake_calls _).mono ?_); rintro e w1 ⟨rfl, hb1⟩; have HB1 := Aside0.mk hb1; clear hb1) | (go_at_call 8; (with_reducible refine (newC (w0 := w) (fun _ => 9) 0 7 (by decide) (by decide) HB1.out).mono ?_); rintro e w2 ⟨g2, rfl, c2, h2, t2⟩; have H2 := Aside0.mk h2; have HB2 := Aside0.mk (t2.far HB1.out); clear h2 t2) | ((with_reducible refine gate_dst (N := 34) rfl ?_); refine box_event ?hg (N := 34) ?hd (cs := #[.int .i64 7, .int .i64 (-1), .slice none 0 0, .bool false]) (t := 40) ?hr ?_; (case hd => rfl); (case hg => rfl); (case hr => first | (go_simp; done) | (go_simp; rfl)); intro gw hgw w3 hx3 hb3; have HX3 := Aside0.mk hx3; have HB3 := Aside0.mk hb3; have HG3 := Aside0.mk hgw; have s0 := blk_cell hx3 0; have s1 := blk_cell hx3 1; have t0 := blk_frozen hx3 0; have t1 := blk_frozen hx3 1; clear hx3 hb3 hgw))
    obtain ⟨c4, h4, t4⟩ := rnew (w0 := w) c2 1 (Nat.le_of_eq HG3.out.symm) HX3.out HB3.out HB2.out.size
    have H2 := Aside0.mk (t4.keep _ sem 0 _ _ (by decide) H2.out)
    have H4 := Aside0.mk h4
    have HB4 := Aside0.mk (t4.far HB2.out)
    clear h4 t4 HG3 HX3 HB3 s0 s1 t0 t1
    generalize hvs : (Value.pointer (some ⟨g2, 0, none⟩)) = vs at H2 ⊢
    go_loopw [6] (fun i wr => RelP w l.length gw vs i wr) (fun i _ => l.length - (intOf i).toNat)
    case atStart => exact ⟨0, c4, -1, false, [], Nat.zero_le _, rfl, ⟨by decide, by simp, by simp, fun x hx => (by cases hx), fun _ => rfl, fun hx => (by cases hx)⟩, H2.out, H4.out, HB4.out⟩
    case round =>
      obtain ⟨j, c, h, d, q, hj, rfl, hI, hS, hR, hB⟩ := hrel
      have HS := Aside0.mk hS
      have HR := Aside0.mk hR
      have HB := Aside0.mk hB
      have HI := Aside0.mk hI
      have HL := Aside0.mk (seml hS)
      clear hS hB hI hR H2 H4 HB1 HB2 HB4
      by_cases hlt : j < l.length
      · obtain ⟨ad, hA, hcell, hcell2⟩ := read_pair (Kd.C_below HC.out HB.out) hlt
        subst hA
        have HXC := Aside0.mk (show ∀ w' : World, Below w.heap.size w w' → w'.cell? (ad.add (j * 2)) = some (.int .i64 (l.getD j (0, 0)).1) from fun w' hb => by obtain ⟨ad', h1, h2, _⟩ := read_pair (Kd.C_below HC.out hb) hlt; cases h1; exact h2)
        generalize l.getD j (0, 0) = x at hcell hcell2 HXC
        obtain ⟨xo, id⟩ := x
        go_upto_block 2 with fail
        go_cut [50] (fun _ wc => CutP w gw vs wc)
        case first =>
          as_aux_lemma =>
          by_cases o0 : xo = 0
          · have q0 : (xo == 0) = true := beq_iff_eq.mpr o0
            clear o0
            obtain ⟨r, e, h', d', q', hI', hS, hR⟩ := ask_both id HI.out HL.out
            unfold SC at hS
            unfold RC at hR
            have n1 : (r != r) = false := by simp
            have n2 : (e != e) = false := by simp
            go_wp2_with (first | (go_at_call 9; (with_reducible refine (hS w wr c vs HS.out).mono ?_); rintro e w4 ⟨rfl, c4, h4, t4⟩; have HS4 := Aside0.mk h4; have HR4 := Aside0.mk (t4.keep _ rsem 1 _ _ (by decide) HR.out); have HB4 := Aside0.mk (t4.far HB.out); clear h4 t4) | (go_at_call 16; (with_reducible refine (hR w w4 c4 _ HR4.out).mono ?_); rintro e w5 ⟨rfl, c5, h5, t5⟩; have HR5 := Aside0.mk h5; have HS5 := Aside0.mk (t5.keep _ sem 0 _ _ (by decide) HS4.out); have HB5 := Aside0.mk (t5.far HB4.out); clear h5 t5))
            go_meet
            exact ⟨c5, h', d', q', hI', HS5.out, HR5.out, HB5.out⟩
          have q0 : (xo == 0) = false := beq_eq_false_iff_ne.mpr o0
          clear o0
          by_cases o1 : xo = 1
          · have q1 : (xo == 1) = true := beq_iff_eq.mpr o1
            clear o1
            obtain ⟨r, e, h', d', q', hI', hS, hR⟩ := free_both id HI.out
            unfold SC at hS
            unfold RC at hR
            have n1 : (r != r) = false := by simp
            have n2 : (e != e) = false := by simp
            go_wp2_with (first | (go_at_call 13; (with_reducible refine (hS w wr c vs HS.out).mono ?_); rintro e w4 ⟨rfl, c4, h4, t4⟩; have HS4 := Aside0.mk h4; have HR4 := Aside0.mk (t4.keep _ rsem 1 _ _ (by decide) HR.out); have HB4 := Aside0.mk (t4.far HB.out); clear h4 t4) | (go_at_call 17; (with_reducible refine (hR w w4 c4 _ HR4.out).mono ?_); rintro e w5 ⟨rfl, c5, h5, t5⟩; have HR5 := Aside0.mk h5; have HS5 := Aside0.mk (t5.keep _ sem 0 _ _ (by decide) HS4.out); have HB5 := Aside0.mk (t5.far HB4.out); clear h5 t5))
            go_meet
            exact ⟨c5, h', d', q', hI', HS5.out, HR5.out, HB5.out⟩
          have q1 : (xo == 1) = false := beq_eq_false_iff_ne.mpr o1
          clear o1
          obtain ⟨r, e, h', d', dd, q', hI', hS, hR, hcase⟩ := throw_both id HI.out
          unfold SC at hS
          unfold RC at hR
          have n1 : (r != r) = false := by simp
          have n2 : (e != e) = false := by simp
          rcases hcase with ⟨rfl, hn, rfl, rfl⟩ | ⟨rfl, hn, rfl, rfl⟩ | ⟨he, rfl, rfl⟩
          · have n3 : decide (r < 0) = true := decide_eq_true hn
            have n4 : decide (0 ≤ r) = false := decide_eq_false (by omega)
            clear hn
            go_wp2_with (first | (go_at_call 12; (with_reducible refine (hS w wr c vs HS.out).mono ?_); rintro e w4 ⟨rfl, c4, h4, t4⟩; have HS4 := Aside0.mk h4; have HR4 := Aside0.mk (t4.keep _ rsem 1 _ _ (by decide) HR.out); have HB4 := Aside0.mk (t4.far HB.out); clear h4 t4) | (go_at_call 17; (with_reducible refine (hR w w4 c4 _ HR4.out).mono ?_); rintro e w5 ⟨rfl, c5, h5, t5⟩; have HR5 := Aside0.mk h5; have HS5 := Aside0.mk (t5.keep _ sem 0 _ _ (by decide) HS4.out); have HB5 := Aside0.mk (t5.far HB4.out); clear h5 t5; obtain ⟨c6, h6, t6⟩ := rflag HR5.out true; have HR6 := Aside0.mk h6; have HS6 := Aside0.mk (t6.keep _ sem 0 _ _ (by decide) HS5.out); have HB6 := Aside0.mk (t6.far HB5.out); clear h6 t6; obtain ⟨Aq, kq, hR7⟩ := rsem_rat HR5.out; have s3 := blk_cell hR7.2.2.2.2.1 3; have f3 := blk_frozen hR7.2.2.2.2.1 3; clear hR7))
            go_meet
            exact ⟨c6, h', true, q', hI', HS6.out, HR6.out, HB6.out⟩
          · have n3 : decide (r < 0) = false := decide_eq_false hn
            have n4 : decide (0 ≤ r) = true := decide_eq_true (by omega)
            clear hn
            go_wp2_with (first | (go_at_call 12; (with_reducible refine (hS w wr c vs HS.out).mono ?_); rintro e w4 ⟨rfl, c4, h4, t4⟩; have HS4 := Aside0.mk h4; have HR4 := Aside0.mk (t4.keep _ rsem 1 _ _ (by decide) HR.out); have HB4 := Aside0.mk (t4.far HB.out); clear h4 t4) | (go_at_call 17; (with_reducible refine (hR w w4 c4 _ HR4.out).mono ?_); rintro e w5 ⟨rfl, c5, h5, t5⟩; have HR5 := Aside0.mk h5; have HS5 := Aside0.mk (t5.keep _ sem 0 _ _ (by decide) HS4.out); have HB5 := Aside0.mk (t5.far HB4.out); clear h5 t5))
            go_meet
            exact ⟨c5, h', _, q', hI', HS5.out, HR5.out, HB5.out⟩
          · have n3 : (e == 0) = false := beq_eq_false_iff_ne.mpr he
            clear he
            go_wp2_with (first | (go_at_call 12; (with_reducible refine (hS w wr c vs HS.out).mono ?_); rintro e w4 ⟨rfl, c4, h4, t4⟩; have HS4 := Aside0.mk h4; have HR4 := Aside0.mk (t4.keep _ rsem 1 _ _ (by decide) HR.out); have HB4 := Aside0.mk (t4.far HB.out); clear h4 t4) | (go_at_call 17; (with_reducible refine (hR w w4 c4 _ HR4.out).mono ?_); rintro e w5 ⟨rfl, c5, h5, t5⟩; have HR5 := Aside0.mk h5; have HS5 := Aside0.mk (t5.keep _ sem 0 _ _ (by decide) HS4.out); have HB5 := Aside0.mk (t5.far HB4.out); clear h5 t5))
            go_meet
            exact ⟨c5, h', _, q', hI', HS5.out, HR5.out, HB5.out⟩
        case rest =>
          as_aux_lemma =>
          obtain ⟨c, h', d', q', hI, hS, hR, hB⟩ := hcut
          obtain ⟨Aq, kq, hR⟩ := rsem_rat hR
          have HL' := Aside0.mk (seml hS)
          have HS' := Aside0.mk hS
          have HR' := Aside0.mk hR
          have HB' := Aside0.mk hB
          have HI' := Aside0.mk hI
          have HAC := Aside0.mk (crow_C hR.2.2.2.2.2)
          have HAL := Aside0.mk (crow_le hR.2.2.2.2.2)
          obtain ⟨r1, r2, r3⟩ := rat_cells hR
          have hq63 : q'.length ≤ 63 := HL'.out
          clear hI hS hR hB HS HR HB HI HL hcell hcell2 HXC
          go_wp2
          go_loop [22, 23] (fun a k => ∃ n : Nat, n ≤ q'.length ∧ k = .int .i64 (n : Int) ∧ a = .int .i64 (atOf q' id n)) (fun _ k => q'.length - (intOf k).toNat)
          case atStart => exact ⟨0, Nat.zero_le _, rfl, by rw [at_zero]⟩
          case round =>
            obtain ⟨n, hn, rfl, rfl⟩ := hrel
            by_cases hlt2 : n < q'.length
            · obtain ⟨a0, ha0, hc0⟩ := Mine.read_at HAC.out hlt2
              subst ha0
              by_cases hv : q'.getD n 0 = id
              · have HV := Aside0.mk (at_hit HI'.out hlt2 hv)
                rw [hv] at hc0
                clear hv
                have hxx : (id == id) = true := by simp
                go_wp2
                go_round
                case rel => exact ⟨n + 1, by omega, by go_num, by rw [HV.out]⟩
                case measure => simp [intOf] <;> omega
              · have HV := Aside0.mk (at_miss (q := q') (id := id) hlt2 hv)
                have hv2 : (q'.getD n 0 == id) = false := beq_eq_false_iff_ne.mpr hv
                generalize q'.getD n 0 = z at hc0 hv2
                clear hv
                go_wp2
                go_round
                case rel => exact ⟨n + 1, by omega, by go_num, by rw [HV.out]⟩
                case measure => simp [intOf] <;> omega
            · have hne : n = q'.length := by omega
              subst hne
              have HE := Aside0.mk (at_end HI'.out id)
              clear hn hlt2
              go_upto_region 34 with (fail)
              go_cut [168] (fun a wx => wx = wc ∧ a = .bool (decide (h' = id ∧ 0 ≤ id)))
              case first =>
                by_cases e1 : h' = id
                · have k1 : (h' == id) = true := beq_iff_eq.mpr e1
                  by_cases e2 : 0 ≤ id
                  · have k2 : decide (0 ≤ id) = true := decide_eq_true e2
                    have HD := Aside0.mk (decide_eq_true (show h' = id ∧ 0 ≤ id from ⟨e1, e2⟩))
                    clear e1 e2
                    go_wp2
                    all_goals (go_meet; exact ⟨rfl, by rw [HD.out]⟩)
                  · have k2 : decide (0 ≤ id) = false := decide_eq_false e2
                    have HD := Aside0.mk (decide_eq_false (show ¬ (h' = id ∧ 0 ≤ id) from fun hh => e2 hh.2))
                    clear e1 e2
                    go_wp2
                    all_goals (go_meet; exact ⟨rfl, by rw [HD.out]⟩)
                · have k1 : (h' == id) = false := beq_eq_false_iff_ne.mpr e1
                  have HD := Aside0.mk (decide_eq_false (show ¬ (h' = id ∧ 0 ≤ id) from fun hh => e1 hh.1))
                  clear e1
                  go_wp2
                  all_goals (go_meet; exact ⟨rfl, by rw [HD.out]⟩)
              case rest =>
              obtain ⟨rfl, rfl⟩ := hcut
              go_upto_if 168 with (fail)
              go_cut [22] (fun a wx => wx = wc ∧ a = .int .i64 (if h' = id ∧ 0 ≤ id then 0 else atOf q' id q'.length))
              case first =>
                by_cases e1 : h' = id ∧ 0 ≤ id
                · have HD := Aside0.mk e1
                  rw [decide_eq_true e1]
                  clear e1
                  go_wp2
                  go_meet
                  exact ⟨rfl, by rw [if_pos HD.out]⟩
                · have HD := Aside0.mk e1
                  rw [decide_eq_false e1]
                  clear e1
                  go_wp2
                  go_meet
                  exact ⟨rfl, by rw [if_neg HD.out]⟩
              case rest =>
                obtain ⟨rfl, rfl⟩ := hcut
                rw [HE.out]
                have HQ := Aside0.mk (show beadlelaw18_ints.f (q'.length + 1) q' q' = some true from by have := ints_f q' q' (by omega) (by omega); rwa [decide_eq_true rfl] at this)
                obtain ⟨p, hp⟩ : ∃ p, aheadOf h' q' id = p := ⟨_, rfl⟩
                have HP := Aside0.mk hp
                rw [hp]
                clear hp
                have n1 : (h' != h') = false := by simp
                have n2 : (d' != d') = false := by simp
                have n3 : (p != p) = false := by simp
                as_aux_lemma =>
                go_upto_region 36 with (fail)
                obtain ⟨w20, hw20⟩ : ∃ w20 : World, wc.drew = w20 := ⟨_, rfl⟩
                have hb20 : Below wc.heap.size wc w20 := by rw [← hw20]; exact below_drew (Below.refl _ _)
                have HS20 := Aside0.mk (St.below (s := sem) HS'.out hb20)
                have HF20 := Aside0.mk (St.below (s := rat gw (.slice Aq q'.length kq)) HR'.out hb20)
                have B20 := Aside0.mk (Below.trans HB'.out (Below.mono hb20 (Below.size HB'.out)))
                clear hb20
                refine start_ (n := 33) (S := fun w' => w'.cell? ⟨gw, 1, none⟩ = some (.int .i64 h') ∧ w'.cell? ⟨gw, 2, none⟩ = some (.slice Aq q'.length kq) ∧ w'.cell? ⟨gw, 3, none⟩ = some (.bool d')) (ds := []) #[false, false, false, false, false, false, false, false, false, false, false, false, false, false, false, false, false, false, false, false, false, false, false, false, false, false, false, false, false, false, false, false, false] (by kernel_rfl) rfl rfl (by rw [hw20]; exact rat_cells HF20.out) (fun hHeld => ?_)
                refine pure_ (i := 0) (N := some 169) (v := ?_) (a' := ?_) #[true, false, false, false, false, false, false, false, false, false, false, false, false, false, false, false, false, false, false, false, false, false, false, false, false, false, false, false, false, false, false, false, false] rfl rfl (by kernel_rfl) (fun _ _ _ h => h) (Or.inl ⟨by rfl, ?_⟩) ?_ ?_
                rotate_left
                · intro w'
                  go_simp
                  with_reducible rfl
                rotate_left
                · simp only [Act.put, List.setIfInBounds_toArray, List.set_cons_zero, List.set_cons_succ, i64_w, i32_w]
                  rfl
                refine pure_ (i := 2) (N := some 171) (v := ?_) (a' := ?_) #[true, false, true, false, false, false, false, false, false, false, false, false, false, false, false, false, false, false, false, false, false, false, false, false, false, false, false, false, false, false, false, false, false] rfl rfl (by kernel_rfl) (fun _ _ _ h => h) (Or.inl ⟨by rfl, ?_⟩) ?_ ?_
                rotate_left
                · intro w'
                  go_simp
                  with_reducible rfl
                rotate_left
                · simp only [Act.put, List.setIfInBounds_toArray, List.set_cons_zero, List.set_cons_succ, i64_w, i32_w]
                  rfl
                refine pure_ (i := 3) (N := some 172) (v := ?_) (a' := ?_) #[true, false, true, true, false, false, false, false, false, false, false, false, false, false, false, false, false, false, false, false, false, false, false, false, false, false, false, false, false, false, false, false, false] rfl rfl (by kernel_rfl) (fun _ _ _ h => h) (Or.inl ⟨by rfl, ?_⟩) ?_ ?_
                rotate_left
                · intro w'
                  go_simp
                  with_reducible rfl
                rotate_left
                · simp only [Act.put, List.setIfInBounds_toArray, List.set_cons_zero, List.set_cons_succ, i64_w, i32_w]
                  rfl
                refine pure_ (i := 4) (N := some 173) (v := ?_) (a' := ?_) #[true, false, true, true, true, false, false, false, false, false, false, false, false, false, false, false, false, false, false, false, false, false, false, false, false, false, false, false, false, false, false, false, false] rfl rfl (by kernel_rfl) (fun _ _ _ h => h) (Or.inl ⟨by rfl, ?_⟩) ?_ ?_
                rotate_left
                · intro w'
                  go_simp
                  with_reducible rfl
                rotate_left
                · simp only [Act.put, List.setIfInBounds_toArray, List.set_cons_zero, List.set_cons_succ, i64_w, i32_w]
                  rfl
                refine take_ (i := 5) (N := some 174) (v := ?_) (a' := ?_) #[true, false, true, true, true, true, false, false, false, false, false, false, false, false, false, false, false, false, false, false, false, false, false, false, false, false, false, false, false, false, false, false, false] rfl rfl (by kernel_rfl) (fun _ _ _ h => h) (Or.inl ⟨by rfl, ?_⟩) hHeld ?_ ?_
                rotate_left
                · intro w' hS_
                  obtain ⟨s0_, s1_, s2_⟩ := hS_
                  go_simp
                  with_reducible rfl
                rotate_left
                · simp only [Act.put, List.setIfInBounds_toArray, List.set_cons_zero, List.set_cons_succ, i64_w, i32_w]
                  rfl
                refine one_ (i := 1) (N := some 170) #[true, true, true, true, true, true, false, false, false, false, false, false, false, false, false, false, false, false, false, false, false, false, false, false, false, false, false, false, false, false, false, false, false] rfl rfl (by kernel_rfl) (by decide) (fun K hK => ?_)
                refine goes_ Try.func10 (by kernel_rfl) rfl #[vs] ?hw rfl rfl ?hx ?_
                (case hw => rfl)
                (case hx => (try simp only [List.map_toArray, List.map_cons, List.map_nil]); first | done | rfl)
                rw [hw20]
                refine (holder_calls HS20.out).mono ?_
                rintro e wz ⟨rfl, rfl⟩
                refine ⟨_, rfl, ?_⟩
                have hHeld := rat_cells HF20.out
                refine hK.out _ _ hHeld (fun hHeld => ?_)
                clear hK K
                refine norm_ (a' := ?_) ?_ ?_
                rotate_left
                · show Act.put _ (some 170) _ = _
                  simp only [Act.put, List.setIfInBounds_toArray, List.set_cons_zero, List.set_cons_succ, i64_w, i32_w]
                  rfl
                refine pure_ (i := 6) (N := some 175) (v := ?_) (a' := ?_) #[true, true, true, true, true, true, true, false, false, false, false, false, false, false, false, false, false, false, false, false, false, false, false, false, false, false, false, false, false, false, false, false, false] rfl rfl (by kernel_rfl) (fun _ _ _ h => h) (Or.inl ⟨by rfl, ?_⟩) ?_ ?_
                rotate_left
                · intro w'
                  go_simp
                  with_reducible rfl
                rotate_left
                · simp only [Act.put, List.setIfInBounds_toArray, List.set_cons_zero, List.set_cons_succ, i64_w, i32_w]
                  rfl
                refine pure_ (i := 7) (N := some 176) (v := ?_) (a' := ?_) #[true, true, true, true, true, true, true, true, false, false, false, false, false, false, false, false, false, false, false, false, false, false, false, false, false, false, false, false, false, false, false, false, false] rfl rfl (by kernel_rfl) (fun _ _ _ h => h) (Or.inl ⟨by rfl, ?_⟩) ?_ ?_
                rotate_left
                · intro w'
                  go_simp
                  with_reducible rfl
                rotate_left
                · simp only [Act.put, List.setIfInBounds_toArray, List.set_cons_zero, List.set_cons_succ, i64_w, i32_w]
                  rfl
                refine pure_ (i := 8) (N := some 177) (v := ?_) (a' := ?_) #[true, true, true, true, true, true, true, true, true, false, false, false, false, false, false, false, false, false, false, false, false, false, false, false, false, false, false, false, false, false, false, false, false] rfl rfl (by kernel_rfl) (fun _ _ _ h => h) (Or.inl ⟨wanted_on rfl rfl rfl rfl, ?_⟩) ?_ ?_
                rotate_left
                · intro w'
                  go_simp
                  with_reducible rfl
                rotate_left
                · simp only [Act.put, List.setIfInBounds_toArray, List.set_cons_zero, List.set_cons_succ, i64_w, i32_w]
                  rfl
                refine pure_ (i := 10) (N := some 179) (v := ?_) (a' := ?_) #[true, true, true, true, true, true, true, true, true, false, true, false, false, false, false, false, false, false, false, false, false, false, false, false, false, false, false, false, false, false, false, false, false] rfl rfl (by kernel_rfl) (fun _ _ _ h => h) (Or.inl ⟨wanted_on rfl rfl rfl rfl, ?_⟩) ?_ ?_
                rotate_left
                · intro w'
                  go_simp
                  with_reducible rfl
                rotate_left
                · simp only [Act.put, List.setIfInBounds_toArray, List.set_cons_zero, List.set_cons_succ, i64_w, i32_w]
                  rfl
                refine pure_ (i := 11) (N := some 180) (v := ?_) (a' := ?_) #[true, true, true, true, true, true, true, true, true, false, true, true, false, false, false, false, false, false, false, false, false, false, false, false, false, false, false, false, false, false, false, false, false] rfl rfl (by kernel_rfl) (fun _ _ _ h => h) (Or.inl ⟨wanted_on rfl rfl rfl rfl, ?_⟩) ?_ ?_
                rotate_left
                · intro w'
                  go_simp
                  with_reducible rfl
                rotate_left
                · simp only [Act.put, List.setIfInBounds_toArray, List.set_cons_zero, List.set_cons_succ, i64_w, i32_w]
                  rfl
                refine pure_ (i := 12) (N := some 181) (v := ?_) (a' := ?_) #[true, true, true, true, true, true, true, true, true, false, true, true, true, false, false, false, false, false, false, false, false, false, false, false, false, false, false, false, false, false, false, false, false] rfl rfl (by kernel_rfl) (fun _ _ _ h => h) (Or.inl ⟨wanted_on rfl rfl rfl rfl, ?_⟩) ?_ ?_
                rotate_left
                · intro w'
                  go_simp
                  with_reducible rfl
                rotate_left
                · simp only [Act.put, List.setIfInBounds_toArray, List.set_cons_zero, List.set_cons_succ, i64_w, i32_w]
                  rfl
                refine take_ (i := 13) (N := some 182) (v := ?_) (a' := ?_) #[true, true, true, true, true, true, true, true, true, false, true, true, true, true, false, false, false, false, false, false, false, false, false, false, false, false, false, false, false, false, false, false, false] rfl rfl (by kernel_rfl) (fun _ _ _ h => h) (Or.inl ⟨wanted_on rfl rfl rfl rfl, ?_⟩) hHeld ?_ ?_
                rotate_left
                · intro w' hS_
                  obtain ⟨s0_, s1_, s2_⟩ := hS_
                  go_simp
                  with_reducible rfl
                rotate_left
                · simp only [Act.put, List.setIfInBounds_toArray, List.set_cons_zero, List.set_cons_succ, i64_w, i32_w]
                  rfl
                refine one_ (i := 9) (N := some 178) #[true, true, true, true, true, true, true, true, true, true, true, true, true, true, false, false, false, false, false, false, false, false, false, false, false, false, false, false, false, false, false, false, false] rfl rfl (by kernel_rfl) (by decide) (fun K hK => ?_)
                refine goes_ Try.func14 (by kernel_rfl) rfl #[vs] ?hw rfl rfl ?hx ?_
                (case hw => exact wanted_on rfl rfl rfl rfl)
                (case hx => (try simp only [List.map_toArray, List.map_cons, List.map_nil]); first | done | rfl)
                refine (waits_calls HS20.out).mono ?_
                rintro e w21 ⟨v21, rfl, hR21, hb21⟩
                obtain ⟨A21, k21, rfl⟩ := Kd.R_slice hR21
                have HS21 := Aside0.mk (St.below (s := sem) HS20.out hb21)
                have HF21 := Aside0.mk (St.below (s := rat gw (.slice Aq q'.length kq)) HF20.out hb21)
                have B21 := Aside0.mk (Below.trans B20.out (Below.mono hb21 (Below.size B20.out)))
                have HW21 := Aside0.mk (Kd.R_reads' hR21)
                clear hR21 hb21
                refine ⟨_, rfl, ?_⟩
                have hHeld := rat_cells HF21.out
                refine hK.out _ _ hHeld (fun hHeld => ?_)
                clear hK K
                refine norm_ (a' := ?_) ?_ ?_
                rotate_left
                · show Act.put _ (some 178) _ = _
                  simp only [Act.put, List.setIfInBounds_toArray, List.set_cons_zero, List.set_cons_succ, i64_w, i32_w]
                  rfl
                refine one_ (i := 14) (N := some 183) #[true, true, true, true, true, true, true, true, true, true, true, true, true, true, true, false, false, false, false, false, false, false, false, false, false, false, false, false, false, false, false, false, false] rfl rfl (by kernel_rfl) (by decide) (fun K hK => ?_)
                refine goes_ Try.func18 (by kernel_rfl) rfl #[.slice A21 q'.length k21, .slice Aq q'.length kq] ?hw rfl rfl ?hx ?_
                (case hw => exact wanted_on rfl rfl rfl rfl)
                (case hx => (try simp only [List.map_toArray, List.map_cons, List.map_nil]); first | done | rfl)
                refine (beadlelaw18_ints.calls (q'.length + 1) A21 k21 q' Aq kq q' true _ HW21.out.2.2 HW21.out.2.1 (crow_C HF21.out.2.2.2.2.2) HAL.out HQ.out).mono ?_
                rintro e w22 ⟨rfl, ⟨nd22, hw22⟩⟩
                have HS22 := Aside0.mk (St.drewN (s := sem) HS21.out nd22)
                have HF22 := Aside0.mk (St.drewN (s := rat gw (.slice Aq q'.length kq)) HF21.out nd22)
                have B22 := Aside0.mk (pw_below_drewN B21.out nd22)
                rw [← hw22] at HS22 HF22 B22
                clear hw22
                refine ⟨_, rfl, ?_⟩
                have hHeld := rat_cells HF22.out
                refine hK.out _ _ hHeld (fun hHeld => ?_)
                clear hK K
                refine norm_ (a' := ?_) ?_ ?_
                rotate_left
                · show Act.put _ (some 183) _ = _
                  simp only [Act.put, List.setIfInBounds_toArray, List.set_cons_zero, List.set_cons_succ, i64_w, i32_w]
                  rfl
                refine pure_ (i := 15) (N := some 184) (v := ?_) (a' := ?_) #[true, true, true, true, true, true, true, true, true, true, true, true, true, true, true, true, false, false, false, false, false, false, false, false, false, false, false, false, false, false, false, false, false] rfl rfl (by kernel_rfl) (fun _ _ _ h => h) (Or.inl ⟨wanted_on rfl rfl rfl rfl, ?_⟩) ?_ ?_
                rotate_left
                · intro w'
                  go_simp
                  with_reducible rfl
                rotate_left
                · simp only [Act.put, List.setIfInBounds_toArray, List.set_cons_zero, List.set_cons_succ, i64_w, i32_w]
                  rfl
                refine pure_ (i := 16) (N := some 185) (v := ?_) (a' := ?_) #[true, true, true, true, true, true, true, true, true, true, true, true, true, true, true, true, true, false, false, false, false, false, false, false, false, false, false, false, false, false, false, false, false] rfl rfl (by kernel_rfl) (fun _ _ _ h => h) (Or.inl ⟨by rfl, ?_⟩) ?_ ?_
                rotate_left
                · intro w'
                  go_simp
                  with_reducible rfl
                rotate_left
                · simp only [Act.put, List.setIfInBounds_toArray, List.set_cons_zero, List.set_cons_succ, i64_w, i32_w]
                  rfl
                refine pure_ (i := 17) (N := some 186) (v := ?_) (a' := ?_) #[true, true, true, true, true, true, true, true, true, true, true, true, true, true, true, true, true, true, false, false, false, false, false, false, false, false, false, false, false, false, false, false, false] rfl rfl (by kernel_rfl) (fun _ _ _ h => h) (Or.inl ⟨by rfl, ?_⟩) ?_ ?_
                rotate_left
                · intro w'
                  go_simp
                  with_reducible rfl
                rotate_left
                · simp only [Act.put, List.setIfInBounds_toArray, List.set_cons_zero, List.set_cons_succ, i64_w, i32_w]
                  rfl
                refine pure_ (i := 18) (N := some 187) (v := ?_) (a' := ?_) #[true, true, true, true, true, true, true, true, true, true, true, true, true, true, true, true, true, true, true, false, false, false, false, false, false, false, false, false, false, false, false, false, false] rfl rfl (by kernel_rfl) (fun _ _ _ h => h) (Or.inl ⟨wanted_on rfl rfl rfl rfl, ?_⟩) ?_ ?_
                rotate_left
                · intro w'
                  go_simp
                  with_reducible rfl
                rotate_left
                · simp only [Act.put, List.setIfInBounds_toArray, List.set_cons_zero, List.set_cons_succ, i64_w, i32_w]
                  rfl
                refine pure_ (i := 20) (N := some 189) (v := ?_) (a' := ?_) #[true, true, true, true, true, true, true, true, true, true, true, true, true, true, true, true, true, true, true, false, true, false, false, false, false, false, false, false, false, false, false, false, false] rfl rfl (by kernel_rfl) (fun _ _ _ h => h) (Or.inl ⟨wanted_on rfl rfl rfl rfl, ?_⟩) ?_ ?_
                rotate_left
                · intro w'
                  go_simp
                  with_reducible rfl
                rotate_left
                · simp only [Act.put, List.setIfInBounds_toArray, List.set_cons_zero, List.set_cons_succ, i64_w, i32_w]
                  rfl
                refine pure_ (i := 21) (N := some 190) (v := ?_) (a' := ?_) #[true, true, true, true, true, true, true, true, true, true, true, true, true, true, true, true, true, true, true, false, true, true, false, false, false, false, false, false, false, false, false, false, false] rfl rfl (by kernel_rfl) (fun _ _ _ h => h) (Or.inl ⟨wanted_on rfl rfl rfl rfl, ?_⟩) ?_ ?_
                rotate_left
                · intro w'
                  go_simp
                  with_reducible rfl
                rotate_left
                · simp only [Act.put, List.setIfInBounds_toArray, List.set_cons_zero, List.set_cons_succ, i64_w, i32_w]
                  rfl
                refine pure_ (i := 22) (N := some 191) (v := ?_) (a' := ?_) #[true, true, true, true, true, true, true, true, true, true, true, true, true, true, true, true, true, true, true, false, true, true, true, false, false, false, false, false, false, false, false, false, false] rfl rfl (by kernel_rfl) (fun _ _ _ h => h) (Or.inl ⟨wanted_on rfl rfl rfl rfl, ?_⟩) ?_ ?_
                rotate_left
                · intro w'
                  go_simp
                  with_reducible rfl
                rotate_left
                · simp only [Act.put, List.setIfInBounds_toArray, List.set_cons_zero, List.set_cons_succ, i64_w, i32_w]
                  rfl
                refine take_ (i := 23) (N := some 192) (v := ?_) (a' := ?_) #[true, true, true, true, true, true, true, true, true, true, true, true, true, true, true, true, true, true, true, false, true, true, true, true, false, false, false, false, false, false, false, false, false] rfl rfl (by kernel_rfl) (fun _ _ _ h => h) (Or.inl ⟨wanted_on rfl rfl rfl rfl, ?_⟩) hHeld ?_ ?_
                rotate_left
                · intro w' hS_
                  obtain ⟨s0_, s1_, s2_⟩ := hS_
                  go_simp
                  with_reducible rfl
                rotate_left
                · simp only [Act.put, List.setIfInBounds_toArray, List.set_cons_zero, List.set_cons_succ, i64_w, i32_w]
                  rfl
                refine one_ (i := 19) (N := some 188) #[true, true, true, true, true, true, true, true, true, true, true, true, true, true, true, true, true, true, true, true, true, true, true, true, false, false, false, false, false, false, false, false, false] rfl rfl (by kernel_rfl) (by decide) (fun K hK => ?_)
                refine goes_ Try.func15 (by kernel_rfl) rfl #[vs] ?hw rfl rfl ?hx ?_
                (case hw => exact wanted_on rfl rfl rfl rfl)
                (case hx => (try simp only [List.map_toArray, List.map_cons, List.map_nil]); first | done | rfl)
                refine (dead_calls HS22.out).mono ?_
                rintro e wz ⟨rfl, rfl⟩
                refine ⟨_, rfl, ?_⟩
                have hHeld := rat_cells HF22.out
                refine hK.out _ _ hHeld (fun hHeld => ?_)
                clear hK K
                refine norm_ (a' := ?_) ?_ ?_
                rotate_left
                · show Act.put _ (some 188) _ = _
                  simp only [Act.put, List.setIfInBounds_toArray, List.set_cons_zero, List.set_cons_succ, i64_w, i32_w]
                  rfl
                refine pure_ (i := 24) (N := some 193) (v := ?_) (a' := ?_) #[true, true, true, true, true, true, true, true, true, true, true, true, true, true, true, true, true, true, true, true, true, true, true, true, true, false, false, false, false, false, false, false, false] rfl rfl (by kernel_rfl) (fun _ _ _ h => h) (Or.inl ⟨wanted_on rfl rfl rfl rfl, ?_⟩) ?_ ?_
                rotate_left
                · intro w'
                  go_simp
                  with_reducible rfl
                rotate_left
                · simp only [Act.put, List.setIfInBounds_toArray, List.set_cons_zero, List.set_cons_succ, i64_w, i32_w]
                  rfl
                refine pure_ (i := 25) (N := some 194) (v := ?_) (a' := ?_) #[true, true, true, true, true, true, true, true, true, true, true, true, true, true, true, true, true, true, true, true, true, true, true, true, true, true, false, false, false, false, false, false, false] rfl rfl (by kernel_rfl) (fun _ _ _ h => h) (Or.inl ⟨by rfl, ?_⟩) ?_ ?_
                rotate_left
                · intro w'
                  go_simp
                  with_reducible rfl
                rotate_left
                · simp only [Act.put, List.setIfInBounds_toArray, List.set_cons_zero, List.set_cons_succ, i64_w, i32_w]
                  rfl
                refine pure_ (i := 26) (N := some 195) (v := ?_) (a' := ?_) #[true, true, true, true, true, true, true, true, true, true, true, true, true, true, true, true, true, true, true, true, true, true, true, true, true, true, true, false, false, false, false, false, false] rfl rfl (by kernel_rfl) (fun _ _ _ h => h) (Or.inl ⟨by rfl, ?_⟩) ?_ ?_
                rotate_left
                · intro w'
                  go_simp
                  with_reducible rfl
                rotate_left
                · simp only [Act.put, List.setIfInBounds_toArray, List.set_cons_zero, List.set_cons_succ, i64_w, i32_w]
                  rfl
                refine pure_ (i := 27) (N := some 196) (v := ?_) (a' := ?_) #[true, true, true, true, true, true, true, true, true, true, true, true, true, true, true, true, true, true, true, true, true, true, true, true, true, true, true, true, false, false, false, false, false] rfl rfl (by kernel_rfl) (fun _ _ _ h => h) (Or.inl ⟨wanted_on rfl rfl rfl rfl, ?_⟩) ?_ ?_
                rotate_left
                · intro w'
                  go_simp
                  with_reducible rfl
                rotate_left
                · simp only [Act.put, List.setIfInBounds_toArray, List.set_cons_zero, List.set_cons_succ, i64_w, i32_w]
                  rfl
                refine pure_ (i := 28) (N := some 197) (v := ?_) (a' := ?_) #[true, true, true, true, true, true, true, true, true, true, true, true, true, true, true, true, true, true, true, true, true, true, true, true, true, true, true, true, true, false, false, false, false] rfl rfl (by kernel_rfl) (fun _ _ _ h => h) (Or.inl ⟨wanted_on rfl rfl rfl rfl, ?_⟩) ?_ ?_
                rotate_left
                · intro w'
                  go_simp
                  with_reducible rfl
                rotate_left
                · simp only [Act.put, List.setIfInBounds_toArray, List.set_cons_zero, List.set_cons_succ, i64_w, i32_w]
                  rfl
                refine pure_ (i := 30) (N := some 199) (v := ?_) (a' := ?_) #[true, true, true, true, true, true, true, true, true, true, true, true, true, true, true, true, true, true, true, true, true, true, true, true, true, true, true, true, true, false, true, false, false] rfl rfl (by kernel_rfl) (fun _ _ _ h => h) (Or.inl ⟨wanted_on rfl rfl rfl rfl, ?_⟩) ?_ ?_
                rotate_left
                · intro w'
                  go_simp
                  with_reducible rfl
                rotate_left
                · simp only [Act.put, List.setIfInBounds_toArray, List.set_cons_zero, List.set_cons_succ, i64_w, i32_w]
                  rfl
                refine one_ (i := 29) (N := some 198) #[true, true, true, true, true, true, true, true, true, true, true, true, true, true, true, true, true, true, true, true, true, true, true, true, true, true, true, true, true, true, true, false, false] rfl rfl (by kernel_rfl) (by decide) (fun K hK => ?_)
                refine goes_ Try.func11 (by kernel_rfl) rfl #[vs, .int .i64 id] ?hw rfl rfl ?hx ?_
                (case hw => exact wanted_on rfl rfl rfl rfl)
                (case hx => (try simp only [List.map_toArray, List.map_cons, List.map_nil]); first | done | rfl)
                refine (ahead_calls id HS22.out).mono ?_
                rintro e w9 ⟨rfl, nd9, hw9⟩
                rw [HP.out]
                have HS9 := Aside0.mk (St.drewN (s := sem) HS22.out nd9)
                have HF9 := Aside0.mk (St.drewN (s := rat gw (.slice Aq q'.length kq)) HF22.out nd9)
                have B9 := Aside0.mk (pw_below_drewN B22.out nd9)
                rw [← hw9] at HS9 HF9 B9
                clear hw9
                refine ⟨_, rfl, ?_⟩
                have hHeld := rat_cells HF9.out
                refine hK.out _ _ hHeld (fun hHeld => ?_)
                clear hK K
                refine norm_ (a' := ?_) ?_ ?_
                rotate_left
                · show Act.put _ (some 198) _ = _
                  simp only [Act.put, List.setIfInBounds_toArray, List.set_cons_zero, List.set_cons_succ, i64_w, i32_w]
                  rfl
                refine pure_ (i := 31) (N := some 200) (v := ?_) (a' := ?_) #[true, true, true, true, true, true, true, true, true, true, true, true, true, true, true, true, true, true, true, true, true, true, true, true, true, true, true, true, true, true, true, true, false] rfl rfl (by kernel_rfl) (fun _ _ _ h => h) (Or.inl ⟨wanted_on rfl rfl rfl rfl, ?_⟩) ?_ ?_
                rotate_left
                · intro w'
                  go_simp
                  with_reducible rfl
                rotate_left
                · simp only [Act.put, List.setIfInBounds_toArray, List.set_cons_zero, List.set_cons_succ, i64_w, i32_w]
                  rfl
                refine pure_ (i := 32) (N := some 201) (v := ?_) (a' := ?_) #[true, true, true, true, true, true, true, true, true, true, true, true, true, true, true, true, true, true, true, true, true, true, true, true, true, true, true, true, true, true, true, true, true] rfl rfl (by kernel_rfl) (fun _ _ _ h => h) (Or.inl ⟨by rfl, ?_⟩) ?_ ?_
                rotate_left
                · intro w'
                  go_simp
                  with_reducible rfl
                rotate_left
                · simp only [Act.put, List.setIfInBounds_toArray, List.set_cons_zero, List.set_cons_succ, i64_w, i32_w]
                  rfl
                refine done_ (by kernel_rfl) ?_
                go_wp2
                go_roundw
                case rel => exact ⟨j + 1, c, h', d', q', by omega, by go_num, HI'.out, HS9.out, ⟨gw, _, rfl, HF9.out.2⟩, B9.out⟩
                case measure => simp [intOf] <;> omega
      · go_wp2
        go_ret
        exact ⟨rfl, HB.out⟩
  · have d1 : decide (150 < l.length) = true := decide_eq_true (by omega)
    go_enter Try.func5, Try.ntmps5
    go_wp2_with (first | (go_at_call 7; (with_reducible refine (awake_calls _).mono ?_); rintro e w1 ⟨rfl, hb1⟩; have HB1 := Aside0.mk hb1; clear hb1))
    go_ret
    exact ⟨rfl, HB1.out⟩
end Go.Proofs.Ytnfpgdcnihbokaa.Sem
