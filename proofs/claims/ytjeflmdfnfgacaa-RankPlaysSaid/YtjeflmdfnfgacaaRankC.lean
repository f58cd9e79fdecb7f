/- Several texts in one (no law is stated here; each says its conditions). -/
import Derived.Test.YtjeflmdfnfgacaaRankSt
import Derived.StillTailTactics
import Derived.Deep.DeepCutAuto
import Derived.Test.YtjeflmdfnfgacaaQt
import Derived.Test.YtjeflmdfnfgacaaWInvWords
import Derived.Deep.CutBlock
/- Rank's methods is, At, Where, Idle, Clear, Set (no law is stated here; each says its conditions). -/
namespace Go.Proofs.Ytjeflmdfnfgacaa.Rank
open Go.RowKit Go.Proofs.YtjeflmdfnfgacaaW.PrintWords Go.Proofs.YtjeflmdfnfgacaaW.PrintLast Go.Proofs.YtjeflmdfnfgacaaW.PrintMore Go.Proofs.Ytjeflmdfnfgacaa.St Go.Proofs.Ytjeflmdfnfgacaa.Q Go.Proofs.Ytjeflmdfnfgacaa.Heap
set_option linter.unusedVariables false
set_option linter.unusedSimpArgs false
attribute [local go_sem] max2_int min2_int max_two min_two max_three min_three max_four min_four

/-- Is there such a CPU? -/
def isv (s : List (Option Ent)) (c : Int) : Bool := decide (0 ≤ c) && decide (c < (s.length : Int))
theorem isv_t {s : List (Option Ent)} {c : Int} (h : isv s c = true) : ∃ j : Nat, c = (j : Int) ∧ j < s.length := by
  simp only [isv, Bool.and_eq_true, decide_eq_true_eq] at h
  exact ⟨c.toNat, by omega, by omega⟩
theorem isv_of {s : List (Option Ent)} {j : Nat} (h : j < s.length) : isv s (j : Int) = true := by
  simp only [isv, Bool.and_eq_true, decide_eq_true_eq]
  omega
/-- Who runs on a CPU. -/
def atv (s : List (Option Ent)) (c : Int) : Ent × Bool := if isv s c = true then (match s.getD c.toNat none with | some e => (e, true) | none => (z0, false)) else (z0, false)
def entv (x : Ent) : Value := .agg #[.int .i64 x.1, .int .i64 x.2.1, .bool x.2.2]
section
variable {w : World} {b : Nat} {ok : Nat → Prop} {s : List (Option Ent)} {v : Value}
set_option maxHeartbeats 1000000 in
set_option maxRecDepth 100000 in
theorem is_calls (c : Int) (hM : rank.M w b ok s v) :
    Calls Try.prog 21 #[v, .int .i64 c] w fun e w' => e = .returned (.bool (isv s c)) ∧ w' = w := by
  obtain ⟨g, gl, cap, m, dv, rfl, hA, hI⟩ := hM
  have h0 := hA.c0
  rw [ents_len] at h0
  have HI := Aside0.mk (show isv s c = (decide (0 ≤ c) && decide (c < (s.length : Int))) from rfl)
  clear hA hI
  rw [HI.out]
  by_cases h1 : 0 ≤ c
  · have d1 : decide (0 ≤ c) = true := decide_eq_true h1
    clear h1
    go_enter Try.func21, Try.ntmps21
    go_wp2
    go_ret
    exact ⟨by rw [d1]; rfl, rfl⟩
  · have d1 : decide (0 ≤ c) = false := decide_eq_false h1
    clear h1
    go_enter Try.func21, Try.ntmps21
    go_wp2
    go_ret
    exact ⟨by rw [d1]; rfl, rfl⟩
set_option maxHeartbeats 1000000 in
set_option maxRecDepth 100000 in
theorem idle_calls (hM : rank.M w b ok s v) :
    Calls Try.prog 14 #[v] w fun e w' => (∃ m : Nat, e = .returned (.int .u64 (m : Int)) ∧ IdleIs m s) ∧ w' = w := by
  obtain ⟨g, gl, cap, m, dv, rfl, hA, hI⟩ := hM
  have h1 := hA.c1
  have HI := Aside0.mk hI
  clear hA hI
  go_enter Try.func14, Try.ntmps14
  go_wp2
  go_ret
  exact ⟨⟨m, rfl, HI.out⟩, rfl⟩
set_option maxHeartbeats 1000000 in
set_option maxRecDepth 100000 in
theorem at_bad (c : Int) (hM : rank.M w b ok s v) (hc : isv s c = false) :
    Calls Try.prog 11 #[v, .int .i64 c] w fun e w' => e = .returned (.tuple #[entv z0, .bool false]) ∧ Below w.heap.size w w' := by
  obtain ⟨g, gl, cap, m, dv, rfl, hA, hI⟩ := hM
  have HA := Aside0.mk hA
  have HM := Aside0.mk (show rank.M w b ok s (.pointer (some ⟨g, 0, none⟩)) from ⟨g, gl, cap, m, dv, rfl, hA, hI⟩)
  have HV := Aside0.mk hc
  clear hA hI hc
  go_enter Try.func11, Try.ntmps11
  go_wp2_with (first | ((with_reducible refine gate_dst (N := 4) rfl ?_); refine box_event ?hg (N := 4) ?hd (cs := #[.int .i64 0, .int .i64 0, .bool false]) (t := 29) ?hr ?_; (case hd => rfl); (case hg => rfl); (case hr => first | (go_simp; done) | (go_simp; rfl)); intro gr hgr wr hxr hbr; have HXr := Aside0.mk hxr; have HBr := Aside0.mk hbr; have HGr := Aside0.mk hgr; have r0r := blk_cell hxr 0; have r1r := blk_cell hxr 1; have r2r := blk_cell hxr 2; have q0r := blk_frozen hxr 0; have q1r := blk_frozen hxr 1; have q2r := blk_frozen hxr 2; have HMR := Aside0.mk (show rank.M wr b ok s (.pointer (some ⟨g, 0, none⟩)) from rank.mono (fun k hk => hk.1) (rank.move (fun k hk => HBr.out.block k hk.2.2) (rank.bound HM.out))); clear hxr hbr hgr) | (go_at_call 21; (with_reducible refine (is_calls c HMR.out).mono ?_); rintro e wz ⟨rfl, rfl⟩; rw [HV.out]))
  refine bodyPost_ret (results_ct rfl _ _ gr 29 #[.int .i64 0, .int .i64 0, .bool false] (0, 0) _ rfl (blk_put (cs := #[(.int .i64 0), (.int .i64 0), .bool false]) (blk_put (cs := #[(.int .i64 0), .int .i64 0, .bool false]) (blk_put (cs := #[.int .i64 0, .int .i64 0, .bool false]) HXr.out 0 _ rfl) 1 _ rfl) 2 _ rfl) Try.underlying29 rfl (by kernel_rfl)) rfl ?_
  exact ⟨rfl, ((HBr.out.setCell (by have := HGr.out; show w.heap.size ≤ gr; omega) _).setCell (by have := HGr.out; show w.heap.size ≤ gr; omega) _).setCell (by have := HGr.out; show w.heap.size ≤ gr; omega) _⟩
set_option maxHeartbeats 1000000 in
set_option maxRecDepth 100000 in
theorem at_idle (j : Nat) (hM : rank.M w b ok s v) (hj : j < s.length) (hn : s.getD j none = none) :
    Calls Try.prog 11 #[v, .int .i64 (j : Int)] w fun e w' => e = .returned (.tuple #[entv z0, .bool false]) ∧ Below w.heap.size w w' := by
  obtain ⟨g, gl, cap, m, dv, rfl, hA, hI⟩ := hM
  have HA := Aside0.mk hA
  have HM := Aside0.mk (show rank.M w b ok s (.pointer (some ⟨g, 0, none⟩)) from ⟨g, gl, cap, m, dv, rfl, hA, hI⟩)
  have h64 : j < 64 := by have := hA.n64; rw [ents_len] at this; omega
  have HV := Aside0.mk (isv_of hj)
  have HH := Aside0.mk (show mask_Mask_Has.f (m : Int) (j : Int) = some true from by rw [has_f h64 hI.1, hI.2 j h64, decide_eq_true ⟨hj, hn⟩])
  clear hA hI hn
  go_enter Try.func11, Try.ntmps11
  go_wp2_with (first | ((with_reducible refine gate_dst (N := 4) rfl ?_); refine box_event ?hg (N := 4) ?hd (cs := #[.int .i64 0, .int .i64 0, .bool false]) (t := 29) ?hr ?_; (case hd => rfl); (case hg => rfl); (case hr => first | (go_simp; done) | (go_simp; rfl)); intro gr hgr wr hxr hbr; have HXr := Aside0.mk hxr; have HBr := Aside0.mk hbr; have HGr := Aside0.mk hgr; have r0r := blk_cell hxr 0; have r1r := blk_cell hxr 1; have r2r := blk_cell hxr 2; have q0r := blk_frozen hxr 0; have q1r := blk_frozen hxr 1; have q2r := blk_frozen hxr 2; have HMR := Aside0.mk (show rank.M wr b ok s (.pointer (some ⟨g, 0, none⟩)) from rank.mono (fun k hk => hk.1) (rank.move (fun k hk => HBr.out.block k hk.2.2) (rank.bound HM.out))); have hc1 := (HA.out.below HBr.out).c1; clear hxr hbr hgr) | (go_at_call 21; (with_reducible refine (is_calls (j : Int) HMR.out).mono ?_); rintro e wz ⟨rfl, rfl⟩; rw [HV.out]) | (go_at_call 26; (with_reducible refine (mask_Mask_Has.calls (m : Int) (j : Int) true _ HH.out).mono ?_); rintro e wh ⟨rfl, ⟨nd, hwh⟩⟩; have HBH := Aside0.mk (show Below w.heap.size w wh from by rw [hwh]; exact pw_below_drewN HBr.out nd); have HXH := Aside0.mk (show wh.heap[gr]? = some (.cells #[.int .i64 0, .int .i64 0, .bool false] 29 (0, 0)) from by rw [hwh]; exact HXr.out); clear r0r r1r r2r q0r q1r q2r; have r0r := blk_cell HXH.out 0; have r1r := blk_cell HXH.out 1; have r2r := blk_cell HXH.out 2; have q0r := blk_frozen HXH.out 0; have q1r := blk_frozen HXH.out 1; have q2r := blk_frozen HXH.out 2; clear hwh))
  refine bodyPost_ret (results_ct rfl _ _ gr 29 #[.int .i64 0, .int .i64 0, .bool false] (0, 0) _ rfl (blk_put (cs := #[(.int .i64 0), (.int .i64 0), .bool false]) (blk_put (cs := #[(.int .i64 0), .int .i64 0, .bool false]) (blk_put (cs := #[.int .i64 0, .int .i64 0, .bool false]) HXH.out 0 _ rfl) 1 _ rfl) 2 _ rfl) Try.underlying29 rfl (by kernel_rfl)) rfl ?_
  exact ⟨rfl, ((HBH.out.setCell (by have := HGr.out; show w.heap.size ≤ gr; omega) _).setCell (by have := HGr.out; show w.heap.size ≤ gr; omega) _).setCell (by have := HGr.out; show w.heap.size ≤ gr; omega) _⟩
set_option maxHeartbeats 1000000 in
set_option maxRecDepth 100000 in
theorem at_some (j : Nat) {e1 e2 : Int} {e3 : Bool} (hM : rank.M w b ok s v) (hj : j < s.length) (hn : s.getD j none = some (e1, e2, e3)) :
    Calls Try.prog 11 #[v, .int .i64 (j : Int)] w fun e w' => e = .returned (.tuple #[entv (e1, e2, e3), .bool true]) ∧ Below w.heap.size w w' := by
  obtain ⟨g, gl, cap, m, dv, rfl, hA, hI⟩ := hM
  have HA := Aside0.mk hA
  have HM := Aside0.mk (show rank.M w b ok s (.pointer (some ⟨g, 0, none⟩)) from ⟨g, gl, cap, m, dv, rfl, hA, hI⟩)
  have h64 : j < 64 := by have := hA.n64; rw [ents_len] at this; omega
  have HV := Aside0.mk (isv_of hj)
  have HH := Aside0.mk (show mask_Mask_Has.f (m : Int) (j : Int) = some false from by rw [has_f h64 hI.1, hI.2 j h64, decide_eq_false (fun hh => by rw [hn] at hh; cases hh.2)])
  obtain ⟨⟨k1, k2, k3⟩, _⟩ := ent_get hA.row (show j < (ents s).length by rw [ents_len]; exact hj)
  have hlt : (j : Int) < (s.length : Int) := by omega
  have HN := Aside0.mk (show (ents s).getD j z0 = (e1, e2, e3) from by rw [ents_getD, hn]; rfl)
  clear k1 k2 k3 hA hI hn
  go_enter Try.func11, Try.ntmps11
  go_wp2_with (first | ((with_reducible refine gate_dst (N := 4) rfl ?_); refine box_event ?hg (N := 4) ?hd (cs := #[.int .i64 0, .int .i64 0, .bool false]) (t := 29) ?hr ?_; (case hd => rfl); (case hg => rfl); (case hr => first | (go_simp; done) | (go_simp; rfl)); intro gr hgr wr hxr hbr; have HXr := Aside0.mk hxr; have HBr := Aside0.mk hbr; have HGr := Aside0.mk hgr; have r0r := blk_cell hxr 0; have r1r := blk_cell hxr 1; have r2r := blk_cell hxr 2; have q0r := blk_frozen hxr 0; have q1r := blk_frozen hxr 1; have q2r := blk_frozen hxr 2; have HMR := Aside0.mk (show rank.M wr b ok s (.pointer (some ⟨g, 0, none⟩)) from rank.mono (fun k hk => hk.1) (rank.move (fun k hk => HBr.out.block k hk.2.2) (rank.bound HM.out))); have hA2 := HA.out.below HBr.out; have hc0 := hA2.c0; rw [ents_len] at hc0; have hc1 := hA2.c1; clear hA2; clear hxr hbr hgr) | (go_at_call 21; (with_reducible refine (is_calls (j : Int) HMR.out).mono ?_); rintro e wz ⟨rfl, rfl⟩; rw [HV.out]) | (go_at_call 26; (with_reducible refine (mask_Mask_Has.calls (m : Int) (j : Int) false _ HH.out).mono ?_); rintro e wh ⟨rfl, ⟨nd, hwh⟩⟩; have HBH := Aside0.mk (show Below w.heap.size w wh from by rw [hwh]; exact pw_below_drewN HBr.out nd); have HXH := Aside0.mk (show wh.heap[gr]? = some (.cells #[.int .i64 0, .int .i64 0, .bool false] 29 (0, 0)) from by rw [hwh]; exact HXr.out); clear r0r r1r r2r q0r q1r q2r; have r0r := blk_cell HXH.out 0; have r1r := blk_cell HXH.out 1; have r2r := blk_cell HXH.out 2; have q0r := blk_frozen HXH.out 0; have q1r := blk_frozen HXH.out 1; have q2r := blk_frozen HXH.out 2; clear hc0; have hA3 := HA.out.below HBH.out; obtain ⟨⟨k1, k2, k3⟩, _⟩ := ent_get hA3.row (show j < (ents s).length by rw [ents_len]; exact hj); rw [HN.out] at k1 k2 k3; have hc0 := hA3.c0; rw [ents_len] at hc0; clear hA3; clear hwh))
  refine bodyPost_ret (results_ct rfl _ _ gr 29 #[.int .i64 e1, .int .i64 e2, .bool e3] (0, 0) _ rfl (blk_put (cs := #[(.int .i64 e1), (.int .i64 e2), .bool false]) (blk_put (cs := #[(.int .i64 e1), .int .i64 0, .bool false]) (blk_put (cs := #[.int .i64 0, .int .i64 0, .bool false]) HXH.out 0 _ rfl) 1 _ rfl) 2 _ rfl) Try.underlying29 rfl (by kernel_rfl)) rfl ?_
  exact ⟨rfl, ((HBH.out.setCell (by have := HGr.out; show w.heap.size ≤ gr; omega) _).setCell (by have := HGr.out; show w.heap.size ≤ gr; omega) _).setCell (by have := HGr.out; show w.heap.size ≤ gr; omega) _⟩
theorem at_calls (c : Int) (hM : rank.M w b ok s v) :
    Calls Try.prog 11 #[v, .int .i64 c] w fun e w' => e = .returned (.tuple #[entv (atv s c).1, .bool (atv s c).2]) ∧ Below w.heap.size w w' := by
  cases hc : isv s c with
  | false =>
    have h := at_bad c hM hc
    rw [show atv s c = (z0, false) from by unfold atv; rw [hc]; rfl]
    exact h
  | true =>
    obtain ⟨j, rfl, hj⟩ := isv_t hc
    cases hn : s.getD j none with
    | none =>
      have h := at_idle j hM hj hn
      rw [show atv s (j : Int) = (z0, false) from by unfold atv; rw [hc, Int.toNat_natCast, hn]; rfl]
      exact h
    | some e =>
      obtain ⟨e1, e2, e3⟩ := e
      have h := at_some j hM hj hn
      rw [show atv s (j : Int) = ((e1, e2, e3), true) from by unfold atv; rw [hc, Int.toNat_natCast, hn]; rfl]
      exact h
end
end Go.Proofs.Ytjeflmdfnfgacaa.Rank

/- Rank's methods Where, Clear, Set (no law is stated here; each says its conditions). -/
namespace Go.Proofs.Ytjeflmdfnfgacaa.Rank
open Go.RowKit Go.Proofs.YtjeflmdfnfgacaaW.PrintWords Go.Proofs.YtjeflmdfnfgacaaW.PrintLast Go.Proofs.YtjeflmdfnfgacaaW.PrintMore Go.Proofs.Ytjeflmdfnfgacaa.St Go.Proofs.Ytjeflmdfnfgacaa.Q Go.Proofs.Ytjeflmdfnfgacaa.Heap
set_option linter.unusedVariables false
set_option linter.unusedSimpArgs false
attribute [local go_sem] max2_int min2_int max_two min_two max_three min_three max_four min_four

/-- Does this one run there? -/
def hasId (s : List (Option Ent)) (id : Int) (t : Nat) : Bool := match s.getD t none with | some e => e.1 == id | none => false
/-- On which CPU one runs. -/
def wv (s : List (Option Ent)) (id : Int) : Int × Bool := match (List.range s.length).find? (hasId s id) with | some t => ((t : Int), true) | none => (0, false)
theorem find_first {p : Nat → Bool} : ∀ (n : Nat) {t : Nat}, t < n → p t = true → (∀ i, i < t → p i = false) → (List.range n).find? p = some t := by
  intro n
  induction n with
  | zero => intro t h; omega
  | succ n ih =>
    intro t h hp hf
    rw [List.range_succ, List.find?_append]
    by_cases c : t < n
    · rw [ih c hp hf]; rfl
    · have e : t = n := by omega
      subst e
      have hnone : (List.range t).find? p = none := List.find?_eq_none.2 (fun x hx => by rw [hf x (List.mem_range.1 hx)]; simp)
      rw [hnone]
      simp [hp]
theorem wv_some {s : List (Option Ent)} {id : Int} {t : Nat} (h : t < s.length) (hp : hasId s id t = true) (hf : ∀ i, i < t → hasId s id i = false) : wv s id = ((t : Int), true) := by
  unfold wv
  rw [find_first s.length h hp hf]
theorem wv_none {s : List (Option Ent)} {id : Int} (hf : ∀ i, i < s.length → hasId s id i = false) : wv s id = (0, false) := by
  unfold wv
  rw [List.find?_eq_none.2 (fun x hx => by rw [hf x (List.mem_range.1 hx)]; simp)]
def RelW (w : World) (s : List (Option Ent)) (id : Int) (i : Value) (wr : World) : Prop := ∃ j : Nat, j ≤ s.length ∧ i = .int .i64 (j : Int) ∧ (∀ t, t < j → hasId s id t = false) ∧ Below w.heap.size w wr
theorem no_next {s : List (Option Ent)} {id : Int} {j : Nat} (h : ∀ t, t < j → hasId s id t = false) (hj : hasId s id j = false) : ∀ t, t < j + 1 → hasId s id t = false := fun t ht => by
  rcases Nat.lt_or_ge t j with c | c
  · exact h t c
  · rw [show t = j by omega]; exact hj
section
variable {w : World} {b : Nat} {ok : Nat → Prop} {s : List (Option Ent)} {v : Value}
theorem rank_below {w1 : World} (hM : rank.M w b ok s v) (hb : Below w.heap.size w w1) : rank.M w1 b ok s v := rank.mono (fun k hk => hk.1) (rank.move (fun k hk => hb.block k hk.2.2) (rank.bound hM))
theorem rank_n (hM : rank.M w b ok s v) : 1 ≤ s.length ∧ s.length ≤ 64 := by
  obtain ⟨g, gl, cap, m, dv, rfl, hA, hI⟩ := hM
  have h1 := hA.n1
  have h2 := hA.n64
  rw [ents_len] at h1 h2
  exact ⟨h1, h2⟩
theorem rank_c0 {g : Nat} (hM : rank.M w b ok s (.pointer (some ⟨g, 0, none⟩))) : ∃ gl cap, w.cell? ⟨g, 0, none⟩ = some (.slice (some ⟨gl, 0, none⟩) s.length cap) := by
  obtain ⟨g2, gl, cap, m, dv, e, hA, hI⟩ := hM
  injection e with e
  injection e with e
  injection e with e
  subst e
  have h0 := hA.c0
  rw [ents_len] at h0
  exact ⟨gl, cap, h0⟩
set_option maxHeartbeats 1000000 in
set_option maxRecDepth 100000 in
theorem where_calls (id : Int) (hM : rank.M w b ok s v) :
    Calls Try.prog 10 #[v, .int .i64 id] w fun e w' => e = .returned (.tuple #[.int .i64 (wv s id).1, .bool (wv s id).2]) ∧ Below w.heap.size w w' := by
  have HM := Aside0.mk hM
  obtain ⟨g, gl0, cap0, m, dv, rfl, hA, hI⟩ := HM.out
  have HN := Aside0.mk (rank_n HM.out)
  have h0 := hA.c0
  rw [ents_len] at h0
  clear hA hI hM
  go_enter Try.func10, Try.ntmps10
  go_wp2
  obtain ⟨wo, hwo⟩ : ∃ wo : World, wo = w := ⟨_, rfl⟩
  go_loopw [14] (fun i wr => RelW w s id i wr) (fun i _ => s.length - (intOf i).toNat)
  case atStart => exact ⟨0, Nat.zero_le _, rfl, fun t ht => by omega, Below.refl _ _⟩
  case round =>
    obtain ⟨j, hj, rfl, hno, hB⟩ := hrel
    have HB := Aside0.mk hB
    have HO := Aside0.mk hno
    have hj64 : j ≤ 64 := by have := HN.out; omega
    clear hB hno
    by_cases hlt : j < s.length
    · cases hn : s.getD j none with
      | none =>
        have HH := Aside0.mk (show hasId s id j = false from by unfold hasId; rw [hn])
        have HS := Aside0.mk hn
        clear hn
        go_wp2_with (first | (go_at_call 11; (with_reducible refine (at_idle j (rank_below HM.out HB.out) hlt HS.out).mono ?_); rintro e wa ⟨rfl, hb⟩; rw [show entv z0 = .agg #[.int .i64 0, .int .i64 0, .bool false] from rfl]; have HBa := Aside0.mk (HB.out.trans (hb.mono HB.out.size)); clear hb) | ((with_reducible refine gate_dst (N := 7) rfl ?_); refine box_event ?hg (N := 7) ?hd (cs := #[.int .i64 0, .int .i64 0, .bool false]) (t := 29) ?hr ?_; (case hd => rfl); (case hg => rfl); (case hr => first | (go_simp; done) | (go_simp; rfl)); intro ge hge we hxe hbe; have HXe := Aside0.mk hxe; have HBe := Aside0.mk hbe; have HGe := Aside0.mk hge; have r0e := blk_cell hxe 0; have r1e := blk_cell hxe 1; have r2e := blk_cell hxe 2; have q0e := blk_frozen hxe 0; have q1e := blk_frozen hxe 1; have q2e := blk_frozen hxe 2; clear hxe hbe hge))
        exact ⟨⟨j + 1, by omega, by go_num, no_next HO.out HH.out, (((HBa.out.trans (HBe.out.mono HBa.out.size)).setCell (by have := HGe.out; have := HBa.out.size; show w.heap.size ≤ ge; omega) _).setCell (by have := HGe.out; have := HBa.out.size; show w.heap.size ≤ ge; omega) _).setCell (by have := HGe.out; have := HBa.out.size; show w.heap.size ≤ ge; omega) _⟩, by simp [intOf]; omega⟩
      | some e =>
        obtain ⟨e1, e2, e3⟩ := e
        have HS := Aside0.mk hn
        by_cases he : e1 = id
        · have HH := Aside0.mk (show hasId s id j = true from by unfold hasId; rw [hn]; exact beq_iff_eq.mpr he)
          have d1 : (e1 == id) = true := beq_iff_eq.mpr he
          clear hn he
          go_wp2_with (first | (go_at_call 11; (with_reducible refine (at_some j (rank_below HM.out HB.out) hlt HS.out).mono ?_); rintro e wa ⟨rfl, hb⟩; rw [show entv (e1, e2, e3) = .agg #[.int .i64 e1, .int .i64 e2, .bool e3] from rfl]; have HBa := Aside0.mk (HB.out.trans (hb.mono HB.out.size)); clear hb) | ((with_reducible refine gate_dst (N := 7) rfl ?_); refine box_event ?hg (N := 7) ?hd (cs := #[.int .i64 0, .int .i64 0, .bool false]) (t := 29) ?hr ?_; (case hd => rfl); (case hg => rfl); (case hr => first | (go_simp; done) | (go_simp; rfl)); intro ge hge we hxe hbe; have HXe := Aside0.mk hxe; have HBe := Aside0.mk hbe; have HGe := Aside0.mk hge; have r0e := blk_cell hxe 0; have r1e := blk_cell hxe 1; have r2e := blk_cell hxe 2; have q0e := blk_frozen hxe 0; have q1e := blk_frozen hxe 1; have q2e := blk_frozen hxe 2; clear hxe hbe hge))
          go_ret2
          exact ⟨by rw [wv_some hlt HH.out HO.out]; rfl, (((HBa.out.trans (HBe.out.mono HBa.out.size)).setCell (by have := HGe.out; have := HBa.out.size; show w.heap.size ≤ ge; omega) _).setCell (by have := HGe.out; have := HBa.out.size; show w.heap.size ≤ ge; omega) _).setCell (by have := HGe.out; have := HBa.out.size; show w.heap.size ≤ ge; omega) _⟩
        · have HH := Aside0.mk (show hasId s id j = false from by unfold hasId; rw [hn]; exact beq_eq_false_iff_ne.mpr he)
          have d1 : (e1 == id) = false := beq_eq_false_iff_ne.mpr he
          clear hn he
          go_wp2_with (first | (go_at_call 11; (with_reducible refine (at_some j (rank_below HM.out HB.out) hlt HS.out).mono ?_); rintro e wa ⟨rfl, hb⟩; rw [show entv (e1, e2, e3) = .agg #[.int .i64 e1, .int .i64 e2, .bool e3] from rfl]; have HBa := Aside0.mk (HB.out.trans (hb.mono HB.out.size)); clear hb) | ((with_reducible refine gate_dst (N := 7) rfl ?_); refine box_event ?hg (N := 7) ?hd (cs := #[.int .i64 0, .int .i64 0, .bool false]) (t := 29) ?hr ?_; (case hd => rfl); (case hg => rfl); (case hr => first | (go_simp; done) | (go_simp; rfl)); intro ge hge we hxe hbe; have HXe := Aside0.mk hxe; have HBe := Aside0.mk hbe; have HGe := Aside0.mk hge; have r0e := blk_cell hxe 0; have r1e := blk_cell hxe 1; have r2e := blk_cell hxe 2; have q0e := blk_frozen hxe 0; have q1e := blk_frozen hxe 1; have q2e := blk_frozen hxe 2; clear hxe hbe hge))
          exact ⟨⟨j + 1, by omega, by go_num, no_next HO.out HH.out, (((HBa.out.trans (HBe.out.mono HBa.out.size)).setCell (by have := HGe.out; have := HBa.out.size; show w.heap.size ≤ ge; omega) _).setCell (by have := HGe.out; have := HBa.out.size; show w.heap.size ≤ ge; omega) _).setCell (by have := HGe.out; have := HBa.out.size; show w.heap.size ≤ ge; omega) _⟩, by simp [intOf]; omega⟩
    · have HE := Aside0.mk (show wv s id = (0, false) from wv_none (fun i hi => HO.out i (by omega)))
      go_wp2
      go_ret2
      exact ⟨by rw [HE.out]; rfl, HB.out⟩
/-- A CPU is idle. -/
theorem clear_bad (c : Int) (hM : rank.M w b ok s v) (hc : isv s c = false) :
    Calls Try.prog 13 #[v, .int .i64 c] w fun e w' => e = .returned (.int .i64 1) ∧ w' = w := by
  have HM := Aside0.mk hM
  obtain ⟨g, gl0, cap0, m, dv, rfl, hA, hI⟩ := HM.out
  have HV := Aside0.mk hc
  clear hA hI hM hc
  go_enter Try.func13, Try.ntmps13
  go_wp2_with (first | (go_at_call 21; (with_reducible refine (is_calls c HM.out).mono ?_); rintro e wz ⟨rfl, rfl⟩; rw [HV.out]))
  go_ret
  exact ⟨rfl, rfl⟩
/-- Its Due is struck, if there is one. -/
theorem strike (a t : List (Option Ent)) (o : Option Ent) {l : List Ent} {m : Nat} {g gl cap : Nat} {dv : Value} (hP : PAt w b ok l m (dues 0 (a ++ o :: t)) g gl cap dv) (hl : a.length ≤ 100) :
    Calls Try.prog 22 #[dv, .int .i64 (a.length : Int)] w fun e w' => ∃ r : Bool, e = .returned (.bool r) ∧ PAt w' b (more w ok) l m (rest a t) g gl cap dv ∧ Wrote w w' ok := by
  have hw : (Lit.int .i64 (a.length : Int)).wf = true := WalkArith.wf_i64 (by omega)
  have hmiss : dueAt a.length o = [] → Calls Try.prog 22 #[dv, .int .i64 (a.length : Int)] w fun e w' => ∃ r : Bool, e = .returned (.bool r) ∧ PAt w' b (more w ok) l m (rest a t) g gl cap dv ∧ Wrote w w' ok := by
    intro h0
    have e : dues 0 (a ++ o :: t) = rest a t := by rw [dues_split, h0]; rfl
    rw [e] at hP
    refine (hdrop_miss (a.length : Int) hP.hp hw (rest_no a t)).mono ?_
    rintro e w' ⟨h1, rfl⟩
    exact ⟨_, h1, hP.mono (fun k hk => Or.inl hk), Wrote.refl _ _⟩
  cases o with
  | none => exact hmiss rfl
  | some e =>
    obtain ⟨e1, e2, e3⟩ := e
    cases e3 with
    | true => exact hmiss rfl
    | false =>
      have e : dues 0 (a ++ some (e1, e2, false) :: t) = dues 0 a ++ ((a.length : Int), e2) :: dues (a.length + 1) t := by rw [dues_split]; rfl
      rw [e] at hP
      refine (hdrop (a.length : Int) e2 (dues 0 a) (dues (a.length + 1) t) hP.hp hw).mono ?_
      rintro e w' ⟨h1, h2, h3⟩
      obtain ⟨k1, k2⟩ := hP.turnH h2 h3
      exact ⟨_, h1, k1, k2⟩
set_option maxHeartbeats 1000000 in
set_option maxRecDepth 100000 in
theorem clear_ok (j : Nat) (hM : rank.M w b ok s v) (hj : j < s.length) :
    Calls Try.prog 13 #[v, .int .i64 (j : Int)] w fun e w' => e = .returned (.int .i64 0) ∧ rank.M w' b (more w ok) (s.set j none) v ∧ Wrote w w' ok := by
  have hn64 := (rank_n hM).2
  obtain ⟨a, t, hs, ha⟩ := split_at hj
  have HM := Aside0.mk hM
  obtain ⟨g, gl, cap, m, dv, rfl, hA, hI⟩ := HM.out
  subst ha
  generalize s.getD a.length none = o at hs
  have HST := Aside0.mk (strike a t o (show PAt w b ok (ents s) m (dues 0 (a ++ o :: t)) g gl cap dv from by rw [← hs]; exact hA) (by omega))
  have HV := Aside0.mk (isv_of hj)
  have HI := Aside0.mk hI
  have HF := Aside0.mk (with_f (m := m) (j := a.length) (by omega) hI.1)
  have HIC := Aside0.mk (idle_clear hI hj hn64)
  have HS := Aside0.mk hs
  have hne := hA.ne
  have hne2 := hA.ne.symm
  have h2 := hA.c2
  have hlt : (a.length : Int) < (s.length : Int) := by omega
  have hlen := Aside0.mk (ents_len s)
  clear hA hI hM hs
  generalize hjj : a.length = j at *
  have HJ := Aside0.mk hjj
  clear hjj
  go_enter Try.func13, Try.ntmps13
  go_upto_region 4 with (first | (go_at_call 21; (with_reducible refine (is_calls (j : Int) HM.out).mono ?_); rintro e wz ⟨rfl, hz⟩; have hz := hz.symm; subst hz; rw [HV.out]) | (go_at_call 22; (with_reducible refine HST.out.mono ?_); rintro e w1 ⟨r, rfl, hP1, hW1⟩; have P1 := Aside0.mk hP1; have W1 := Aside0.mk hW1; clear hP1 hW1))
  have h0 := P1.out.c0
  rw [hlen.out] at h0
  obtain ⟨⟨k1, k2, k3⟩, k4, k5, k6⟩ := ent_get P1.out.row (show j < (ents s).length by rw [hlen.out]; exact hj)
  go_upto_region 5 with (fail)
  have P2 := Aside0.mk (P1.out.putE (show j < (ents s).length by rw [hlen.out]; exact hj) z0)
  have W2 := Aside0.mk (show Wrote w (((w1.setCell ⟨gl, j * 3, none⟩ (.int .i64 0)).setCell ⟨gl, j * 3 + 1, none⟩ (.int .i64 0)).setCell ⟨gl, j * 3 + 2, none⟩ (.bool false)) ok from ((W1.out.setCell (show ok gl ∨ w.heap.size ≤ gl from P1.out.okl) _).setCell (show ok gl ∨ w.heap.size ≤ gl from P1.out.okl) _).setCell (show ok gl ∨ w.heap.size ≤ gl from P1.out.okl) _)
  clear h0 h2 k1 k2 k3 k4 k5 k6 P1 W1
  have P3 := Aside0.mk (show PAt (((w1.setCell ⟨gl, j * 3, none⟩ (.int .i64 0)).setCell ⟨gl, j * 3 + 1, none⟩ (.int .i64 0)).setCell ⟨gl, j * 3 + 2, none⟩ (.bool false)) b (more w ok) ((ents s).set j z0) m (rest a t) g gl cap dv from P2.out)
  clear P2
  generalize (((w1.setCell ⟨gl, j * 3, none⟩ (.int .i64 0)).setCell ⟨gl, j * 3 + 1, none⟩ (.int .i64 0)).setCell ⟨gl, j * 3 + 2, none⟩ (.bool false)) = w2 at P3 W2 ⊢
  have h1 := P3.out.c1
  have f1 := P3.out.f1
  go_wp2_with (first | (go_at_call 16; (with_reducible refine (mask_Mask_With.calls (m : Int) (j : Int) _ _ HF.out).mono ?_); rintro e w3 ⟨rfl, ⟨nd, hw3⟩⟩; have B3 := Aside0.mk (show Below w2.heap.size w2 w3 from by rw [hw3]; exact pw_below_drewN (Below.refl _ _) nd); clear hw3 h1 f1; have P4 := Aside0.mk (P3.out.below B3.out); have h1 := P4.out.c1; have f1 := P4.out.f1; have W3 := Aside0.mk (W2.out.trans (Wrote.of_below B3.out (fun _ => False)) (fun _ hk => hk.elim))))
  go_ret
  refine ⟨rfl, ⟨g, gl, cap, _, dv, rfl, ?_, HIC.out⟩, W3.out.setCell (show ok g ∨ w.heap.size ≤ g from P4.out.okg) _⟩
  have h5 := P4.out.setM (m ||| 2 ^ j)
  have e1 : ents (s.set j none) = (ents s).set j z0 := ents_set s j none
  rw [e1]
  refine h5.perm ?_
  rw [HS.out, ← HJ.out, set_split, dues_split]
  exact List.Perm.refl _
/-- One runs on a CPU. -/
theorem set_bad (c : Int) (e1 e2 : Int) (e3 : Bool) (hM : rank.M w b ok s v) (hc : isv s c = false ∨ e1 < 0 ∨ 1024 ≤ e1) :
    Calls Try.prog 8 #[v, .int .i64 c, .agg #[.int .i64 e1, .int .i64 e2, .bool e3]] w fun e w' => e = .returned (.int .i64 1) ∧ Below w.heap.size w w' := by
  have HM := Aside0.mk hM
  obtain ⟨g, gl0, cap0, m, dv, rfl, hA, hI⟩ := HM.out
  clear hA hI hM
  by_cases h1 : isv s c = true
  · have HV := Aside0.mk h1
    by_cases h2 : e1 < 0
    · have d2 : decide (e1 < 0) = true := decide_eq_true h2
      clear hc h1 h2
      go_enter Try.func8, Try.ntmps8
      go_wp2_with (first | ((with_reducible refine gate_dst (N := 5) rfl ?_); refine box_event ?hg (N := 5) ?hd (cs := #[.int .i64 e1, .int .i64 e2, .bool e3]) (t := 29) ?hr ?_; (case hd => rfl); (case hg => rfl); (case hr => first | (go_simp; done) | (go_simp; rfl)); intro ge hge we hxe hbe; have HXe := Aside0.mk hxe; have HBe := Aside0.mk hbe; have HGe := Aside0.mk hge; have r0 := blk_cell hxe 0; have r1 := blk_cell hxe 1; have r2 := blk_cell hxe 2; have HMe := Aside0.mk (rank_below HM.out hbe); clear hxe hbe hge) | (go_at_call 21; (with_reducible refine (is_calls c HMe.out).mono ?_); rintro e wz ⟨rfl, hz⟩; have hz := hz.symm; subst hz; clear hz; rw [HV.out]))
      go_ret
      exact ⟨rfl, HBe.out⟩
    · have d2 : decide (e1 < 0) = false := decide_eq_false h2
      have d3 : decide (1024 ≤ e1) = true := decide_eq_true (hc.elim (fun h => by rw [h1] at h; cases h) (fun h => h.elim (fun h => absurd h h2) (fun h => h)))
      clear hc h1 h2
      go_enter Try.func8, Try.ntmps8
      go_wp2_with (first | ((with_reducible refine gate_dst (N := 5) rfl ?_); refine box_event ?hg (N := 5) ?hd (cs := #[.int .i64 e1, .int .i64 e2, .bool e3]) (t := 29) ?hr ?_; (case hd => rfl); (case hg => rfl); (case hr => first | (go_simp; done) | (go_simp; rfl)); intro ge hge we hxe hbe; have HXe := Aside0.mk hxe; have HBe := Aside0.mk hbe; have HGe := Aside0.mk hge; have r0 := blk_cell hxe 0; have r1 := blk_cell hxe 1; have r2 := blk_cell hxe 2; have HMe := Aside0.mk (rank_below HM.out hbe); clear hxe hbe hge) | (go_at_call 21; (with_reducible refine (is_calls c HMe.out).mono ?_); rintro e wz ⟨rfl, hz⟩; have hz := hz.symm; subst hz; clear hz; rw [HV.out]))
      go_ret
      exact ⟨rfl, HBe.out⟩
  · have HV := Aside0.mk (show isv s c = false from by simpa using h1)
    clear hc h1
    go_enter Try.func8, Try.ntmps8
    go_wp2_with (first | ((with_reducible refine gate_dst (N := 5) rfl ?_); refine box_event ?hg (N := 5) ?hd (cs := #[.int .i64 e1, .int .i64 e2, .bool e3]) (t := 29) ?hr ?_; (case hd => rfl); (case hg => rfl); (case hr => first | (go_simp; done) | (go_simp; rfl)); intro ge hge we hxe hbe; have HXe := Aside0.mk hxe; have HBe := Aside0.mk hbe; have HGe := Aside0.mk hge; have r0 := blk_cell hxe 0; have r1 := blk_cell hxe 1; have r2 := blk_cell hxe 2; have HMe := Aside0.mk (rank_below HM.out hbe); clear hxe hbe hge) | (go_at_call 21; (with_reducible refine (is_calls c HMe.out).mono ?_); rintro e wz ⟨rfl, hz⟩; have hz := hz.symm; subst hz; clear hz; rw [HV.out]))
    go_ret
    exact ⟨rfl, HBe.out⟩
theorem set_busy (c : Int) (e1 e2 : Int) (e3 : Bool) (at_ : Int) (hM : rank.M w b ok s v) (hc : isv s c = true) (h1 : 0 ≤ e1) (h2 : e1 < 1024) (hw : wv s e1 = (at_, true)) (hne : at_ ≠ c) :
    Calls Try.prog 8 #[v, .int .i64 c, .agg #[.int .i64 e1, .int .i64 e2, .bool e3]] w fun e w' => e = .returned (.int .i64 5) ∧ Below w.heap.size w w' := by
  have HM := Aside0.mk hM
  obtain ⟨g, gl0, cap0, m, dv, rfl, hA, hI⟩ := HM.out
  have HV := Aside0.mk hc
  have HW := Aside0.mk hw
  have d2 : decide (e1 < 0) = false := decide_eq_false (by omega)
  have d3 : decide (1024 ≤ e1) = false := decide_eq_false (by omega)
  have d4 : (at_ != c) = true := bne_iff_ne.mpr hne
  clear hA hI hM hc h1 h2 hw hne
  go_enter Try.func8, Try.ntmps8
  go_wp2_with (first | ((with_reducible refine gate_dst (N := 5) rfl ?_); refine box_event ?hg (N := 5) ?hd (cs := #[.int .i64 e1, .int .i64 e2, .bool e3]) (t := 29) ?hr ?_; (case hd => rfl); (case hg => rfl); (case hr => first | (go_simp; done) | (go_simp; rfl)); intro ge hge we hxe hbe; have HXe := Aside0.mk hxe; have HBe := Aside0.mk hbe; have HGe := Aside0.mk hge; have r0 := blk_cell hxe 0; have r1 := blk_cell hxe 1; have r2 := blk_cell hxe 2; have HMe := Aside0.mk (rank_below HM.out hbe); clear hxe hbe hge) | (go_at_call 21; (with_reducible refine (is_calls c HMe.out).mono ?_); rintro e wz ⟨rfl, hz⟩; have hz := hz.symm; subst hz; clear hz; rw [HV.out]) | (go_at_call 10; (with_reducible refine (where_calls e1 HMe.out).mono ?_); rintro e ww ⟨rfl, hb⟩; rw [HW.out]; have HBw := Aside0.mk (HBe.out.trans (hb.mono HBe.out.size)); have HXw := Aside0.mk ((hb.block ge (blk_lt HXe.out)).trans HXe.out); clear hb r0 r1 r2; have r0 := blk_cell HXw.out 0; have r1 := blk_cell HXw.out 1; have r2 := blk_cell HXw.out 2))
  go_ret
  exact ⟨rfl, HBw.out⟩
set_option maxHeartbeats 1000000 in
set_option maxRecDepth 100000 in
theorem set_ok_f (j : Nat) (e1 e2 : Int) (e3 : Bool) (p : Int) (hM : rank.M w b ok s v) (hj : j < s.length) (h1 : 0 ≤ e1) (h2 : e1 < 1024) (hw : wv s e1 = (p, false)) :
    Calls Try.prog 8 #[v, .int .i64 (j : Int), .agg #[.int .i64 e1, .int .i64 e2, .bool e3]] w fun e w' => e = .returned (.int .i64 0) ∧ rank.M w' b (more w ok) (s.set j (some (e1, e2, e3))) v ∧ Wrote w w' ok := by
  have hn64 := (rank_n hM).2
  obtain ⟨a, t, hs, ha⟩ := split_at hj
  have HM := Aside0.mk hM
  obtain ⟨g, gl, cap, m, dv, rfl, hA, hI⟩ := HM.out
  subst ha
  generalize s.getD a.length none = o at hs
  have HST := Aside0.mk (fun (w1 : World) (ok1 : Nat → Prop) (hP : PAt w1 b ok1 (ents s) m (dues 0 s) g gl cap dv) => strike a t o (show PAt w1 b ok1 (ents s) m (dues 0 (a ++ o :: t)) g gl cap dv from by rw [← hs]; exact hP) (by omega))
  have HV := Aside0.mk (isv_of hj)
  have HW := Aside0.mk hw
  have HF := Aside0.mk (without_f (m := m) (j := a.length) (by omega) hI.1)
  have HIC := Aside0.mk (idle_set hI hj hn64 (e1, e2, e3))
  have HS := Aside0.mk hs
  have hne := hA.ne
  have hne2 := hA.ne.symm
  have HA := Aside0.mk hA
  have d2 : decide (e1 < 0) = false := decide_eq_false (by omega)
  have d3 : decide (1024 ≤ e1) = false := decide_eq_false (by omega)
  have hlt : (a.length : Int) < (s.length : Int) := by omega
  have hlen := Aside0.mk (ents_len s)
  have HR := Aside0.mk (rest_no a t)
  have HRL := Aside0.mk (show (rest a t).length < 64 from by have h3 := dues_len a 0; have h4 := dues_len t (a.length + 1); rw [hs, List.length_append, List.length_cons] at hn64; rw [rest, List.length_append]; omega)
  have HWF := Aside0.mk (show (Lit.int .i64 (a.length : Int)).wf = true from WalkArith.wf_i64 (by omega))
  clear hA hI hM hs hw h1 h2
  generalize hjj : a.length = j at *
  have HJ := Aside0.mk hjj
  clear hjj
  go_enter Try.func8, Try.ntmps8
  go_upto_region 6 with (first | ((with_reducible refine gate_dst (N := 5) rfl ?_); refine box_event ?hg (N := 5) ?hd (cs := #[.int .i64 e1, .int .i64 e2, .bool e3]) (t := 29) ?hr ?_; (case hd => rfl); (case hg => rfl); (case hr => first | (go_simp; done) | (go_simp; rfl)); intro ge hge we hxe hbe; have HXe := Aside0.mk hxe; have HBe := Aside0.mk hbe; have HGe := Aside0.mk hge; have r0 := blk_cell hxe 0; have r1 := blk_cell hxe 1; have r2 := blk_cell hxe 2; have HMe := Aside0.mk (rank_below HM.out hbe); clear hxe hbe hge) | (go_at_call 21; (with_reducible refine (is_calls (j : Int) HMe.out).mono ?_); rintro e wz ⟨rfl, hz⟩; have hz := hz.symm; subst hz; clear hz; rw [HV.out]) | (go_at_call 10; (with_reducible refine (where_calls e1 HMe.out).mono ?_); rintro e ww ⟨rfl, hb⟩; rw [HW.out]; have HBw := Aside0.mk (HBe.out.trans (hb.mono HBe.out.size)); have HXw := Aside0.mk ((hb.block ge (blk_lt HXe.out)).trans HXe.out); clear hb r0 r1 r2; have r0 := blk_cell HXw.out 0; have r1 := blk_cell HXw.out 1; have r2 := blk_cell HXw.out 2))
  have HAB := Aside0.mk HA.out.bound
  have PW := Aside0.mk (HAB.out.below HBw.out)
  have h2c := PW.out.c2
  clear r0 r1 r2
  have hge : w.heap.size ≤ ge := by have := HGe.out; omega
  have hgw := Aside0.mk (blk_lt HXw.out)
  have n1 : ge ≠ gl := by have := HA.out.ltl; omega
  have n2 : ge ≠ g := by have := HA.out.lt; omega
  go_upto_region 7 with (first | (go_at_call 22; (with_reducible refine (HST.out ww _ PW.out).mono ?_); rintro e w1 ⟨r, rfl, hP1, hW1⟩; have P1 := Aside0.mk (show PAt w1 b (more w ok) (ents s) m (rest a t) g gl cap dv from hP1.mono (fun k hk => hk.elim (fun h => Or.inl h.1) (fun h => Or.inr (Nat.le_trans HBw.out.size h)))); have W1 := Aside0.mk (show Wrote w w1 ok from (Wrote.of_below HBw.out ok).trans hW1 (fun k hk => Or.inl hk.1)); have X1 := Aside0.mk (show w1.heap[ge]? = some (.cells #[.int .i64 e1, .int .i64 e2, .bool e3] 29 (0, 0)) from (hW1.block ge hgw.out (fun hk => by have := hk.2.2; omega)).trans HXw.out); clear hP1 hW1))
  have h0 := P1.out.c0
  rw [hlen.out] at h0
  obtain ⟨⟨k1, k2, k3⟩, k4, k5, k6⟩ := ent_get P1.out.row (show j < (ents s).length by rw [hlen.out]; exact hj)
  have r0 := blk_cell X1.out 0
  have r1 := blk_cell X1.out 1
  have r2 := blk_cell X1.out 2
  clear h2c
  go_still_tail 7, (by kernel_rfl)
  change wpList _ _ _ _ _ w1.drew
  obtain ⟨w2, hw2⟩ : ∃ w2 : World, w1.drew = w2 := ⟨_, rfl⟩
  rw [hw2]
  have hb2 : Below w1.heap.size w1 w2 := by rw [← hw2]; exact below_drew (Below.refl _ _)
  have P2 := Aside0.mk (P1.out.below hb2)
  have X2 := Aside0.mk ((hb2.block ge (blk_lt X1.out)).trans X1.out)
  have W2 := Aside0.mk (show Wrote w w2 ok from by rw [← hw2]; exact W1.out.drew)
  clear hw2 hb2 h0 k1 k2 k3 k4 k5 k6 r0 r1 r2
  obtain ⟨⟨k1, k2, k3⟩, k4, k5, k6⟩ := ent_get P2.out.row (show j < (ents s).length by rw [hlen.out]; exact hj)
  go_upto_region 8 with (fail)
  have P3 := Aside0.mk (show PAt (((w2.setCell ⟨gl, j * 3, none⟩ (.int .i64 e1)).setCell ⟨gl, j * 3 + 1, none⟩ (.int .i64 e2)).setCell ⟨gl, j * 3 + 2, none⟩ (.bool e3)) b (more w ok) ((ents s).set j (e1, e2, e3)) m (rest a t) g gl cap dv from P2.out.putE (show j < (ents s).length by rw [hlen.out]; exact hj) (e1, e2, e3))
  have hgl : ok gl ∨ w.heap.size ≤ gl := P2.out.okl
  have hgg : ok g ∨ w.heap.size ≤ g := P2.out.okg
  have X3 := Aside0.mk (show (((w2.setCell ⟨gl, j * 3, none⟩ (.int .i64 e1)).setCell ⟨gl, j * 3 + 1, none⟩ (.int .i64 e2)).setCell ⟨gl, j * 3 + 2, none⟩ (.bool e3)).heap[ge]? = some (.cells #[.int .i64 e1, .int .i64 e2, .bool e3] 29 (0, 0)) from blk_far (blk_far (blk_far X2.out n1 _) n1 _) n1 _)
  have W3 := Aside0.mk (show Wrote w (((w2.setCell ⟨gl, j * 3, none⟩ (.int .i64 e1)).setCell ⟨gl, j * 3 + 1, none⟩ (.int .i64 e2)).setCell ⟨gl, j * 3 + 2, none⟩ (.bool e3)) ok from ((W2.out.setCell hgl _).setCell hgl _).setCell hgl _)
  clear k1 k2 k3 k4 k5 k6 P1 W1 X1 P2 W2 X2
  generalize (((w2.setCell ⟨gl, j * 3, none⟩ (.int .i64 e1)).setCell ⟨gl, j * 3 + 1, none⟩ (.int .i64 e2)).setCell ⟨gl, j * 3 + 2, none⟩ (.bool e3)) = w3 at P3 X3 W3 ⊢
  have h1 := P3.out.c1
  have f1 := P3.out.f1
  go_upto_region 9 with (first | (go_at_call 23; (with_reducible refine (mask_Mask_Without.calls (m : Int) (j : Int) _ _ HF.out).mono ?_); rintro e w4 ⟨rfl, ⟨nd, hw4⟩⟩; have B4 := Aside0.mk (show Below w3.heap.size w3 w4 from by rw [hw4]; exact pw_below_drewN (Below.refl _ _) nd); clear hw4 h1 f1; have P4 := Aside0.mk (P3.out.below B4.out); have h1 := P4.out.c1; have f1 := P4.out.f1))
  have P5 := Aside0.mk (P4.out.setM (m &&& (18446744073709551615 - 2 ^ j)))
  have X5 := Aside0.mk (show (w4.setCell ⟨g, 1, none⟩ (.int .u64 ((m &&& (18446744073709551615 - 2 ^ j)) : Nat))).heap[ge]? = some (.cells #[.int .i64 e1, .int .i64 e2, .bool e3] 29 (0, 0)) from blk_far ((B4.out.block ge (blk_lt X3.out)).trans X3.out) n2 _)
  have W5 := Aside0.mk ((W3.out.trans (Wrote.of_below B4.out (fun _ => False)) (fun _ hk => hk.elim)).setCell (p := ⟨g, 1, none⟩) hgg (.int .u64 ((m &&& (18446744073709551615 - 2 ^ j)) : Nat)))
  clear h1 f1 P3 P4 X3 W3 B4
  generalize (w4.setCell ⟨g, 1, none⟩ (.int .u64 ((m &&& (18446744073709551615 - 2 ^ j)) : Nat))) = w5 at P5 X5 W5 ⊢
  have HEN := Aside0.mk (ents_set s j (some (e1, e2, e3)))
  cases e3 with
  | true =>
    have r2 := blk_cell X5.out 2
    go_wp2
    go_ret
    refine ⟨rfl, ⟨g, gl, cap, _, dv, rfl, ?_, HIC.out⟩, W5.out⟩
    rw [HEN.out]
    refine P5.out.perm ?_
    rw [HS.out, ← HJ.out, set_split, dues_split]
    exact List.Perm.refl _
  | false =>
    have r2 := blk_cell X5.out 2
    have r1 := blk_cell X5.out 1
    have h2c := P5.out.c2
    go_upto_region 10 with (fail)
    go_still_tail 7, (by kernel_rfl)
    change wpList _ _ _ _ _ w5.drew
    obtain ⟨w6, hw6⟩ : ∃ w6 : World, w5.drew = w6 := ⟨_, rfl⟩
    rw [hw6]
    have hb6 : Below w5.heap.size w5 w6 := by rw [← hw6]; exact below_drew (Below.refl _ _)
    have P6 := Aside0.mk (P5.out.below hb6)
    have W6 := Aside0.mk (show Wrote w w6 ok from by rw [← hw6]; exact W5.out.drew)
    clear hw6 hb6 r1 r2 h2c
    go_wp2_with (first | (go_at_call 24; (with_reducible refine (hput (j : Int) e2 P6.out.hp HWF.out HR.out (by have := HRL.out; omega) (by have := HRL.out; omega)).mono ?_); rintro e w7 ⟨rfl, hp7, hw7⟩; have P7 := Aside0.mk (P6.out.turnH hp7 hw7); clear hp7 hw7))
    go_ret
    refine ⟨rfl, ⟨g, gl, cap, _, dv, rfl, ?_, HIC.out⟩, W6.out.trans P7.out.2 (fun k hk => hk)⟩
    rw [HEN.out]
    refine (P7.out.1.mono (fun k hk => hk.elim (fun h => h) (fun h => Or.inr (Nat.le_trans W6.out.size h)))).perm ?_
    rw [HS.out, ← HJ.out, set_split]
    exact dues_perm a t (some (e1, e2, false))
set_option maxHeartbeats 1000000 in
set_option maxRecDepth 100000 in
theorem set_ok_t (j : Nat) (e1 e2 : Int) (e3 : Bool) (p : Int) (hM : rank.M w b ok s v) (hj : j < s.length) (h1 : 0 ≤ e1) (h2 : e1 < 1024) (hw : wv s e1 = (p, true)) (hok : (p != (j : Int)) = false) :
    Calls Try.prog 8 #[v, .int .i64 (j : Int), .agg #[.int .i64 e1, .int .i64 e2, .bool e3]] w fun e w' => e = .returned (.int .i64 0) ∧ rank.M w' b (more w ok) (s.set j (some (e1, e2, e3))) v ∧ Wrote w w' ok := by
  have hn64 := (rank_n hM).2
  obtain ⟨a, t, hs, ha⟩ := split_at hj
  have HM := Aside0.mk hM
  obtain ⟨g, gl, cap, m, dv, rfl, hA, hI⟩ := HM.out
  subst ha
  generalize s.getD a.length none = o at hs
  have HST := Aside0.mk (fun (w1 : World) (ok1 : Nat → Prop) (hP : PAt w1 b ok1 (ents s) m (dues 0 s) g gl cap dv) => strike a t o (show PAt w1 b ok1 (ents s) m (dues 0 (a ++ o :: t)) g gl cap dv from by rw [← hs]; exact hP) (by omega))
  have HV := Aside0.mk (isv_of hj)
  have HW := Aside0.mk hw
  have HF := Aside0.mk (without_f (m := m) (j := a.length) (by omega) hI.1)
  have HIC := Aside0.mk (idle_set hI hj hn64 (e1, e2, e3))
  have HS := Aside0.mk hs
  have hne := hA.ne
  have hne2 := hA.ne.symm
  have HA := Aside0.mk hA
  have d2 : decide (e1 < 0) = false := decide_eq_false (by omega)
  have d3 : decide (1024 ≤ e1) = false := decide_eq_false (by omega)
  have hlt : (a.length : Int) < (s.length : Int) := by omega
  have hlen := Aside0.mk (ents_len s)
  have HR := Aside0.mk (rest_no a t)
  have HRL := Aside0.mk (show (rest a t).length < 64 from by have h3 := dues_len a 0; have h4 := dues_len t (a.length + 1); rw [hs, List.length_append, List.length_cons] at hn64; rw [rest, List.length_append]; omega)
  have HWF := Aside0.mk (show (Lit.int .i64 (a.length : Int)).wf = true from WalkArith.wf_i64 (by omega))
  have d4 : (p != (a.length : Int)) = false := hok
  clear hA hI hM hs hw h1 h2 hok
  generalize hjj : a.length = j at *
  have HJ := Aside0.mk hjj
  clear hjj
  go_enter Try.func8, Try.ntmps8
  go_upto_region 6 with (first | ((with_reducible refine gate_dst (N := 5) rfl ?_); refine box_event ?hg (N := 5) ?hd (cs := #[.int .i64 e1, .int .i64 e2, .bool e3]) (t := 29) ?hr ?_; (case hd => rfl); (case hg => rfl); (case hr => first | (go_simp; done) | (go_simp; rfl)); intro ge hge we hxe hbe; have HXe := Aside0.mk hxe; have HBe := Aside0.mk hbe; have HGe := Aside0.mk hge; have r0 := blk_cell hxe 0; have r1 := blk_cell hxe 1; have r2 := blk_cell hxe 2; have HMe := Aside0.mk (rank_below HM.out hbe); clear hxe hbe hge) | (go_at_call 21; (with_reducible refine (is_calls (j : Int) HMe.out).mono ?_); rintro e wz ⟨rfl, hz⟩; have hz := hz.symm; subst hz; clear hz; rw [HV.out]) | (go_at_call 10; (with_reducible refine (where_calls e1 HMe.out).mono ?_); rintro e ww ⟨rfl, hb⟩; rw [HW.out]; have HBw := Aside0.mk (HBe.out.trans (hb.mono HBe.out.size)); have HXw := Aside0.mk ((hb.block ge (blk_lt HXe.out)).trans HXe.out); clear hb r0 r1 r2; have r0 := blk_cell HXw.out 0; have r1 := blk_cell HXw.out 1; have r2 := blk_cell HXw.out 2))
  have HAB := Aside0.mk HA.out.bound
  have PW := Aside0.mk (HAB.out.below HBw.out)
  have h2c := PW.out.c2
  clear r0 r1 r2
  have hge : w.heap.size ≤ ge := by have := HGe.out; omega
  have hgw := Aside0.mk (blk_lt HXw.out)
  have n1 : ge ≠ gl := by have := HA.out.ltl; omega
  have n2 : ge ≠ g := by have := HA.out.lt; omega
  go_upto_region 7 with (first | (go_at_call 22; (with_reducible refine (HST.out ww _ PW.out).mono ?_); rintro e w1 ⟨r, rfl, hP1, hW1⟩; have P1 := Aside0.mk (show PAt w1 b (more w ok) (ents s) m (rest a t) g gl cap dv from hP1.mono (fun k hk => hk.elim (fun h => Or.inl h.1) (fun h => Or.inr (Nat.le_trans HBw.out.size h)))); have W1 := Aside0.mk (show Wrote w w1 ok from (Wrote.of_below HBw.out ok).trans hW1 (fun k hk => Or.inl hk.1)); have X1 := Aside0.mk (show w1.heap[ge]? = some (.cells #[.int .i64 e1, .int .i64 e2, .bool e3] 29 (0, 0)) from (hW1.block ge hgw.out (fun hk => by have := hk.2.2; omega)).trans HXw.out); clear hP1 hW1))
  have h0 := P1.out.c0
  rw [hlen.out] at h0
  obtain ⟨⟨k1, k2, k3⟩, k4, k5, k6⟩ := ent_get P1.out.row (show j < (ents s).length by rw [hlen.out]; exact hj)
  have r0 := blk_cell X1.out 0
  have r1 := blk_cell X1.out 1
  have r2 := blk_cell X1.out 2
  clear h2c
  go_still_tail 7, (by kernel_rfl)
  change wpList _ _ _ _ _ w1.drew
  obtain ⟨w2, hw2⟩ : ∃ w2 : World, w1.drew = w2 := ⟨_, rfl⟩
  rw [hw2]
  have hb2 : Below w1.heap.size w1 w2 := by rw [← hw2]; exact below_drew (Below.refl _ _)
  have P2 := Aside0.mk (P1.out.below hb2)
  have X2 := Aside0.mk ((hb2.block ge (blk_lt X1.out)).trans X1.out)
  have W2 := Aside0.mk (show Wrote w w2 ok from by rw [← hw2]; exact W1.out.drew)
  clear hw2 hb2 h0 k1 k2 k3 k4 k5 k6 r0 r1 r2
  obtain ⟨⟨k1, k2, k3⟩, k4, k5, k6⟩ := ent_get P2.out.row (show j < (ents s).length by rw [hlen.out]; exact hj)
  go_upto_region 8 with (fail)
  have P3 := Aside0.mk (show PAt (((w2.setCell ⟨gl, j * 3, none⟩ (.int .i64 e1)).setCell ⟨gl, j * 3 + 1, none⟩ (.int .i64 e2)).setCell ⟨gl, j * 3 + 2, none⟩ (.bool e3)) b (more w ok) ((ents s).set j (e1, e2, e3)) m (rest a t) g gl cap dv from P2.out.putE (show j < (ents s).length by rw [hlen.out]; exact hj) (e1, e2, e3))
  have hgl : ok gl ∨ w.heap.size ≤ gl := P2.out.okl
  have hgg : ok g ∨ w.heap.size ≤ g := P2.out.okg
  have X3 := Aside0.mk (show (((w2.setCell ⟨gl, j * 3, none⟩ (.int .i64 e1)).setCell ⟨gl, j * 3 + 1, none⟩ (.int .i64 e2)).setCell ⟨gl, j * 3 + 2, none⟩ (.bool e3)).heap[ge]? = some (.cells #[.int .i64 e1, .int .i64 e2, .bool e3] 29 (0, 0)) from blk_far (blk_far (blk_far X2.out n1 _) n1 _) n1 _)
  have W3 := Aside0.mk (show Wrote w (((w2.setCell ⟨gl, j * 3, none⟩ (.int .i64 e1)).setCell ⟨gl, j * 3 + 1, none⟩ (.int .i64 e2)).setCell ⟨gl, j * 3 + 2, none⟩ (.bool e3)) ok from ((W2.out.setCell hgl _).setCell hgl _).setCell hgl _)
  clear k1 k2 k3 k4 k5 k6 P1 W1 X1 P2 W2 X2
  generalize (((w2.setCell ⟨gl, j * 3, none⟩ (.int .i64 e1)).setCell ⟨gl, j * 3 + 1, none⟩ (.int .i64 e2)).setCell ⟨gl, j * 3 + 2, none⟩ (.bool e3)) = w3 at P3 X3 W3 ⊢
  have h1 := P3.out.c1
  have f1 := P3.out.f1
  go_upto_region 9 with (first | (go_at_call 23; (with_reducible refine (mask_Mask_Without.calls (m : Int) (j : Int) _ _ HF.out).mono ?_); rintro e w4 ⟨rfl, ⟨nd, hw4⟩⟩; have B4 := Aside0.mk (show Below w3.heap.size w3 w4 from by rw [hw4]; exact pw_below_drewN (Below.refl _ _) nd); clear hw4 h1 f1; have P4 := Aside0.mk (P3.out.below B4.out); have h1 := P4.out.c1; have f1 := P4.out.f1))
  have P5 := Aside0.mk (P4.out.setM (m &&& (18446744073709551615 - 2 ^ j)))
  have X5 := Aside0.mk (show (w4.setCell ⟨g, 1, none⟩ (.int .u64 ((m &&& (18446744073709551615 - 2 ^ j)) : Nat))).heap[ge]? = some (.cells #[.int .i64 e1, .int .i64 e2, .bool e3] 29 (0, 0)) from blk_far ((B4.out.block ge (blk_lt X3.out)).trans X3.out) n2 _)
  have W5 := Aside0.mk ((W3.out.trans (Wrote.of_below B4.out (fun _ => False)) (fun _ hk => hk.elim)).setCell (p := ⟨g, 1, none⟩) hgg (.int .u64 ((m &&& (18446744073709551615 - 2 ^ j)) : Nat)))
  clear h1 f1 P3 P4 X3 W3 B4
  generalize (w4.setCell ⟨g, 1, none⟩ (.int .u64 ((m &&& (18446744073709551615 - 2 ^ j)) : Nat))) = w5 at P5 X5 W5 ⊢
  have HEN := Aside0.mk (ents_set s j (some (e1, e2, e3)))
  cases e3 with
  | true =>
    have r2 := blk_cell X5.out 2
    go_wp2
    go_ret
    refine ⟨rfl, ⟨g, gl, cap, _, dv, rfl, ?_, HIC.out⟩, W5.out⟩
    rw [HEN.out]
    refine P5.out.perm ?_
    rw [HS.out, ← HJ.out, set_split, dues_split]
    exact List.Perm.refl _
  | false =>
    have r2 := blk_cell X5.out 2
    have r1 := blk_cell X5.out 1
    have h2c := P5.out.c2
    go_upto_region 10 with (fail)
    go_still_tail 7, (by kernel_rfl)
    change wpList _ _ _ _ _ w5.drew
    obtain ⟨w6, hw6⟩ : ∃ w6 : World, w5.drew = w6 := ⟨_, rfl⟩
    rw [hw6]
    have hb6 : Below w5.heap.size w5 w6 := by rw [← hw6]; exact below_drew (Below.refl _ _)
    have P6 := Aside0.mk (P5.out.below hb6)
    have W6 := Aside0.mk (show Wrote w w6 ok from by rw [← hw6]; exact W5.out.drew)
    clear hw6 hb6 r1 r2 h2c
    go_wp2_with (first | (go_at_call 24; (with_reducible refine (hput (j : Int) e2 P6.out.hp HWF.out HR.out (by have := HRL.out; omega) (by have := HRL.out; omega)).mono ?_); rintro e w7 ⟨rfl, hp7, hw7⟩; have P7 := Aside0.mk (P6.out.turnH hp7 hw7); clear hp7 hw7))
    go_ret
    refine ⟨rfl, ⟨g, gl, cap, _, dv, rfl, ?_, HIC.out⟩, W6.out.trans P7.out.2 (fun k hk => hk)⟩
    rw [HEN.out]
    refine (P7.out.1.mono (fun k hk => hk.elim (fun h => h) (fun h => Or.inr (Nat.le_trans W6.out.size h)))).perm ?_
    rw [HS.out, ← HJ.out, set_split]
    exact dues_perm a t (some (e1, e2, false))
end
end Go.Proofs.Ytjeflmdfnfgacaa.Rank

/- Rank's method Worst (no law is stated here; each says its conditions). -/
namespace Go.Proofs.Ytjeflmdfnfgacaa.Rank
open Go.RowKit Go.Proofs.YtjeflmdfnfgacaaW.PrintWords Go.Proofs.YtjeflmdfnfgacaaW.PrintLast Go.Proofs.YtjeflmdfnfgacaaW.PrintMore Go.Proofs.Ytjeflmdfnfgacaa.St Go.Proofs.Ytjeflmdfnfgacaa.Q Go.Proofs.Ytjeflmdfnfgacaa.Heap
set_option linter.unusedVariables false
set_option linter.unusedSimpArgs false
attribute [local go_sem] max2_int min2_int max_two min_two max_three min_three max_four min_four

theorem results_tct {P : Program} {fn : Func} {p u v : Tmp} {ty : TypeId} (h : fn.results = #[.tmp u, .cell p ty, .tmp v]) (tmps : Array Value) (w : World) (g : Nat) (t : TypeId) (cs : Array Value) (fr : Nat × Nat) (d : TypeDesc)
    (hp : tmps.getD p undef = .pointer (some ⟨g, 0, none⟩)) (hg : w.heap[g]? = some (.cells cs t fr))
    (hu : P.underlying ty = some d) (hd : (match d with | .struct _ | .array _ _ => true | _ => false) = true) (hi : (P.info? ty).map (·.size) = some cs.size) :
    (results fn tmps).run P w = .ok (.tuple #[tmps.getD u undef, .agg cs, tmps.getD v undef]) w := by
  have h1 : tmps[p]?.getD undef = .pointer (some ⟨g, 0, none⟩) := by simpa using hp
  simp [results, h, h1, asAddr, run_loadVar_row w g t ty cs fr d hg hu hd hi]
/-- Who comes ahead: by Due, then by id. -/
def less (a b : Ent) : Bool := if a.2.1 = b.2.1 then decide (a.1 < b.1) else decide (a.2.1 < b.2.1)
theorem less_f (a b : Ent) : edf_Less.f 4 a.1 a.2.1 a.2.2 b.1 b.2.1 b.2.2 = some (less a b) := by
  have n1 := cmpi_neg a.2.1 b.2.1
  have z1 := cmpi_zero a.2.1 b.2.1
  have n2 := cmpi_neg a.1 b.1
  unfold edf_Less.f edf_compare.f less
  rw [cmpi_64, Option.bind_some, cmpi_int, Option.bind_some, or_two, Option.bind_some, Option.bind_some]
  generalize cmpi a.2.1 b.2.1 = p at *
  generalize cmpi a.1 b.1 = q at *
  congr 1
  by_cases h : a.2.1 = b.2.1
  · rw [if_pos (z1.2 h), if_pos h]
    exact decide_eq_decide.2 n2
  · rw [if_neg (fun e => h (z1.1 e)), if_neg h]
    exact decide_eq_decide.2 n1
/-- One that may be stopped. -/
def Cand (s : List (Option Ent)) (j : Nat) (e : Ent) : Prop := j < s.length ∧ s.getD j none = some e ∧ e.2.2 = false
/-- The last of those. -/
def Best (s : List (Option Ent)) (j : Nat) (e : Ent) : Prop := Cand s j e ∧ ∀ i e', Cand s i e' → i ≠ j → less e' e = true
theorem dueAt_mem {c : Nat} {o : Option Ent} {z : Int × Int} (h : z ∈ dueAt c o) : ∃ e : Ent, o = some e ∧ e.2.2 = false ∧ z = ((c : Int), e.2.1) := by
  unfold dueAt at h
  split at h
  · rename_i i d
    simp at h
    exact ⟨_, rfl, rfl, h⟩
  · simp at h
theorem dues_mem : ∀ (s : List (Option Ent)) (c : Nat) (z : Int × Int), z ∈ dues c s → ∃ (i : Nat) (e : Ent), i < s.length ∧ s.getD i none = some e ∧ e.2.2 = false ∧ z = (((c + i : Nat) : Int), e.2.1)
  | [], c, z, h => by simp [dues] at h
  | o :: t, c, z, h => by
    rw [dues, List.mem_append] at h
    rcases h with h | h
    · obtain ⟨e, h1, h2, h3⟩ := dueAt_mem h
      exact ⟨0, e, by simp, by rw [h1]; rfl, h2, h3⟩
    · obtain ⟨i, e, h1, h2, h3, h4⟩ := dues_mem t (c + 1) z h
      exact ⟨i + 1, e, by simp; omega, by simpa using h2, h3, by rw [h4, show c + 1 + i = c + (i + 1) by omega]⟩
theorem cand_of {s : List (Option Ent)} {z : Int × Int} (h : z ∈ dues 0 s) : ∃ (i : Nat) (e : Ent), Cand s i e ∧ z = ((i : Int), e.2.1) := by
  obtain ⟨i, e, h1, h2, h3, h4⟩ := dues_mem s 0 z h
  rw [Nat.zero_add] at h4
  exact ⟨i, e, ⟨h1, h2, h3⟩, h4⟩
theorem cand_mem {s : List (Option Ent)} {j : Nat} {e : Ent} (h : Cand s j e) : ((j : Int), e.2.1) ∈ dues 0 s := by
  obtain ⟨a, t, hs, ha⟩ := split_at h.1
  rw [hs, h.2.1, dues_split, ha]
  obtain ⟨i, d, f⟩ := e
  obtain rfl : f = false := h.2.2
  exact List.mem_append_right _ (List.mem_append_left _ (by simp [dueAt]))
theorem first_ex (gr : Bool) : ∀ m : List (Int × Int), m ≠ [] → ∃ z, FirstOf gr m z
  | [], h => absurd rfl h
  | [y], _ => ⟨y, by simp, fun x hx hn => by simp at hx; exact absurd hx hn⟩
  | y :: x :: t, _ => by
    obtain ⟨z, h1, h2⟩ := first_ex gr (x :: t) (by simp)
    by_cases c : lt gr z y = true
    · refine ⟨z, List.mem_cons_of_mem _ h1, fun u hu hn => ?_⟩
      rcases List.mem_cons.1 hu with rfl | hu
      · exact c
      · exact h2 u hu hn
    · have c' : lt gr z y = false := by simpa using c
      refine ⟨y, List.mem_cons_self, fun u hu hn => ?_⟩
      rcases List.mem_cons.1 hu with rfl | hu
      · exact absurd rfl hn
      · have h3 : lt gr u z = false := by
          by_cases e : u = z
          · subst e; exact lt_irr _ _
          · exact lt_asym (h2 u hu e)
        have h4 := nlt_trans h3 c'
        cases h5 : lt gr y u with
        | true => rfl
        | false => exact absurd (lt_eq h4 h5) hn
theorem less_irr (a : Ent) : less a a = false := by unfold less; rw [if_pos rfl]; exact decide_eq_false (by omega)
theorem less_def (a b : Ent) : less a b = true ↔ (a.2.1 = b.2.1 ∧ a.1 < b.1) ∨ a.2.1 < b.2.1 := by
  unfold less
  by_cases h : a.2.1 = b.2.1
  · rw [if_pos h, decide_eq_true_eq]; omega
  · rw [if_neg h, decide_eq_true_eq]; omega
theorem less_no (a b : Ent) : less a b = false ↔ (a.2.1 = b.2.1 ∧ b.1 ≤ a.1) ∨ b.2.1 < a.2.1 := by
  rw [← Bool.not_eq_true, less_def]; omega
def NoLess (s : List (Option Ent)) (k : Nat) (eb : Ent) : Prop := ∀ t e, t < k → Cand s t e → less eb e = false
theorem no_cand {s : List (Option Ent)} {k : Nat} {eb : Ent} (h : NoLess s k eb) (hk : ∀ e, Cand s k e → less eb e = false) : NoLess s (k + 1) eb := fun t e ht hc => by
  rcases Nat.lt_or_ge t k with c | c
  · exact h t e c hc
  · obtain rfl : t = k := by omega
    exact hk e hc
theorem new_best {s : List (Option Ent)} {k : Nat} {eb x : Ent} (h : NoLess s k eb) (hl : less eb x = true) (hk : ∀ e, Cand s k e → e = x) : NoLess s (k + 1) x := by
  refine no_cand (fun t e ht hc => ?_) (fun e hc => by rw [hk e hc]; exact less_irr _)
  have h1 := h t e ht hc
  rw [less_no] at h1 ⊢
  rw [less_def] at hl
  omega
def RelB (w : World) (s : List (Option Ent)) (gr : Nat) (iv bv : Value) (wr : World) : Prop :=
  ∃ (k bi : Nat) (eb : Ent), k ≤ s.length ∧ iv = .int .i64 (k : Int) ∧ bv = .int .i64 (bi : Int) ∧ Cand s bi eb ∧ NoLess s k eb ∧ wr.heap[gr]? = some (.cells #[.int .i64 0, .int .i64 0, .bool false] 29 (0, 0)) ∧ Below w.heap.size w wr
section
variable {w : World} {b : Nat} {ok : Nat → Prop} {s : List (Option Ent)} {v : Value}
set_option maxHeartbeats 1000000 in
set_option maxRecDepth 100000 in
theorem worst_none (hM : rank.M w b ok s v) (hd : dues 0 s = []) :
    Calls Try.prog 9 #[v] w fun e w' => e = .returned (.tuple #[.int .i64 0, entv z0, .bool false]) ∧ Below w.heap.size w w' := by
  have HM := Aside0.mk hM
  obtain ⟨g, gl, cap, m, dv, rfl, hA, hI⟩ := HM.out
  rw [hd] at hA
  have HA := Aside0.mk hA
  clear hA hI hM hd
  go_enter Try.func9, Try.ntmps9
  go_upto_region 2 with (first | ((with_reducible refine gate_dst (N := 3) rfl ?_); refine box_event ?hg (N := 3) ?hd (cs := #[(.int .i64 0), (.int .i64 0), (.bool false)]) (t := 29) ?hr ?_; (case hd => rfl); (case hg => rfl); (case hr => first | (go_simp; done) | (go_simp; rfl)); intro gr hgr wr hxr hbr; have HXr := Aside0.mk hxr; have HBr := Aside0.mk hbr; have HGr := Aside0.mk hgr; have r0r := blk_cell hxr 0; have r1r := blk_cell hxr 1; have r2r := blk_cell hxr 2; have q0r := blk_frozen hxr 0; have q1r := blk_frozen hxr 1; have q2r := blk_frozen hxr 2; have HAr := Aside0.mk (HA.out.below hbr); have h2 := HAr.out.c2; clear hxr hbr hgr) | (go_at_call 25; (with_reducible refine (htop_none HAr.out.hp).mono ?_); rintro e wt ⟨rfl, hb⟩; have HBt := Aside0.mk (HBr.out.trans (hb.mono HBr.out.size)); have HXt := Aside0.mk (show wt.heap[gr]? = some (.cells #[.int .i64 0, .int .i64 0, .bool false] 29 (0, 0)) from (hb.block gr (blk_lt HXr.out)).trans HXr.out); clear hb r0r r1r r2r q0r q1r q2r) | ((with_reducible refine gate_dst (N := 5) rfl ?_); refine box_event ?hg (N := 5) ?hd (cs := #[(.int .i64 0), (.int .i64 0)]) (t := 61) ?hr ?_; (case hd => rfl); (case hg => rfl); (case hr => first | (go_simp; done) | (go_simp; rfl)); intro g5 hg5 w5 hx5 hb5; have HX5 := Aside0.mk hx5; have HB5 := Aside0.mk hb5; have HG5 := Aside0.mk hg5; have r05 := blk_cell hx5 0; have r15 := blk_cell hx5 1; have q05 := blk_frozen hx5 0; have q15 := blk_frozen hx5 1; clear hx5 hb5 hg5))
  have hb2 : Below w.heap.size w ((w5.setCell ⟨g5, 0, none⟩ (.int .i64 0)).setCell ⟨g5, 1, none⟩ (.int .i64 0)) := by
    have hz : w.heap.size ≤ g5 := by have := HG5.out; have := HBt.out.size; omega
    exact ((HBt.out.trans (HB5.out.mono HBt.out.size)).setCell hz _).setCell hz _
  have hx2 : ((w5.setCell ⟨g5, 0, none⟩ (.int .i64 0)).setCell ⟨g5, 1, none⟩ (.int .i64 0)).heap[gr]? = some (.cells #[.int .i64 0, .int .i64 0, .bool false] 29 (0, 0)) := by
    have hne : gr ≠ g5 := by have := HG5.out; have := blk_lt HXt.out; omega
    exact blk_far (blk_far ((HB5.out.block gr (blk_lt HXt.out)).trans HXt.out) hne _) hne _
  clear r05 r15 q05 q15
  generalize ((w5.setCell ⟨g5, 0, none⟩ (.int .i64 0)).setCell ⟨g5, 1, none⟩ (.int .i64 0)) = w6 at hb2 hx2 ⊢
  have HB6 := Aside0.mk hb2
  have HX6 := Aside0.mk hx2
  clear hb2 hx2
  have r0 := blk_cell HX6.out 0
  have r1 := blk_cell HX6.out 1
  have r2 := blk_cell HX6.out 2
  have q0 := blk_frozen HX6.out 0
  have q1 := blk_frozen HX6.out 1
  have q2 := blk_frozen HX6.out 2
  go_wp2
  refine bodyPost_ret (results_tct rfl _ _ gr 29 #[.int .i64 0, .int .i64 0, .bool false] (0, 0) _ rfl (blk_put (cs := #[(.int .i64 0), (.int .i64 0), .bool false]) (blk_put (cs := #[(.int .i64 0), .int .i64 0, .bool false]) (blk_put (cs := #[.int .i64 0, .int .i64 0, .bool false]) HX6.out 0 _ rfl) 1 _ rfl) 2 _ rfl) Try.underlying29 rfl (by kernel_rfl)) rfl ?_
  exact ⟨rfl, ((HB6.out.setCell (by have := HGr.out; show w.heap.size ≤ gr; omega) _).setCell (by have := HGr.out; show w.heap.size ≤ gr; omega) _).setCell (by have := HGr.out; show w.heap.size ≤ gr; omega) _⟩
set_option maxHeartbeats 4000000 in
set_option maxRecDepth 100000 in
theorem worst_some (j : Nat) (e1 e2 : Int) (e3 : Bool) (hM : rank.M w b ok s v) (hB : Best s j (e1, e2, e3)) :
    Calls Try.prog 9 #[v] w fun e w' => e = .returned (.tuple #[.int .i64 (j : Int), entv (e1, e2, e3), .bool true]) ∧ Below w.heap.size w w' := by
  have HM := Aside0.mk hM
  have HBE := Aside0.mk hB
  have HN64 := Aside0.mk (rank_n hM).2
  obtain ⟨z, hz⟩ := first_ex true (dues 0 s) (fun e => by have := cand_mem hB.1; rw [e] at this; simp at this)
  obtain ⟨i0, e0, hc0, hz0⟩ := cand_of hz.1
  subst hz0
  have HZ := Aside0.mk hz
  have HC0 := Aside0.mk hc0
  obtain ⟨g, gl, cap, m, dv, rfl, hA, hI⟩ := HM.out
  have HA := Aside0.mk hA
  have HI := Aside0.mk hI
  have hlen := Aside0.mk (ents_len s)
  clear hA hI hM hB hz hc0
  go_enter Try.func9, Try.ntmps9
  go_upto_region 4 with (first | ((with_reducible refine gate_dst (N := 3) rfl ?_); refine box_event ?hg (N := 3) ?hd (cs := #[(.int .i64 0), (.int .i64 0), (.bool false)]) (t := 29) ?hr ?_; (case hd => rfl); (case hg => rfl); (case hr => first | (go_simp; done) | (go_simp; rfl)); intro gr hgr wr hxr hbr; have HXr := Aside0.mk hxr; have HBr := Aside0.mk hbr; have HGr := Aside0.mk hgr; have r0r := blk_cell hxr 0; have r1r := blk_cell hxr 1; have r2r := blk_cell hxr 2; have q0r := blk_frozen hxr 0; have q1r := blk_frozen hxr 1; have q2r := blk_frozen hxr 2; have HAr := Aside0.mk (HA.out.below hbr); have h2 := HAr.out.c2; clear hxr hbr hgr) | (go_at_call 25; (with_reducible refine (htop ((i0 : Int), e0.2.1) HAr.out.hp HZ.out).mono ?_); rintro e wt ⟨rfl, hb⟩; have HBt := Aside0.mk (HBr.out.trans (hb.mono HBr.out.size)); have HXt := Aside0.mk (show wt.heap[gr]? = some (.cells #[.int .i64 0, .int .i64 0, .bool false] 29 (0, 0)) from (hb.block gr (blk_lt HXr.out)).trans HXr.out); clear hb r0r r1r r2r q0r q1r q2r) | ((with_reducible refine gate_dst (N := 5) rfl ?_); refine box_event ?hg (N := 5) ?hd (cs := #[(.int .i64 0), (.int .i64 0)]) (t := 61) ?hr ?_; (case hd => rfl); (case hg => rfl); (case hr => first | (go_simp; done) | (go_simp; rfl)); intro g5 hg5 w5 hx5 hb5; have HX5 := Aside0.mk hx5; have HB5 := Aside0.mk hb5; have HG5 := Aside0.mk hg5; have r05 := blk_cell hx5 0; have r15 := blk_cell hx5 1; have q05 := blk_frozen hx5 0; have q15 := blk_frozen hx5 1; clear hx5 hb5 hg5))
  have hb2 : Below w.heap.size w ((w5.setCell ⟨g5, 0, none⟩ (.int .i64 (i0 : Int))).setCell ⟨g5, 1, none⟩ (.int .i64 e0.2.1)) := by
    have hz : w.heap.size ≤ g5 := by have := HG5.out; have := HBt.out.size; omega
    exact ((HBt.out.trans (HB5.out.mono HBt.out.size)).setCell hz _).setCell hz _
  have hx2 : ((w5.setCell ⟨g5, 0, none⟩ (.int .i64 (i0 : Int))).setCell ⟨g5, 1, none⟩ (.int .i64 e0.2.1)).heap[gr]? = some (.cells #[.int .i64 0, .int .i64 0, .bool false] 29 (0, 0)) := by
    have hne : gr ≠ g5 := by have := HG5.out; have := blk_lt HXt.out; omega
    exact blk_far (blk_far ((HB5.out.block gr (blk_lt HXt.out)).trans HXt.out) hne _) hne _
  have hy2 : ((w5.setCell ⟨g5, 0, none⟩ (.int .i64 (i0 : Int))).setCell ⟨g5, 1, none⟩ (.int .i64 e0.2.1)).heap[g5]? = some (.cells #[.int .i64 (i0 : Int), .int .i64 e0.2.1] 61 (0, 0)) := blk_put (cs := #[.int .i64 (i0 : Int), .int .i64 0]) (blk_put (cs := #[.int .i64 0, .int .i64 0]) HX5.out 0 _ rfl) 1 _ rfl
  clear r05 r15 q05 q15
  generalize ((w5.setCell ⟨g5, 0, none⟩ (.int .i64 (i0 : Int))).setCell ⟨g5, 1, none⟩ (.int .i64 e0.2.1)) = w6 at hb2 hx2 hy2 ⊢
  have HB6 := Aside0.mk hb2
  have HX6 := Aside0.mk hx2
  have y0 := blk_cell hy2 0
  have hc0 := (HA.out.below hb2).c0
  rw [hlen.out] at hc0
  clear hb2 hx2 hy2 HBt HXt HB5 HX5 HG5 HXr HBr h2 HAr
  go_wp2
  obtain ⟨wo, hwo⟩ : ∃ wo : World, wo = w6 := ⟨_, rfl⟩
  go_loopw [28, 7] (fun i bv wr => RelB w s gr i bv wr) (fun i _ _ => s.length - (intOf i).toNat)
  case atStart => exact ⟨0, i0, e0, Nat.zero_le _, rfl, rfl, HC0.out, fun t e ht => by omega, HX6.out, HB6.out⟩
  case round =>
    obtain ⟨k, bi, eb, hk, rfl, rfl, hcb, hle, hxr, hB⟩ := hrel
    have HB := Aside0.mk hB
    have HCB := Aside0.mk hcb
    have HLE := Aside0.mk hle
    have XR := Aside0.mk hxr
    have HP := Aside0.mk (HA.out.below hB)
    have hbn : bi < s.length := hcb.1
    obtain ⟨b0, b1, b2⟩ := eb
    have HEB := Aside0.mk (show (ents s).getD bi z0 = (b0, b1, b2) from by rw [ents_getD, hcb.2.1]; rfl)
    clear hB hcb hle hxr hc0 y0 HX6 HB6
    have hc0 := HP.out.c0
    rw [hlen.out] at hc0
    by_cases hlt : k < s.length
    · obtain ⟨⟨k1, k2, k3⟩, _⟩ := ent_get HP.out.row (show k < (ents s).length by rw [hlen.out]; exact hlt)
      have hk64 : k < 64 := by have := HN64.out; omega
      have HX := Aside0.mk (ents_getD s k)
      obtain ⟨x, hx⟩ : ∃ x, (ents s).getD k z0 = x := ⟨_, rfl⟩
      rw [hx] at k1 k2 k3 HX
      obtain ⟨x0, x1, x2⟩ := x
      clear hx
      go_upto_region 8 with (first | ((with_reducible refine gate_dst (N := 9) rfl ?_); refine box_event ?hg (N := 9) ?hd (cs := #[(.int .i64 0), (.int .i64 0), (.bool false)]) (t := 29) ?hr ?_; (case hd => rfl); (case hg => rfl); (case hr => first | (go_simp; done) | (go_simp; rfl)); intro g9 hg9 w9 hx9 hb9; have HX9 := Aside0.mk hx9; have HB9 := Aside0.mk hb9; have HG9 := Aside0.mk hg9; have r09 := blk_cell hx9 0; have r19 := blk_cell hx9 1; have r29 := blk_cell hx9 2; have q09 := blk_frozen hx9 0; have q19 := blk_frozen hx9 1; have q29 := blk_frozen hx9 2; clear hx9 hb9 hg9))
      have hb7 : Below w.heap.size w (((w9.setCell ⟨g9, 0, none⟩ (.int .i64 x0)).setCell ⟨g9, 1, none⟩ (.int .i64 x1)).setCell ⟨g9, 2, none⟩ (.bool x2)) := by
        have hz : w.heap.size ≤ g9 := by have := HG9.out; have := HB.out.size; omega
        exact (((HB.out.trans (HB9.out.mono HB.out.size)).setCell hz _).setCell hz _).setCell hz _
      have hx7 : (((w9.setCell ⟨g9, 0, none⟩ (.int .i64 x0)).setCell ⟨g9, 1, none⟩ (.int .i64 x1)).setCell ⟨g9, 2, none⟩ (.bool x2)).heap[gr]? = some (.cells #[.int .i64 0, .int .i64 0, .bool false] 29 (0, 0)) := by
        have hne : gr ≠ g9 := by have := HG9.out; have := blk_lt XR.out; omega
        exact blk_far (blk_far (blk_far ((HB9.out.block gr (blk_lt XR.out)).trans XR.out) hne _) hne _) hne _
      have hy7 : (((w9.setCell ⟨g9, 0, none⟩ (.int .i64 x0)).setCell ⟨g9, 1, none⟩ (.int .i64 x1)).setCell ⟨g9, 2, none⟩ (.bool x2)).heap[g9]? = some (.cells #[.int .i64 x0, .int .i64 x1, .bool x2] 29 (0, 0)) := blk_put (cs := #[(.int .i64 x0), (.int .i64 x1), .bool false]) (blk_put (cs := #[(.int .i64 x0), .int .i64 0, .bool false]) (blk_put (cs := #[.int .i64 0, .int .i64 0, .bool false]) HX9.out 0 _ rfl) 1 _ rfl) 2 _ rfl
      clear r09 r19 r29 q09 q19 q29 k1 k2 k3 hc0
      generalize (((w9.setCell ⟨g9, 0, none⟩ (.int .i64 x0)).setCell ⟨g9, 1, none⟩ (.int .i64 x1)).setCell ⟨g9, 2, none⟩ (.bool x2)) = w7 at hb7 hx7 hy7 ⊢
      have HB7 := Aside0.mk hb7
      have XR7 := Aside0.mk hx7
      have X9 := Aside0.mk hy7
      have HP7 := Aside0.mk (HA.out.below hb7)
      clear hb7 hx7 hy7 HX9 HB9 HG9
      have bq : (0 ≤ (bi : Int) ∧ (bi : Int) < (s.length : Int)) := by omega
      cases hn : s.getD k none with
      | none =>
        have hxe := HX.out
        rw [hn] at hxe
        cases hxe
        have HH := Aside0.mk (show mask_Mask_Has.f (m : Int) (k : Int) = some true from by rw [has_f hk64 HI.out.1, HI.out.2 k hk64, decide_eq_true ⟨hlt, hn⟩])
        have HNO := Aside0.mk hn
        clear hn
        refine q_start (by kernel_rfl) (by kernel_rfl) (fun w' => Below w7.heap.size w7 w') (below_drew (Below.refl _ _)) ?_
        refine q_op (v := ?_) (a' := ?_) ?hw1 ?_ ?_ ?_
        case hw1 => rfl
        rotate_left
        rotate_left
        · intro w' hC_
          go_simp
          with_reducible rfl
        · show Act.put _ (some 33) _ = _
          simp only [Act.put, List.setIfInBounds_toArray, List.set_cons_zero, List.set_cons_succ, i64_w, i32_w]
          rfl
        refine q_op (v := ?_) (a' := ?_) ?hw1 ?_ ?_ ?_
        case hw1 => rfl
        rotate_left
        rotate_left
        · intro w' hC_
          go_simp
          with_reducible rfl
        · show Act.put _ (some 34) _ = _
          simp only [Act.put, List.setIfInBounds_toArray, List.set_cons_zero, List.set_cons_succ, i64_w, i32_w]
          rfl
        refine q_op (v := ?_) (a' := ?_) ?hw1 ?_ ?_ ?_
        case hw1 => rfl
        rotate_left
        rotate_left
        · intro w' hC_
          go_simp
          with_reducible rfl
        · show Act.put _ (some 35) _ = _
          simp only [Act.put, List.setIfInBounds_toArray, List.set_cons_zero, List.set_cons_succ, i64_w, i32_w]
          rfl
        refine q_op (v := ?_) (a' := ?_) ?hw1 ?_ ?_ ?_
        case hw1 => rfl
        rotate_left
        rotate_left
        · intro w' hC_
          have z0 := (HP7.out.below hC_).c1
          go_simp
          with_reducible rfl
        · show Act.put _ (some 36) _ = _
          simp only [Act.put, List.setIfInBounds_toArray, List.set_cons_zero, List.set_cons_succ, i64_w, i32_w]
          rfl
        refine q_op (v := ?_) (a' := ?_) ?hw1 ?_ ?_ ?_
        case hw1 => rfl
        rotate_left
        rotate_left
        · intro w' hC_
          go_simp
          with_reducible rfl
        · show Act.put _ (some 37) _ = _
          simp only [Act.put, List.setIfInBounds_toArray, List.set_cons_zero, List.set_cons_succ, i64_w, i32_w]
          rfl
        refine q_call (a' := ?_) Try.func26 (by kernel_rfl) rfl #[.int .u64 (m : Int), .int .i64 (k : Int)] ?hw1 rfl ?hx1 (.bool true) ?_ ?_ ?_
        case hw1 => rfl
        case hx1 => (try simp only [List.map_toArray, List.map_cons, List.map_nil]); first | done | rfl
        rotate_left
        · intro w' hC_
          exact (mask_Mask_Has.calls (m : Int) (k : Int) true _ HH.out).mono (by rintro e w'' ⟨rfl, hq⟩; exact ⟨rfl, hC_.trans (Below.mono (Drawn0.below hq) hC_.size)⟩)
        · show Act.put _ (some 38) _ = _
          simp only [Act.put, List.setIfInBounds_toArray, List.set_cons_zero, List.set_cons_succ, i64_w, i32_w]
          rfl
        refine q_op (v := ?_) (a' := ?_) ?hw1 ?_ ?_ ?_
        case hw1 => rfl
        rotate_left
        rotate_left
        · intro w' hC_
          go_simp
          with_reducible rfl
        · show Act.put _ (some 39) _ = _
          simp only [Act.put, List.setIfInBounds_toArray, List.set_cons_zero, List.set_cons_succ, i64_w, i32_w]
          rfl
        refine q_op (v := ?_) (a' := ?_) ?hw1 ?_ ?_ ?_
        case hw1 => rfl
        rotate_left
        rotate_left
        · intro w' hC_
          go_simp
          with_reducible rfl
        · show Act.put _ (some 40) _ = _
          simp only [Act.put, List.setIfInBounds_toArray, List.set_cons_zero, List.set_cons_succ, i64_w, i32_w]
          rfl
        refine q_off (a' := ?_) ?hw1 ?_ ?_
        case hw1 => exact wanted_off rfl rfl rfl rfl
        rotate_left
        · show Act.put _ (some 41) _ = _
          simp only [Act.put, List.setIfInBounds_toArray, List.set_cons_zero, List.set_cons_succ, i64_w, i32_w]
          rfl
        refine q_off (a' := ?_) ?hw1 ?_ ?_
        case hw1 => exact wanted_off rfl rfl rfl rfl
        rotate_left
        · show Act.put _ (some 42) _ = _
          simp only [Act.put, List.setIfInBounds_toArray, List.set_cons_zero, List.set_cons_succ, i64_w, i32_w]
          rfl
        refine q_off (a' := ?_) ?hw1 ?_ ?_
        case hw1 => exact wanted_off rfl rfl rfl rfl
        rotate_left
        · show Act.put _ (some 43) _ = _
          simp only [Act.put, List.setIfInBounds_toArray, List.set_cons_zero, List.set_cons_succ, i64_w, i32_w]
          rfl
        refine q_op (v := ?_) (a' := ?_) ?hw1 ?_ ?_ ?_
        case hw1 => rfl
        rotate_left
        rotate_left
        · intro w' hC_
          go_simp
          with_reducible rfl
        · show Act.put _ (some 44) _ = _
          simp only [Act.put, List.setIfInBounds_toArray, List.set_cons_zero, List.set_cons_succ, i64_w, i32_w]
          rfl
        refine q_op (v := ?_) (a' := ?_) ?hw1 ?_ ?_ ?_
        case hw1 => rfl
        rotate_left
        rotate_left
        · intro w' hC_
          go_simp
          with_reducible rfl
        · show Act.put _ (some 45) _ = _
          simp only [Act.put, List.setIfInBounds_toArray, List.set_cons_zero, List.set_cons_succ, i64_w, i32_w]
          rfl
        refine q_off (a' := ?_) ?hw1 ?_ ?_
        case hw1 => exact wanted_off rfl rfl rfl rfl
        rotate_left
        · show Act.put _ (some 46) _ = _
          simp only [Act.put, List.setIfInBounds_toArray, List.set_cons_zero, List.set_cons_succ, i64_w, i32_w]
          rfl
        refine q_off (a' := ?_) ?hw1 ?_ ?_
        case hw1 => exact wanted_off rfl rfl rfl rfl
        rotate_left
        · show Act.put _ (some 47) _ = _
          simp only [Act.put, List.setIfInBounds_toArray, List.set_cons_zero, List.set_cons_succ, i64_w, i32_w]
          rfl
        refine q_off (a' := ?_) ?hw1 ?_ ?_
        case hw1 => exact wanted_off rfl rfl rfl rfl
        rotate_left
        · show Act.put _ (some 48) _ = _
          simp only [Act.put, List.setIfInBounds_toArray, List.set_cons_zero, List.set_cons_succ, i64_w, i32_w]
          rfl
        refine q_off (a' := ?_) ?hw1 ?_ ?_
        case hw1 => exact wanted_off rfl rfl rfl rfl
        rotate_left
        · show Act.put _ (some 49) _ = _
          simp only [Act.put, List.setIfInBounds_toArray, List.set_cons_zero, List.set_cons_succ, i64_w, i32_w]
          rfl
        refine q_off (a' := ?_) ?hw1 ?_ ?_
        case hw1 => exact wanted_off rfl rfl rfl rfl
        rotate_left
        · show Act.put _ (some 50) _ = _
          simp only [Act.put, List.setIfInBounds_toArray, List.set_cons_zero, List.set_cons_succ, i64_w, i32_w]
          rfl
        refine q_off (a' := ?_) ?hw1 ?_ ?_
        case hw1 => exact wanted_off rfl rfl rfl rfl
        rotate_left
        · show Act.put _ (some 51) _ = _
          simp only [Act.put, List.setIfInBounds_toArray, List.set_cons_zero, List.set_cons_succ, i64_w, i32_w]
          rfl
        refine q_off (a' := ?_) ?hw1 ?_ ?_
        case hw1 => exact wanted_off rfl rfl rfl rfl
        rotate_left
        · show Act.put _ (some 52) _ = _
          simp only [Act.put, List.setIfInBounds_toArray, List.set_cons_zero, List.set_cons_succ, i64_w, i32_w]
          rfl
        refine q_off (a' := ?_) ?hw1 ?_ ?_
        case hw1 => exact wanted_off rfl rfl rfl rfl
        rotate_left
        · show Act.put _ (some 53) _ = _
          simp only [Act.put, List.setIfInBounds_toArray, List.set_cons_zero, List.set_cons_succ, i64_w, i32_w]
          rfl
        refine q_off (a' := ?_) ?hw1 ?_ ?_
        case hw1 => exact wanted_off rfl rfl rfl rfl
        rotate_left
        · show Act.put _ (some 54) _ = _
          simp only [Act.put, List.setIfInBounds_toArray, List.set_cons_zero, List.set_cons_succ, i64_w, i32_w]
          rfl
        refine q_op (v := ?_) (a' := ?_) ?hw1 ?_ ?_ ?_
        case hw1 => rfl
        rotate_left
        rotate_left
        · intro w' hC_
          go_simp
          with_reducible rfl
        · show Act.put _ (some 55) _ = _
          simp only [Act.put, List.setIfInBounds_toArray, List.set_cons_zero, List.set_cons_succ, i64_w, i32_w]
          rfl
        refine q_nil ?_
        intro w8 hC_
        have HB8 := Aside0.mk (HB7.out.trans (hC_.mono HB7.out.size))
        have XR8 := Aside0.mk ((hC_.block _ (blk_lt XR7.out)).trans XR7.out)
        clear hC_
        go_wp2
        exact ⟨⟨k + 1, bi, (b0, b1, b2), by omega, by go_num, rfl, HCB.out, no_cand HLE.out (fun e hc => by have h1 := hc.2.1; rw [HNO.out] at h1; cases h1), XR8.out, HB8.out⟩, by simp [intOf]; omega⟩
      | some e =>
        have hxe := HX.out
        rw [hn] at hxe
        cases hxe
        cases x2 with
        | true =>
          have HH := Aside0.mk (show mask_Mask_Has.f (m : Int) (k : Int) = some false from by rw [has_f hk64 HI.out.1, HI.out.2 k hk64, decide_eq_false (fun hh => by rw [hn] at hh; cases hh.2)])
          have HNO := Aside0.mk hn
          clear hn
          refine q_start (by kernel_rfl) (by kernel_rfl) (fun w' => Below w7.heap.size w7 w') (below_drew (Below.refl _ _)) ?_
          refine q_op (v := ?_) (a' := ?_) ?hw2 ?_ ?_ ?_
          case hw2 => rfl
          rotate_left
          rotate_left
          · intro w' hC_
            go_simp
            with_reducible rfl
          · show Act.put _ (some 33) _ = _
            simp only [Act.put, List.setIfInBounds_toArray, List.set_cons_zero, List.set_cons_succ, i64_w, i32_w]
            rfl
          refine q_op (v := ?_) (a' := ?_) ?hw2 ?_ ?_ ?_
          case hw2 => rfl
          rotate_left
          rotate_left
          · intro w' hC_
            go_simp
            with_reducible rfl
          · show Act.put _ (some 34) _ = _
            simp only [Act.put, List.setIfInBounds_toArray, List.set_cons_zero, List.set_cons_succ, i64_w, i32_w]
            rfl
          refine q_op (v := ?_) (a' := ?_) ?hw2 ?_ ?_ ?_
          case hw2 => rfl
          rotate_left
          rotate_left
          · intro w' hC_
            go_simp
            with_reducible rfl
          · show Act.put _ (some 35) _ = _
            simp only [Act.put, List.setIfInBounds_toArray, List.set_cons_zero, List.set_cons_succ, i64_w, i32_w]
            rfl
          refine q_op (v := ?_) (a' := ?_) ?hw2 ?_ ?_ ?_
          case hw2 => rfl
          rotate_left
          rotate_left
          · intro w' hC_
            have z0 := (HP7.out.below hC_).c1
            go_simp
            with_reducible rfl
          · show Act.put _ (some 36) _ = _
            simp only [Act.put, List.setIfInBounds_toArray, List.set_cons_zero, List.set_cons_succ, i64_w, i32_w]
            rfl
          refine q_op (v := ?_) (a' := ?_) ?hw2 ?_ ?_ ?_
          case hw2 => rfl
          rotate_left
          rotate_left
          · intro w' hC_
            go_simp
            with_reducible rfl
          · show Act.put _ (some 37) _ = _
            simp only [Act.put, List.setIfInBounds_toArray, List.set_cons_zero, List.set_cons_succ, i64_w, i32_w]
            rfl
          refine q_call (a' := ?_) Try.func26 (by kernel_rfl) rfl #[.int .u64 (m : Int), .int .i64 (k : Int)] ?hw2 rfl ?hx2 (.bool false) ?_ ?_ ?_
          case hw2 => rfl
          case hx2 => (try simp only [List.map_toArray, List.map_cons, List.map_nil]); first | done | rfl
          rotate_left
          · intro w' hC_
            exact (mask_Mask_Has.calls (m : Int) (k : Int) false _ HH.out).mono (by rintro e w'' ⟨rfl, hq⟩; exact ⟨rfl, hC_.trans (Below.mono (Drawn0.below hq) hC_.size)⟩)
          · show Act.put _ (some 38) _ = _
            simp only [Act.put, List.setIfInBounds_toArray, List.set_cons_zero, List.set_cons_succ, i64_w, i32_w]
            rfl
          refine q_op (v := ?_) (a' := ?_) ?hw2 ?_ ?_ ?_
          case hw2 => rfl
          rotate_left
          rotate_left
          · intro w' hC_
            go_simp
            with_reducible rfl
          · show Act.put _ (some 39) _ = _
            simp only [Act.put, List.setIfInBounds_toArray, List.set_cons_zero, List.set_cons_succ, i64_w, i32_w]
            rfl
          refine q_op (v := ?_) (a' := ?_) ?hw2 ?_ ?_ ?_
          case hw2 => rfl
          rotate_left
          rotate_left
          · intro w' hC_
            go_simp
            with_reducible rfl
          · show Act.put _ (some 40) _ = _
            simp only [Act.put, List.setIfInBounds_toArray, List.set_cons_zero, List.set_cons_succ, i64_w, i32_w]
            rfl
          refine q_op (v := ?_) (a' := ?_) ?hw2 ?_ ?_ ?_
          case hw2 => exact wanted_on rfl rfl rfl rfl
          rotate_left
          rotate_left
          · intro w' hC_
            go_simp
            with_reducible rfl
          · show Act.put _ (some 41) _ = _
            simp only [Act.put, List.setIfInBounds_toArray, List.set_cons_zero, List.set_cons_succ, i64_w, i32_w]
            rfl
          refine q_op (v := ?_) (a' := ?_) ?hw2 ?_ ?_ ?_
          case hw2 => exact wanted_on rfl rfl rfl rfl
          rotate_left
          rotate_left
          · intro w' hC_
            have y2 := blk_cell ((hC_.block _ (blk_lt X9.out)).trans X9.out) 2
            go_simp
            with_reducible rfl
          · show Act.put _ (some 42) _ = _
            simp only [Act.put, List.setIfInBounds_toArray, List.set_cons_zero, List.set_cons_succ, i64_w, i32_w]
            rfl
          refine q_op (v := ?_) (a' := ?_) ?hw2 ?_ ?_ ?_
          case hw2 => exact wanted_on rfl rfl rfl rfl
          rotate_left
          rotate_left
          · intro w' hC_
            go_simp
            with_reducible rfl
          · show Act.put _ (some 43) _ = _
            simp only [Act.put, List.setIfInBounds_toArray, List.set_cons_zero, List.set_cons_succ, i64_w, i32_w]
            rfl
          refine q_op (v := ?_) (a' := ?_) ?hw2 ?_ ?_ ?_
          case hw2 => rfl
          rotate_left
          rotate_left
          · intro w' hC_
            go_simp
            with_reducible rfl
          · show Act.put _ (some 44) _ = _
            simp only [Act.put, List.setIfInBounds_toArray, List.set_cons_zero, List.set_cons_succ, i64_w, i32_w]
            rfl
          refine q_op (v := ?_) (a' := ?_) ?hw2 ?_ ?_ ?_
          case hw2 => rfl
          rotate_left
          rotate_left
          · intro w' hC_
            go_simp
            with_reducible rfl
          · show Act.put _ (some 45) _ = _
            simp only [Act.put, List.setIfInBounds_toArray, List.set_cons_zero, List.set_cons_succ, i64_w, i32_w]
            rfl
          refine q_off (a' := ?_) ?hw2 ?_ ?_
          case hw2 => exact wanted_off rfl rfl rfl rfl
          rotate_left
          · show Act.put _ (some 46) _ = _
            simp only [Act.put, List.setIfInBounds_toArray, List.set_cons_zero, List.set_cons_succ, i64_w, i32_w]
            rfl
          refine q_off (a' := ?_) ?hw2 ?_ ?_
          case hw2 => exact wanted_off rfl rfl rfl rfl
          rotate_left
          · show Act.put _ (some 47) _ = _
            simp only [Act.put, List.setIfInBounds_toArray, List.set_cons_zero, List.set_cons_succ, i64_w, i32_w]
            rfl
          refine q_off (a' := ?_) ?hw2 ?_ ?_
          case hw2 => exact wanted_off rfl rfl rfl rfl
          rotate_left
          · show Act.put _ (some 48) _ = _
            simp only [Act.put, List.setIfInBounds_toArray, List.set_cons_zero, List.set_cons_succ, i64_w, i32_w]
            rfl
          refine q_off (a' := ?_) ?hw2 ?_ ?_
          case hw2 => exact wanted_off rfl rfl rfl rfl
          rotate_left
          · show Act.put _ (some 49) _ = _
            simp only [Act.put, List.setIfInBounds_toArray, List.set_cons_zero, List.set_cons_succ, i64_w, i32_w]
            rfl
          refine q_off (a' := ?_) ?hw2 ?_ ?_
          case hw2 => exact wanted_off rfl rfl rfl rfl
          rotate_left
          · show Act.put _ (some 50) _ = _
            simp only [Act.put, List.setIfInBounds_toArray, List.set_cons_zero, List.set_cons_succ, i64_w, i32_w]
            rfl
          refine q_off (a' := ?_) ?hw2 ?_ ?_
          case hw2 => exact wanted_off rfl rfl rfl rfl
          rotate_left
          · show Act.put _ (some 51) _ = _
            simp only [Act.put, List.setIfInBounds_toArray, List.set_cons_zero, List.set_cons_succ, i64_w, i32_w]
            rfl
          refine q_off (a' := ?_) ?hw2 ?_ ?_
          case hw2 => exact wanted_off rfl rfl rfl rfl
          rotate_left
          · show Act.put _ (some 52) _ = _
            simp only [Act.put, List.setIfInBounds_toArray, List.set_cons_zero, List.set_cons_succ, i64_w, i32_w]
            rfl
          refine q_off (a' := ?_) ?hw2 ?_ ?_
          case hw2 => exact wanted_off rfl rfl rfl rfl
          rotate_left
          · show Act.put _ (some 53) _ = _
            simp only [Act.put, List.setIfInBounds_toArray, List.set_cons_zero, List.set_cons_succ, i64_w, i32_w]
            rfl
          refine q_off (a' := ?_) ?hw2 ?_ ?_
          case hw2 => exact wanted_off rfl rfl rfl rfl
          rotate_left
          · show Act.put _ (some 54) _ = _
            simp only [Act.put, List.setIfInBounds_toArray, List.set_cons_zero, List.set_cons_succ, i64_w, i32_w]
            rfl
          refine q_op (v := ?_) (a' := ?_) ?hw2 ?_ ?_ ?_
          case hw2 => rfl
          rotate_left
          rotate_left
          · intro w' hC_
            go_simp
            with_reducible rfl
          · show Act.put _ (some 55) _ = _
            simp only [Act.put, List.setIfInBounds_toArray, List.set_cons_zero, List.set_cons_succ, i64_w, i32_w]
            rfl
          refine q_nil ?_
          intro w8 hC_
          have HB8 := Aside0.mk (HB7.out.trans (hC_.mono HB7.out.size))
          have XR8 := Aside0.mk ((hC_.block _ (blk_lt XR7.out)).trans XR7.out)
          clear hC_
          go_wp2
          exact ⟨⟨k + 1, bi, (b0, b1, b2), by omega, by go_num, rfl, HCB.out, no_cand HLE.out (fun e hc => by have h1 := hc.2.1; rw [HNO.out] at h1; cases h1; have h2 := hc.2.2; cases h2), XR8.out, HB8.out⟩, by simp [intOf]; omega⟩
        | false =>
          have HH := Aside0.mk (show mask_Mask_Has.f (m : Int) (k : Int) = some false from by rw [has_f hk64 HI.out.1, HI.out.2 k hk64, decide_eq_false (fun hh => by rw [hn] at hh; cases hh.2)])
          have HNO := Aside0.mk hn
          clear hn
          refine q_start (by kernel_rfl) (by kernel_rfl) (fun w' => Below w7.heap.size w7 w') (below_drew (Below.refl _ _)) ?_
          refine q_op (v := ?_) (a' := ?_) ?hw3 ?_ ?_ ?_
          case hw3 => rfl
          rotate_left
          rotate_left
          · intro w' hC_
            go_simp
            with_reducible rfl
          · show Act.put _ (some 33) _ = _
            simp only [Act.put, List.setIfInBounds_toArray, List.set_cons_zero, List.set_cons_succ, i64_w, i32_w]
            rfl
          refine q_op (v := ?_) (a' := ?_) ?hw3 ?_ ?_ ?_
          case hw3 => rfl
          rotate_left
          rotate_left
          · intro w' hC_
            go_simp
            with_reducible rfl
          · show Act.put _ (some 34) _ = _
            simp only [Act.put, List.setIfInBounds_toArray, List.set_cons_zero, List.set_cons_succ, i64_w, i32_w]
            rfl
          refine q_op (v := ?_) (a' := ?_) ?hw3 ?_ ?_ ?_
          case hw3 => rfl
          rotate_left
          rotate_left
          · intro w' hC_
            go_simp
            with_reducible rfl
          · show Act.put _ (some 35) _ = _
            simp only [Act.put, List.setIfInBounds_toArray, List.set_cons_zero, List.set_cons_succ, i64_w, i32_w]
            rfl
          refine q_op (v := ?_) (a' := ?_) ?hw3 ?_ ?_ ?_
          case hw3 => rfl
          rotate_left
          rotate_left
          · intro w' hC_
            have z0 := (HP7.out.below hC_).c1
            go_simp
            with_reducible rfl
          · show Act.put _ (some 36) _ = _
            simp only [Act.put, List.setIfInBounds_toArray, List.set_cons_zero, List.set_cons_succ, i64_w, i32_w]
            rfl
          refine q_op (v := ?_) (a' := ?_) ?hw3 ?_ ?_ ?_
          case hw3 => rfl
          rotate_left
          rotate_left
          · intro w' hC_
            go_simp
            with_reducible rfl
          · show Act.put _ (some 37) _ = _
            simp only [Act.put, List.setIfInBounds_toArray, List.set_cons_zero, List.set_cons_succ, i64_w, i32_w]
            rfl
          refine q_call (a' := ?_) Try.func26 (by kernel_rfl) rfl #[.int .u64 (m : Int), .int .i64 (k : Int)] ?hw3 rfl ?hx3 (.bool false) ?_ ?_ ?_
          case hw3 => rfl
          case hx3 => (try simp only [List.map_toArray, List.map_cons, List.map_nil]); first | done | rfl
          rotate_left
          · intro w' hC_
            exact (mask_Mask_Has.calls (m : Int) (k : Int) false _ HH.out).mono (by rintro e w'' ⟨rfl, hq⟩; exact ⟨rfl, hC_.trans (Below.mono (Drawn0.below hq) hC_.size)⟩)
          · show Act.put _ (some 38) _ = _
            simp only [Act.put, List.setIfInBounds_toArray, List.set_cons_zero, List.set_cons_succ, i64_w, i32_w]
            rfl
          refine q_op (v := ?_) (a' := ?_) ?hw3 ?_ ?_ ?_
          case hw3 => rfl
          rotate_left
          rotate_left
          · intro w' hC_
            go_simp
            with_reducible rfl
          · show Act.put _ (some 39) _ = _
            simp only [Act.put, List.setIfInBounds_toArray, List.set_cons_zero, List.set_cons_succ, i64_w, i32_w]
            rfl
          refine q_op (v := ?_) (a' := ?_) ?hw3 ?_ ?_ ?_
          case hw3 => rfl
          rotate_left
          rotate_left
          · intro w' hC_
            go_simp
            with_reducible rfl
          · show Act.put _ (some 40) _ = _
            simp only [Act.put, List.setIfInBounds_toArray, List.set_cons_zero, List.set_cons_succ, i64_w, i32_w]
            rfl
          refine q_op (v := ?_) (a' := ?_) ?hw3 ?_ ?_ ?_
          case hw3 => exact wanted_on rfl rfl rfl rfl
          rotate_left
          rotate_left
          · intro w' hC_
            go_simp
            with_reducible rfl
          · show Act.put _ (some 41) _ = _
            simp only [Act.put, List.setIfInBounds_toArray, List.set_cons_zero, List.set_cons_succ, i64_w, i32_w]
            rfl
          refine q_op (v := ?_) (a' := ?_) ?hw3 ?_ ?_ ?_
          case hw3 => exact wanted_on rfl rfl rfl rfl
          rotate_left
          rotate_left
          · intro w' hC_
            have y2 := blk_cell ((hC_.block _ (blk_lt X9.out)).trans X9.out) 2
            go_simp
            with_reducible rfl
          · show Act.put _ (some 42) _ = _
            simp only [Act.put, List.setIfInBounds_toArray, List.set_cons_zero, List.set_cons_succ, i64_w, i32_w]
            rfl
          refine q_op (v := ?_) (a' := ?_) ?hw3 ?_ ?_ ?_
          case hw3 => exact wanted_on rfl rfl rfl rfl
          rotate_left
          rotate_left
          · intro w' hC_
            go_simp
            with_reducible rfl
          · show Act.put _ (some 43) _ = _
            simp only [Act.put, List.setIfInBounds_toArray, List.set_cons_zero, List.set_cons_succ, i64_w, i32_w]
            rfl
          refine q_op (v := ?_) (a' := ?_) ?hw3 ?_ ?_ ?_
          case hw3 => rfl
          rotate_left
          rotate_left
          · intro w' hC_
            go_simp
            with_reducible rfl
          · show Act.put _ (some 44) _ = _
            simp only [Act.put, List.setIfInBounds_toArray, List.set_cons_zero, List.set_cons_succ, i64_w, i32_w]
            rfl
          refine q_op (v := ?_) (a' := ?_) ?hw3 ?_ ?_ ?_
          case hw3 => rfl
          rotate_left
          rotate_left
          · intro w' hC_
            go_simp
            with_reducible rfl
          · show Act.put _ (some 45) _ = _
            simp only [Act.put, List.setIfInBounds_toArray, List.set_cons_zero, List.set_cons_succ, i64_w, i32_w]
            rfl
          refine q_op (v := ?_) (a' := ?_) ?hw3 ?_ ?_ ?_
          case hw3 => exact wanted_on rfl rfl rfl rfl
          rotate_left
          rotate_left
          · intro w' hC_
            go_simp
            with_reducible rfl
          · show Act.put _ (some 46) _ = _
            simp only [Act.put, List.setIfInBounds_toArray, List.set_cons_zero, List.set_cons_succ, i64_w, i32_w]
            rfl
          refine q_op (v := ?_) (a' := ?_) ?hw3 ?_ ?_ ?_
          case hw3 => exact wanted_on rfl rfl rfl rfl
          rotate_left
          rotate_left
          · intro w' hC_
            go_simp
            with_reducible rfl
          · show Act.put _ (some 47) _ = _
            simp only [Act.put, List.setIfInBounds_toArray, List.set_cons_zero, List.set_cons_succ, i64_w, i32_w]
            rfl
          refine q_op (v := ?_) (a' := ?_) ?hw3 ?_ ?_ ?_
          case hw3 => exact wanted_on rfl rfl rfl rfl
          rotate_left
          rotate_left
          · intro w' hC_
            go_simp
            with_reducible rfl
          · show Act.put _ (some 48) _ = _
            simp only [Act.put, List.setIfInBounds_toArray, List.set_cons_zero, List.set_cons_succ, i64_w, i32_w]
            rfl
          refine q_op (v := ?_) (a' := ?_) ?hw3 ?_ ?_ ?_
          case hw3 => exact wanted_on rfl rfl rfl rfl
          rotate_left
          rotate_left
          · intro w' hC_
            have z0 := (HP7.out.below hC_).c0
            rw [hlen.out] at z0
            go_simp
            with_reducible rfl
          · show Act.put _ (some 49) _ = _
            simp only [Act.put, List.setIfInBounds_toArray, List.set_cons_zero, List.set_cons_succ, i64_w, i32_w]
            rfl
          refine q_op (v := ?_) (a' := ?_) ?hw3 ?_ ?_ ?_
          case hw3 => exact wanted_on rfl rfl rfl rfl
          rotate_left
          rotate_left
          · intro w' hC_
            go_simp
            with_reducible rfl
          · show Act.put _ (some 50) _ = _
            simp only [Act.put, List.setIfInBounds_toArray, List.set_cons_zero, List.set_cons_succ, i64_w, i32_w]
            rfl
          refine q_op (v := ?_) (a' := ?_) ?hw3 ?_ ?_ ?_
          case hw3 => exact wanted_on rfl rfl rfl rfl
          rotate_left
          rotate_left
          · intro w' hC_
            go_simp
            with_reducible rfl
          · show Act.put _ (some 51) _ = _
            simp only [Act.put, List.setIfInBounds_toArray, List.set_cons_zero, List.set_cons_succ, i64_w, i32_w]
            rfl
          refine q_op (v := ?_) (a' := ?_) ?hw3 ?_ ?_ ?_
          case hw3 => exact wanted_on rfl rfl rfl rfl
          rotate_left
          rotate_left
          · intro w' hC_
            obtain ⟨⟨z1, z2, z3⟩, _⟩ := ent_get (HP7.out.below hC_).row (show bi < (ents s).length by rw [hlen.out]; exact HCB.out.1)
            rw [HEB.out] at z1 z2 z3
            go_simp
            with_reducible rfl
          · show Act.put _ (some 52) _ = _
            simp only [Act.put, List.setIfInBounds_toArray, List.set_cons_zero, List.set_cons_succ, i64_w, i32_w]
            rfl
          refine q_op (v := ?_) (a' := ?_) ?hw3 ?_ ?_ ?_
          case hw3 => exact wanted_on rfl rfl rfl rfl
          rotate_left
          rotate_left
          · intro w' hC_
            have y0 := blk_cell ((hC_.block _ (blk_lt X9.out)).trans X9.out) 0
            have y1 := blk_cell ((hC_.block _ (blk_lt X9.out)).trans X9.out) 1
            have y2 := blk_cell ((hC_.block _ (blk_lt X9.out)).trans X9.out) 2
            go_simp
            with_reducible rfl
          · show Act.put _ (some 53) _ = _
            simp only [Act.put, List.setIfInBounds_toArray, List.set_cons_zero, List.set_cons_succ, i64_w, i32_w]
            rfl
          refine q_call (a' := ?_) Try.func27 (by kernel_rfl) rfl #[.agg #[.int .i64 b0, .int .i64 b1, .bool b2], .agg #[.int .i64 x0, .int .i64 x1, .bool false]] ?hw3 rfl ?hx3 (.bool (less (b0, b1, b2) (x0, x1, false))) ?_ ?_ ?_
          case hw3 => exact wanted_on rfl rfl rfl rfl
          case hx3 => (try simp only [List.map_toArray, List.map_cons, List.map_nil]); first | done | rfl
          rotate_left
          · intro w' hC_
            exact (edf_Less.calls 4 b0 b1 b2 x0 x1 false _ _ (less_f (b0, b1, b2) (x0, x1, false))).mono (by rintro e w'' ⟨rfl, hq⟩; exact ⟨rfl, hC_.trans (hq.mono hC_.size)⟩)
          · show Act.put _ (some 54) _ = _
            simp only [Act.put, List.setIfInBounds_toArray, List.set_cons_zero, List.set_cons_succ, i64_w, i32_w]
            rfl
          refine q_op (v := ?_) (a' := ?_) ?hw3 ?_ ?_ ?_
          case hw3 => rfl
          rotate_left
          rotate_left
          · intro w' hC_
            go_simp
            with_reducible rfl
          · show Act.put _ (some 55) _ = _
            simp only [Act.put, List.setIfInBounds_toArray, List.set_cons_zero, List.set_cons_succ, i64_w, i32_w]
            rfl
          refine q_nil ?_
          intro w8 hC_
          have HB8 := Aside0.mk (HB7.out.trans (hC_.mono HB7.out.size))
          have XR8 := Aside0.mk ((hC_.block _ (blk_lt XR7.out)).trans XR7.out)
          clear hC_
          by_cases hl : less (b0, b1, b2) (x0, x1, false) = true
          · have HLT := Aside0.mk hl
            rw [hl]
            clear hl
            go_wp2
            exact ⟨⟨k + 1, k, (x0, x1, false), by omega, by go_num, rfl, ⟨hlt, HNO.out, rfl⟩, new_best HLE.out HLT.out (fun e hc => by have h1 := hc.2.1; rw [HNO.out] at h1; cases h1; rfl), XR8.out, HB8.out⟩, by simp [intOf]; omega⟩
          · have hl : less (b0, b1, b2) (x0, x1, false) = false := by simpa using hl
            have HLT := Aside0.mk hl
            rw [hl]
            clear hl
            go_wp2
            exact ⟨⟨k + 1, bi, (b0, b1, b2), by omega, by go_num, rfl, HCB.out, no_cand HLE.out (fun e hc => by have h1 := hc.2.1; rw [HNO.out] at h1; cases h1; exact HLT.out), XR8.out, HB8.out⟩, by simp [intOf]; omega⟩
    · have hkn : k = s.length := by omega
      have hbj : bi = j := by
        apply Classical.byContradiction
        intro hne
        have h1 := HBE.out.2 bi _ HCB.out hne
        have h2 := HLE.out j _ (by have := HBE.out.1.1; omega) HBE.out.1
        rw [h1] at h2
        cases h2
      subst hbj
      have hee : (b0, b1, b2) = (e1, e2, e3) := by
        have h1 := HCB.out.2.1
        rw [HBE.out.1.2.1] at h1
        exact (Option.some.inj h1).symm
      cases hee
      obtain ⟨⟨k1, k2, k3⟩, _⟩ := ent_get HP.out.row (show bi < (ents s).length by rw [hlen.out]; exact hbn)
      rw [HEB.out] at k1 k2 k3
      have r0 := blk_cell XR.out 0
      have r1 := blk_cell XR.out 1
      have r2 := blk_cell XR.out 2
      have q0 := blk_frozen XR.out 0
      have q1 := blk_frozen XR.out 1
      have q2 := blk_frozen XR.out 2
      have bq : (0 ≤ (bi : Int) ∧ (bi : Int) < (s.length : Int)) := by omega
      go_upto_region 11 with (fail)
      go_region
      go_wp2
      refine bodyPost_ret (results_tct rfl _ _ gr 29 #[.int .i64 e1, .int .i64 e2, .bool e3] (0, 0) _ rfl (blk_put (cs := #[.int .i64 e1, .int .i64 e2, .bool false]) (blk_put (cs := #[.int .i64 e1, .int .i64 0, .bool false]) (blk_put (cs := #[.int .i64 0, .int .i64 0, .bool false]) XR.out 0 _ rfl) 1 _ rfl) 2 _ rfl) Try.underlying29 rfl (by kernel_rfl)) rfl ?_
      have hz : w.heap.size ≤ gr := by have := HGr.out; show w.heap.size ≤ gr; omega
      exact ⟨rfl, (((HB.out.setCell hz _).setCell hz _).setCell hz _).drew⟩
end
end Go.Proofs.Ytjeflmdfnfgacaa.Rank

/- Rank's method All (no law is stated here; it says its conditions). -/
namespace Go.Proofs.Ytjeflmdfnfgacaa.Rank
open Go.RowKit Go.Proofs.YtjeflmdfnfgacaaW.PrintWords Go.Proofs.YtjeflmdfnfgacaaW.PrintLast Go.Proofs.YtjeflmdfnfgacaaW.PrintMore Go.Proofs.Ytjeflmdfnfgacaa.St Go.Proofs.Ytjeflmdfnfgacaa.Q Go.Proofs.Ytjeflmdfnfgacaa.Heap
set_option linter.unusedVariables false
set_option linter.unusedSimpArgs false
attribute [local go_sem] max2_int min2_int max_two min_two max_three min_three max_four min_four

/-- Those that run, by CPU. -/
def allOf (s : List (Option Ent)) : List Ent := s.filterMap id
theorem all_none {s : List (Option Ent)} {j : Nat} (hj : j < s.length) (h : s.getD j none = none) : allOf (s.take (j + 1)) = allOf (s.take j) := by
  unfold allOf
  rw [List.getD_eq_getElem?_getD, List.getElem?_eq_getElem hj] at h
  rw [List.take_add_one, List.getElem?_eq_getElem hj, List.filterMap_append, show s[j] = none from h]
  simp
theorem all_some {s : List (Option Ent)} {j : Nat} {e : Ent} (hj : j < s.length) (h : s.getD j none = some e) : allOf (s.take (j + 1)) = allOf (s.take j) ++ [e] := by
  unfold allOf
  rw [List.getD_eq_getElem?_getD, List.getElem?_eq_getElem hj] at h
  rw [List.take_add_one, List.getElem?_eq_getElem hj, List.filterMap_append, show s[j] = some e from h]
  simp
theorem all_le (s : List (Option Ent)) (j : Nat) : (allOf (s.take j)).length ≤ j := by
  have h1 := List.length_filterMap_le id (s.take j)
  have h2 := List.length_take_le j s
  unfold allOf
  omega
def RelA (w : World) (s : List (Option Ent)) (i r : Value) (wr : World) : Prop := ∃ (j : Nat) (q : List Ent), j ≤ s.length ∧ i = .int .i64 (j : Int) ∧ q = allOf (s.take j) ∧ (row 29 KE).M wr w.heap.size (fun k => w.heap.size ≤ k) q r ∧ Below w.heap.size w wr
theorem info_ent : (Try.prog.info? 29).map (fun i => (i.zero, i.size, i.bytes)) = some (some (.agg #[.int .i64 0, .int .i64 0, .bool false]), KE.sz, 24) := by kernel_rfl
section
variable {w : World} {b : Nat} {ok : Nat → Prop} {s : List (Option Ent)} {v : Value}
set_option maxHeartbeats 2000000 in
set_option maxRecDepth 100000 in
theorem all_calls (hM : rank.M w b ok s v) :
    Calls Try.prog 12 #[v] w fun e w' => ∃ v' : Value, e = .returned v' ∧ (row 29 KE).M w' w.heap.size (fun k => w.heap.size ≤ k) (allOf s) v' ∧ Below w.heap.size w w' := by
  have HM := Aside0.mk hM
  obtain ⟨g, gl0, cap0, m, dv, rfl, hA, hI⟩ := HM.out
  have HN := Aside0.mk (rank_n HM.out)
  have h0 := hA.c0
  rw [ents_len] at h0
  clear hA hI hM
  go_enter Try.func12, Try.ntmps12
  go_wp2
  obtain ⟨wo, hwo⟩ : ∃ wo : World, wo = w := ⟨_, rfl⟩
  go_loopw [12, 3] (fun i r wr => RelA w s i r wr) (fun i _ _ => s.length - (intOf i).toNat)
  case atStart => exact ⟨0, [], Nat.zero_le _, rfl, rfl, Kd.R_nil _ _ _ _ _, Below.refl _ _⟩
  case round =>
    obtain ⟨j, q, hj, rfl, hq, hr, hB⟩ := hrel
    have HB := Aside0.mk hB
    have HR := Aside0.mk hr
    have HQ := Aside0.mk hq
    have hj64 : j ≤ 64 := by have := HN.out; omega
    have HL := Aside0.mk (show q.length ≤ 64 from by rw [hq]; have := all_le s j; omega)
    obtain ⟨A, c2, rfl⟩ := Kd.R_slice hr
    clear hB hr hq
    by_cases hlt : j < s.length
    · cases hn : s.getD j none with
      | none =>
        have HH := Aside0.mk (all_none hlt hn)
        have HS := Aside0.mk hn
        clear hn
        go_wp2_with (first | (go_at_call 11; (with_reducible refine (at_idle j (rank_below HM.out HB.out) hlt HS.out).mono ?_); rintro e wa ⟨rfl, hb⟩; rw [show entv z0 = .agg #[.int .i64 0, .int .i64 0, .bool false] from rfl]; have HBa := Aside0.mk hb; clear hb) | ((with_reducible refine gate_dst (N := 5) rfl ?_); refine box_event ?hg (N := 5) ?hd (cs := #[(.int .i64 0), (.int .i64 0), (.bool false)]) (t := 29) ?hr ?_; (case hd => rfl); (case hg => rfl); (case hr => first | (go_simp; done) | (go_simp; rfl)); intro g5 hg5 w5 hx5 hb5; have HX5 := Aside0.mk hx5; have HB5 := Aside0.mk hb5; have HG5 := Aside0.mk hg5; have r05 := blk_cell hx5 0; have r15 := blk_cell hx5 1; have r25 := blk_cell hx5 2; have q05 := blk_frozen hx5 0; have q15 := blk_frozen hx5 1; have q25 := blk_frozen hx5 2; clear hx5 hb5 hg5))
        have hbz : Below wr.heap.size wr (((w5.setCell ⟨g5, 0, none⟩ (.int .i64 0)).setCell ⟨g5, 1, none⟩ (.int .i64 0)).setCell ⟨g5, 2, none⟩ (.bool false)) := (((HBa.out.trans (HB5.out.mono HBa.out.size)).setCell (by have := HG5.out; have := HBa.out.size; show wr.heap.size ≤ g5; omega) _).setCell (by have := HG5.out; have := HBa.out.size; show wr.heap.size ≤ g5; omega) _).setCell (by have := HG5.out; have := HBa.out.size; show wr.heap.size ≤ g5; omega) _
        exact ⟨⟨j + 1, q, by omega, by go_num, HQ.out.trans HH.out.symm, Kd.R_below HR.out hbz, HB.out.trans (hbz.mono HB.out.size)⟩, by simp [intOf]; omega⟩
      | some e =>
        obtain ⟨e1, e2, e3⟩ := e
        have HH := Aside0.mk (all_some hlt hn)
        have HS := Aside0.mk hn
        clear hn
        go_upto_region 7 with (first | (go_at_call 11; (with_reducible refine (at_some j (rank_below HM.out HB.out) hlt HS.out).mono ?_); rintro e wa ⟨rfl, hb⟩; rw [show entv (e1, e2, e3) = .agg #[.int .i64 e1, .int .i64 e2, .bool e3] from rfl]; have HBa := Aside0.mk hb; clear hb) | ((with_reducible refine gate_dst (N := 5) rfl ?_); refine box_event ?hg (N := 5) ?hd (cs := #[(.int .i64 0), (.int .i64 0), (.bool false)]) (t := 29) ?hr ?_; (case hd => rfl); (case hg => rfl); (case hr => first | (go_simp; done) | (go_simp; rfl)); intro g5 hg5 w5 hx5 hb5; have HX5 := Aside0.mk hx5; have HB5 := Aside0.mk hb5; have HG5 := Aside0.mk hg5; have r05 := blk_cell hx5 0; have r15 := blk_cell hx5 1; have r25 := blk_cell hx5 2; have q05 := blk_frozen hx5 0; have q15 := blk_frozen hx5 1; have q25 := blk_frozen hx5 2; clear hx5 hb5 hg5))
        have hbz : Below wr.heap.size wr (((w5.setCell ⟨g5, 0, none⟩ (.int .i64 e1)).setCell ⟨g5, 1, none⟩ (.int .i64 e2)).setCell ⟨g5, 2, none⟩ (.bool e3)) := (((HBa.out.trans (HB5.out.mono HBa.out.size)).setCell (by have := HG5.out; have := HBa.out.size; show wr.heap.size ≤ g5; omega) _).setCell (by have := HG5.out; have := HBa.out.size; show wr.heap.size ≤ g5; omega) _).setCell (by have := HG5.out; have := HBa.out.size; show wr.heap.size ≤ g5; omega) _
        have hy7 : (((w5.setCell ⟨g5, 0, none⟩ (.int .i64 e1)).setCell ⟨g5, 1, none⟩ (.int .i64 e2)).setCell ⟨g5, 2, none⟩ (.bool e3)).heap[g5]? = some (.cells #[.int .i64 e1, .int .i64 e2, .bool e3] 29 (0, 0)) := blk_put (cs := #[.int .i64 e1, .int .i64 e2, .bool false]) (blk_put (cs := #[.int .i64 e1, .int .i64 0, .bool false]) (blk_put (cs := #[.int .i64 0, .int .i64 0, .bool false]) HX5.out 0 _ rfl) 1 _ rfl) 2 _ rfl
        clear r05 r15 r25 q05 q15 q25
        generalize (((w5.setCell ⟨g5, 0, none⟩ (.int .i64 e1)).setCell ⟨g5, 1, none⟩ (.int .i64 e2)).setCell ⟨g5, 2, none⟩ (.bool e3)) = w7 at hbz hy7 ⊢
        have HR7 := Aside0.mk (Kd.R_below HR.out hbz)
        have HB7 := Aside0.mk (HB.out.trans (hbz.mono HB.out.size))
        have y0 := blk_cell hy7 0
        have y1 := blk_cell hy7 1
        have y2 := blk_cell hy7 2
        clear hbz hy7
        go_wp2_with (first | ((with_reducible refine gate_builtin (b := .append) (xs := #[.tmp 22, .tmp 24]) rfl ?_); at_builtin; refine Kd.R_append KE (w0 := w) w.heap.size rfl (.tmp 22) (.tmp 24) 36 29 (.agg #[.int .i64 0, .int .i64 0, .bool false]) 24 rfl Try.underlying36 info_ent rfl (by decide) (by decide) (.slice A q.length c2) q (e1, e2, e3) [.int .i64 e1, .int .i64 e2, .bool e3] (fun k => w.heap.size ≤ k) (fun _ => False) rfl rfl (ke_mk _ _ _ _) (fun _ h => h.elim) (fun k hk => Nat.le_trans (Below.size HB7.out) hk) HR7.out HB7.out (Below.size HB7.out) (by have := HL.out; omega) ?_; intro v1 w1 hO1 hB1 hG1 hat1; have HO1 := Aside0.mk hO1; have HB1 := Aside0.mk hB1; clear hO1 hB1 hG1 hat1))
        exact ⟨⟨j + 1, q ++ [(e1, e2, e3)], by omega, by go_num, by rw [HH.out, ← HQ.out], HO1.out, HB1.out⟩, by simp [intOf]; omega⟩
    · have hjn : j = s.length := by omega
      go_wp2
      go_ret
      refine ⟨_, rfl, ?_, HB.out⟩
      have h1 := HQ.out
      rw [hjn, List.take_of_length_le (Nat.le_refl _)] at h1
      rw [← h1]
      exact HR.out
end
end Go.Proofs.Ytjeflmdfnfgacaa.Rank

/- Rank's New (no law is stated here). -/
namespace Go.Proofs.Ytjeflmdfnfgacaa.Rank
open Go.RowKit Go.Proofs.YtjeflmdfnfgacaaW.PrintWords Go.Proofs.YtjeflmdfnfgacaaW.PrintLast Go.Proofs.YtjeflmdfnfgacaaW.PrintMore Go.Proofs.Ytjeflmdfnfgacaa.St Go.Proofs.Ytjeflmdfnfgacaa.Q Go.Proofs.Ytjeflmdfnfgacaa.Heap
set_option linter.unusedVariables false
set_option linter.unusedSimpArgs false
attribute [local go_sem] max2_int min2_int max_two min_two max_three min_three max_four min_four

theorem hp_lower {w : World} {b b' : Nat} {ok : Nat → Prop} {x : List (Int × Int) × Bool × Int} {v : Value} (h : hp.M w b ok x v) (hb : b' ≤ b) : hp.M w b' ok x v := by
  obtain ⟨x, e1, e2, e3, e4, e5⟩ := h
  exact ⟨x, e1, e2, e3, e4, heap_lower e5 hb⟩
theorem hnew (b0 : Nat) (W : World) (hb0 : b0 ≤ W.heap.size) :
    Calls Try.prog 20 #[.int .i64 64, .bool true] W fun e w' => ∃ g : Nat, e = .returned (.pointer (some ⟨g, 0, none⟩)) ∧ hp.M w' b0 (fun k => W.heap.size ≤ k ∧ k < w'.heap.size) ([], true, 64) (.pointer (some ⟨g, 0, none⟩)) ∧ Below W.heap.size W w' :=
  (new_calls 64 true W).mono (fun e w' ⟨g, h1, h2, h3⟩ => by
    refine ⟨g, h1, ?_, h3⟩
    have hh : hp.M w' W.heap.size (fun k => W.heap.size ≤ k) ([], true, 64) (.pointer (some ⟨g, 0, none⟩)) := ⟨newH 64 true, rfl, rfl, ok_new _ _, List.Perm.refl _, h2⟩
    exact hp_lower (hp.mono (fun k hk => ⟨hk.1, hk.2.2⟩) (hp.bound hh)) hb0)
theorem made {W w1 : World} {n : Nat} {v : Value} (b0 : Nat) (hb0 : b0 ≤ W.heap.size) (hn : 1 ≤ n) (h : KE.R 29 w1 W.heap.size (fun k => W.heap.size ≤ k) v (List.replicate (n : Int).toNat z0)) :
    ∃ gl cap, v = .slice (some ⟨gl, 0, none⟩) n cap ∧ KE.R 29 w1 b0 (fun k => W.heap.size ≤ k ∧ k < w1.heap.size) (.slice (some ⟨gl, 0, none⟩) n cap) (List.replicate n z0) := by
  rw [Int.toNat_natCast] at h
  obtain ⟨gl, cap, hv, _⟩ := Kd.R_form h (by rw [List.length_replicate]; omega)
  rw [List.length_replicate] at hv
  subst hv
  exact ⟨gl, cap, rfl, Kd.R_lower ((row 29 KE).mono (fun k hk => ⟨hk.1, hk.2.2⟩) ((row 29 KE).bound h)) hb0⟩
theorem new_mk {w W W1 : World} {lr hr lh hh gl cap n m g : Nat} {dv : Value} (HR : KE.R 29 W w.heap.size (fun k => lr ≤ k ∧ k < hr) (.slice (some ⟨gl, 0, none⟩) n cap) (List.replicate n z0))
    (HH : hp.M W w.heap.size (fun k => lh ≤ k ∧ k < hh) ([], true, 64) dv) (hdis : hr ≤ lh ∨ hh ≤ lr) (h1 : w.heap.size ≤ lr) (h2 : hr ≤ W.heap.size) (h3 : w.heap.size ≤ lh) (h4 : hh ≤ W.heap.size)
    (hx : W1.heap[g]? = some (.cells #[.slice (some ⟨gl, 0, none⟩) n cap, .int .u64 (m : Int), dv] 57 (0, 0))) (hg : g = W.heap.size) (hb : Below W.heap.size W W1) (hm : IdleIs m (List.replicate n none)) (hn : 1 ≤ n) (hn2 : n ≤ 64) :
    rank.M W1 w.heap.size (fun k => w.heap.size ≤ k) (List.replicate n none) (.pointer (some ⟨g, 0, none⟩)) := by
  have hgl : lr ≤ gl ∧ gl < hr := HR.1 gl rfl
  have he : ents (List.replicate n none) = List.replicate n z0 := by unfold ents; rw [List.map_replicate]; rfl
  have hd : ∀ (n c : Nat), dues c (List.replicate n none) = [] := by
    intro n
    induction n with
    | zero => intro c; rfl
    | succ n ih => intro c; rw [List.replicate_succ, dues, ih]; rfl
  have hlt := blk_lt hx
  have hsz := hb.size
  refine ⟨g, gl, cap, m, dv, rfl, ⟨by omega, by omega, hlt, by omega, by omega, by omega, ?_, ?_, ?_, ?_, ?_⟩, hm⟩
  · rw [he, List.length_replicate]; exact hx
  · rw [he, List.length_replicate]
    exact Kd.R_mono (Kd.R_below HR hb) (fun k hk => ⟨by omega, by omega⟩)
  · rw [hd]
    exact hp.mono (fun k hk => ⟨by omega, by omega, by omega⟩) (hp.move (fun k hk => hb.block k (by omega)) HH)
  · rw [he, List.length_replicate]; exact hn
  · rw [he, List.length_replicate]; exact hn2
set_option maxHeartbeats 2000000 in
set_option maxRecDepth 100000 in
theorem new_bad (c : Int) (w : World) (hc : c < 1 ∨ 64 < c) :
    Calls Try.prog 7 #[.int .i64 c] w fun e w' => e = .returned (.tuple #[.pointer none, .int .i64 1]) ∧ Below w.heap.size w w' := by
  have HB := Aside0.mk (Below.refl w.heap.size w)
  by_cases h1 : c < 1
  · have d1 : decide (c < 1) = true := decide_eq_true h1
    go_enter Try.func7, Try.ntmps7
    go_wp2
    go_ret2
    exact ⟨rfl, HB.out⟩
  · have d1 : decide (c < 1) = false := decide_eq_false h1
    have d2 : decide (64 < c) = true := decide_eq_true (by omega)
    go_enter Try.func7, Try.ntmps7
    go_wp2
    go_ret2
    exact ⟨rfl, HB.out⟩
set_option maxHeartbeats 4000000 in
set_option maxRecDepth 100000 in
theorem new_ok (n : Nat) (w : World) (hn : 1 ≤ n) (hn2 : n ≤ 64) :
    Calls Try.prog 7 #[.int .i64 (n : Int)] w fun e w' => ∃ g : Nat, e = .returned (.tuple #[.pointer (some ⟨g, 0, none⟩), .int .i64 0]) ∧ rank.M w' w.heap.size (fun k => w.heap.size ≤ k) (List.replicate n none) (.pointer (some ⟨g, 0, none⟩)) ∧ Below w.heap.size w w' := by
  have HN := Aside0.mk hn
  have HN2 := Aside0.mk hn2
  obtain ⟨m, hm⟩ : ∃ m, 2 ^ n - 1 = m := ⟨_, rfl⟩
  have HF := Aside0.mk (full_f hn2)
  have HI := Aside0.mk (idle_new hn2)
  rw [hm] at HF HI
  clear hm
  have d1 : decide ((n : Int) < 1) = false := decide_eq_false (by omega)
  have d2 : decide (64 < (n : Int)) = false := decide_eq_false (by omega)
  clear hn hn2
  go_enter Try.func7, Try.ntmps7
  go_upto_region 3 with (fail)
  refine start_ (n := 9) (S := fun w' => True) (ds := []) #[false, false, false, false, false, false, false, false, false] (by kernel_rfl) rfl rfl trivial (fun hHeld => ?_)
  obtain ⟨w0, hw0⟩ : ∃ w0 : World, w.drew = w0 := ⟨_, rfl⟩
  have hb0 : Below w.heap.size w w0 := by rw [← hw0]; exact below_drew (Below.refl _ _)
  (try rw [hw0] at hHeld)
  rw [hw0]
  have F := Aside0.mk hb0
  have S := Aside0.mk hb0.size
  clear hw0 hb0
  refine pure_ (i := 0) (N := some 10) (v := ?_) (a' := ?_) #[true, false, false, false, false, false, false, false, false] rfl rfl (by kernel_rfl) (fun _ _ _ h => h) (Or.inl ⟨by rfl, ?_⟩) ?_ ?_
  rotate_left
  · intro w'
    go_simp
    with_reducible rfl
  rotate_left
  · simp only [Act.put, List.setIfInBounds_toArray, List.set_cons_zero, List.set_cons_succ, i64_w, i32_w]
    rfl
  refine pure_ (i := 2) (N := some 12) (v := ?_) (a' := ?_) #[true, false, true, false, false, false, false, false, false] rfl rfl (by kernel_rfl) (fun _ _ _ h => h) (Or.inl ⟨by rfl, ?_⟩) ?_ ?_
  rotate_left
  · intro w'
    go_simp
    with_reducible rfl
  rotate_left
  · simp only [Act.put, List.setIfInBounds_toArray, List.set_cons_zero, List.set_cons_succ, i64_w, i32_w]
    rfl
  refine two_ (i := 1) (j := 3) (Ni := some 11) (Nj := some 13) #[true, true, true, false, false, false, false, false, false] #[true, false, true, true, false, false, false, false, false] rfl rfl rfl rfl (by kernel_rfl) (by decide) (by decide) (fun K hK => ?_) (fun K hK => ?_)
  · skip
    refine Kd.R_make_step KE (w0 := w0) w0.heap.size 29 ?hg (N := 11) ?hd 36 (.tmp 10) (.tmp 10) rfl (n : Int) rfl rfl Try.underlying36 (.agg #[.int .i64 0, .int .i64 0, .bool false]) 24 info_ent rfl (by decide) (by decide) z0 (ok := fun k => w0.heap.size ≤ k) (okp := fun _ => False) (ke_mk _ _ _ z0) (fun k hk => hk.elim) (Nat.le_refl _) (by omega) (by have := HN2.out; simp; omega) (Below.refl _ _) (Nat.le_refl _) ?_
    (case hd => rfl)
    (case hg => rfl)
    intro v wax1 hR hB hG hat
    obtain ⟨gl, cap, rfl, hR2⟩ := made w.heap.size F.out.size HN.out hR
    have HR := Aside0.mk hR2
    have Sx1 := Aside0.mk hB.size
    have Fx1 := Aside0.mk (F.out.trans (hB.mono F.out.size))
    clear hR hB hG hat hR2
    refine hK.out _ _ hHeld (fun hHeld => ?_)
    clear hK K
    refine norm_ (a' := ?_) ?_ ?_
    rotate_left
    · show Act.put _ (some 11) _ = _
      simp only [Act.put, List.setIfInBounds_toArray, List.set_cons_zero, List.set_cons_succ, i64_w, i32_w]
      rfl
    refine one_ (i := 3) (N := some 13) #[true, true, true, true, false, false, false, false, false] rfl rfl (by kernel_rfl) (by decide) (fun K hK => ?_)
    refine goes_ Try.func19 (by kernel_rfl) rfl #[.int .i64 (n : Int)] ?hw rfl rfl ?hx ?_
    (case hw => rfl)
    (case hx => (try simp only [List.map_toArray, List.map_cons, List.map_nil]); first | done | rfl)
    refine (mask_Full.calls (n : Int) (m : Int) _ HF.out).mono ?_
    rintro e wfx1x3 ⟨rfl, hb⟩
    have Sx1x3 := Aside0.mk hb.size
    have Fx1x3 := Aside0.mk (Fx1.out.trans (hb.mono Fx1.out.size))
    have HRx1x3 := Aside0.mk (Kd.R_below HR.out hb)
    clear hb
    refine ⟨_, rfl, ?_⟩
    refine hK.out _ _ hHeld (fun hHeld => ?_)
    clear hK K
    refine norm_ (a' := ?_) ?_ ?_
    rotate_left
    · show Act.put _ (some 13) _ = _
      simp only [Act.put, List.setIfInBounds_toArray, List.set_cons_zero, List.set_cons_succ, i64_w, i32_w]
      rfl
    refine one_ (i := 4) (N := some 14) #[true, true, true, true, true, false, false, false, false] rfl rfl (by kernel_rfl) (by decide) (fun K hK => ?_)
    refine goes_ Try.func20 (by kernel_rfl) rfl #[.int .i64 64, .bool true] ?hw rfl rfl ?hx ?_
    (case hw => rfl)
    (case hx => (try simp only [List.map_toArray, List.map_cons, List.map_nil]); first | done | rfl)
    refine (hnew w.heap.size _ Fx1x3.out.size).mono ?_
    rintro e whx1x3x4 ⟨gh, rfl, hH, hb⟩
    have Sx1x3x4 := Aside0.mk hb.size
    have Fx1x3x4 := Aside0.mk (Fx1x3.out.trans (hb.mono Fx1x3.out.size))
    have HRx1x3x4 := Aside0.mk (Kd.R_below HRx1x3.out hb)
    have HH := Aside0.mk hH
    clear hH
    clear hb
    refine ⟨_, rfl, ?_⟩
    refine hK.out _ _ hHeld (fun hHeld => ?_)
    clear hK K
    refine norm_ (a' := ?_) ?_ ?_
    rotate_left
    · show Act.put _ (some 14) _ = _
      simp only [Act.put, List.setIfInBounds_toArray, List.set_cons_zero, List.set_cons_succ, i64_w, i32_w]
      rfl
    refine pure_ (i := 5) (N := some 15) (v := ?_) (a' := ?_) #[true, true, true, true, true, true, false, false, false] rfl rfl (by kernel_rfl) (fun _ _ _ h => h) (Or.inl ⟨by rfl, ?_⟩) ?_ ?_
    rotate_left
    · intro w'
      go_simp
      with_reducible rfl
    rotate_left
    · simp only [Act.put, List.setIfInBounds_toArray, List.set_cons_zero, List.set_cons_succ, i64_w, i32_w]
      rfl
    refine one_ (i := 6) (N := some 16) #[true, true, true, true, true, true, true, false, false] rfl rfl (by kernel_rfl) (by decide) (fun K hK => ?_)
    refine box_step ?hg (N := 16) ?hd (cs := #[.slice (some ⟨gl, 0, none⟩) n cap, .int .u64 (m : Int), .pointer (some ⟨gh, 0, none⟩)]) (t := 57) ?hr ?_
    (case hd => rfl)
    (case hg => rfl)
    (case hr => first | (go_simp; done) | (go_simp; rfl))
    intro g hg wbx1x3x4x6 hx hb
    have HG := Aside0.mk hg
    have HX := Aside0.mk hx
    have HB := Aside0.mk hb
    clear hx hb hg
    refine hK.out _ _ hHeld (fun hHeld => ?_)
    clear hK K
    refine norm_ (a' := ?_) ?_ ?_
    rotate_left
    · show Act.put _ (some 16) _ = _
      simp only [Act.put, List.setIfInBounds_toArray, List.set_cons_zero, List.set_cons_succ, i64_w, i32_w]
      rfl
    refine pure_ (i := 7) (N := some 2) (v := ?_) (a' := ?_) #[true, true, true, true, true, true, true, true, false] rfl rfl (by kernel_rfl) (fun _ _ _ h => h) (Or.inl ⟨by rfl, ?_⟩) ?_ ?_
    rotate_left
    · intro w'
      go_simp
      with_reducible rfl
    rotate_left
    · simp only [Act.put, List.setIfInBounds_toArray, List.set_cons_zero, List.set_cons_succ, i64_w, i32_w]
      rfl
    refine pure_ (i := 8) (N := some 3) (v := ?_) (a' := ?_) #[true, true, true, true, true, true, true, true, true] rfl rfl (by kernel_rfl) (fun _ _ _ h => h) (Or.inl ⟨by rfl, ?_⟩) ?_ ?_
    rotate_left
    · intro w'
      go_simp
      with_reducible rfl
    rotate_left
    · simp only [Act.put, List.setIfInBounds_toArray, List.set_cons_zero, List.set_cons_succ, i64_w, i32_w]
      rfl
    refine done_ (by kernel_rfl) ?_
    go_wp2
    go_ret2
    have := S.out
    have := Sx1.out
    have := Sx1x3.out
    have := Sx1x3x4.out
    exact ⟨g, rfl, new_mk HRx1x3x4.out HH.out (by omega) (by omega) (by omega) (by omega) (by omega) HX.out HG.out HB.out HI.out HN.out HN2.out, Fx1x3x4.out.trans (HB.out.mono Fx1x3x4.out.size)⟩
  · skip
    refine goes_ Try.func19 (by kernel_rfl) rfl #[.int .i64 (n : Int)] ?hw rfl rfl ?hx ?_
    (case hw => rfl)
    (case hx => (try simp only [List.map_toArray, List.map_cons, List.map_nil]); first | done | rfl)
    refine (mask_Full.calls (n : Int) (m : Int) _ HF.out).mono ?_
    rintro e wfx3 ⟨rfl, hb⟩
    have Sx3 := Aside0.mk hb.size
    have Fx3 := Aside0.mk (F.out.trans (hb.mono F.out.size))
    clear hb
    refine ⟨_, rfl, ?_⟩
    refine hK.out _ _ hHeld (fun hHeld => ?_)
    clear hK K
    refine norm_ (a' := ?_) ?_ ?_
    rotate_left
    · show Act.put _ (some 13) _ = _
      simp only [Act.put, List.setIfInBounds_toArray, List.set_cons_zero, List.set_cons_succ, i64_w, i32_w]
      rfl
    refine two_ (i := 1) (j := 4) (Ni := some 11) (Nj := some 14) #[true, true, true, true, false, false, false, false, false] #[true, false, true, true, true, false, false, false, false] rfl rfl rfl rfl (by kernel_rfl) (by decide) (by decide) (fun K hK => ?_) (fun K hK => ?_)
    · skip
      refine Kd.R_make_step KE (w0 := wfx3) wfx3.heap.size 29 ?hg (N := 11) ?hd 36 (.tmp 10) (.tmp 10) rfl (n : Int) rfl rfl Try.underlying36 (.agg #[.int .i64 0, .int .i64 0, .bool false]) 24 info_ent rfl (by decide) (by decide) z0 (ok := fun k => wfx3.heap.size ≤ k) (okp := fun _ => False) (ke_mk _ _ _ z0) (fun k hk => hk.elim) (Nat.le_refl _) (by omega) (by have := HN2.out; simp; omega) (Below.refl _ _) (Nat.le_refl _) ?_
      (case hd => rfl)
      (case hg => rfl)
      intro v wax3x1 hR hB hG hat
      obtain ⟨gl, cap, rfl, hR2⟩ := made w.heap.size Fx3.out.size HN.out hR
      have HR := Aside0.mk hR2
      have Sx3x1 := Aside0.mk hB.size
      have Fx3x1 := Aside0.mk (Fx3.out.trans (hB.mono Fx3.out.size))
      clear hR hB hG hat hR2
      refine hK.out _ _ hHeld (fun hHeld => ?_)
      clear hK K
      refine norm_ (a' := ?_) ?_ ?_
      rotate_left
      · show Act.put _ (some 11) _ = _
        simp only [Act.put, List.setIfInBounds_toArray, List.set_cons_zero, List.set_cons_succ, i64_w, i32_w]
        rfl
      refine one_ (i := 4) (N := some 14) #[true, true, true, true, true, false, false, false, false] rfl rfl (by kernel_rfl) (by decide) (fun K hK => ?_)
      refine goes_ Try.func20 (by kernel_rfl) rfl #[.int .i64 64, .bool true] ?hw rfl rfl ?hx ?_
      (case hw => rfl)
      (case hx => (try simp only [List.map_toArray, List.map_cons, List.map_nil]); first | done | rfl)
      refine (hnew w.heap.size _ Fx3x1.out.size).mono ?_
      rintro e whx3x1x4 ⟨gh, rfl, hH, hb⟩
      have Sx3x1x4 := Aside0.mk hb.size
      have Fx3x1x4 := Aside0.mk (Fx3x1.out.trans (hb.mono Fx3x1.out.size))
      have HRx3x1x4 := Aside0.mk (Kd.R_below HR.out hb)
      have HH := Aside0.mk hH
      clear hH
      clear hb
      refine ⟨_, rfl, ?_⟩
      refine hK.out _ _ hHeld (fun hHeld => ?_)
      clear hK K
      refine norm_ (a' := ?_) ?_ ?_
      rotate_left
      · show Act.put _ (some 14) _ = _
        simp only [Act.put, List.setIfInBounds_toArray, List.set_cons_zero, List.set_cons_succ, i64_w, i32_w]
        rfl
      refine pure_ (i := 5) (N := some 15) (v := ?_) (a' := ?_) #[true, true, true, true, true, true, false, false, false] rfl rfl (by kernel_rfl) (fun _ _ _ h => h) (Or.inl ⟨by rfl, ?_⟩) ?_ ?_
      rotate_left
      · intro w'
        go_simp
        with_reducible rfl
      rotate_left
      · simp only [Act.put, List.setIfInBounds_toArray, List.set_cons_zero, List.set_cons_succ, i64_w, i32_w]
        rfl
      refine one_ (i := 6) (N := some 16) #[true, true, true, true, true, true, true, false, false] rfl rfl (by kernel_rfl) (by decide) (fun K hK => ?_)
      refine box_step ?hg (N := 16) ?hd (cs := #[.slice (some ⟨gl, 0, none⟩) n cap, .int .u64 (m : Int), .pointer (some ⟨gh, 0, none⟩)]) (t := 57) ?hr ?_
      (case hd => rfl)
      (case hg => rfl)
      (case hr => first | (go_simp; done) | (go_simp; rfl))
      intro g hg wbx3x1x4x6 hx hb
      have HG := Aside0.mk hg
      have HX := Aside0.mk hx
      have HB := Aside0.mk hb
      clear hx hb hg
      refine hK.out _ _ hHeld (fun hHeld => ?_)
      clear hK K
      refine norm_ (a' := ?_) ?_ ?_
      rotate_left
      · show Act.put _ (some 16) _ = _
        simp only [Act.put, List.setIfInBounds_toArray, List.set_cons_zero, List.set_cons_succ, i64_w, i32_w]
        rfl
      refine pure_ (i := 7) (N := some 2) (v := ?_) (a' := ?_) #[true, true, true, true, true, true, true, true, false] rfl rfl (by kernel_rfl) (fun _ _ _ h => h) (Or.inl ⟨by rfl, ?_⟩) ?_ ?_
      rotate_left
      · intro w'
        go_simp
        with_reducible rfl
      rotate_left
      · simp only [Act.put, List.setIfInBounds_toArray, List.set_cons_zero, List.set_cons_succ, i64_w, i32_w]
        rfl
      refine pure_ (i := 8) (N := some 3) (v := ?_) (a' := ?_) #[true, true, true, true, true, true, true, true, true] rfl rfl (by kernel_rfl) (fun _ _ _ h => h) (Or.inl ⟨by rfl, ?_⟩) ?_ ?_
      rotate_left
      · intro w'
        go_simp
        with_reducible rfl
      rotate_left
      · simp only [Act.put, List.setIfInBounds_toArray, List.set_cons_zero, List.set_cons_succ, i64_w, i32_w]
        rfl
      refine done_ (by kernel_rfl) ?_
      go_wp2
      go_ret2
      have := S.out
      have := Sx3.out
      have := Sx3x1.out
      have := Sx3x1x4.out
      exact ⟨g, rfl, new_mk HRx3x1x4.out HH.out (by omega) (by omega) (by omega) (by omega) (by omega) HX.out HG.out HB.out HI.out HN.out HN2.out, Fx3x1x4.out.trans (HB.out.mono Fx3x1x4.out.size)⟩
    · skip
      refine goes_ Try.func20 (by kernel_rfl) rfl #[.int .i64 64, .bool true] ?hw rfl rfl ?hx ?_
      (case hw => rfl)
      (case hx => (try simp only [List.map_toArray, List.map_cons, List.map_nil]); first | done | rfl)
      refine (hnew w.heap.size _ Fx3.out.size).mono ?_
      rintro e whx3x4 ⟨gh, rfl, hH, hb⟩
      have Sx3x4 := Aside0.mk hb.size
      have Fx3x4 := Aside0.mk (Fx3.out.trans (hb.mono Fx3.out.size))
      have HH := Aside0.mk hH
      clear hH
      clear hb
      refine ⟨_, rfl, ?_⟩
      refine hK.out _ _ hHeld (fun hHeld => ?_)
      clear hK K
      refine norm_ (a' := ?_) ?_ ?_
      rotate_left
      · show Act.put _ (some 14) _ = _
        simp only [Act.put, List.setIfInBounds_toArray, List.set_cons_zero, List.set_cons_succ, i64_w, i32_w]
        rfl
      refine one_ (i := 1) (N := some 11) #[true, true, true, true, true, false, false, false, false] rfl rfl (by kernel_rfl) (by decide) (fun K hK => ?_)
      refine Kd.R_make_step KE (w0 := whx3x4) whx3x4.heap.size 29 ?hg (N := 11) ?hd 36 (.tmp 10) (.tmp 10) rfl (n : Int) rfl rfl Try.underlying36 (.agg #[.int .i64 0, .int .i64 0, .bool false]) 24 info_ent rfl (by decide) (by decide) z0 (ok := fun k => whx3x4.heap.size ≤ k) (okp := fun _ => False) (ke_mk _ _ _ z0) (fun k hk => hk.elim) (Nat.le_refl _) (by omega) (by have := HN2.out; simp; omega) (Below.refl _ _) (Nat.le_refl _) ?_
      (case hd => rfl)
      (case hg => rfl)
      intro v wax3x4x1 hR hB hG hat
      obtain ⟨gl, cap, rfl, hR2⟩ := made w.heap.size Fx3x4.out.size HN.out hR
      have HR := Aside0.mk hR2
      have Sx3x4x1 := Aside0.mk hB.size
      have Fx3x4x1 := Aside0.mk (Fx3x4.out.trans (hB.mono Fx3x4.out.size))
      have HHx3x4x1 := Aside0.mk (hp.mono (fun k hk => hk.1) (hp.move (fun k hk => hB.block k hk.2.2) (hp.bound HH.out)))
      clear hR hB hG hat hR2
      refine hK.out _ _ hHeld (fun hHeld => ?_)
      clear hK K
      refine norm_ (a' := ?_) ?_ ?_
      rotate_left
      · show Act.put _ (some 11) _ = _
        simp only [Act.put, List.setIfInBounds_toArray, List.set_cons_zero, List.set_cons_succ, i64_w, i32_w]
        rfl
      refine pure_ (i := 5) (N := some 15) (v := ?_) (a' := ?_) #[true, true, true, true, true, true, false, false, false] rfl rfl (by kernel_rfl) (fun _ _ _ h => h) (Or.inl ⟨by rfl, ?_⟩) ?_ ?_
      rotate_left
      · intro w'
        go_simp
        with_reducible rfl
      rotate_left
      · simp only [Act.put, List.setIfInBounds_toArray, List.set_cons_zero, List.set_cons_succ, i64_w, i32_w]
        rfl
      refine one_ (i := 6) (N := some 16) #[true, true, true, true, true, true, true, false, false] rfl rfl (by kernel_rfl) (by decide) (fun K hK => ?_)
      refine box_step ?hg (N := 16) ?hd (cs := #[.slice (some ⟨gl, 0, none⟩) n cap, .int .u64 (m : Int), .pointer (some ⟨gh, 0, none⟩)]) (t := 57) ?hr ?_
      (case hd => rfl)
      (case hg => rfl)
      (case hr => first | (go_simp; done) | (go_simp; rfl))
      intro g hg wbx3x4x1x6 hx hb
      have HG := Aside0.mk hg
      have HX := Aside0.mk hx
      have HB := Aside0.mk hb
      clear hx hb hg
      refine hK.out _ _ hHeld (fun hHeld => ?_)
      clear hK K
      refine norm_ (a' := ?_) ?_ ?_
      rotate_left
      · show Act.put _ (some 16) _ = _
        simp only [Act.put, List.setIfInBounds_toArray, List.set_cons_zero, List.set_cons_succ, i64_w, i32_w]
        rfl
      refine pure_ (i := 7) (N := some 2) (v := ?_) (a' := ?_) #[true, true, true, true, true, true, true, true, false] rfl rfl (by kernel_rfl) (fun _ _ _ h => h) (Or.inl ⟨by rfl, ?_⟩) ?_ ?_
      rotate_left
      · intro w'
        go_simp
        with_reducible rfl
      rotate_left
      · simp only [Act.put, List.setIfInBounds_toArray, List.set_cons_zero, List.set_cons_succ, i64_w, i32_w]
        rfl
      refine pure_ (i := 8) (N := some 3) (v := ?_) (a' := ?_) #[true, true, true, true, true, true, true, true, true] rfl rfl (by kernel_rfl) (fun _ _ _ h => h) (Or.inl ⟨by rfl, ?_⟩) ?_ ?_
      rotate_left
      · intro w'
        go_simp
        with_reducible rfl
      rotate_left
      · simp only [Act.put, List.setIfInBounds_toArray, List.set_cons_zero, List.set_cons_succ, i64_w, i32_w]
        rfl
      refine done_ (by kernel_rfl) ?_
      go_wp2
      go_ret2
      have := S.out
      have := Sx3.out
      have := Sx3x4.out
      have := Sx3x4x1.out
      exact ⟨g, rfl, new_mk HR.out HHx3x4x1.out (by omega) (by omega) (by omega) (by omega) (by omega) HX.out HG.out HB.out HI.out HN.out HN2.out, Fx3x4x1.out.trans (HB.out.mono Fx3x4x1.out.size)⟩
end Go.Proofs.Ytjeflmdfnfgacaa.Rank

/- Rank's calls in whole: Set and Clear as functions, and all of them by colours (no law is stated here; each says its conditions). -/
namespace Go.Proofs.Ytjeflmdfnfgacaa.Rank
open Go.RowKit Go.Proofs.YtjeflmdfnfgacaaW.PrintWords Go.Proofs.YtjeflmdfnfgacaaW.PrintLast Go.Proofs.YtjeflmdfnfgacaaW.PrintMore Go.Proofs.Ytjeflmdfnfgacaa.St Go.Proofs.Ytjeflmdfnfgacaa.Q Go.Proofs.Ytjeflmdfnfgacaa.Heap
set_option linter.unusedVariables false
set_option linter.unusedSimpArgs false

/-- What Set answers, and what is held behind it. -/
def setv (s : List (Option Ent)) (c : Int) (e : Ent) : Int × List (Option Ent) :=
  if isv s c = false ∨ e.1 < 0 ∨ 1024 ≤ e.1 then (1, s) else if (wv s e.1).2 = true ∧ (wv s e.1).1 ≠ c then (5, s) else (0, s.set c.toNat (some e))
def clearv (s : List (Option Ent)) (c : Int) : Int × List (Option Ent) := if isv s c = true then (0, s.set c.toNat none) else (1, s)
/-- The last of those that may be stopped, looked for one by one. -/
def bestB (s : List (Option Ent)) (j : Nat) (e : Ent) : Bool :=
  decide (j < s.length) && decide (s.getD j none = some e) && !e.2.2 && (List.range s.length).all (fun i => i == j || (match s.getD i none with | some e' => e'.2.2 || less e' e | none => true))
theorem best_of {s : List (Option Ent)} {j : Nat} {e : Ent} (h : bestB s j e = true) : Best s j e := by
  unfold bestB at h
  simp only [Bool.and_eq_true, decide_eq_true_eq, Bool.not_eq_true'] at h
  obtain ⟨⟨⟨h1, h2⟩, h3⟩, h4⟩ := h
  refine ⟨⟨h1, h2, h3⟩, fun i e' hc hne => ?_⟩
  have h5 := List.all_eq_true.1 h4 i (List.mem_range.2 hc.1)
  rw [hc.2.1] at h5
  have h6 : (i == j) = false := beq_eq_false_iff_ne.2 hne
  simp only [h6, Bool.false_or, hc.2.2] at h5
  exact h5
def idleB (m : Nat) (s : List (Option Ent)) : Bool := decide (m < 18446744073709551616) && (List.range 64).all (fun j => m.testBit j == decide (j < s.length ∧ s.getD j none = none))
theorem idle_of {m m' : Nat} {s : List (Option Ent)} (h : idleB m s = true) (h' : IdleIs m' s) : m' = m := by
  unfold idleB at h
  simp only [Bool.and_eq_true, decide_eq_true_eq] at h
  refine idle_unique h' ⟨h.1, fun j hj => ?_⟩
  have := List.all_eq_true.1 h.2 j (List.mem_range.2 hj)
  exact eq_of_beq this
section
variable {w : World} {b : Nat} {ok : Nat → Prop} {s : List (Option Ent)} {v : Value}
theorem stay {w1 : World} (hM : rank.M w b ok s v) (hb : Below w.heap.size w w1) : rank.M w1 b (more w ok) s v ∧ Wrote w w1 ok :=
  ⟨rank.mono (fun k hk => Or.inl hk) (rank_below hM hb), Wrote.of_below hb ok⟩
theorem set_calls (c e1 e2 : Int) (e3 : Bool) (hM : rank.M w b ok s v) :
    Calls Try.prog 8 #[v, .int .i64 c, .agg #[.int .i64 e1, .int .i64 e2, .bool e3]] w fun e w' => e = .returned (.int .i64 (setv s c (e1, e2, e3)).1) ∧ rank.M w' b (more w ok) (setv s c (e1, e2, e3)).2 v ∧ Wrote w w' ok := by
  by_cases h1 : isv s c = false ∨ e1 < 0 ∨ 1024 ≤ e1
  · rw [show setv s c (e1, e2, e3) = (1, s) from if_pos h1]
    exact (set_bad c e1 e2 e3 hM h1).mono (fun e w' ⟨he, hb⟩ => ⟨he, stay hM hb⟩)
  · have hv : isv s c = true := by
      cases h : isv s c with
      | false => exact absurd (Or.inl h) h1
      | true => rfl
    have g1 : 0 ≤ e1 := by
      apply Classical.byContradiction
      intro g
      exact h1 (Or.inr (Or.inl (by omega)))
    have g2 : e1 < 1024 := by
      apply Classical.byContradiction
      intro g
      exact h1 (Or.inr (Or.inr (by omega)))
    cases hw : wv s e1 with
    | mk p q =>
      by_cases h2 : q = true ∧ p ≠ c
      · have hs : setv s c (e1, e2, e3) = (5, s) := by
          unfold setv
          rw [if_neg h1, if_pos (by rw [hw]; exact h2)]
        rw [hs]
        exact (set_busy c e1 e2 e3 p hM hv g1 g2 (by rw [hw, h2.1]) h2.2).mono (fun e w' ⟨he, hb⟩ => ⟨he, stay hM hb⟩)
      · obtain ⟨j, rfl, hj⟩ := isv_t hv
        have hs : setv s (j : Int) (e1, e2, e3) = (0, s.set j (some (e1, e2, e3))) := by
          unfold setv
          rw [if_neg h1, if_neg (by rw [hw]; exact h2), Int.toNat_natCast]
        rw [hs]
        cases q with
        | false => exact set_ok_f j e1 e2 e3 p hM hj g1 g2 hw
        | true =>
          have hp : p = (j : Int) := by
            apply Classical.byContradiction
            intro g
            exact h2 ⟨rfl, g⟩
          exact set_ok_t j e1 e2 e3 p hM hj g1 g2 hw (by rw [hp]; simp)
theorem clear_calls (c : Int) (hM : rank.M w b ok s v) :
    Calls Try.prog 13 #[v, .int .i64 c] w fun e w' => e = .returned (.int .i64 (clearv s c).1) ∧ rank.M w' b (more w ok) (clearv s c).2 v ∧ Wrote w w' ok := by
  cases hv : isv s c with
  | false =>
    rw [show clearv s c = (1, s) from if_neg (by rw [hv]; exact Bool.false_ne_true)]
    refine (clear_bad c hM hv).mono ?_
    rintro e w' ⟨he, hw⟩
    rw [hw]
    exact ⟨he, stay hM (Below.refl _ _)⟩
  | true =>
    obtain ⟨j, rfl, hj⟩ := isv_t hv
    rw [show clearv s (j : Int) = (0, s.set j none) from by unfold clearv; rw [if_pos hv, Int.toNat_natCast]]
    exact clear_ok j hM hj
theorem rank_lower {b' : Nat} (h : rank.M w b ok s v) (hb : b' ≤ b) : rank.M w b' ok s v := by
  obtain ⟨g, gl, cap, m, dv, e, hA, hI⟩ := h
  exact ⟨g, gl, cap, m, dv, e, ⟨hA.okg, Nat.le_trans hb hA.lo, hA.lt, hA.okl, hA.ne, hA.ltl, hA.blk, Kd.R_lower hA.row hb, hp_lower hA.hp hb, hA.n1, hA.n64⟩, hI⟩
end
section
variable {w0 W W1 : World} {c : Nat → Nat} {i : Nat} {s : List (Option Ent)} {v : Value}
theorem newC (c : Nat → Nat) (i : Nat) (n : Nat) (hn : 1 ≤ n) (hn2 : n ≤ 64) (hB : Below w0.heap.size w0 W) :
    Calls Try.prog 7 #[.int .i64 (n : Int)] W fun e w' => ∃ g : Nat, e = .returned (.tuple #[.pointer (some ⟨g, 0, none⟩), .int .i64 0]) ∧ ∃ c', rank.M w' w0.heap.size (fun k => c' k = i) (List.replicate n none) (.pointer (some ⟨g, 0, none⟩)) ∧ Turned c c' i w0 W w' :=
  (new_ok n W hn hn2).mono (fun e w' ⟨g, h1, h2, h3⟩ => ⟨g, h1, turned_new (s := rank) h2 h3 hB.size (fun h => rank_lower h hB.size)⟩)
theorem setC (a e1 e2 : Int) (e3 : Bool) (h : rank.M W w0.heap.size (fun k => c k = i) s v) (hs : w0.heap.size ≤ W.heap.size) :
    Calls Try.prog 8 #[v, .int .i64 a, .agg #[.int .i64 e1, .int .i64 e2, .bool e3]] W fun e w' => e = .returned (.int .i64 (setv s a (e1, e2, e3)).1) ∧ ∃ c', rank.M w' w0.heap.size (fun k => c' k = i) (setv s a (e1, e2, e3)).2 v ∧ Turned c c' i w0 W w' :=
  (set_calls a e1 e2 e3 (St.mine (s := rank) h)).mono (fun e w' ⟨he, h1, h2⟩ => ⟨he, turned (s := rank) h1 h2 hs⟩)
theorem clearC (a : Int) (h : rank.M W w0.heap.size (fun k => c k = i) s v) (hs : w0.heap.size ≤ W.heap.size) :
    Calls Try.prog 13 #[v, .int .i64 a] W fun e w' => e = .returned (.int .i64 (clearv s a).1) ∧ ∃ c', rank.M w' w0.heap.size (fun k => c' k = i) (clearv s a).2 v ∧ Turned c c' i w0 W w' :=
  (clear_calls a (St.mine (s := rank) h)).mono (fun e w' ⟨he, h1, h2⟩ => ⟨he, turned (s := rank) h1 h2 hs⟩)
theorem allC (j : Nat) (h : rank.M W w0.heap.size (fun k => c k = i) s v) (hs : w0.heap.size ≤ W.heap.size) :
    Calls Try.prog 12 #[v] W fun e w' => ∃ v' : Value, e = .returned v' ∧ ∃ c', (row 29 KE).M w' w0.heap.size (fun k => c' k = j) (allOf s) v' ∧ Turned c c' j w0 W w' :=
  (all_calls h).mono (fun e w' ⟨v', h1, h2, h3⟩ => ⟨v', h1, turned_new (s := row 29 KE) h2 h3 hs (fun h => Kd.R_lower h hs)⟩)
end
end Go.Proofs.Ytjeflmdfnfgacaa.Rank
