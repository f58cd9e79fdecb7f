/- What the methods of a fifo turn: Put, Front, Len (no law is stated here; each says its conditions). -/
import Derived.Test.YtmjmfkbdnhdafaaFifo
import Derived.Deep.QuietTactic
import Derived.BigQuiet
namespace Go.Proofs.Ytmjmfkbdnhdafaa.Fifo
open Go.RowKit Go.Proofs.YtmjmfkbdnhdafaaW.PrintWords Go.Proofs.YtmjmfkbdnhdafaaW.PrintLast Go.Proofs.YtmjmfkbdnhdafaaW.PrintMore Go.Proofs.Ytmjmfkbdnhdafaa.St Go.Proofs.Ytmjmfkbdnhdafaa.Q
set_option linter.unusedVariables false
set_option linter.unusedSimpArgs false
attribute [local go_sem] max2_int min2_int max_two min_two max_three min_three max_four min_four

/-- What is put last, if there is room. -/
def putl (room : Int) (l : List Int) (x : Int) : List Int := if (l.length : Int) = room then l else l ++ [x]
theorem putl_t {room : Int} {l : List Int} {x : Int} (h : (l.length : Int) = room) : putl room l x = l := if_pos h
theorem putl_f {room : Int} {l : List Int} {x : Int} (h : ¬ (l.length : Int) = room) : putl room l x = l ++ [x] := if_neg h
/-- Room for what is new. -/
def more (w : World) (ok : Nat → Prop) : Nat → Prop := fun k => ok k ∨ w.heap.size ≤ k

set_option maxHeartbeats 1000000 in
set_option maxRecDepth 100000 in
theorem put_calls {w : World} {b : Nat} {ok : Nat → Prop} {room : Int} {l : List Int} {v : Value} (x : Int) (hM : fifo.M w b ok (room, l) v) :
    Calls Try.prog 18 #[v, .int .i64 x] w fun e w' => e = .returned (.bool (decide ((l.length : Int) ≠ room))) ∧ fifo.M w' b (more w ok) (room, putl room l x) v ∧ Wrote w w' ok := by
  obtain ⟨g, sv, rfl, hA⟩ := hM
  obtain ⟨A, c, rfl⟩ := Kd.R_slice hA.row
  have h0 := hA.c0
  have h1 := hA.c1
  have hf := hA.f1
  have hl := hA.len
  have HA := Aside0.mk hA
  by_cases hc : (l.length : Int) = room
  · have hd : ((l.length : Int) == room) = true := beq_iff_eq.mpr hc
    have HC := Aside0.mk hc
    clear hc hA
    go_enter Try.func18, Try.ntmps18
    go_wp2
    go_quiet (fail)
    go_wp2
    go_ret
    refine ⟨by simp [HC.out], ?_, (Wrote.refl _ _).drewN _⟩
    rw [putl_t HC.out]
    exact fifo.mono (fun k hk => Or.inl hk) (fifo.move (fun _ _ => rfl) ⟨g, _, rfl, HA.out⟩)
  · have hd : ((l.length : Int) == room) = false := beq_eq_false_iff_ne.mpr hc
    have HC := Aside0.mk hc
    clear hc hA
    go_enter Try.func18, Try.ntmps18
    go_wp2
    go_quiet (fail)
    go_wp2_with (first | ((with_reducible refine gate_builtin (b := .append) (xs := #[.tmp 19, .tmp 21]) rfl ?_); at_builtin; refine Kd.R_append (Kd.int .i64) (w0 := w) b rfl (.tmp 19) (.tmp 21) 28 3 (.int .i64 0) 8 rfl Try.underlying28 info_int rfl (by decide) (by decide) (.slice A l.length c) l x [.int .i64 x] (fun k => more w ok k ∧ k ≠ g) (fun _ => False) rfl rfl ?hp (fun _ h => h.elim) (fun k hk => ⟨Or.inr hk, Nat.ne_of_gt (Nat.lt_of_lt_of_le HA.out.2.2.1 hk)⟩) (Kd.R_mono (Kd.R_drewN HA.out.row _) (fun k hk => ⟨Or.inl hk.1, hk.2⟩)) (pw_below_drewN (Below.refl _ _) _) (Nat.le_of_lt (Nat.lt_of_le_of_lt HA.out.2.1 HA.out.2.2.1)) (by omega) ?_; (case hp => rfl); intro v1 w1 hO hB hG hat; obtain ⟨A1, c1, rfl⟩ := Kd.R_slice hO; have HO := Aside0.mk hO; have HB := Aside0.mk hB; have HG := Aside0.mk hG; have HT := Aside0.mk hat; have k1 := Aside0.mk ((HG.out.block g HA.out.2.2.1 (Kd.R_away HA.out.row (fun k hk => hk.2)))); clear hO hB hG hat; have hf1 := At.f1' HA.out k1.out; have hc1 := At.c1' HA.out k1.out))
    go_ret
    refine ⟨by simp [HC.out], ?_, ?_⟩
    · rw [putl_f HC.out]
      exact HA.out.put (fun k hk => Or.inl hk) k1.out (by have h := HO.out; rw [show (l ++ [x]).length = l.length + 1 by simp] at h; exact h) (by have := HA.out.2.2.2.2.2; have := HC.out; simp only [List.length_append, List.length_singleton] at *; omega)
    · exact (((Wrote.refl w ok).drewN nq).grown HG.out (fun k hk => Or.inl (HA.out.row.1 k hk).1)).setCell (Or.inl HA.out.1) _

set_option maxHeartbeats 1000000 in
set_option maxRecDepth 100000 in
theorem len_calls {w : World} {b : Nat} {ok : Nat → Prop} {room : Int} {l : List Int} {v : Value} (hM : fifo.M w b ok (room, l) v) :
    Calls Try.prog 24 #[v] w fun e w' => e = .returned (.int .i64 (l.length : Int)) ∧ w' = w := by
  obtain ⟨g, sv, rfl, hA⟩ := hM
  obtain ⟨A, c, rfl⟩ := Kd.R_slice hA.row
  have h1 := hA.c1
  clear hA
  go_enter Try.func24, Try.ntmps24
  go_wp2
  go_ret
  exact ⟨rfl, rfl⟩

/-- The first one, or 0. -/
def front (l : List Int) : Int := l.getD 0 0
def some_ (l : List Int) : Bool := decide (0 < l.length)
set_option maxHeartbeats 1000000 in
set_option maxRecDepth 100000 in
theorem front_calls {w : World} {b : Nat} {ok : Nat → Prop} {room : Int} {l : List Int} {v : Value} (hM : fifo.M w b ok (room, l) v) :
    Calls Try.prog 30 #[v] w fun e w' => e = .returned (.tuple #[.int .i64 (front l), .bool (some_ l)]) ∧ w' = w := by
  obtain ⟨g, sv, rfl, hA⟩ := hM
  obtain ⟨A, c, rfl⟩ := Kd.R_slice hA.row
  have h1 := hA.c1
  by_cases hc : (l.length : Int) = 0
  · have hd : ((l.length : Int) == 0) = true := beq_iff_eq.mpr hc
    have hl : l = [] := List.length_eq_zero_iff.1 (by omega)
    have HL := Aside0.mk hl
    clear hc hA hl
    go_enter Try.func30, Try.ntmps30
    go_wp2
    go_ret2
    exact ⟨by rw [HL.out]; rfl, rfl⟩
  · have hd : ((l.length : Int) == 0) = false := beq_eq_false_iff_ne.mpr hc
    have hlt : 0 < l.length := by omega
    have hr := hA.row
    obtain ⟨g2, c2, he, _⟩ := Kd.R_form hr hlt
    cases he
    obtain ⟨hcell, _⟩ := Mine.row_get hr (j := 0) hlt
    have HL := Aside0.mk hlt
    have hs : some_ l = true := decide_eq_true hlt
    have hq : (0 < (l.length : Int)) = True := eq_true (by omega)
    have hq2 : (0 < l.length) = True := eq_true hlt
    have hf : l.getD 0 0 = front l := rfl
    rw [hf] at hcell
    clear hc hA hr hlt hf
    rw [hs]
    go_enter Try.func30, Try.ntmps30
    go_wp2
    go_ret2
    exact ⟨rfl, rfl⟩
/-- The room that New gives. -/
def clamp (n : Int) : Int := if 256 < (if n < 1 then 1 else n) then 256 else (if n < 1 then 1 else n)
theorem clamp_le (n : Int) : 1 ≤ clamp n ∧ clamp n ≤ 256 := by unfold clamp; split <;> split at * <;> omega
set_option maxHeartbeats 1000000 in
set_option maxRecDepth 100000 in
theorem new_calls (n : Int) (w : World) :
    Calls Try.prog 16 #[.int .i64 n] w fun e w' => ∃ g : Nat, e = .returned (.pointer (some ⟨g, 0, none⟩)) ∧ fifo.M w' w.heap.size (fun k => w.heap.size ≤ k) (clamp n, []) (.pointer (some ⟨g, 0, none⟩)) ∧ Below w.heap.size w w' := by
  have hu := Try.underlying50
  have HC := Aside0.mk (clamp_le n)
  generalize hr : clamp n = r at HC
  have hr1 : (if 256 < (if n < 1 then 1 else n) then 256 else (if n < 1 then 1 else n)) = r := hr
  obtain ⟨j, hj⟩ : ∃ j : Int, (if n < 1 then 1 else n) = j := ⟨_, rfl⟩
  rw [hj] at hr1
  clear hr
  go_enter Try.func16, Try.ntmps16
  go_wp2_with (first | ((with_reducible refine gate_dst (N := 7) rfl ?_); refine box_event ?hg (N := 7) ?hd (cs := #[.int .i64 r, .slice none 0 0]) (t := 50) ?hr ?_; (case hd => rfl); (case hg => rfl); (case hr => first | (go_simp; done) | (go_simp; rfl)); intro gb hg w4 hbox hb; have HG := Aside0.mk hg; have HX := Aside0.mk hbox; have HB := Aside0.mk hb; clear hg hbox hb))
  go_ret
  refine ⟨gb, rfl, ?_, HB.out⟩
  have hge : w.heap.size ≤ gb := Nat.le_of_eq HG.out.symm
  exact ⟨gb, _, rfl, hge, hge, blk_lt HX.out, HX.out, Kd.R_nil _ _ _ _ _, HC.out.1, HC.out.2, by have := HC.out; simp; omega⟩
end Go.Proofs.Ytmjmfkbdnhdafaa.Fifo
