/- Alarm: the alarms by colours: Arm, Cancel, Register (no law is stated here; each says its conditions). -/
import Derived.Test.YtdmoembbgcoeaaaAlP
import Derived.Test.YtdmoembbgcoeaaaReg
namespace Go.Proofs.Ytdmoembbgcoeaaa.Alarm
open Go.RowKit Go.Proofs.YtdmoembbgcoeaaaW.PrintWords Go.Proofs.YtdmoembbgcoeaaaW.PrintLast Go.Proofs.YtdmoembbgcoeaaaW.PrintMore Go.Proofs.Ytdmoembbgcoeaaa.St Go.Proofs.Ytdmoembbgcoeaaa.Q Go.Proofs.Ytdmoembbgcoeaaa.Heap
open Go.Sort (HoldsK putRowK grow flatK)
set_option linter.unusedVariables false
set_option linter.unusedSimpArgs false
attribute [local go_sem] max2_int min2_int max_two min_two max_three min_three max_four min_four

def kp : Kd Nat := Kd.scalar (fun g => .pointer (some ⟨g, 0, none⟩)) (fun _ => rfl)
theorem flatP : Flat kp := fun _ _ _ _ h => h
theorem read_ptr {w : World} {A : Option Addr} {n : Nat} {l : List Nat} (h : kp.C w A n l) {j : Nat} (hj : j < n) : ∃ ad, A = some ad ∧ w.cell? (ad.add j) = some (.pointer (some ⟨l.getD j 0, 0, none⟩)) := by
  obtain ⟨ad, cs, hA, _, hK, hcell⟩ := Kd.C_get h 0 (j : Int) (by omega) (by omega)
  refine ⟨ad, hA, ?_⟩
  have h0 := hcell 0 _ (by rw [hK]; rfl)
  have e1 : ((j : Int).toNat * kp.sz + 0) = j := by
    show (j : Int).toNat * 1 + 0 = j
    omega
  rw [e1, Int.toNat_natCast] at h0
  exact h0
/-- The alarms: their block, the row of pointers, the heaps, by colours from i on. -/
def AL (w0 W : World) (c : Nat → Nat) (i : Nat) (hs : List (List (Int × Int))) (now : Int) (ga : Nat) : Prop :=
  ∃ (A : Option Addr) (k : Nat) (gs : List Nat), gs.length = hs.length ∧ blk.M W w0.heap.size (fun k => c k = i) (.cells #[.slice A hs.length k, .int .i64 now] 56 (0, 0)) (.pointer (some ⟨ga, 0, none⟩)) ∧ (row 57 kp).M W w0.heap.size (fun k => c k = i + 1) gs (.slice A hs.length k) ∧
    ∀ j, j < hs.length → hp.M W w0.heap.size (fun k => c k = i + 10 + j) (hs.getD j [], false, 1024) (.pointer (some ⟨gs.getD j 0, 0, none⟩))
/-- What a step on the alarms leaves to those of lesser colours. -/
structure TurnedA (c c' : Nat → Nat) (i : Nat) (w0 W W' : World) : Prop where
  far : Below w0.heap.size w0 W → Below w0.heap.size w0 W'
  keep : ∀ (α : Type) (s : St α) (j : Nat) (y : α) (u : Value), j < i → s.M W w0.heap.size (fun k => c k = j) y u → s.M W' w0.heap.size (fun k => c' k = j) y u
theorem TurnedA.refl (c : Nat → Nat) (i : Nat) (w0 W : World) : TurnedA c c i w0 W W := ⟨id, fun _ _ _ _ _ _ h => h⟩
theorem TurnedA.step {c c1 c2 : Nat → Nat} {i j : Nat} {w0 W W1 W2 : World} (h : TurnedA c c1 i w0 W W1) (k : Turned c1 c2 j w0 W1 W2) (hj : i ≤ j) : TurnedA c c2 i w0 W W2 :=
  ⟨fun hb => k.far (h.far hb), fun α s q y u hq hm => k.keep α s q y u (by omega) (h.keep α s q y u hq hm)⟩
theorem TurnedA.below {c c1 : Nat → Nat} {i : Nat} {w0 W W1 W2 : World} (h : TurnedA c c1 i w0 W W1) (hb : Below W1.heap.size W1 W2) : TurnedA c c1 i w0 W W2 :=
  ⟨fun hB => (h.far hB).trans (hb.mono (h.far hB).size), fun α s j y u hj hm => s.mono (fun _ hk => hk.1) (s.move (fun k hk => hb.block k hk.2.2) (s.bound (h.keep α s j y u hj hm)))⟩
theorem TurnedA.trans {c c1 c2 : Nat → Nat} {i : Nat} {w0 W W1 W2 : World} (h : TurnedA c c1 i w0 W W1) (k : TurnedA c1 c2 i w0 W1 W2) : TurnedA c c2 i w0 W W2 :=
  ⟨fun hb => k.far (h.far hb), fun α s q y u hq hm => k.keep α s q y u hq (h.keep α s q y u hq hm)⟩
section
variable {w0 W W1 : World} {c c1 : Nat → Nat} {i ga : Nat} {hs : List (List (Int × Int))} {now : Int}
theorem AL.below (h : AL w0 W c i hs now ga) (hb : Below W.heap.size W W1) : AL w0 W1 c i hs now ga := by
  obtain ⟨A, k, gs, h0, h1, h2, h3⟩ := h
  exact ⟨A, k, gs, h0, St.below (s := blk) h1 hb, St.below (s := row 57 kp) h2 hb, fun j hj => St.below (s := hp) (h3 j hj) hb⟩
theorem AL.keep1 {q : Nat} (h : AL w0 W c i hs now ga) (t : Turned c c1 q w0 W W1) (hq : q < i) : AL w0 W1 c1 i hs now ga := by
  obtain ⟨A, k, gs, h0, h1, h2, h3⟩ := h
  exact ⟨A, k, gs, h0, t.keep _ blk _ _ _ (by omega) h1, t.keep _ (row 57 kp) _ _ _ (by omega) h2, fun j hj => t.keep _ hp _ _ _ (by omega) (h3 j hj)⟩
theorem AL.keepL {js : List Nat} (h : AL w0 W c i hs now ga) (t : TurnedL c c1 js w0 W W1) (hq : ∀ q ∈ js, q < i) : AL w0 W1 c1 i hs now ga := by
  obtain ⟨A, k, gs, h0, h1, h2, h3⟩ := h
  exact ⟨A, k, gs, h0, t.keep _ blk _ _ _ (fun hm => by have := hq _ hm; omega) h1, t.keep _ (row 57 kp) _ _ _ (fun hm => by have := hq _ hm; omega) h2, fun j hj => t.keep _ hp _ _ _ (fun hm => by have := hq _ hm; omega) (h3 j hj)⟩
/-- One of the heaps: where it is, and how the alarms are told anew once it has turned. -/
theorem AL.open (h : AL w0 W c i hs now ga) {j : Nat} (hj : j < hs.length) : ∃ (ad : Addr) (k g : Nat), W.heap[ga]? = some (.cells #[.slice (some ad) hs.length k, .int .i64 now] 56 (0, 0)) ∧ W.cell? (ad.add j) = some (.pointer (some ⟨g, 0, none⟩)) ∧
    hp.M W w0.heap.size (fun k => c k = i + 10 + j) (hs.getD j [], false, 1024) (.pointer (some ⟨g, 0, none⟩)) ∧
    ∀ (W' : World) (c' : Nat → Nat) (m' : List (Int × Int)), hp.M W' w0.heap.size (fun k => c' k = i + 10 + j) (m', false, 1024) (.pointer (some ⟨g, 0, none⟩)) → Turned c c' (i + 10 + j) w0 W W' → AL w0 W' c' i (hs.set j m') now ga := by
  obtain ⟨A, k, gs, h0, h1, h2, h3⟩ := h
  have h2c := row_C h2
  rw [h0] at h2c
  obtain ⟨ad, hA, hc⟩ := read_ptr h2c hj
  subst hA
  refine ⟨ad, k, gs.getD j 0, blk_at h1, hc, h3 j hj, fun W' c' m' hm t => ⟨some ad, k, gs, by rw [List.length_set]; exact h0, ?_, ?_, fun q hq => ?_⟩⟩
  · rw [List.length_set]; exact t.keep _ blk _ _ _ (by omega) h1
  · rw [List.length_set]; exact t.keep _ (row 57 kp) _ _ _ (by omega) h2
  · rw [List.length_set] at hq
    by_cases e : q = j
    · subst e
      rw [List.getD_eq_getElem?_getD, List.getElem?_set_self hq]
      exact hm
    · rw [List.getD_eq_getElem?_getD, List.getElem?_set_ne (fun e2 => e e2.symm), ← List.getD_eq_getElem?_getD]
      exact t.keep _ hp _ _ _ (by omega) (h3 q hq)
theorem AL.at (h : AL w0 W c i hs now ga) : ∃ (A : Option Addr) (k : Nat), W.heap[ga]? = some (.cells #[.slice A hs.length k, .int .i64 now] 56 (0, 0)) := by
  obtain ⟨A, k, gs, h0, h1, h2, h3⟩ := h
  exact ⟨A, k, blk_at h1⟩
theorem AL.size (h : AL w0 W c i hs now ga) : w0.heap.size ≤ W.heap.size := by
  obtain ⟨A, k, gs, h0, ⟨g, _, _, h1, h2, _⟩, _⟩ := h
  omega
theorem AL.nodup (h : AL w0 W c i hs now ga) {j : Nat} (hj : j < hs.length) : ((hs.getD j []).map (·.1)).Nodup := by
  obtain ⟨A, k, gs, h0, h1, h2, h3⟩ := h
  exact hp_nodup (h3 j hj)
end
/-- Is there such a CPU? -/
def inr (n : Nat) (cpu : Int) : Bool := decide (0 ≤ cpu) && decide (cpu < (n : Int))
theorem inr_t {n : Nat} {cpu : Int} (h : inr n cpu = true) : ∃ j : Nat, cpu = (j : Int) ∧ j < n := by
  unfold inr at h
  rw [Bool.and_eq_true, decide_eq_true_eq, decide_eq_true_eq] at h
  exact ⟨cpu.toNat, by omega, by omega⟩
theorem inr_nat {n j : Nat} (h : j < n) : inr n (j : Int) = true := by unfold inr; rw [decide_eq_true (by omega), decide_eq_true (by omega)]; rfl
theorem wf_small {id : Int} (h0 : 0 ≤ id) (h1 : id < 1024) : (Lit.int .i64 id).wf = true := by
  simp only [Lit.wf, Bool.and_eq_true, decide_eq_true_eq]
  exact ⟨by show (-9223372036854775808 : Int) ≤ id; omega, by show id ≤ (9223372036854775807 : Int); omega⟩
set_option maxHeartbeats 1000000 in
set_option maxRecDepth 100000 in
theorem is_calls {W : World} {ga n k : Nat} {A : Option Addr} {now : Int} (cpu : Int) {b : Bool} (hb : W.heap[ga]? = some (.cells #[.slice A n k, .int .i64 now] 56 (0, 0))) (hv : inr n cpu = b) :
    Calls Try.prog 23 #[.pointer (some ⟨ga, 0, none⟩), .int .i64 cpu] W fun e w' => e = .returned (.bool b) ∧ w' = W := by
  subst hv
  have y0 := blk_cell hb 0
  clear hb
  by_cases h1 : 0 ≤ cpu
  · have d1 : decide (0 ≤ cpu) = true := decide_eq_true h1
    obtain ⟨q, hq⟩ : ∃ q, decide (cpu < (n : Int)) = q := ⟨_, rfl⟩
    have HV := Aside0.mk (show inr n cpu = q from by unfold inr; rw [d1, hq]; rfl)
    clear h1
    go_enter Try.func23, Try.ntmps23
    go_wp2
    go_ret
    exact ⟨by rw [HV.out]; rfl, rfl⟩
  · have d1 : decide (0 ≤ cpu) = false := decide_eq_false h1
    have HV := Aside0.mk (show inr n cpu = false from by unfold inr; rw [d1]; rfl)
    clear h1
    go_enter Try.func23, Try.ntmps23
    go_wp2
    go_ret
    exact ⟨by rw [HV.out]; rfl, rfl⟩
/-- What Arm answers, what is armed then. -/
def armV (n : Nat) (now cpu id at' : Int) : Int := if inr n cpu = false ∨ id < 0 ∨ 1024 ≤ id ∨ at' < now ∨ 4611686018427387904 < at' then 1 else 0
def armH (hs : List (List (Int × Int))) (now cpu id at' : Int) : List (List (Int × Int)) := if armV hs.length now cpu id at' = 0 then hs.set cpu.toNat (rearm (hs.getD cpu.toNat []) id at') else hs
set_option maxHeartbeats 2000000 in
set_option maxRecDepth 100000 in
theorem arm_calls {w0 W : World} {c : Nat → Nat} {i ga : Nat} {hs : List (List (Int × Int))} {now : Int} (cpu id at' : Int) (h : AL w0 W c i hs now ga) (hl : ∀ j, j < hs.length → (hs.getD j []).length < 1024) :
    Calls Try.prog 9 #[.pointer (some ⟨ga, 0, none⟩), .int .i64 cpu, .int .i64 id, .int .i64 at'] W fun e w' => e = .returned (.int .i64 (armV hs.length now cpu id at')) ∧ ∃ c', AL w0 w' c' i (armH hs now cpu id at') now ga ∧ TurnedA c c' i w0 W w' := by
  have HA := Aside0.mk h
  have HL := Aside0.mk hl
  obtain ⟨ev, hev⟩ : ∃ ev, armV hs.length now cpu id at' = ev := ⟨_, rfl⟩
  obtain ⟨eh, heh⟩ : ∃ eh, armH hs now cpu id at' = eh := ⟨_, rfl⟩
  have HEV := Aside0.mk hev
  have HEH := Aside0.mk (show eh = if ev = 0 then hs.set cpu.toNat (rearm (hs.getD cpu.toNat []) id at') else hs from by rw [← heh, ← hev]; rfl)
  rw [hev, heh]
  clear hl hev heh
  cases hi : inr hs.length cpu with
  | false =>
    have HI := Aside0.mk hi
    have HV := Aside0.mk (show ev = 1 from by rw [← HEV.out]; unfold armV; rw [if_pos (Or.inl hi)])
    obtain ⟨A, k, hb⟩ := h.at
    have HBK := Aside0.mk hb
    clear hi hb h
    go_enter Try.func9, Try.ntmps9
    go_wp2_with (first | (go_at_call 23; (with_reducible refine (is_calls _ HBK.out HI.out).mono ?_); rintro e wz ⟨rfl, hz⟩; have hz := hz.symm; subst hz))
    go_ret
    exact ⟨by rw [HV.out]; rfl, c, by rw [HEH.out, HV.out, if_neg (by decide)]; exact HA.out, TurnedA.refl _ _ _ _⟩
  | true =>
    have HI := Aside0.mk hi
    obtain ⟨j, hj, hjn⟩ := inr_t hi
    subst hj
    obtain ⟨ad, k, g, hb, hc, hm, hback⟩ := h.open hjn
    have HBK := Aside0.mk hb
    have y1 := blk_cell hb 1
    by_cases h1 : id < 0
    · have d1 : decide (id < 0) = true := decide_eq_true h1
      have HV := Aside0.mk (show ev = 1 from by rw [← HEV.out]; unfold armV; rw [if_pos (Or.inr (Or.inl h1))])
      clear hi hb h hc hm hback h1
      go_enter Try.func9, Try.ntmps9
      go_wp2_with (first | (go_at_call 23; (with_reducible refine (is_calls _ HBK.out HI.out).mono ?_); rintro e wz ⟨rfl, hz⟩; have hz := hz.symm; subst hz))
      go_ret
      exact ⟨by rw [HV.out]; rfl, c, by rw [HEH.out, HV.out, if_neg (by decide)]; exact HA.out, TurnedA.refl _ _ _ _⟩
    have d1 : decide (id < 0) = false := decide_eq_false h1
    by_cases h2 : 1024 ≤ id
    · have d2 : decide (1024 ≤ id) = true := decide_eq_true h2
      have HV := Aside0.mk (show ev = 1 from by rw [← HEV.out]; unfold armV; rw [if_pos (Or.inr (Or.inr (Or.inl h2)))])
      clear hi hb h hc hm hback h1 h2
      go_enter Try.func9, Try.ntmps9
      go_wp2_with (first | (go_at_call 23; (with_reducible refine (is_calls _ HBK.out HI.out).mono ?_); rintro e wz ⟨rfl, hz⟩; have hz := hz.symm; subst hz))
      go_ret
      exact ⟨by rw [HV.out]; rfl, c, by rw [HEH.out, HV.out, if_neg (by decide)]; exact HA.out, TurnedA.refl _ _ _ _⟩
    have d2 : decide (1024 ≤ id) = false := decide_eq_false h2
    by_cases h3 : at' < now
    · have d3 : decide (at' < now) = true := decide_eq_true h3
      have HV := Aside0.mk (show ev = 1 from by rw [← HEV.out]; unfold armV; rw [if_pos (Or.inr (Or.inr (Or.inr (Or.inl h3))))])
      clear hi hb h hc hm hback h1 h2 h3
      go_enter Try.func9, Try.ntmps9
      go_wp2_with (first | (go_at_call 23; (with_reducible refine (is_calls _ HBK.out HI.out).mono ?_); rintro e wz ⟨rfl, hz⟩; have hz := hz.symm; subst hz))
      go_ret
      exact ⟨by rw [HV.out]; rfl, c, by rw [HEH.out, HV.out, if_neg (by decide)]; exact HA.out, TurnedA.refl _ _ _ _⟩
    have d3 : decide (at' < now) = false := decide_eq_false h3
    by_cases h4 : 4611686018427387904 < at'
    · have d4 : decide (4611686018427387904 < at') = true := decide_eq_true h4
      have HV := Aside0.mk (show ev = 1 from by rw [← HEV.out]; unfold armV; rw [if_pos (Or.inr (Or.inr (Or.inr (Or.inr h4))))])
      clear hi hb h hc hm hback h1 h2 h3 h4
      go_enter Try.func9, Try.ntmps9
      go_wp2_with (first | (go_at_call 23; (with_reducible refine (is_calls _ HBK.out HI.out).mono ?_); rintro e wz ⟨rfl, hz⟩; have hz := hz.symm; subst hz))
      go_ret
      exact ⟨by rw [HV.out]; rfl, c, by rw [HEH.out, HV.out, if_neg (by decide)]; exact HA.out, TurnedA.refl _ _ _ _⟩
    have d4 : decide (4611686018427387904 < at') = false := decide_eq_false h4
    have HV := Aside0.mk (show ev = 0 from by rw [← HEV.out]; unfold armV; rw [if_neg (by rintro (e | e | e | e | e); rw [hi] at e; cases e; exact h1 e; exact h2 e; exact h3 e; exact h4 e)])
    have HW := Aside0.mk (wf_small (by omega) (by omega : id < 1024))
    have HVL := Aside0.mk (show eh = hs.set j (rearm (hs.getD j []) id at') from by rw [HEH.out, HV.out, if_pos rfl, Int.toNat_natCast])
    have bq : (0 ≤ (j : Int) ∧ (j : Int) < (hs.length : Int)) := by omega
    have y0 := blk_cell hb 0
    have HC := Aside0.mk hm
    have HS := Aside0.mk h.size
    have HLJ := Aside0.mk (HL.out j hjn)
    have HBB := Aside0.mk hback
    clear hi hb h hm hback h1 h2 h3 h4
    go_enter Try.func9, Try.ntmps9
    go_wp2_with (first | (go_at_call 23; (with_reducible refine (is_calls _ HBK.out HI.out).mono ?_); rintro e wz ⟨rfl, hz⟩; have hz := hz.symm; subst hz) | (go_at_call 24; (with_reducible refine (putA id at' HC.out HS.out HW.out HLJ.out).mono ?_); rintro e w3 ⟨rfl, c3, h3, t3⟩; have H3 := Aside0.mk h3; have T3 := Aside0.mk t3; clear h3 t3))
    go_ret
    exact ⟨by rw [HV.out]; rfl, c3, by rw [HVL.out]; exact HBB.out _ _ _ H3.out T3.out, (TurnedA.refl c i w0 W).step T3.out (by omega)⟩
/-- What Cancel answers, what is armed then. -/
def cancelV (hs : List (List (Int × Int))) (cpu id : Int) : Bool := inr hs.length cpu && has (hs.getD cpu.toNat []) id
def cancelH (hs : List (List (Int × Int))) (cpu id : Int) : List (List (Int × Int)) := if inr hs.length cpu = true then hs.set cpu.toNat (unarm (hs.getD cpu.toNat []) id) else hs
set_option maxHeartbeats 2000000 in
set_option maxRecDepth 100000 in
theorem cancel_calls {w0 W : World} {c : Nat → Nat} {i ga : Nat} {hs : List (List (Int × Int))} {now : Int} (cpu id : Int) (h : AL w0 W c i hs now ga) (hw : (Lit.int .i64 id).wf = true) :
    Calls Try.prog 15 #[.pointer (some ⟨ga, 0, none⟩), .int .i64 cpu, .int .i64 id] W fun e w' => e = .returned (.bool (cancelV hs cpu id)) ∧ ∃ c', AL w0 w' c' i (cancelH hs cpu id) now ga ∧ TurnedA c c' i w0 W w' := by
  have HA := Aside0.mk h
  have HW := Aside0.mk hw
  clear hw
  cases hi : inr hs.length cpu with
  | false =>
    have HI := Aside0.mk hi
    have HV := Aside0.mk (show cancelV hs cpu id = false from by unfold cancelV; rw [hi]; rfl)
    have HVL := Aside0.mk (show cancelH hs cpu id = hs from by unfold cancelH; rw [hi]; rfl)
    obtain ⟨A, k, hb⟩ := h.at
    have HBK := Aside0.mk hb
    clear hi hb h
    go_enter Try.func15, Try.ntmps15
    go_wp2_with (first | (go_at_call 23; (with_reducible refine (is_calls _ HBK.out HI.out).mono ?_); rintro e wz ⟨rfl, hz⟩; have hz := hz.symm; subst hz))
    go_ret
    exact ⟨by rw [HV.out]; rfl, c, by rw [HVL.out]; exact HA.out, TurnedA.refl _ _ _ _⟩
  | true =>
    have HI := Aside0.mk hi
    obtain ⟨j, hj, hjn⟩ := inr_t hi
    subst hj
    obtain ⟨ad, k, g, hb, hc, hm, hback⟩ := h.open hjn
    have HBK := Aside0.mk hb
    have y0 := blk_cell hb 0
    obtain ⟨hv, hhv⟩ : ∃ hv, has (hs.getD j []) id = hv := ⟨_, rfl⟩
    have HH := Aside0.mk hhv
    have HV := Aside0.mk (show cancelV hs (j : Int) id = hv from by unfold cancelV; rw [hi, Int.toNat_natCast, hhv]; rfl)
    have HVL := Aside0.mk (show cancelH hs (j : Int) id = hs.set j (unarm (hs.getD j []) id) from by unfold cancelH; rw [if_pos hi, Int.toNat_natCast])
    have bq : (0 ≤ (j : Int) ∧ (j : Int) < (hs.length : Int)) := by omega
    have HC := Aside0.mk hm
    have HS := Aside0.mk h.size
    have HBB := Aside0.mk hback
    clear hi hb h hm hback hhv
    go_enter Try.func15, Try.ntmps15
    go_wp2_with (first | (go_at_call 23; (with_reducible refine (is_calls _ HBK.out HI.out).mono ?_); rintro e wz ⟨rfl, hz⟩; have hz := hz.symm; subst hz) | (go_at_call 33; (with_reducible refine (dropA id HC.out HS.out HW.out).mono ?_); rintro e w3 ⟨rfl, c3, h3, t3⟩; rw [HH.out]; have H3 := Aside0.mk h3; have T3 := Aside0.mk t3; clear h3 t3))
    go_ret
    exact ⟨by rw [HV.out]; rfl, c3, by rw [HVL.out]; exact HBB.out _ _ _ H3.out T3.out, (TurnedA.refl c i w0 W).step T3.out (by omega)⟩
/-- What Register answers. -/
def regA (hs : List (List (Int × Int))) (cpu : Int) : Int × Bool := if inr hs.length cpu = true then regV (hs.getD cpu.toNat []) else (0, false)
set_option maxHeartbeats 2000000 in
set_option maxRecDepth 100000 in
theorem register_calls {w0 W : World} {c : Nat → Nat} {i ga : Nat} {hs : List (List (Int × Int))} {now : Int} (cpu : Int) (h : AL w0 W c i hs now ga) {v : Int × Bool} (hv : regA hs cpu = v) :
    Calls Try.prog 13 #[.pointer (some ⟨ga, 0, none⟩), .int .i64 cpu] W fun e w' => e = .returned (.tuple #[.int .i64 v.1, .bool v.2]) ∧ Below W.heap.size W w' := by
  have HA := Aside0.mk h
  subst hv
  cases hi : inr hs.length cpu with
  | false =>
    have HI := Aside0.mk hi
    have HV := Aside0.mk (show regA hs cpu = (0, false) from by unfold regA; rw [hi]; rfl)
    obtain ⟨A, k, hb⟩ := h.at
    have HBK := Aside0.mk hb
    clear hi hb h
    go_enter Try.func13, Try.ntmps13
    go_wp2_with (first | (go_at_call 23; (with_reducible refine (is_calls _ HBK.out HI.out).mono ?_); rintro e wz ⟨rfl, hz⟩; have hz := hz.symm; subst hz))
    go_ret2
    exact ⟨by rw [HV.out]; rfl, Below.refl _ _⟩
  | true =>
    have HI := Aside0.mk hi
    obtain ⟨j, hj, hjn⟩ := inr_t hi
    subst hj
    obtain ⟨ad, k, g, hb, hc, hm, hback⟩ := h.open hjn
    have HBK := Aside0.mk hb
    have y0 := blk_cell hb 0
    obtain ⟨o, ho⟩ : ∃ o, leastL (hs.getD j []) = o := ⟨_, rfl⟩
    have HO := Aside0.mk ho
    obtain ⟨z, hz0⟩ : ∃ z, o.getD (0, 0) = z := ⟨_, rfl⟩
    have HZ := Aside0.mk hz0
    have HV := Aside0.mk (show regA hs (j : Int) = (z.2, o.isSome) from by
      unfold regA; rw [if_pos hi, Int.toNat_natCast]; unfold regV; rw [ho, ← hz0]
      cases o <;> rfl)
    obtain ⟨os, hos⟩ : ∃ os, o.isSome = os := ⟨_, rfl⟩
    have HOS := Aside0.mk hos
    have bq : (0 ≤ (j : Int) ∧ (j : Int) < (hs.length : Int)) := by omega
    have HC := Aside0.mk hm
    clear hi hb h hm hback ho hz0 hos
    obtain ⟨z1, z2⟩ := z
    go_enter Try.func13, Try.ntmps13
    go_wp2_with (first | (go_at_call 23; (with_reducible refine (is_calls _ HBK.out HI.out).mono ?_); rintro e wz ⟨rfl, hz⟩; have hz := hz.symm; subst hz) | (go_at_call 25; (with_reducible refine (topA HC.out HO.out).mono ?_); rintro e w2 ⟨rfl, hb2⟩; rw [HZ.out, HOS.out]; have HB2 := Aside0.mk hb2; clear hb2) | ((with_reducible refine gate_dst (N := 6) rfl ?_); refine box_event ?hg (N := 6) ?hd (cs := #[.int .i64 0, .int .i64 0]) (t := 62) ?hr ?_; (case hd => rfl); (case hg => rfl); (case hr => first | (go_simp; done) | (go_simp; rfl) | kernel_rfl); intro g9 hg9 w3 hx3 hb3; have HB3 := Aside0.mk (HB2.out.trans (hb3.mono HB2.out.size)); have HG3 := Aside0.mk (show W.heap.size ≤ g9 from by have := HB2.out.size; omega); have s0 := blk_cell hx3 0; have s1 := blk_cell hx3 1; have t0 := blk_frozen hx3 0; have t1 := blk_frozen hx3 1; clear hx3 hb3 hg9))
    go_ret2
    exact ⟨by rw [HV.out, HOS.out]; rfl, by
      have hb2 : Below W.heap.size W w3 := HB3.out
      exact ((hb2.setCell HG3.out _).setCell HG3.out _)⟩
set_option maxHeartbeats 1000000 in
set_option maxRecDepth 100000 in
theorem now_calls {w0 W : World} {c : Nat → Nat} {i ga : Nat} {hs : List (List (Int × Int))} {now : Int} (h : AL w0 W c i hs now ga) :
    Calls Try.prog 10 #[.pointer (some ⟨ga, 0, none⟩)] W fun e w' => e = .returned (.int .i64 now) ∧ w' = W := by
  obtain ⟨A, k, hb⟩ := h.at
  have y1 := blk_cell hb 1
  clear hb h
  go_enter Try.func10, Try.ntmps10
  go_wp2
  go_ret
  exact ⟨rfl, rfl⟩
end Go.Proofs.Ytdmoembbgcoeaaa.Alarm
