/- Admit: what is read of a book: who lingers, who is live, where one is (no law is stated here; each says its conditions). -/
import Derived.Test.YtmjodeijafoabaaSt
import Derived.Test.YtmjodeijafoabaaReg
import Derived.Test.YtmjodeijafoabaaQt
import Derived.Test.YtmjodeijafoabaaAdA
import Derived.Shelf.Abstract
namespace Go.Proofs.Ytmjodeijafoabaa.Admit
open Go.RowKit Go.Proofs.YtmjodeijafoabaaW.PrintWords Go.Proofs.YtmjodeijafoabaaW.PrintLast Go.Proofs.YtmjodeijafoabaaW.PrintMore Go.Proofs.Ytmjodeijafoabaa.St Go.Proofs.Ytmjodeijafoabaa.Q
set_option linter.unusedVariables false
set_option linter.unusedSimpArgs false
attribute [local go_sem] max2_int min2_int max_two min_two max_three min_three max_four min_four

/-- Where one stands. -/
def findE (id : Int) : List S37 → Nat → Int
  | [], _ => -1
  | x :: t, k => if x.f0 = id then (k : Int) else findE id t (k + 1)
theorem drop_at {l : List S37} {k : Nat} (hk : k < l.length) : l.drop k = l.getD k z4 :: l.drop (k + 1) := Mine.drop_at (Mine.getD_at z4 hk)
theorem find_cases (id : Int) : ∀ (l : List S37) (k : Nat), (∃ j, j < l.length ∧ findE id l k = ((k + j : Nat) : Int) ∧ (l.getD j z4).f0 = id ∧ ∀ i, i < j → (l.getD i z4).f0 ≠ id) ∨ (findE id l k = -1 ∧ ∀ i, i < l.length → (l.getD i z4).f0 ≠ id)
  | [], k => Or.inr ⟨rfl, fun i hi => absurd hi (Nat.not_lt_zero _)⟩
  | x :: t, k => by
    unfold findE
    by_cases h : x.f0 = id
    · exact Or.inl ⟨0, by simp, by rw [if_pos h]; simp, h, fun i hi => absurd hi (Nat.not_lt_zero _)⟩
    · rcases find_cases id t (k + 1) with ⟨j, h1, h2, h3, h4⟩ | ⟨h1, h2⟩
      · refine Or.inl ⟨j + 1, by simp; omega, by rw [if_neg h, h2]; omega, by simpa using h3, fun i hi => ?_⟩
        cases i with
        | zero => exact h
        | succ i => simpa using h4 i (by omega)
      · refine Or.inr ⟨by rw [if_neg h, h1], fun i hi => ?_⟩
        cases i with
        | zero => exact h
        | succ i => simpa using h2 i (by simpa using hi)
set_option maxHeartbeats 1000000 in
set_option maxRecDepth 100000 in
theorem lit_calls {W : World} {B : Nat} {id : Int} (e0 e1 e2 e3 : Int) (hc : W.cell? ⟨B, 0, none⟩ = some (.int .i64 id)) (hB : B < W.heap.size) :
    Calls Try.prog 35 #[.agg #[.int .i64 e0, .int .i64 e1, .int .i64 e2, .int .i64 e3], .pointer (some ⟨B, 0, none⟩)] W fun e w' => e = .returned (.bool (e0 == id)) ∧ Below W.heap.size W w' := by
  have HB := Aside0.mk hB
  clear hB
  go_enter Try.func35, Try.ntmps35
  have hB := HB.out
  have hne : B ≠ W.heap.size := by have := HB.out; omega
  have hne2 : W.heap.size ≠ B := fun e => hne e.symm
  go_wp2
  go_ret
  exact ⟨rfl, below_alloc (Below.refl _ _) _⟩
def RelX (W : World) (id : Int) (l : List S37) (i : Value) (wr : World) : Prop := ∃ k : Nat, k ≤ l.length ∧ i = .int .i64 (k : Int) ∧ findE id l 0 = findE id (l.drop k) k ∧ Below W.heap.size W wr
set_option maxHeartbeats 2000000 in
set_option maxRecDepth 100000 in
theorem index_calls {W : World} {B k1 : Nat} {id : Int} {A : Option Addr} {l : List S37} (hc : W.cell? ⟨B, 0, none⟩ = some (.int .i64 id)) (hB : B < W.heap.size) (hr : k37.C W A l.length l) (hl : l.length ≤ 1000) :
    Calls Try.prog 34 #[.slice A l.length k1, .func (.func 35) #[] #[.pointer (some ⟨B, 0, none⟩)]] W fun e w' => e = .returned (.int .i64 (findE id l 0)) ∧ Below W.heap.size W w' := by
  have eg := enters_of Try.func35 (by kernel_rfl) rfl
  have HC := Aside0.mk hc
  have HB := Aside0.mk hB
  have HR := Aside0.mk hr
  have HLL := Aside0.mk hl
  clear hc hB hr hl
  go_enter Try.func34, Try.ntmps34
  go_wp2
  go_loopw [8] (fun i wr => RelX W id l i wr) (fun i _ => l.length - (intOf i).toNat)
  case atStart => exact ⟨0, Nat.zero_le _, rfl, rfl, Below.refl _ _⟩
  case round =>
    obtain ⟨k, hk, rfl, hf, hB⟩ := hrel
    have BZ := Aside0.mk hB
    have HF := Aside0.mk hf
    have hk1000 : k ≤ 1000 := by have := HLL.out; omega
    clear hB hf
    by_cases hlt : k < l.length
    · have pq : decide ((k : Int) < (l.length : Int)) = true := decide_eq_true (by omega)
      have bq : (0 ≤ (k : Int) ∧ (k : Int) < (l.length : Int)) := by omega
      obtain ⟨ad, hA, z0, z1, z2, z3⟩ := read_e (Kd.C_below HR.out BZ.out) hlt
      subst hA
      have HD := Aside0.mk (drop_at hlt)
      obtain ⟨⟨e0, ⟨e1, e2⟩, e3⟩, hx⟩ : ∃ x, l.getD k z4 = x := ⟨_, rfl⟩
      rw [hx] at z0 z1 z2 z3 HD
      clear hx
      have HCZ := Aside0.mk ((BZ.out.cell (p := ⟨B, 0, none⟩) HB.out).trans HC.out)
      have HBZ := Aside0.mk (Nat.lt_of_lt_of_le HB.out BZ.out.size)
      by_cases he : e0 = id
      · have pe : (e0 == id) = true := beq_iff_eq.2 he
        have HE := Aside0.mk (show findE id l 0 = (k : Int) from by rw [HF.out, HD.out]; unfold findE; rw [if_pos he])
        clear he
        go_wp2_with (first | (go_at_call 35; (with_reducible refine (lit_calls e0 e1 e2 e3 HCZ.out HBZ.out).mono ?_); rintro e w3 ⟨rfl, hb3⟩; rw [pe]; have B3 := Aside0.mk (BZ.out.trans (hb3.mono BZ.out.size)); clear hb3))
        go_ret
        exact ⟨by rw [HE.out]; rfl, B3.out⟩
      · have pe : (e0 == id) = false := beq_eq_false_iff_ne.2 he
        have HE := Aside0.mk (show findE id l 0 = findE id (l.drop (k + 1)) (k + 1) from by rw [HF.out, HD.out, findE, if_neg he])
        clear he
        go_wp2_with (first | (go_at_call 35; (with_reducible refine (lit_calls e0 e1 e2 e3 HCZ.out HBZ.out).mono ?_); rintro e w3 ⟨rfl, hb3⟩; rw [pe]; have B3 := Aside0.mk (BZ.out.trans (hb3.mono BZ.out.size)); clear hb3))
        exact ⟨⟨k + 1, by omega, by go_num, HE.out, B3.out⟩, by simp [intOf]; omega⟩
    · have pq : decide ((k : Int) < (l.length : Int)) = false := decide_eq_false (by omega)
      have HE := Aside0.mk (show findE id l 0 = -1 from by rw [HF.out, List.drop_eq_nil_of_le (by omega)]; rfl)
      go_wp2
      go_ret
      exact ⟨by rw [HE.out]; rfl, BZ.out⟩
set_option maxHeartbeats 2000000 in
set_option maxRecDepth 100000 in
theorem find_calls {W : World} {g : Nat} {c0 c2 : Value} {A1 : Option Addr} {k1 : Nat} {l : List S37} (id : Int) (hb : W.heap[g]? = some (.cells #[c0, .slice A1 l.length k1, c2] 55 (0, 0))) (hr : k37.C W A1 l.length l) (hl : l.length ≤ 1000) :
    Calls Try.prog 23 #[.pointer (some ⟨g, 0, none⟩), .int .i64 id] W fun e w' => e = .returned (.int .i64 (findE id l 0)) ∧ Below W.heap.size W w' := by
  have h1 := blk_cell hb 1
  have HR := Aside0.mk hr
  have HL := Aside0.mk hl
  have hg := blk_lt hb
  have hne : g ≠ W.heap.size := by omega
  clear hb hr hl
  go_enter Try.func23, Try.ntmps23
  go_wp2_with (first | (go_at_call 34; (with_reducible refine (index_calls (id := id) ?hcc ?hbb (Kd.C_alloc HR.out _) HL.out).mono ?_); (case hcc => first | rfl | simp); (case hbb => simp); rintro e w2 ⟨rfl, hb2⟩; have B2 := Aside0.mk ((below_alloc (Below.refl _ _) _).trans (hb2.mono (by simp))); clear hb2))
  go_ret
  exact ⟨rfl, B2.out⟩
end Go.Proofs.Ytmjodeijafoabaa.Admit
