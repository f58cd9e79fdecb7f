/- The heap's methods: New, Put (no law is stated here; each says its conditions). -/
import Derived.Test.YtkpjijbkiambiaaHeap4
namespace Go.Proofs.Ytkpjijbkiambiaa.Heap
open Go.RowKit Go.Proofs.YtkpjijbkiambiaaW.PrintWords Go.Proofs.YtkpjijbkiambiaaW.PrintLast Go.Proofs.YtkpjijbkiambiaaW.PrintMore Go.Proofs.Ytkpjijbkiambiaa.St Go.Proofs.Ytkpjijbkiambiaa.Q
set_option linter.unusedVariables false
set_option linter.unusedSimpArgs false
attribute [local go_sem] max2_int min2_int max_two min_two max_three min_three max_four min_four

/-- The room that New gives. -/
def clamp (n : Int) : Int := if 1024 < (if n < 1 then 1 else n) then 1024 else (if n < 1 then 1 else n)
theorem clamp_le (n : Int) : 1 ≤ clamp n ∧ clamp n ≤ 1024 := by unfold clamp; split <;> split at * <;> omega
def newH (n : Int) (gr : Bool) : H := ⟨clamp n, gr, [], fun _ => none, 0⟩
theorem ok_new (n : Int) (gr : Bool) : Ok (newH n gr) := ⟨⟨fun j hj => absurd hj (Nat.not_lt_zero j), fun a ha => absurd (show false = true from ha) Bool.false_ne_true, rfl⟩, fun j _ hj => absurd hj (Nat.not_lt_zero j)⟩
set_option maxHeartbeats 1000000 in
set_option maxRecDepth 100000 in
theorem new_calls (n : Int) (gr : Bool) (w : World) :
    Calls Try.prog 9 #[.int .i64 n, .bool gr] w fun e w' => ∃ g : Nat, e = .returned (.pointer (some ⟨g, 0, none⟩)) ∧ heap.M w' w.heap.size (fun k => w.heap.size ≤ k) (newH n gr) (.pointer (some ⟨g, 0, none⟩)) ∧ Below w.heap.size w w' := by
  have hu := Try.underlying57
  have hmm := @run_makeMap Try.prog
  have HC := Aside0.mk (clamp_le n)
  obtain ⟨r, hr⟩ : ∃ r, clamp n = r := ⟨_, rfl⟩
  have HR := Aside0.mk hr
  have hr1 : (if 1024 < (if n < 1 then 1 else n) then 1024 else (if n < 1 then 1 else n)) = r := hr
  obtain ⟨j, hj⟩ : ∃ j : Int, (if n < 1 then 1 else n) = j := ⟨_, rfl⟩
  rw [hj] at hr1
  clear hr
  go_enter Try.func9, Try.ntmps9
  go_wp2_with (first | ((with_reducible refine gate_dst (N := 11) rfl ?_); refine box_event ?hg (N := 11) ?hd (cs := #[.int .i64 r, .bool gr, .slice none 0 0, .map (some w.heap.size)]) (t := 57) ?hr ?_; (case hd => rfl); (case hg => rfl); (case hr => first | (go_simp; done) | (go_simp; rfl)); intro gb hg w4 hbox hb; have HG := Aside0.mk hg; have HX := Aside0.mk hbox; have HB := Aside0.mk hb; clear hg hbox hb))
  go_ret
  have hs : (w.alloc (.map #[] 0)).heap.size = w.heap.size + 1 := Array.size_push _
  have hg1 : gb = w.heap.size + 1 := by rw [HG.out, hs]
  have hm0 : MapIs (w.alloc (.map #[] 0)) w.heap.size (fun _ => none) 0 := ⟨.map [], World.ownsMap_made w _ _ _, sees_empty, rfl⟩
  have hm : MapIs w4 w.heap.size (fun _ => none) 0 := hm0.move (HB.out.block _ (by rw [hs]; omega))
  have hBB : Below w.heap.size w w4 := (below_alloc (Below.refl _ _) (.map #[] 0)).trans (HB.out.mono (by rw [hs]; omega))
  refine ⟨gb, rfl, ⟨gb, _, w.heap.size, rfl, ⟨by omega, by omega, by rw [show (newH n gr).room = r from HR.out]; exact HX.out⟩, ⟨Nat.le_refl _, Nat.le_refl _, hm⟩, Kd.R_nil _ _ _ _ _, fun y hy => absurd hy (List.not_mem_nil), Nat.zero_le _, Nat.zero_le _⟩, hBB⟩
/-- What is put in. -/
theorem Full.next {x : H} (h : Full x) (id key : Int) (hf : x.f id = none) (x' : H) (hl : x'.l = x.l ++ [(id, key)]) (hx : x'.f = x.f) (hs : x'.sz = x.sz) : Hole x' x.l.length (id, key) := by
  have hlen : x'.l.length = x.l.length + 1 := by rw [hl, List.length_append]; rfl
  have hold : ∀ j, j < x.l.length → at_ x'.l j = at_ x.l j := fun j hj => by
    rw [hl]
    unfold at_
    rw [List.getD_eq_getElem?_getD, List.getElem?_append_left hj, List.getD_eq_getElem?_getD]
  refine ⟨by omega, fun j hj hjk => ?_, fun a ha => ?_, ?_⟩
  · have hj2 : j < x.l.length := by omega
    rw [hold j hj2, hx]
    refine ⟨h.fwd j hj2, fun e => ?_⟩
    have := h.fwd j hj2
    rw [e, hf] at this
    cases this
  · rw [hx] at ha
    obtain ⟨j, hj, e⟩ := h.dom a ha
    exact Or.inr ⟨j, by omega, by omega, by rw [hold j hj]; exact e⟩
  · rw [hs, hx, hf, h.size, hlen]
    rfl
theorem Ord.next {gr : Bool} {l : List (Int × Int)} (h : Ord gr l) (y : Int × Int) : Near gr (l ++ [y]) l.length := by
  have hold : ∀ j, j < l.length → at_ (l ++ [y]) j = at_ l j := fun j hj => by
    unfold at_
    rw [List.getD_eq_getElem?_getD, List.getElem?_append_left hj, List.getD_eq_getElem?_getD]
  refine ⟨fun j h0 hj hjk hp => ?_, fun h0 c hc0 hc hck => ?_⟩
  · rw [List.length_append, List.length_singleton] at hj
    rw [hold j (by omega), hold _ (by omega)]
    exact h j h0 (by omega)
  · rw [List.length_append, List.length_singleton] at hc
    omega
end Go.Proofs.Ytkpjijbkiambiaa.Heap
