/- The chapter's own example (awake); PokeKnown: the examples of the chapter, and fixed edge cases (the walks; no condition). -/
import Derived.Test.YteihnocbeaaokaaPoke1
import Derived.Test.YteihnocbeaaokaaQx6
import Derived.Test.YteihnocbeaaokaaQx9
import Derived.Deep.QuietTactic
import Derived.BigQuiet
namespace Go.Proofs.Yteihnocbeaaokaa.Poke
open Go.RowKit Go.Proofs.YteihnocbeaaokaaW.PrintWords Go.Proofs.YteihnocbeaaokaaW.PrintLast Go.Proofs.YteihnocbeaaokaaW.PrintMore Go.Proofs.Yteihnocbeaaokaa.St Go.Proofs.Yteihnocbeaaokaa.Q
set_option linter.unusedVariables false
set_option linter.unusedSimpArgs false
attribute [local go_sem] max2_int min2_int max_two min_two max_three min_three max_four min_four


/-- Pokes of the law's own. -/
structure Own (w0 W : World) (l : List S56) (v : Value) : Prop where
  st : poke.M W w0.heap.size (fun k => w0.heap.size ≤ k) l v
  far : Below w0.heap.size w0 W
section
variable {w0 W W1 : World} {l l' : List S56} {v : Value}
theorem ownC {fn : Nat} {args : Array Value} {r : Value} (h : Own w0 W l v) (hc : Calls Try.prog fn args W fun e w' => e = .returned r ∧ poke.M w' w0.heap.size (fun k => w0.heap.size ≤ k) l' v ∧ Wrote W w' (fun k => w0.heap.size ≤ k)) :
    Calls Try.prog fn args W fun e w' => e = .returned r ∧ Own w0 w' l' v :=
  hc.mono fun e w' ⟨he, h1, h2⟩ => ⟨he, h1, h2.below h.far (fun _ hk => hk)⟩
theorem own_below (h : Own w0 W l v) (hb : Below W.heap.size W W1) : Own w0 W1 l v :=
  ⟨poke.mono (fun _ hk => hk.1) (poke.move (fun k hk => hb.block k hk.2.2) (poke.bound h.st)), h.far.trans (hb.mono h.far.size)⟩
theorem below_then (o : Obj) (hd : Drawn0 (W.alloc o) W1) : Below W.heap.size W W1 := (below_alloc (Below.refl _ _) o).trans (hd.below.mono (below_alloc (Below.refl W.heap.size W) o).size)
theorem newO (n : Nat) (c : 1 ≤ n) (c2 : n ≤ 64) (hB : Below w0.heap.size w0 W) : Calls Try.prog 7 #[.int .i64 (n : Int)] W fun e w' => ∃ g : Nat, e = .returned (.tuple #[.pointer (some ⟨g, 0, none⟩), .int .i64 0]) ∧ Own w0 w' (List.replicate n z56) (.pointer (some ⟨g, 0, none⟩)) :=
  (new_calls n W c c2).mono fun e w' ⟨g, he, hM, hb⟩ => ⟨g, he, ⟨by
    obtain ⟨g1, sv, e1, h1, h2, h3, h4, h5, h6⟩ := poke.mono (ok' := fun k => w0.heap.size ≤ k) (fun k hk => Nat.le_trans hB.size hk) hM
    exact ⟨g1, sv, e1, h1, h1, h3, h4, Kd.R_lower h5 hB.size, h6⟩, hB.trans (hb.mono hB.size)⟩⟩
end
theorem newI {w0 W : World} (m : Int) (n : Nat) (e : m = (n : Int)) (c : 1 ≤ n) (c2 : n ≤ 64) (hB : Below w0.heap.size w0 W) : Calls Try.prog 7 #[.int .i64 m] W fun e w' => ∃ g : Nat, e = .returned (.tuple #[.pointer (some ⟨g, 0, none⟩), .int .i64 0]) ∧ Own w0 w' (List.replicate n z56) (.pointer (some ⟨g, 0, none⟩)) := by
  subst e
  exact newO n c c2 hB
theorem sendI {w : World} {b : Nat} {ok : Nat → Prop} {l : List S56} {v : Value} (c t : Int) (j : Nat) (et : t = (j : Int)) (what m' : Int) (hM : poke.M w b ok l v) (hm : mayv l c what = true) (hj : j < l.length) (hw : mask_Mask_With.f (l.getD j z56).f1 c = some m') :
    Calls Try.prog 15 #[v, .int .i64 c, .int .i64 t, .int .i64 what] w fun e w' => e = .returned (.tuple #[.bool ((l.getD j z56).f0 == 0), .int .i64 0]) ∧ poke.M w' b ok (l.set j (sendBox (l.getD j z56) what m')) v ∧ Wrote w w' ok := by
  subst et
  exact send_ok c j what m' hM hm hj hw
theorem readI {w : World} {b : Nat} {ok : Nat → Prop} {l : List S56} {v : Value} (t : Int) (j : Nat) (et : t = (j : Int)) (hM : poke.M w b ok l v) (hj : j < l.length) (hx : (l.getD j z56).f0 ≠ 0) :
    Calls Try.prog 11 #[v, .int .i64 t] w fun e w' => e = .returned (.tuple #[.int .i64 (l.getD j z56).f0, .int .u64 (l.getD j z56).f1, .int .i64 0]) ∧ poke.M w' b ok (l.set j (readBox (l.getD j z56))) v ∧ Wrote w w' ok := by
  subst et
  exact read_ok j hM hj hx
theorem readNI {w : World} {b : Nat} {ok : Nat → Prop} {l : List S56} {v : Value} (t : Int) (j : Nat) (et : t = (j : Int)) (hM : poke.M w b ok l v) (hj : j < l.length) (hx : (l.getD j z56).f0 = 0) :
    Calls Try.prog 11 #[v, .int .i64 t] w fun e w' => e = .returned (.tuple #[.int .i64 0, .int .u64 0, .int .i64 4]) ∧ poke.M w' b ok l v ∧ Wrote w w' ok := by
  subst et
  exact read_none j hM hj hx
set_option maxHeartbeats 2000000 in
set_option maxRecDepth 100000 in
theorem awake_calls (w : World) : Calls Try.prog 6 #[] w fun e w' => e = .returned (.bool true) ∧ Below w.heap.size w w' := by
  have HQ3 := Aside0.mk (show ([⟨0, 0, 0⟩, ⟨0, 0, 0⟩] : List S56).set 1 (sendBox (([⟨0, 0, 0⟩, ⟨0, 0, 0⟩] : List S56).getD 1 z56) 1 1) = ([⟨0, 0, 0⟩, ⟨1, 1, 1⟩] : List S56) from by kernel_rfl)
  have HV3_0 := Aside0.mk (show ((([⟨0, 0, 0⟩, ⟨0, 0, 0⟩] : List S56).getD 1 z56).f0 == 0) = true from by kernel_rfl)
  have HQ4 := Aside0.mk (show ([⟨0, 0, 0⟩, ⟨1, 1, 1⟩] : List S56).set 1 (sendBox (([⟨0, 0, 0⟩, ⟨1, 1, 1⟩] : List S56).getD 1 z56) 2 1) = ([⟨0, 0, 0⟩, ⟨3, 1, 1⟩] : List S56) from by kernel_rfl)
  have HV4_0 := Aside0.mk (show ((([⟨0, 0, 0⟩, ⟨1, 1, 1⟩] : List S56).getD 1 z56).f0 == 0) = false from by kernel_rfl)
  have HQ5 := Aside0.mk (show ([⟨0, 0, 0⟩, ⟨3, 1, 1⟩] : List S56).set 1 (readBox (([⟨0, 0, 0⟩, ⟨3, 1, 1⟩] : List S56).getD 1 z56)) = ([⟨0, 0, 0⟩, ⟨0, 0, 1⟩] : List S56) from by kernel_rfl)
  have HV5_0 := Aside0.mk (show (([⟨0, 0, 0⟩, ⟨3, 1, 1⟩] : List S56).getD 1 z56).f0 = 3 from by kernel_rfl)
  have HV5_1 := Aside0.mk (show (([⟨0, 0, 0⟩, ⟨3, 1, 1⟩] : List S56).getD 1 z56).f1 = 1 from by kernel_rfl)
  go_enter Try.func6, Try.ntmps6
  go_wp2_with (first | (go_at_call 7; (with_reducible refine (newI (w0 := w) 2 2 rfl (by decide) (by decide) (Below.refl _ _)).mono ?_); rintro e w2 ⟨g2, rfl, h2⟩; have O2 := Aside0.mk (show Own w w2 ([⟨0, 0, 0⟩, ⟨0, 0, 0⟩] : List S56) (Value.pointer (some ⟨g2, 0, none⟩)) from h2); clear h2) | (go_at_call 15; (with_reducible refine (ownC O2.out (sendI 0 1 1 rfl 1 1 O2.out.st (by kernel_rfl) (by decide) (by kernel_rfl))).mono ?_); rintro e w3 ⟨rfl, h3⟩; rw [HQ3.out] at h3; rw [HV3_0.out]; have O3 := Aside0.mk h3; clear h3) | (go_at_call 15; (with_reducible refine (ownC O3.out (sendI 0 1 1 rfl 2 1 O3.out.st (by kernel_rfl) (by decide) (by kernel_rfl))).mono ?_); rintro e w4 ⟨rfl, h4⟩; rw [HQ4.out] at h4; rw [HV4_0.out]; have O4 := Aside0.mk h4; clear h4) | (go_at_call 11; (with_reducible refine (ownC O4.out (readI 1 1 rfl O4.out.st (by decide) (by decide))).mono ?_); rintro e w5 ⟨rfl, h5⟩; rw [HQ5.out] at h5; rw [HV5_0.out]; rw [HV5_1.out]; have O5 := Aside0.mk h5; clear h5))
  go_ret
  exact ⟨rfl, O5.out.far⟩
set_option maxHeartbeats 8000000 in
set_option maxRecDepth 100000 in
theorem known_walk (w : World) : Calls Try.prog 4 #[] w fun e w' => e = .returned (.bool true) ∧ Below w.heap.size w w' := by
  have HQ7 := Aside0.mk (show ([⟨0, 0, 0⟩, ⟨0, 0, 0⟩, ⟨0, 0, 0⟩, ⟨0, 0, 0⟩] : List S56).set 2 (sendBox (([⟨0, 0, 0⟩, ⟨0, 0, 0⟩, ⟨0, 0, 0⟩, ⟨0, 0, 0⟩] : List S56).getD 2 z56) 8 4) = ([⟨0, 0, 0⟩, ⟨0, 0, 0⟩, ⟨8, 4, 1⟩, ⟨0, 0, 0⟩] : List S56) from by kernel_rfl)
  have HV7_0 := Aside0.mk (show ((([⟨0, 0, 0⟩, ⟨0, 0, 0⟩, ⟨0, 0, 0⟩, ⟨0, 0, 0⟩] : List S56).getD 2 z56).f0 == 0) = true from by kernel_rfl)
  have HQ8 := Aside0.mk (show (allS 1 4 ([⟨0, 0, 0⟩, ⟨0, 0, 0⟩, ⟨8, 4, 1⟩, ⟨0, 0, 0⟩] : List S56) ([⟨0, 0, 0⟩, ⟨0, 0, 0⟩, ⟨8, 4, 1⟩, ⟨0, 0, 0⟩] : List S56).length).1 = ([⟨4, 2, 1⟩, ⟨0, 0, 0⟩, ⟨12, 6, 1⟩, ⟨4, 2, 1⟩] : List S56) from by kernel_rfl)
  have HV8_0 := Aside0.mk (show (allS 1 4 ([⟨0, 0, 0⟩, ⟨0, 0, 0⟩, ⟨8, 4, 1⟩, ⟨0, 0, 0⟩] : List S56) ([⟨0, 0, 0⟩, ⟨0, 0, 0⟩, ⟨8, 4, 1⟩, ⟨0, 0, 0⟩] : List S56).length).2 = 9 from by kernel_rfl)
  have HQ9 := Aside0.mk (show ([⟨4, 2, 1⟩, ⟨0, 0, 0⟩, ⟨12, 6, 1⟩, ⟨4, 2, 1⟩] : List S56).set 2 (readBox (([⟨4, 2, 1⟩, ⟨0, 0, 0⟩, ⟨12, 6, 1⟩, ⟨4, 2, 1⟩] : List S56).getD 2 z56)) = ([⟨4, 2, 1⟩, ⟨0, 0, 0⟩, ⟨0, 0, 1⟩, ⟨4, 2, 1⟩] : List S56) from by kernel_rfl)
  have HV9_0 := Aside0.mk (show (([⟨4, 2, 1⟩, ⟨0, 0, 0⟩, ⟨12, 6, 1⟩, ⟨4, 2, 1⟩] : List S56).getD 2 z56).f0 = 12 from by kernel_rfl)
  have HV9_1 := Aside0.mk (show (([⟨4, 2, 1⟩, ⟨0, 0, 0⟩, ⟨12, 6, 1⟩, ⟨4, 2, 1⟩] : List S56).getD 2 z56).f1 = 6 from by kernel_rfl)
  have HV13 := Aside0.mk (show mask_Of.f 8 [0, 3] = some 9 from by decide +kernel)
  have HV14 := Aside0.mk (show mask_Of.f 8 [1, 2] = some 6 from by decide +kernel)
  have HV15 := Aside0.mk (show seev ([⟨4, 2, 1⟩, ⟨0, 0, 0⟩, ⟨0, 0, 1⟩, ⟨4, 2, 1⟩] : List S56) 0 = 4 from by kernel_rfl)
  have HV16 := Aside0.mk (show seev ([⟨4, 2, 1⟩, ⟨0, 0, 0⟩, ⟨0, 0, 1⟩, ⟨4, 2, 1⟩] : List S56) 1 = 0 from by kernel_rfl)
  have HV17 := Aside0.mk (show seev ([⟨4, 2, 1⟩, ⟨0, 0, 0⟩, ⟨0, 0, 1⟩, ⟨4, 2, 1⟩] : List S56) 7 = 0 from by kernel_rfl)
  have HV18 := Aside0.mk (show waitS ([⟨4, 2, 1⟩, ⟨0, 0, 0⟩, ⟨0, 0, 1⟩, ⟨4, 2, 1⟩] : List S56) ([⟨4, 2, 1⟩, ⟨0, 0, 0⟩, ⟨0, 0, 1⟩, ⟨4, 2, 1⟩] : List S56).length = 9 from by kernel_rfl)
  have HV19 := Aside0.mk (show mask_Of.f 8 [0, 3] = some 9 from by decide +kernel)
  have HV20 := Aside0.mk (show countv ([⟨4, 2, 1⟩, ⟨0, 0, 0⟩, ⟨0, 0, 1⟩, ⟨4, 2, 1⟩] : List S56) 2 = 1 from by kernel_rfl)
  have HV21 := Aside0.mk (show countv ([⟨4, 2, 1⟩, ⟨0, 0, 0⟩, ⟨0, 0, 1⟩, ⟨4, 2, 1⟩] : List S56) 1 = 0 from by kernel_rfl)
  have HV22 := Aside0.mk (show countv ([⟨4, 2, 1⟩, ⟨0, 0, 0⟩, ⟨0, 0, 1⟩, ⟨4, 2, 1⟩] : List S56) (-1) = 0 from by kernel_rfl)
  go_enter Try.func4, Try.ntmps4
  go_wp2_with (first | (go_at_call 6; (with_reducible refine (awake_calls _).mono ?_); rintro e w1 ⟨rfl, hb1⟩; have HB1 := Aside0.mk hb1; clear hb1) | (go_at_call 7; (with_reducible refine (new_bad 0 _ (by decide)).mono ?_); rintro e wz ⟨rfl, hz⟩; subst hz) | (go_at_call 7; (with_reducible refine (newI (w0 := w) 4 4 rfl (by decide) (by decide) HB1.out).mono ?_); rintro e w2 ⟨g2, rfl, h2⟩; have O2 := Aside0.mk (show Own w w2 ([⟨0, 0, 0⟩, ⟨0, 0, 0⟩, ⟨0, 0, 0⟩, ⟨0, 0, 0⟩] : List S56) (Value.pointer (some ⟨g2, 0, none⟩)) from h2); clear h2) | (go_at_call 15; (with_reducible refine (ownC O2.out (send_bad 0 4 1 O2.out.st (by decide +kernel))).mono ?_); rintro e w3 ⟨rfl, h3⟩; have O3 := Aside0.mk h3; clear h3) | (go_at_call 15; (with_reducible refine (ownC O3.out (send_bad (-1) 0 1 O3.out.st (by decide +kernel))).mono ?_); rintro e w4 ⟨rfl, h4⟩; have O4 := Aside0.mk h4; clear h4) | (go_at_call 15; (with_reducible refine (ownC O4.out (send_bad 0 1 0 O4.out.st (by decide +kernel))).mono ?_); rintro e w5 ⟨rfl, h5⟩; have O5 := Aside0.mk h5; clear h5) | (go_at_call 15; (with_reducible refine (ownC O5.out (send_bad 0 1 16 O5.out.st (by decide +kernel))).mono ?_); rintro e w6 ⟨rfl, h6⟩; have O6 := Aside0.mk h6; clear h6) | (go_at_call 15; (with_reducible refine (ownC O6.out (sendI 2 2 2 rfl 8 4 O6.out.st (by kernel_rfl) (by decide) (by kernel_rfl))).mono ?_); rintro e w7 ⟨rfl, h7⟩; rw [HQ7.out] at h7; rw [HV7_0.out]; have O7 := Aside0.mk h7; clear h7) | (go_at_call 8; (with_reducible refine (ownC O7.out (all_ok 1 4 O7.out.st (by kernel_rfl))).mono ?_); rintro e w8 ⟨rfl, h8⟩; rw [HQ8.out] at h8; rw [HV8_0.out]; have O8 := Aside0.mk h8; clear h8) | (go_at_call 11; (with_reducible refine (ownC O8.out (readI 2 2 rfl O8.out.st (by decide) (by decide))).mono ?_); rintro e w9 ⟨rfl, h9⟩; rw [HQ9.out] at h9; rw [HV9_0.out]; rw [HV9_1.out]; have O9 := Aside0.mk h9; clear h9) | (go_at_call 11; (with_reducible refine (ownC O9.out (readNI 2 2 rfl O9.out.st (by decide) (by decide))).mono ?_); rintro e w10 ⟨rfl, h10⟩; have O10 := Aside0.mk h10; clear h10) | (go_at_call 11; (with_reducible refine (ownC O10.out (read_bad 9 O10.out.st (by kernel_rfl))).mono ?_); rintro e w11 ⟨rfl, h11⟩; have O11 := Aside0.mk h11; clear h11) | (go_at_call 8; (with_reducible refine (ownC O11.out (all_bad 4 1 O11.out.st (by kernel_rfl))).mono ?_); rintro e w12 ⟨rfl, h12⟩; have O12 := Aside0.mk h12; clear h12; have HLw12_12 := Aside0.mk (show (Kd.int .i64).C (w12.alloc (.cells #[.int .i64 0, .int .i64 3] 3)) (some ⟨w12.heap.size, 0, none⟩) ([0, 3] : List Int).length [0, 3] from (Kd.R_reads' (lit_R .i64 w12 3 (Nat.le_refl _) [0, 3] (by decide))).2.2)) | (go_at_call 13; (with_reducible refine (show Calls Try.prog 13 #[.slice (some ⟨w12.heap.size, 0, none⟩) 2 2] (w12.alloc (.cells #[.int .i64 0, .int .i64 3] 3)) _ from (mask_Of.calls 8 (some ⟨w12.heap.size, 0, none⟩) 2 [0, 3] 9 _ HLw12_12.out (by decide) HV13.out)).mono ?_); rintro e w13 ⟨rfl, d13⟩; have O13 := Aside0.mk (own_below O12.out (below_then (.cells #[.int .i64 0, .int .i64 3] 3) d13)); clear d13; have HLw13_13 := Aside0.mk (show (Kd.int .i64).C (w13.alloc (.cells #[.int .i64 1, .int .i64 2] 3)) (some ⟨w13.heap.size, 0, none⟩) ([1, 2] : List Int).length [1, 2] from (Kd.R_reads' (lit_R .i64 w13 3 (Nat.le_refl _) [1, 2] (by decide))).2.2)) | (go_at_call 13; (with_reducible refine (show Calls Try.prog 13 #[.slice (some ⟨w13.heap.size, 0, none⟩) 2 2] (w13.alloc (.cells #[.int .i64 1, .int .i64 2] 3)) _ from (mask_Of.calls 8 (some ⟨w13.heap.size, 0, none⟩) 2 [1, 2] 6 _ HLw13_13.out (by decide) HV14.out)).mono ?_); rintro e w14 ⟨rfl, d14⟩; have O14 := Aside0.mk (own_below O13.out (below_then (.cells #[.int .i64 1, .int .i64 2] 3) d14)); clear d14) | (go_at_call 16; (with_reducible refine (see_calls 0 O14.out.st).mono ?_); rintro e wz15 ⟨rfl, hz15⟩; subst hz15; rw [HV15.out]) | (go_at_call 16; (with_reducible refine (see_calls 1 O14.out.st).mono ?_); rintro e wz16 ⟨rfl, hz16⟩; subst hz16; rw [HV16.out]) | (go_at_call 16; (with_reducible refine (see_calls 7 O14.out.st).mono ?_); rintro e wz17 ⟨rfl, hz17⟩; subst hz17; rw [HV17.out]) | (go_at_call 14; (with_reducible refine (waits_calls (l := ([⟨4, 2, 1⟩, ⟨0, 0, 0⟩, ⟨0, 0, 1⟩, ⟨4, 2, 1⟩] : List S56)) O14.out.st).mono ?_); rintro e w18 ⟨rfl, b18⟩; rw [HV18.out]; have O18 := Aside0.mk (own_below O14.out b18); clear b18; have HLw18_18 := Aside0.mk (show (Kd.int .i64).C (w18.alloc (.cells #[.int .i64 0, .int .i64 3] 3)) (some ⟨w18.heap.size, 0, none⟩) ([0, 3] : List Int).length [0, 3] from (Kd.R_reads' (lit_R .i64 w18 3 (Nat.le_refl _) [0, 3] (by decide))).2.2)) | (go_at_call 13; (with_reducible refine (show Calls Try.prog 13 #[.slice (some ⟨w18.heap.size, 0, none⟩) 2 2] (w18.alloc (.cells #[.int .i64 0, .int .i64 3] 3)) _ from (mask_Of.calls 8 (some ⟨w18.heap.size, 0, none⟩) 2 [0, 3] 9 _ HLw18_18.out (by decide) HV19.out)).mono ?_); rintro e w19 ⟨rfl, d19⟩; have O19 := Aside0.mk (own_below O18.out (below_then (.cells #[.int .i64 0, .int .i64 3] 3) d19)); clear d19) | (go_at_call 12; (with_reducible refine (count_calls 2 O19.out.st).mono ?_); rintro e wz20 ⟨rfl, hz20⟩; subst hz20; rw [HV20.out]) | (go_at_call 12; (with_reducible refine (count_calls 1 O19.out.st).mono ?_); rintro e wz21 ⟨rfl, hz21⟩; subst hz21; rw [HV21.out]) | (go_at_call 12; (with_reducible refine (count_calls (-1) O19.out.st).mono ?_); rintro e wz22 ⟨rfl, hz22⟩; subst hz22; rw [HV22.out]))
  go_ret
  exact ⟨rfl, O19.out.far⟩
end Go.Proofs.Yteihnocbeaaokaa.Poke
