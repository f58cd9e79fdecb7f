/- PokePlays: any calls: what each is told, by whom, how often each is rung, are as the document says (the walk; no condition). -/
import Derived.Test.YteihnocbeaaokaaPlaysR
namespace Go.Proofs.Yteihnocbeaaokaa.Poke
open Go.RowKit Go.Proofs.YteihnocbeaaokaaW.PrintWords Go.Proofs.YteihnocbeaaokaaW.PrintLast Go.Proofs.YteihnocbeaaokaaW.PrintMore Go.Proofs.Yteihnocbeaaokaa.St Go.Proofs.Yteihnocbeaaokaa.Q
set_option linter.unusedVariables false
set_option linter.unusedSimpArgs false
attribute [local go_sem] max2_int min2_int max_two min_two max_three min_three max_four min_four

set_option maxHeartbeats 4000000 in
set_option maxRecDepth 100000 in
theorem plays_bad (cpus : Int) (A : Option Addr) (cap : Nat) (l : List (Int × Int × Int × Int)) {w : World} (hq : cpus < 1 ∨ 64 < cpus) : Calls Try.prog 5 #[.int .i64 cpus, .slice A l.length cap] w fun e w' => e = .returned (.bool true) ∧ Below w.heap.size w w' := by
  by_cases q0 : cpus < 1
  · have p0 : decide (cpus < 1) = true := decide_eq_true q0
    have HQ := Aside0.mk (show cpus < 1 ∨ 64 < cpus from Or.inl q0)
    clear q0
    go_enter Try.func5, Try.ntmps5
    go_wp2_with (first | (go_at_call 6; (with_reducible refine (awake_calls _).mono ?_); rintro e w1 ⟨rfl, hb1⟩; have HB1 := Aside0.mk hb1; clear hb1) | (go_at_call 7; (with_reducible refine (new_bad cpus w1 HQ.out).mono ?_); rintro e w2 ⟨rfl, rfl⟩))
    go_ret
    exact ⟨rfl, HB1.out⟩
  by_cases q1 : 64 < cpus
  · have p0 : decide (cpus < 1) = false := decide_eq_false q0
    have p1 : decide (64 < cpus) = true := decide_eq_true q1
    have HQ := Aside0.mk (show cpus < 1 ∨ 64 < cpus from Or.inr q1)
    clear q0 q1
    go_enter Try.func5, Try.ntmps5
    go_wp2_with (first | (go_at_call 6; (with_reducible refine (awake_calls _).mono ?_); rintro e w1 ⟨rfl, hb1⟩; have HB1 := Aside0.mk hb1; clear hb1) | (go_at_call 7; (with_reducible refine (new_bad cpus w1 HQ.out).mono ?_); rintro e w2 ⟨rfl, rfl⟩))
    go_ret
    exact ⟨rfl, HB1.out⟩
  exact absurd hq (by omega)
set_option maxHeartbeats 4000000 in
set_option maxRecDepth 100000 in
theorem plays_long (n : Nat) (A : Option Addr) (cap : Nat) (l : List (Int × Int × Int × Int)) {w : World} (h1 : 1 ≤ n) (h2 : n ≤ 64) (hl : 100 < l.length) : Calls Try.prog 5 #[.int .i64 (n : Int), .slice A l.length cap] w fun e w' => e = .returned (.bool true) ∧ Below w.heap.size w w' := by
  have q0 : ¬ (n : Int) < 1 := by omega
  have q1 : ¬ 64 < (n : Int) := by omega
  have p0 : decide ((n : Int) < 1) = false := decide_eq_false q0
  have p1 : decide (64 < (n : Int)) = false := decide_eq_false q1
  have HN := Aside0.mk (show 1 ≤ n ∧ n ≤ 64 from ⟨by omega, by omega⟩)
  clear q0 q1 h1 h2
  have d0 : decide (100 < l.length) = true := decide_eq_true hl
  have d1 : decide ((100 : Int) < (l.length : Int)) = true := decide_eq_true (by omega)
  clear hl
  go_enter Try.func5, Try.ntmps5
  go_wp2_with (first | (go_at_call 6; (with_reducible refine (awake_calls _).mono ?_); rintro e w1 ⟨rfl, hb1⟩; have HB1 := Aside0.mk hb1; clear hb1) | (go_at_call 7; (with_reducible refine (newO (w0 := w) n HN.out.1 HN.out.2 HB1.out).mono ?_); rintro e w2 ⟨g2, rfl, h2⟩; have O2 := Aside0.mk h2; clear h2))
  go_ret
  exact ⟨rfl, O2.out.far⟩
set_option maxHeartbeats 4000000 in
set_option maxRecDepth 100000 in
theorem plays_main (n : Nat) (A : Option Addr) (cap : Nat) (l : List (Int × Int × Int × Int)) {w : World} (hr : (Kd.pair (Kd.int .i64) (Kd.pair (Kd.int .i64) (Kd.pair (Kd.int .i64) (Kd.int .i64)))).C w A l.length l) (h1 : 1 ≤ n) (h2 : n ≤ 64) (hl : ¬ 100 < l.length) : Calls Try.prog 5 #[.int .i64 (n : Int), .slice A l.length cap] w fun e w' => e = .returned (.bool true) ∧ Below w.heap.size w w' := by
  have HC := Aside0.mk hr
  clear hr
  have q0 : ¬ (n : Int) < 1 := by omega
  have q1 : ¬ 64 < (n : Int) := by omega
  have p0 : decide ((n : Int) < 1) = false := decide_eq_false q0
  have p1 : decide (64 < (n : Int)) = false := decide_eq_false q1
  have HN := Aside0.mk (show 1 ≤ n ∧ n ≤ 64 from ⟨by omega, by omega⟩)
  clear q0 q1 h1 h2
  have d0 : decide (100 < l.length) = false := decide_eq_false hl
  have d1 : decide ((100 : Int) < (l.length : Int)) = false := decide_eq_false (by omega)
  have HL := Aside0.mk hl
  clear hl
  go_enter Try.func5, Try.ntmps5
  go_upto_region 11 with (first | (go_at_call 6; (with_reducible refine (awake_calls _).mono ?_); rintro e w1 ⟨rfl, hb1⟩; have HB1 := Aside0.mk hb1; clear hb1) | (go_at_call 7; (with_reducible refine (newO (w0 := w) n HN.out.1 HN.out.2 HB1.out).mono ?_); rintro e w2 ⟨g2, rfl, h2⟩; have O2 := Aside0.mk h2; clear h2) | ((with_reducible refine gate_dst (N := 7) rfl ?_); refine box_event ?hg (N := 7) ?hd (cs := Array.replicate 64 (.int .i64 0)) (t := 42) ?hr ?_; (case hd => rfl); (case hg => rfl); (case hr => first | (go_simp; done) | (go_simp; rfl) | kernel_rfl); intro gw hg7 w7 hx7 hb7; have HX7 := Aside0.mk hx7; have HB7 := Aside0.mk hb7; have HG7 := Aside0.mk hg7; clear hx7 hb7 hg7) | ((with_reducible refine gate_dst (N := 8) rfl ?_); refine box_event ?hg (N := 8) ?hd (cs := Array.replicate 64 (.int .u64 0)) (t := 43) ?hr ?_; (case hd => rfl); (case hg => rfl); (case hr => first | (go_simp; done) | (go_simp; rfl) | kernel_rfl); intro gf hg8 w8 hx8 hb8; have HX8 := Aside0.mk hx8; have HB8 := Aside0.mk hb8; have HG8 := Aside0.mk hg8; clear hx8 hb8 hg8) | ((with_reducible refine gate_dst (N := 9) rfl ?_); refine box_event ?hg (N := 9) ?hd (cs := Array.replicate 64 (.int .i64 0)) (t := 44) ?hr ?_; (case hd => rfl); (case hg => rfl); (case hr => first | (go_simp; done) | (go_simp; rfl) | kernel_rfl); intro gc hg9 w9 hx9 hb9; have HX9 := Aside0.mk hx9; have HB9 := Aside0.mk hb9; have HG9 := Aside0.mk hg9; clear hx9 hb9 hg9))
  have hs7 : w2.heap.size < w7.heap.size := by have := blk_lt HX7.out; have := HG7.out; omega
  have hs8 : w7.heap.size < w8.heap.size := by have := blk_lt HX8.out; have := HG8.out; omega
  have hb79 : Below w7.heap.size w7 w9 := HB8.out.trans (HB9.out.mono HB8.out.size)
  have hb29 : Below w2.heap.size w2 w9 := HB7.out.trans (hb79.mono HB7.out.size)
  have hbase : w.heap.size ≤ w2.heap.size := O2.out.far.size
  have HBL := Aside0.mk (show (w.heap.size ≤ gw ∧ w.heap.size ≤ gf ∧ w.heap.size ≤ gc) ∧ gw ≠ gf ∧ gw ≠ gc ∧ gf ≠ gc from by
    have := HG7.out
    have := HG8.out
    have := HG9.out
    exact ⟨⟨by omega, by omega, by omega⟩, by omega, by omega, by omega⟩)
  have P0 := Aside0.mk (show PN w n (.pointer (some ⟨g2, 0, none⟩)) gw gf gc (List.replicate n z56) w9 from
    ⟨List.length_replicate, poke.mono (fun k hk => ⟨hk.1, by have := hk.2.2; have := HG7.out; omega, by have := hk.2.2; have := HG8.out; omega, by have := hk.2.2; have := HG9.out; omega⟩) (poke.move (fun k hk => hb29.block k hk.2.2) (poke.bound O2.out.st)),
      ⟨_, (hb79.block _ (blk_lt HX7.out)).trans HX7.out, fun i hi => by rw [Array.getElem?_replicate, if_pos (by have := HN.out; omega)]; unfold F0; rw [List.getD_eq_getElem?_getD, List.getElem?_replicate, if_pos hi]; rfl⟩,
      ⟨_, (HB9.out.block _ (blk_lt HX8.out)).trans HX8.out, fun i hi => by rw [Array.getElem?_replicate, if_pos (by have := HN.out; omega)]; unfold F1; rw [List.getD_eq_getElem?_getD, List.getElem?_replicate, if_pos hi]; rfl⟩,
      ⟨_, HX9.out, fun i hi => by rw [Array.getElem?_replicate, if_pos (by have := HN.out; omega)]; unfold F2; rw [List.getD_eq_getElem?_getD, List.getElem?_replicate, if_pos hi]; rfl⟩, O2.out.far.trans (hb29.mono hbase)⟩)
  clear hs7 hs8 hb79 hb29 hbase HX7 HX8 HX9 HB7 HB8 HB9 HG7 HG8 HG9 O2
  generalize hv : (Value.pointer (some ⟨g2, 0, none⟩)) = v at P0 ⊢
  go_wp2
  go_loopw [10] (fun i wr => RelP w l.length n v gw gf gc i wr) (fun i _ => l.length - (intOf i).toNat)
  case atStart => exact ⟨0, _, Nat.zero_le _, rfl, P0.out⟩
  case round =>
    obtain ⟨j, p, hj, rfl, hP⟩ := hrel
    have HP := Aside0.mk hP
    have hj100 : j ≤ 100 := by have := HL.out; omega
    clear hP P0
    by_cases hlt : j < l.length
    · obtain ⟨ad, hAd, _⟩ := read_quad (Kd.C_below HC.out HP.out.far) hlt
      subst hAd
      go_upto_block 1 with (fail)
      refine round_piece HC.out HP.out HBL.out HN.out hlt _ _ ?hk ?hq
      case hq => exact fun _ _ _ _ _ h => h
      intro a' wd hR_
      obtain ⟨x4, hR_⟩ := hR_
      obtain ⟨x11, hR_⟩ := hR_
      obtain ⟨x12, hR_⟩ := hR_
      obtain ⟨x13, hR_⟩ := hR_
      obtain ⟨x14, hR_⟩ := hR_
      obtain ⟨x15, hR_⟩ := hR_
      obtain ⟨x16, hR_⟩ := hR_
      obtain ⟨x17, hR_⟩ := hR_
      obtain ⟨x18, hR_⟩ := hR_
      obtain ⟨x19, hR_⟩ := hR_
      obtain ⟨x20, hR_⟩ := hR_
      obtain ⟨x21, hR_⟩ := hR_
      obtain ⟨x22, hR_⟩ := hR_
      obtain ⟨x23, hR_⟩ := hR_
      obtain ⟨x24, hR_⟩ := hR_
      obtain ⟨x67, hR_⟩ := hR_
      obtain ⟨x68, hR_⟩ := hR_
      obtain ⟨x69, hR_⟩ := hR_
      obtain ⟨x70, hR_⟩ := hR_
      obtain ⟨x71, hR_⟩ := hR_
      obtain ⟨x72, hR_⟩ := hR_
      obtain ⟨x73, hR_⟩ := hR_
      obtain ⟨x74, hR_⟩ := hR_
      obtain ⟨x75, hR_⟩ := hR_
      obtain ⟨x76, hR_⟩ := hR_
      obtain ⟨x77, hR_⟩ := hR_
      obtain ⟨x78, hR_⟩ := hR_
      obtain ⟨x79, hR_⟩ := hR_
      obtain ⟨x80, hR_⟩ := hR_
      obtain ⟨x81, hR_⟩ := hR_
      obtain ⟨x82, hR_⟩ := hR_
      obtain ⟨x83, hR_⟩ := hR_
      obtain ⟨x84, hR_⟩ := hR_
      obtain ⟨x85, hR_⟩ := hR_
      obtain ⟨x86, hR_⟩ := hR_
      obtain ⟨x87, hR_⟩ := hR_
      obtain ⟨x88, hR_⟩ := hR_
      obtain ⟨x89, hR_⟩ := hR_
      obtain ⟨x90, hR_⟩ := hR_
      obtain ⟨x91, hR_⟩ := hR_
      obtain ⟨x92, hR_⟩ := hR_
      obtain ⟨x93, hR_⟩ := hR_
      obtain ⟨x94, hR_⟩ := hR_
      obtain ⟨x95, hR_⟩ := hR_
      obtain ⟨x96, hR_⟩ := hR_
      obtain ⟨x97, hR_⟩ := hR_
      obtain ⟨x98, hR_⟩ := hR_
      obtain ⟨x99, hR_⟩ := hR_
      obtain ⟨x100, hR_⟩ := hR_
      obtain ⟨x101, hR_⟩ := hR_
      obtain ⟨x102, hR_⟩ := hR_
      obtain ⟨x103, hR_⟩ := hR_
      obtain ⟨x104, hR_⟩ := hR_
      obtain ⟨x105, hR_⟩ := hR_
      obtain ⟨x106, hR_⟩ := hR_
      obtain ⟨x107, hR_⟩ := hR_
      obtain ⟨x108, hR_⟩ := hR_
      obtain ⟨x109, hR_⟩ := hR_
      obtain ⟨x110, hR_⟩ := hR_
      obtain ⟨x111, hR_⟩ := hR_
      obtain ⟨x112, hR_⟩ := hR_
      obtain ⟨x113, hR_⟩ := hR_
      obtain ⟨x114, hR_⟩ := hR_
      obtain ⟨x115, hR_⟩ := hR_
      obtain ⟨x116, hR_⟩ := hR_
      obtain ⟨x117, hR_⟩ := hR_
      obtain ⟨x118, hR_⟩ := hR_
      obtain ⟨x119, hR_⟩ := hR_
      obtain ⟨x120, hR_⟩ := hR_
      obtain ⟨x121, hR_⟩ := hR_
      obtain ⟨x122, hR_⟩ := hR_
      obtain ⟨x123, hR_⟩ := hR_
      obtain ⟨x124, hR_⟩ := hR_
      obtain ⟨x125, hR_⟩ := hR_
      obtain ⟨x126, hR_⟩ := hR_
      obtain ⟨x127, hR_⟩ := hR_
      obtain ⟨x128, hR_⟩ := hR_
      obtain ⟨x129, hR_⟩ := hR_
      obtain ⟨x130, hR_⟩ := hR_
      obtain ⟨x131, hR_⟩ := hR_
      obtain ⟨x132, hR_⟩ := hR_
      obtain ⟨x133, hR_⟩ := hR_
      obtain ⟨x134, hR_⟩ := hR_
      obtain ⟨x135, hR_⟩ := hR_
      obtain ⟨x136, hR_⟩ := hR_
      obtain ⟨x137, hR_⟩ := hR_
      obtain ⟨x138, hR_⟩ := hR_
      obtain ⟨x139, hR_⟩ := hR_
      obtain ⟨x140, hR_⟩ := hR_
      obtain ⟨x141, hR_⟩ := hR_
      obtain ⟨x142, hR_⟩ := hR_
      obtain ⟨x143, hR_⟩ := hR_
      obtain ⟨x144, hR_⟩ := hR_
      obtain ⟨x145, hR_⟩ := hR_
      obtain ⟨x146, hR_⟩ := hR_
      obtain ⟨x147, hR_⟩ := hR_
      obtain ⟨x148, hR_⟩ := hR_
      obtain ⟨x149, hR_⟩ := hR_
      obtain ⟨x150, hR_⟩ := hR_
      obtain ⟨x151, hR_⟩ := hR_
      obtain ⟨x152, hR_⟩ := hR_
      obtain ⟨x153, hR_⟩ := hR_
      obtain ⟨x154, hR_⟩ := hR_
      obtain ⟨x155, hR_⟩ := hR_
      obtain ⟨x156, hR_⟩ := hR_
      obtain ⟨x157, hR_⟩ := hR_
      obtain ⟨x158, hR_⟩ := hR_
      obtain ⟨x159, hR_⟩ := hR_
      obtain ⟨x160, hR_⟩ := hR_
      obtain ⟨x161, hR_⟩ := hR_
      obtain ⟨x162, hR_⟩ := hR_
      obtain ⟨x163, hR_⟩ := hR_
      obtain ⟨x164, hR_⟩ := hR_
      obtain ⟨x165, hR_⟩ := hR_
      obtain ⟨x166, hR_⟩ := hR_
      obtain ⟨x167, hR_⟩ := hR_
      obtain ⟨x168, hR_⟩ := hR_
      obtain ⟨x169, hR_⟩ := hR_
      obtain ⟨x170, hR_⟩ := hR_
      obtain ⟨x171, hR_⟩ := hR_
      obtain ⟨x172, hR_⟩ := hR_
      obtain ⟨x173, hR_⟩ := hR_
      obtain ⟨x174, hR_⟩ := hR_
      obtain ⟨x175, hR_⟩ := hR_
      obtain ⟨x176, hR_⟩ := hR_
      obtain ⟨x177, hR_⟩ := hR_
      obtain ⟨x178, hR_⟩ := hR_
      obtain ⟨x179, hR_⟩ := hR_
      obtain ⟨x180, hR_⟩ := hR_
      obtain ⟨x181, hR_⟩ := hR_
      obtain ⟨x182, hR_⟩ := hR_
      obtain ⟨x183, hR_⟩ := hR_
      obtain ⟨x184, hR_⟩ := hR_
      obtain ⟨x185, hR_⟩ := hR_
      obtain ⟨x186, hR_⟩ := hR_
      obtain ⟨x187, hR_⟩ := hR_
      obtain ⟨x188, hR_⟩ := hR_
      obtain ⟨x189, hR_⟩ := hR_
      obtain ⟨x190, hR_⟩ := hR_
      obtain ⟨x191, hR_⟩ := hR_
      obtain ⟨x192, hR_⟩ := hR_
      obtain ⟨x193, hR_⟩ := hR_
      obtain ⟨x194, hR_⟩ := hR_
      obtain ⟨x195, hR_⟩ := hR_
      obtain ⟨x196, hR_⟩ := hR_
      obtain ⟨x197, hR_⟩ := hR_
      obtain ⟨x198, hR_⟩ := hR_
      obtain ⟨x199, hR_⟩ := hR_
      obtain ⟨x200, hR_⟩ := hR_
      obtain ⟨x201, hR_⟩ := hR_
      obtain ⟨x202, hR_⟩ := hR_
      obtain ⟨x203, hR_⟩ := hR_
      obtain ⟨x204, hR_⟩ := hR_
      obtain ⟨x205, hR_⟩ := hR_
      obtain ⟨x206, hR_⟩ := hR_
      obtain ⟨x207, hR_⟩ := hR_
      obtain ⟨x208, hR_⟩ := hR_
      obtain ⟨x209, hR_⟩ := hR_
      obtain ⟨x210, hR_⟩ := hR_
      obtain ⟨x211, hR_⟩ := hR_
      obtain ⟨x212, hR_⟩ := hR_
      obtain ⟨x213, hR_⟩ := hR_
      obtain ⟨x214, hR_⟩ := hR_
      obtain ⟨x215, hR_⟩ := hR_
      obtain ⟨x216, hR_⟩ := hR_
      obtain ⟨x217, hR_⟩ := hR_
      obtain ⟨x218, hR_⟩ := hR_
      obtain ⟨x219, hR_⟩ := hR_
      obtain ⟨x220, hR_⟩ := hR_
      obtain ⟨x221, hR_⟩ := hR_
      obtain ⟨x222, hR_⟩ := hR_
      obtain ⟨x223, hR_⟩ := hR_
      obtain ⟨x224, hR_⟩ := hR_
      obtain ⟨x225, hR_⟩ := hR_
      obtain ⟨x226, hR_⟩ := hR_
      obtain ⟨x227, hR_⟩ := hR_
      obtain ⟨x228, hR_⟩ := hR_
      obtain ⟨x229, hR_⟩ := hR_
      obtain ⟨x230, hR_⟩ := hR_
      obtain ⟨x231, hR_⟩ := hR_
      obtain ⟨x232, hR_⟩ := hR_
      obtain ⟨x233, hR_⟩ := hR_
      obtain ⟨x234, hR_⟩ := hR_
      obtain ⟨x235, hR_⟩ := hR_
      obtain ⟨x236, hR_⟩ := hR_
      obtain ⟨x237, hR_⟩ := hR_
      obtain ⟨x238, hR_⟩ := hR_
      obtain ⟨x239, hR_⟩ := hR_
      obtain ⟨x240, hR_⟩ := hR_
      obtain ⟨x241, hR_⟩ := hR_
      obtain ⟨x242, hR_⟩ := hR_
      obtain ⟨x243, hR_⟩ := hR_
      obtain ⟨x244, hR_⟩ := hR_
      obtain ⟨x245, hR_⟩ := hR_
      obtain ⟨x246, hR_⟩ := hR_
      obtain ⟨x247, hR_⟩ := hR_
      obtain ⟨x248, hR_⟩ := hR_
      obtain ⟨x249, hR_⟩ := hR_
      obtain ⟨x250, hR_⟩ := hR_
      obtain ⟨x251, hR_⟩ := hR_
      obtain ⟨x252, hR_⟩ := hR_
      obtain ⟨x253, hR_⟩ := hR_
      obtain ⟨x254, hR_⟩ := hR_
      obtain ⟨x255, hR_⟩ := hR_
      obtain ⟨x256, hR_⟩ := hR_
      obtain ⟨x257, hR_⟩ := hR_
      obtain ⟨x258, hR_⟩ := hR_
      obtain ⟨x259, hR_⟩ := hR_
      obtain ⟨x260, hR_⟩ := hR_
      obtain ⟨x261, hR_⟩ := hR_
      obtain ⟨x262, hR_⟩ := hR_
      obtain ⟨x263, hR_⟩ := hR_
      obtain ⟨x264, hR_⟩ := hR_
      obtain ⟨x265, hR_⟩ := hR_
      obtain ⟨x266, hR_⟩ := hR_
      obtain ⟨x267, hR_⟩ := hR_
      obtain ⟨x268, hR_⟩ := hR_
      obtain ⟨x269, hR_⟩ := hR_
      obtain ⟨x270, hR_⟩ := hR_
      obtain ⟨x271, hR_⟩ := hR_
      obtain ⟨x272, hR_⟩ := hR_
      obtain ⟨x273, hR_⟩ := hR_
      obtain ⟨x274, hR_⟩ := hR_
      obtain ⟨x275, hR_⟩ := hR_
      obtain ⟨x276, hR_⟩ := hR_
      obtain ⟨x277, hR_⟩ := hR_
      obtain ⟨x278, hR_⟩ := hR_
      obtain ⟨x279, hR_⟩ := hR_
      obtain ⟨x280, hR_⟩ := hR_
      obtain ⟨x281, hR_⟩ := hR_
      obtain ⟨x282, hR_⟩ := hR_
      obtain ⟨x283, hR_⟩ := hR_
      obtain ⟨x284, hR_⟩ := hR_
      obtain ⟨x285, hR_⟩ := hR_
      obtain ⟨x286, hR_⟩ := hR_
      obtain ⟨x287, hR_⟩ := hR_
      obtain ⟨x288, hR_⟩ := hR_
      obtain ⟨x289, hR_⟩ := hR_
      obtain ⟨x290, hR_⟩ := hR_
      obtain ⟨x291, hR_⟩ := hR_
      obtain ⟨x292, hR_⟩ := hR_
      obtain ⟨x293, hR_⟩ := hR_
      obtain ⟨x294, hR_⟩ := hR_
      obtain ⟨x295, hR_⟩ := hR_
      obtain ⟨x296, hR_⟩ := hR_
      obtain ⟨x297, hR_⟩ := hR_
      obtain ⟨x298, hR_⟩ := hR_
      obtain ⟨x299, hR_⟩ := hR_
      obtain ⟨x300, hR_⟩ := hR_
      obtain ⟨x301, hR_⟩ := hR_
      obtain ⟨x302, hR_⟩ := hR_
      obtain ⟨x303, hR_⟩ := hR_
      obtain ⟨x304, hR_⟩ := hR_
      obtain ⟨hcut, ha_⟩ := hR_
      subst ha_
      obtain ⟨p', hP'⟩ := hcut
      have P9 := Aside0.mk hP'
      clear hP' HP
      go_wp2
      go_roundw
      case rel => exact ⟨j + 1, p', by omega, by go_num, P9.out⟩
      case measure => simp [intOf]; omega
    · have hje : j = l.length := by omega
      subst hje
      clear hlt hj
      go_wp2
      go_ret
      exact ⟨rfl, HP.out.far⟩
theorem plays_walk (cpus : Int) (_ : (Lit.int .i64 cpus).wf = true) (A : Option Addr) (cap : Nat) (l : List (Int × Int × Int × Int)) {good : Int × Int × Int × Int → Prop} {w : World} (hr : (Kd.pair (Kd.int .i64) (Kd.pair (Kd.int .i64) (Kd.pair (Kd.int .i64) (Kd.int .i64)))).C w A l.length l) (hc : l.length ≤ cap) (hg : ∀ a ∈ l, good a) (_ : World) :
    Calls Try.prog 5 #[.int .i64 cpus, .slice A l.length cap] w fun e w' => e = .returned (.bool true) ∧ Below w.heap.size w w' := by
  by_cases hq : cpus < 1 ∨ 64 < cpus
  · exact plays_bad cpus A cap l hq
  · obtain ⟨n, rfl⟩ : ∃ n : Nat, cpus = (n : Int) := ⟨cpus.toNat, by omega⟩
    by_cases hl : 100 < l.length
    · exact plays_long n A cap l (by omega) (by omega) hl
    · exact plays_main n A cap l hr (by omega) (by omega) hl
end Go.Proofs.Yteihnocbeaaokaa.Poke
