/- FifoPlays: any calls: what each answers, all in order, are as the document says (the walk; no condition). -/
import Derived.Test.YtfkjcimbpijfcaaAwake
import Derived.Test.YtfkjcimbpijfcaaFifo5
import Derived.Test.YtfkjcimbpijfcaaReg
import Derived.Deep.DeepCutAuto
import Derived.Deep.CutBlock
namespace Go.Proofs.Ytfkjcimbpijfcaa.Fifo
open Go.RowKit Go.Proofs.YtfkjcimbpijfcaaW.PrintWords Go.Proofs.YtfkjcimbpijfcaaW.PrintLast Go.Proofs.YtfkjcimbpijfcaaW.PrintMore Go.Proofs.Ytfkjcimbpijfcaa.St Go.Proofs.Ytfkjcimbpijfcaa.Q
set_option linter.unusedVariables false
set_option linter.unusedSimpArgs false
attribute [local go_sem] max2_int min2_int max_two min_two max_three min_three max_four min_four

theorem read_pair {w : World} {A : Option Addr} {l : List (Int × Int)} (h : (Kd.pair (Kd.int .i64) (Kd.int .i64)).C w A l.length l) {j : Nat} (hj : j < l.length) :
    ∃ ad, A = some ad ∧ w.cell? (ad.add (j * 2)) = some (.int .i64 (l.getD j (0, 0)).1) ∧ w.cell? ⟨(ad.add (j * 2)).block, (ad.add (j * 2)).off + 1, none⟩ = some (.int .i64 (l.getD j (0, 0)).2) := by
  obtain ⟨ad, c, e, _, hK, hc0⟩ := Kd.C_get h (0, 0) (j : Int) (by omega) (by omega)
  rw [Int.toNat_natCast] at hK hc0
  have hc : ∀ i u, c[i]? = some u → w.cell? (ad.add (j * 2 + i)) = some u := hc0
  obtain ⟨_, _, rfl, rfl, rfl⟩ := hK
  exact ⟨ad, e, hc 0 _ rfl, by rw [← add_field _ _ 1 (by omega)]; exact hc 1 _ rfl⟩
/-- Where a number is first, from a place on. -/
def lastAt (q : List Int) (v : Int) (n : Nat) : Int := if v ∈ q.drop n then ((n + (q.drop n).idxOf v : Nat) : Int) else -1
theorem last_end (q : List Int) (v : Int) : lastAt q v q.length = -1 := by unfold lastAt; rw [List.drop_length, if_neg (by simp)]
theorem last_zero (q : List Int) (v : Int) : lastAt q v 0 = placeOf q v := by
  unfold lastAt placeOf
  rw [List.drop_zero]
  simp
theorem last_hit {q : List Int} {v : Int} {n : Nat} (hn : n < q.length) (h : q.getD n 0 = v) : lastAt q v n = (n : Int) := by
  unfold lastAt
  rw [Mine.drop_at (Mine.getD_at (0 : Int) hn), h, if_pos List.mem_cons_self]
  simp
theorem last_miss {q : List Int} {v : Int} {n : Nat} (hn : n < q.length) (h : ¬ q.getD n 0 = v) : lastAt q v n = lastAt q v (n + 1) := by
  unfold lastAt
  rw [Mine.drop_at (Mine.getD_at (0 : Int) hn)]
  by_cases c : v ∈ q.drop (n + 1)
  · rw [if_pos c, if_pos (List.mem_cons_of_mem _ c), List.idxOf_cons]
    have : (q.getD n 0 == v) = false := by simpa using h
    rw [this, cond_false]
    omega
  · rw [if_neg c, if_neg (by simp [c]; exact fun e => h e.symm)]
theorem rot_at0 (x : Int) (t : List Int) : rot (x :: t) = t ++ [x] := by simp [rot]
/-- The queue behind the first one; one taken out. -/
theorem erase_parts {q : List Int} {v : Int} (h : v ∈ q) : q.take (q.idxOf v) ++ q.drop (q.idxOf v + 1) = q.erase v := by
  rw [List.erase_eq_eraseIdx_of_idxOf rfl, List.eraseIdx_eq_take_drop_succ]
theorem info_row : ∃ i : TypeInfo, Try.prog.info? 3 = some i ∧ i.size = 1 := by
  obtain ⟨i, h1, h2⟩ := Option.map_eq_some_iff.1 info_size
  exact ⟨i, h1, h2⟩
theorem rot_parts {q : List Int} (h : 0 < q.length) : rot q = q.drop 1 ++ [front q] := by
  cases q with
  | nil => simp at h
  | cons x t => rw [rot_at0]; rfl
def RelP (w : World) (m : Nat) (room : Int) (vf vw i : Value) (wr : World) : Prop :=
  ∃ (j : Nat) (c : Nat → Nat) (q : List Int), j ≤ m ∧ i = .int .i64 (j : Int) ∧ fifo.M wr w.heap.size (fun k => c k = 0) (room, q) vf ∧ (crow .i64).M wr w.heap.size (fun k => c k = 1) q vw ∧ Below w.heap.size w wr
def FRel (w : World) (room : Int) (vf v7 : Value) (wd : World) : Prop := ∃ (c' : Nat → Nat) (q' : List Int), fifo.M wd w.heap.size (fun k => c' k = 0) (room, q') vf ∧ (crow .i64).M wd w.heap.size (fun k => c' k = 1) q' v7 ∧ Below w.heap.size w wd
noncomputable def SwCode : Code := ((Try.f6.body.bind (subBlock 4)).getD .skip)
set_option maxRecDepth 1000000 in
def SwR (w : World) (room most : Int) (sl : Value) (j : Nat) (x2 p x1 : Int) (vf vw : Value) (u2 u3 u11 u12 u13 u16 u17 u18 u19 u20 u21 u22 u23 u24 u25 u26 u27 u28 u29 u30 u31 u32 u33 u34 u35 u36 u37 u38 u39 u40 u41 u42 u43 u44 u45 u46 u47 u48 u49 u50 u51 u52 u53 u54 u55 u56 u57 u58 u59 u60 u61 u62 u63 u64 u65 u66 u67 u68 u69 u70 u71 u72 u73 u74 u75 u76 u77 u78 u79 u80 u81 u82 u83 u170 u171 u172 u173 u174 u175 u176 u177 u178 u179 u180 u181 : Value) (a' : Act) (w' : World) : Prop := ∃ x4 x7 x14 x15 x85 x86 x87 x88 x89 x90 x91 x92 x93 x94 x95 x96 x97 x98 x99 x100 x101 x102 x103 x104 x105 x106 x107 x108 x109 x110 x111 x112 x113 x114 x115 x116 x117 x118 x119 x120 x121 x122 x123 x124 x125 x126 x127 x128 x129 x130 x131 x132 x133 x134 x135 x136 x137 x138 x139 x140 x141 x142 x143 x144 x145 x146 x147 x148 x149 x150 x151 x152 x153 x154 x155 x156 x157 x158 x159 x160 x161 x162 x163 x164 x165 x166 x167 x168 x169 : Value, FRel w room vf x7 w' ∧ a' = ⟨#[.int .i64 most, sl, u2, u3, x4, vf, .int .i64 room, x7, .int .i64 j, .int .i64 x2, .int .i64 p, u11, u12, u13, x14, x15, u16, u17, u18, u19, u20, u21, u22, u23, u24, u25, u26, u27, u28, u29, u30, u31, u32, u33, u34, u35, u36, u37, u38, u39, u40, u41, u42, u43, u44, u45, u46, u47, u48, u49, u50, u51, u52, u53, u54, u55, u56, u57, u58, u59, u60, u61, u62, u63, u64, u65, u66, u67, u68, u69, u70, u71, u72, u73, u74, u75, u76, u77, u78, u79, u80, u81, u82, u83, .int .i64 x1, x85, x86, x87, x88, x89, x90, x91, x92, x93, x94, x95, x96, x97, x98, x99, x100, x101, x102, x103, x104, x105, x106, x107, x108, x109, x110, x111, x112, x113, x114, x115, x116, x117, x118, x119, x120, x121, x122, x123, x124, x125, x126, x127, x128, x129, x130, x131, x132, x133, x134, x135, x136, x137, x138, x139, x140, x141, x142, x143, x144, x145, x146, x147, x148, x149, x150, x151, x152, x153, x154, x155, x156, x157, x158, x159, x160, x161, x162, x163, x164, x165, x166, x167, x168, x169, u170, u171, u172, u173, u174, u175, u176, u177, u178, u179, u180, u181], []⟩
set_option maxHeartbeats 4000000 in
set_option maxRecDepth 100000 in
theorem switch_piece {w wc : World} {c : Nat → Nat} {q : List Int} {room most : Int} {sl vf : Value} {A1 : Option Addr} {k1 j : Nat} {x2 x1 p : Int} {u2 u3 u4 u11 u12 u13 u14 u15 u16 u17 u18 u19 u20 u21 u22 u23 u24 u25 u26 u27 u28 u29 u30 u31 u32 u33 u34 u35 u36 u37 u38 u39 u40 u41 u42 u43 u44 u45 u46 u47 u48 u49 u50 u51 u52 u53 u54 u55 u56 u57 u58 u59 u60 u61 u62 u63 u64 u65 u66 u67 u68 u69 u70 u71 u72 u73 u74 u75 u76 u77 u78 u79 u80 u81 u82 u83 u85 u86 u87 u88 u89 u90 u91 u92 u93 u94 u95 u96 u97 u98 u99 u100 u101 u102 u103 u104 u105 u106 u107 u108 u109 u110 u111 u112 u113 u114 u115 u116 u117 u118 u119 u120 u121 u122 u123 u124 u125 u126 u127 u128 u129 u130 u131 u132 u133 u134 u135 u136 u137 u138 u139 u140 u141 u142 u143 u144 u145 u146 u147 u148 u149 u150 u151 u152 u153 u154 u155 u156 u157 u158 u159 u160 u161 u162 u163 u164 u165 u166 u167 u168 u169 u170 u171 u172 u173 u174 u175 u176 u177 u178 u179 u180 u181 : Value}
    (hF : fifo.M wc w.heap.size (fun k => c k = 0) (room, q) vf) (hW : (crow .i64).M wc w.heap.size (fun k => c k = 1) q (.slice A1 q.length k1)) (hB : Below w.heap.size w wc) (hL : (q.length : Int) ≤ room ∧ q.length ≤ 256) (hk1 : q.length ≤ k1) (hp : placeOf q x2 = p) :
    ∀ (K : Act → World → Prop) (Q' : Exit → Act → World → Prop), (∀ a' w', SwR w room most sl j x2 p x1 vf (.slice A1 q.length k1) u2 u3 u11 u12 u13 u16 u17 u18 u19 u20 u21 u22 u23 u24 u25 u26 u27 u28 u29 u30 u31 u32 u33 u34 u35 u36 u37 u38 u39 u40 u41 u42 u43 u44 u45 u46 u47 u48 u49 u50 u51 u52 u53 u54 u55 u56 u57 u58 u59 u60 u61 u62 u63 u64 u65 u66 u67 u68 u69 u70 u71 u72 u73 u74 u75 u76 u77 u78 u79 u80 u81 u82 u83 u170 u171 u172 u173 u174 u175 u176 u177 u178 u179 u180 u181 a' w' → K a' w') → (∀ c a i v w1, Q' (.panic c) (Act.put a (some i) v) w1 → Q' (.panic c) a w1) → Code.wp Try.prog SwCode (Exit.then K Q') ⟨#[.int .i64 most, sl, u2, u3, u4, vf, .int .i64 room, (.slice A1 q.length k1), .int .i64 j, .int .i64 x2, .int .i64 p, u11, u12, u13, u14, u15, u16, u17, u18, u19, u20, u21, u22, u23, u24, u25, u26, u27, u28, u29, u30, u31, u32, u33, u34, u35, u36, u37, u38, u39, u40, u41, u42, u43, u44, u45, u46, u47, u48, u49, u50, u51, u52, u53, u54, u55, u56, u57, u58, u59, u60, u61, u62, u63, u64, u65, u66, u67, u68, u69, u70, u71, u72, u73, u74, u75, u76, u77, u78, u79, u80, u81, u82, u83, .int .i64 x1, u85, u86, u87, u88, u89, u90, u91, u92, u93, u94, u95, u96, u97, u98, u99, u100, u101, u102, u103, u104, u105, u106, u107, u108, u109, u110, u111, u112, u113, u114, u115, u116, u117, u118, u119, u120, u121, u122, u123, u124, u125, u126, u127, u128, u129, u130, u131, u132, u133, u134, u135, u136, u137, u138, u139, u140, u141, u142, u143, u144, u145, u146, u147, u148, u149, u150, u151, u152, u153, u154, u155, u156, u157, u158, u159, u160, u161, u162, u163, u164, u165, u166, u167, u168, u169, u170, u171, u172, u173, u174, u175, u176, u177, u178, u179, u180, u181], []⟩ wc := by
  have HF3 := Aside0.mk hF
  have HW3 := Aside0.mk hW
  have HB3 := Aside0.mk hB
  have HL := Aside0.mk hL
  have HK1 := Aside0.mk hk1
  have HP := Aside0.mk hp
  have hq256 := hL.2
  clear hF hW hB hL hk1 hp
  intro K Q' hK hqp
  conv => arg 2; whnf
  refine wp_cut (SwR w room most sl j x2 p x1 vf (.slice A1 q.length k1) u2 u3 u11 u12 u13 u16 u17 u18 u19 u20 u21 u22 u23 u24 u25 u26 u27 u28 u29 u30 u31 u32 u33 u34 u35 u36 u37 u38 u39 u40 u41 u42 u43 u44 u45 u46 u47 u48 u49 u50 u51 u52 u53 u54 u55 u56 u57 u58 u59 u60 u61 u62 u63 u64 u65 u66 u67 u68 u69 u70 u71 u72 u73 u74 u75 u76 u77 u78 u79 u80 u81 u82 u83 u170 u171 u172 u173 u174 u175 u176 u177 u178 u179 u180 u181) hK ?_
  intro _ _ _ _
  by_cases o0 : x1 = 0
  · have q0 : (x1 == 0) = true := beq_iff_eq.mpr o0
    clear o0
    by_cases hfull : (q.length : Int) = room
    · skip
      have hfd : decide ((q.length : Int) ≠ room) = false := decide_eq_false (by simpa using hfull)
      have HFU := Aside0.mk hfull
      have hlt2 : decide ((q.length : Int) < room) = false := decide_eq_false (by omega)
      clear hfull
      go_wp2_with (first | (go_at_call 9; (with_reducible refine (putC x2 HF3.out).mono ?_); rintro e w4 ⟨rfl, c4, h4, t4⟩; rw [decide_eq_false (show ¬ ((q.length : Int) ≠ room) by simpa using HFU.out)]; rw [putl_t HFU.out] at h4; have HF4 := Aside0.mk (show (fifo).M w4 w.heap.size (fun k => c4 k = 0) (room, q) vf from h4); have HW4 := Aside0.mk (t4.keep _ (crow .i64) 1 _ _ (by decide) HW3.out); have B4 := Aside0.mk (t4.far HB3.out); clear h4 t4))
      refine Met.intro ?_
      go_step
      unfold SwR
      refine ⟨_, _, _, _, _, _, _, _, _, _, _, _, _, _, _, _, _, _, _, _, _, _, _, _, _, _, _, _, _, _, _, _, _, _, _, _, _, _, _, _, _, _, _, _, _, _, _, _, _, _, _, _, _, _, _, _, _, _, _, _, _, _, _, _, _, _, _, _, _, _, _, _, _, _, _, _, _, _, _, _, _, _, _, _, _, _, _, _, _, ?_, rfl⟩
      exact ⟨c4, q, HF4.out, HW4.out, B4.out⟩
    · skip
      have HFU := Aside0.mk hfull
      have hlt2 : decide ((q.length : Int) < room) = true := decide_eq_true (by have := HL.out.1; omega)
      clear hfull
      obtain ⟨q2, hq2⟩ : ∃ q2 : List Int, q ++ [x2] = q2 := ⟨_, rfl⟩
      have HQ2 := Aside0.mk hq2
      have hlq : q2.length ≤ 300 := by rw [← hq2]; rw [List.length_append]; simp; omega
      clear hq2
      go_wp2_with (first | (go_at_call 9; (with_reducible refine (putC x2 HF3.out).mono ?_); rintro e w4 ⟨rfl, c4, h4, t4⟩; rw [decide_eq_true (show ((q.length : Int) ≠ room) from HFU.out)]; rw [putl_f HFU.out, HQ2.out] at h4; have HF4 := Aside0.mk (show (fifo).M w4 w.heap.size (fun k => c4 k = 0) (room, q2) vf from h4); have HW4 := Aside0.mk (t4.keep _ (crow .i64) 1 _ _ (by decide) HW3.out); have B4 := Aside0.mk (t4.far HB3.out); clear h4 t4) | ((with_reducible refine gate_dst (N := 117) rfl ?_); refine lit_list (e := 3) (c := c4) (w0 := w) (Kd.int .i64) 2 rfl (N := 117) rfl ([] : List Int) [] ?hr (Reps.none _ _) ?hs (by simp) ?_; (case hr => first | (go_simp; done) | (go_simp; rfl)); (case hs => exact Below.size B4.out); intro v6 w6 c6 h6 t6; have HN6 := Aside0.mk (show (row 3 (Kd.int .i64)).M w6 w.heap.size (fun k => c6 k = 2) ([] : List Int) v6 from h6); have HF6 := Aside0.mk (t6.keep _ (fifo) 0 _ _ (by decide) HF4.out); have HW6 := Aside0.mk (t6.keep _ (crow .i64) 1 _ _ (by decide) HW4.out); have B6 := Aside0.mk (t6.far B4.out); clear h6 t6) | ((with_reducible refine gate_builtin (b := .append) (xs := #[.tmp 117, .tmp 118]) rfl ?_); refine app_list (e := 3) (c := c6) (w0 := w) (d := Kd.int .i64) (i := 2) rfl (.tmp 117) (.tmp 118) 22 (.int .i64 0) 8 rfl Try.underlying22 info_int rfl (by decide) (by decide) (flat_int _) v6 (([] : List Int)) (q) _ _ _ rfl rfl HN6.out (crow_C HW6.out) ?hs (by show (0 + q.length) * 8 ≤ _; omega) ?_; (case hs => exact Below.size B6.out); intro v7 w7 c7 h7 t7; have HN7 := Aside0.mk (show (row 3 (Kd.int .i64)).M w7 w.heap.size (fun k => c7 k = 2) (([] : List Int) ++ (q)) v7 from h7); have HF7 := Aside0.mk (t7.keep _ (fifo) 0 _ _ (by decide) HF6.out); have HW7 := Aside0.mk (t7.keep _ (crow .i64) 1 _ _ (by decide) HW6.out); have B7 := Aside0.mk (t7.far B6.out); clear h7 t7) | ((with_reducible refine gate_dst (N := 121) rfl ?_); refine lit_list (e := 3) (c := c7) (w0 := w) (Kd.int .i64) 3 rfl (N := 121) rfl ([x2] : List Int) [.int .i64 x2] ?hr (reps_nums .i64 _ _ _ [x2]) ?hs (by simp) ?_; (case hr => first | (go_simp; done) | (go_simp; rfl)); (case hs => exact Below.size B7.out); intro v8 w8 c8 h8 t8; have HM8 := Aside0.mk (show (row 3 (Kd.int .i64)).M w8 w.heap.size (fun k => c8 k = 3) ([x2] : List Int) v8 from h8); have HF8 := Aside0.mk (t8.keep _ (fifo) 0 _ _ (by decide) HF7.out); have HW8 := Aside0.mk (t8.keep _ (crow .i64) 1 _ _ (by decide) HW7.out); have HN8 := Aside0.mk (t8.keep _ (row 3 (Kd.int .i64)) 2 _ _ (by decide) HN7.out); have B8 := Aside0.mk (t8.far B7.out); clear h8 t8; obtain ⟨A8, k8, rfl, _, _⟩ := row_reads HM8.out) | ((with_reducible refine gate_builtin (b := .append) (xs := #[.tmp 119, .tmp 121]) rfl ?_); refine app_list (e := 3) (c := c8) (w0 := w) (d := Kd.int .i64) (i := 2) rfl (.tmp 119) (.tmp 121) 22 (.int .i64 0) 8 rfl Try.underlying22 info_int rfl (by decide) (by decide) (flat_int _) v7 ((([] : List Int) ++ (q))) ([x2]) _ _ _ rfl rfl HN8.out (row_C HM8.out) ?hs (by rw [List.length_append]; show ((0 + q.length) + 1) * 8 ≤ _; omega) ?_; (case hs => exact Below.size B8.out); intro v9 w9 c9 h9 t9; rw [show ([] ++ q ++ [x2]) = q2 from HQ2.out] at h9; have HN9 := Aside0.mk (show (row 3 (Kd.int .i64)).M w9 w.heap.size (fun k => c9 k = 2) q2 v9 from h9); have HF9 := Aside0.mk (t9.keep _ (fifo) 0 _ _ (by decide) HF8.out); have HW9 := Aside0.mk (t9.keep _ (crow .i64) 1 _ _ (by decide) HW8.out); have HM9 := Aside0.mk (t9.keep _ (row 3 (Kd.int .i64)) 3 _ _ (by decide) HM8.out); have B9 := Aside0.mk (t9.far B8.out); clear h9 t9; obtain ⟨A9, k9, rfl, _, _⟩ := row_reads HN9.out))
      refine Met.intro ?_
      go_step
      unfold SwR
      refine ⟨_, _, _, _, _, _, _, _, _, _, _, _, _, _, _, _, _, _, _, _, _, _, _, _, _, _, _, _, _, _, _, _, _, _, _, _, _, _, _, _, _, _, _, _, _, _, _, _, _, _, _, _, _, _, _, _, _, _, _, _, _, _, _, _, _, _, _, _, _, _, _, _, _, _, _, _, _, _, _, _, _, _, _, _, _, _, _, _, _, ?_, rfl⟩
      exact ⟨(fun k => if c9 k = 2 then 1 else if c9 k = 0 then 0 else 5), q2, recol fifo (c' := (fun k => if c9 k = 2 then 1 else if c9 k = 0 then 0 else 5)) HF9.out (fun k hk => by simp only [hk]; rfl), crow_of_R (show (Kd.int .i64).R 3 _ w.heap.size (fun k => (fun k => if c9 k = 2 then 1 else if c9 k = 0 then 0 else 5) k = 1) _ _ from recol (row 3 (Kd.int .i64)) (c' := (fun k => if c9 k = 2 then 1 else if c9 k = 0 then 0 else 5)) HN9.out (fun k hk => by simp only [hk]; rfl)), B9.out⟩
  have q0 : (x1 == 0) = false := beq_eq_false_iff_ne.mpr o0
  clear o0
  by_cases o1 : x1 = 1
  · have q1 : (x1 == 1) = true := beq_iff_eq.mpr o1
    clear o1
    by_cases hq : 0 < q.length
    · have hs : decide (0 < q.length) = true := decide_eq_true hq
      have HS := Aside0.mk (show some_ q = true from hs)
      obtain ⟨a0, ha0, _⟩ := Mine.read_at (crow_C HW3.out) hq
      subst ha0
      have hyy : (front q != front q) = false := by simp
      obtain ⟨q2, hq2⟩ : ∃ q2 : List Int, q.tail = q2 := ⟨_, rfl⟩
      have HQ2 := Aside0.mk hq2
      have hlq : q2.length ≤ 300 := by rw [← hq2]; simp; omega
      clear hq2
      have HD2 := Aside0.mk (show q2 = q.drop 1 from by rw [← HQ2.out]; simp)
      obtain ⟨A', hrun, hcr, hcc⟩ := crow_from (k := .i64) 22 3 (m := 1) Try.underlying22 info_row.choose_spec.1 info_row.choose_spec.2 (some a0) k1 q (by omega)
      have hl2 : q.length - 1 = q2.length := by rw [HD2.out, List.length_drop]
      rw [hl2] at hrun hcr
      rw [show ((1 : Nat) : Int) = 1 from rfl] at hrun
      have HCR := Aside0.mk hcr
      clear hcr hcc hl2
      go_wp2_with (first | (go_at_call 11; (with_reducible refine (getC HF3.out).mono ?_); rintro e w4 ⟨rfl, c4, h4, t4⟩; rw [HS.out]; rw [HQ2.out] at h4; have HF4 := Aside0.mk (show (fifo).M w4 w.heap.size (fun k => c4 k = 0) (room, q2) vf from h4); have HW4 := Aside0.mk (t4.keep _ (crow .i64) 1 _ _ (by decide) HW3.out); have B4 := Aside0.mk (t4.far HB3.out); clear h4 t4; have hc0 : w4.cell? a0 = some (.int .i64 (front q)) := crow_cell0 HW4.out hq; have HW6 := Aside0.mk (show (crow .i64).M w4 w.heap.size (fun k => c4 k = 1) q2 (.slice A' q2.length (k1 - 1)) from by rw [HD2.out]; have := HCR.out _ _ _ HW4.out; rwa [HD2.out] at this)))
      refine Met.intro ?_
      go_step
      unfold SwR
      refine ⟨_, _, _, _, _, _, _, _, _, _, _, _, _, _, _, _, _, _, _, _, _, _, _, _, _, _, _, _, _, _, _, _, _, _, _, _, _, _, _, _, _, _, _, _, _, _, _, _, _, _, _, _, _, _, _, _, _, _, _, _, _, _, _, _, _, _, _, _, _, _, _, _, _, _, _, _, _, _, _, _, _, _, _, _, _, _, _, _, _, ?_, rfl⟩
      exact ⟨c4, q2, HF4.out, HW6.out, B4.out⟩
    · have hs : decide (0 < q.length) = false := decide_eq_false hq
      have HS := Aside0.mk (show some_ q = false from hs)
      have HTL := Aside0.mk (show q.tail = q from by rw [List.length_eq_zero_iff.1 (show q.length = 0 by omega)]; rfl)
      go_wp2_with (first | (go_at_call 11; (with_reducible refine (getC HF3.out).mono ?_); rintro e w4 ⟨rfl, c4, h4, t4⟩; rw [HS.out]; rw [HTL.out] at h4; have HF4 := Aside0.mk (show (fifo).M w4 w.heap.size (fun k => c4 k = 0) (room, q) vf from h4); have HW4 := Aside0.mk (t4.keep _ (crow .i64) 1 _ _ (by decide) HW3.out); have B4 := Aside0.mk (t4.far HB3.out); clear h4 t4))
      refine Met.intro ?_
      go_step
      unfold SwR
      refine ⟨_, _, _, _, _, _, _, _, _, _, _, _, _, _, _, _, _, _, _, _, _, _, _, _, _, _, _, _, _, _, _, _, _, _, _, _, _, _, _, _, _, _, _, _, _, _, _, _, _, _, _, _, _, _, _, _, _, _, _, _, _, _, _, _, _, _, _, _, _, _, _, _, _, _, _, _, _, _, _, _, _, _, _, _, _, _, _, _, _, ?_, rfl⟩
      exact ⟨c4, q, HF4.out, HW4.out, B4.out⟩
  have q1 : (x1 == 1) = false := beq_eq_false_iff_ne.mpr o1
  clear o1
  by_cases o2 : x1 = 2
  · have q2' : (x1 == 2) = true := beq_iff_eq.mpr o2
    clear o2
    by_cases hmem : x2 ∈ q
    · have hq : 0 < q.length := List.length_pos_of_mem hmem
      obtain ⟨a0, ha0, _⟩ := Mine.read_at (crow_C HW3.out) hq
      subst ha0
      obtain ⟨q2, hq2⟩ : ∃ q2 : List Int, q.erase x2 = q2 := ⟨_, rfl⟩
      have HQ2 := Aside0.mk hq2
      have hlq : q2.length ≤ 300 := by rw [← hq2]; rw [List.length_erase]; split <;> omega
      clear hq2
      obtain ⟨n, hn⟩ : ∃ n : Nat, p = (n : Int) := ⟨q.idxOf x2, by rw [← HP.out, placeOf_in hmem]⟩
      have hnx : q.idxOf x2 = n := by have h1 := HP.out; rw [placeOf_in hmem, hn] at h1; omega
      have hnl : n < q.length := by rw [← hnx]; exact List.idxOf_lt_length_of_mem hmem
      have HER := Aside0.mk (show ([] : List Int) ++ q.take n ++ q.drop (n + 1) = q2 from by rw [← HQ2.out, ← erase_parts hmem, hnx]; rfl)
      subst hn
      obtain ⟨hrun, hcr, hcc⟩ := crow_to (k := .i64) 22 3 Try.underlying22 info_row.choose_spec.1 (some a0) k1 n q (by omega) HK1.out
      obtain ⟨A', hrun2, hcr2, hcc2⟩ := crow_from (k := .i64) 22 3 Try.underlying22 info_row.choose_spec.1 info_row.choose_spec.2 (some a0) k1 (n + 1) q (by omega)
      rw [show ((n + 1 : Nat) : Int) = (n : Int) + 1 by omega] at hrun2
      have HC4 := Aside0.mk hcc
      have HC5 := Aside0.mk hcc2
      have hdm : decide (x2 ∈ q) = true := decide_eq_true hmem
      have HDM := Aside0.mk hdm
      clear hcr hcr2 hcc hcc2 hmem hdm hnx
      have hge : decide ((0 : Int) ≤ (n : Int)) = true := decide_eq_true (by omega)
      have hge2 : ((0 : Int) ≤ (n : Int)) = True := eq_true (by omega)
      have hnw : wrap64 ((n : Int) + 1) = (n : Int) + 1 := by unfold wrap64; omega
      go_upto_region 45 with (first | (go_at_call 14; (with_reducible refine (dropC x2 HF3.out).mono ?_); rintro e w4 ⟨rfl, c4, h4, t4⟩; rw [HDM.out]; rw [HQ2.out] at h4; have HF4 := Aside0.mk (show (fifo).M w4 w.heap.size (fun k => c4 k = 0) (room, q2) vf from h4); have HW4 := Aside0.mk (t4.keep _ (crow .i64) 1 _ _ (by decide) HW3.out); have B4 := Aside0.mk (t4.far HB3.out); clear h4 t4))
      refine start_ (n := 11) (S := fun w' => True) (ds := []) #[false, false, false, false, false, false, false, false, false, false, false] (by kernel_rfl) rfl rfl trivial (fun hHeld => ?_)
      obtain ⟨w20, hw20⟩ : ∃ w20 : World, w4.drew = w20 := ⟨_, rfl⟩
      have hb20 : Below w4.heap.size w4 w20 := by rw [← hw20]; exact below_drew (Below.refl _ _)
      (try rw [hw20] at hHeld)
      rw [hw20]
      have HF20 := Aside0.mk (St.below (s := fifo) HF4.out hb20)
      have HW20 := Aside0.mk (St.below (s := crow .i64) HW4.out hb20)
      have B20 := Aside0.mk (Below.trans B4.out (Below.mono hb20 (Below.size B4.out)))
      clear hw20 hb20
      refine pure_ (i := 1) (N := some 161) (v := ?_) (a' := ?_) #[false, true, false, false, false, false, false, false, false, false, false] rfl rfl (by kernel_rfl) (fun _ _ _ h => hqp _ _ _ _ _ h) (Or.inl ⟨by rfl, ?_⟩) ?_ ?_
      rotate_left
      · intro w'
        go_simp
        with_reducible rfl
      rotate_left
      · simp only [Act.put, List.setIfInBounds_toArray, List.set_cons_zero, List.set_cons_succ, i64_w, i32_w]
        rfl
      refine pure_ (i := 2) (N := some 162) (v := ?_) (a' := ?_) #[false, true, true, false, false, false, false, false, false, false, false] rfl rfl (by kernel_rfl) (fun _ _ _ h => hqp _ _ _ _ _ h) (Or.inl ⟨by rfl, ?_⟩) ?_ ?_
      rotate_left
      · intro w'
        go_simp
        with_reducible rfl
      rotate_left
      · simp only [Act.put, List.setIfInBounds_toArray, List.set_cons_zero, List.set_cons_succ, i64_w, i32_w]
        rfl
      refine pure_ (i := 3) (N := some 163) (v := ?_) (a' := ?_) #[false, true, true, true, false, false, false, false, false, false, false] rfl rfl (by kernel_rfl) (fun _ _ _ h => hqp _ _ _ _ _ h) (Or.inl ⟨by rfl, ?_⟩) ?_ ?_
      rotate_left
      · intro w'
        go_simp
        with_reducible rfl
      rotate_left
      · simp only [Act.put, List.setIfInBounds_toArray, List.set_cons_zero, List.set_cons_succ, i64_w, i32_w]
        rfl
      refine pure_ (i := 5) (N := some 165) (v := ?_) (a' := ?_) #[false, true, true, true, false, true, false, false, false, false, false] rfl rfl (by kernel_rfl) (fun _ _ _ h => hqp _ _ _ _ _ h) (Or.inl ⟨by rfl, ?_⟩) ?_ ?_
      rotate_left
      · intro w'
        go_simp
        with_reducible rfl
      rotate_left
      · simp only [Act.put, List.setIfInBounds_toArray, List.set_cons_zero, List.set_cons_succ, i64_w, i32_w]
        rfl
      refine pure_ (i := 6) (N := some 166) (v := ?_) (a' := ?_) #[false, true, true, true, false, true, true, false, false, false, false] rfl rfl (by kernel_rfl) (fun _ _ _ h => hqp _ _ _ _ _ h) (Or.inl ⟨by rfl, ?_⟩) ?_ ?_
      rotate_left
      · intro w'
        go_simp
        with_reducible rfl
      rotate_left
      · simp only [Act.put, List.setIfInBounds_toArray, List.set_cons_zero, List.set_cons_succ, i64_w, i32_w]
        rfl
      refine pure_ (i := 7) (N := some 167) (v := ?_) (a' := ?_) #[false, true, true, true, false, true, true, true, false, false, false] rfl rfl (by kernel_rfl) (fun _ _ _ h => hqp _ _ _ _ _ h) (Or.inl ⟨by rfl, ?_⟩) ?_ ?_
      rotate_left
      · intro w'
        go_simp
        with_reducible rfl
      rotate_left
      · simp only [Act.put, List.setIfInBounds_toArray, List.set_cons_zero, List.set_cons_succ, i64_w, i32_w]
        rfl
      refine pure_ (i := 8) (N := some 168) (v := ?_) (a' := ?_) #[false, true, true, true, false, true, true, true, true, false, false] rfl rfl (by kernel_rfl) (fun _ _ _ h => hqp _ _ _ _ _ h) (Or.inl ⟨by rfl, ?_⟩) ?_ ?_
      rotate_left
      · intro w'
        go_simp
        with_reducible rfl
      rotate_left
      · simp only [Act.put, List.setIfInBounds_toArray, List.set_cons_zero, List.set_cons_succ, i64_w, i32_w]
        rfl
      refine join_ (σ := Value × Value × Value) 0 #[true, true, true, true, true, true, true, true, true, true, true] (fun s_ => [(160, s_.1), (164, s_.2.1), (169, s_.2.2), (7, s_.2.2)]) (fun s_ w' => ∃ c' : Nat → Nat, (row 3 (Kd.int .i64)).M w' w.heap.size (fun k => c' k = 2) q2 (s_.2.2 : Value) ∧ fifo.M w' w.heap.size (fun k => c' k = 0) (room, q2) vf ∧ Below w.heap.size w w') ?_ ?_
      rotate_left
      · intro hCont
        refine one_ (i := 0) (N := some 160) #[true, true, true, true, false, true, true, true, true, false, false] rfl rfl (by kernel_rfl) (by decide) (fun K hK => ?_)
        refine lit_step (e := 3) (c := c4) (w0 := w) (Kd.int .i64) 2 ?hg (N := 160) ?hd ([] : List Int) [] ?hr ?hp ?hs (by simp) ?_
        (case hd => rfl)
        (case hg => rfl)
        (case hp => exact Reps.none _ _)
        (case hr => first | (go_simp; done) | (go_simp; rfl))
        (case hs => exact Below.size B20.out)
        intro v20x0 w20x0 c20x0 h20x0 t20x0
        have HN20x0 := Aside0.mk (show (row 3 (Kd.int .i64)).M w20x0 w.heap.size (fun k => c20x0 k = 2) ([] : List Int) v20x0 from h20x0)
        have HF20x0 := Aside0.mk (t20x0.keep _ (fifo) 0 _ _ (by decide) HF20.out)
        have HW20x0 := Aside0.mk (t20x0.keep _ (crow .i64) 1 _ _ (by decide) HW20.out)
        have B20x0 := Aside0.mk (t20x0.far B20.out)
        have hHeld := trivial
        refine hK.out _ _ hHeld (fun hHeld => ?_)
        clear hK K
        refine norm_ (a' := ?_) ?_ ?_
        rotate_left
        · show Act.put _ (some 160) _ = _
          simp only [Act.put, List.setIfInBounds_toArray, List.set_cons_zero, List.set_cons_succ, i64_w, i32_w]
          rfl
        clear h20x0 t20x0
        refine one_ (i := 4) (N := some 164) #[true, true, true, true, true, true, true, true, true, false, false] rfl rfl (by kernel_rfl) (by decide) (fun K hK => ?_)
        refine app_step (e := 3) (c := c20x0) (w0 := w) (d := Kd.int .i64) (i := 2) (by rfl) (.tmp 160) (.tmp 163) 22 (.int .i64 0) 8 rfl Try.underlying22 info_int rfl (by decide) (by decide) (flat_int _) v20x0 (([] : List Int)) (q.take n) _ _ _ rfl rfl HN20x0.out (HC4.out _ (crow_C HW20x0.out)) ?hs (by show (0 + n) * 8 ≤ _; omega) ?_
        (case hs => exact Below.size B20x0.out)
        intro v20x0x4 w20x0x4 c20x0x4 h20x0x4 t20x0x4
        have HN20x0x4 := Aside0.mk (show (row 3 (Kd.int .i64)).M w20x0x4 w.heap.size (fun k => c20x0x4 k = 2) (([] : List Int) ++ (q.take n)) v20x0x4 from h20x0x4)
        have HF20x0x4 := Aside0.mk (t20x0x4.keep _ (fifo) 0 _ _ (by decide) HF20x0.out)
        have HW20x0x4 := Aside0.mk (t20x0x4.keep _ (crow .i64) 1 _ _ (by decide) HW20x0.out)
        have B20x0x4 := Aside0.mk (t20x0x4.far B20x0.out)
        have hHeld := trivial
        refine hK.out _ _ hHeld (fun hHeld => ?_)
        clear hK K
        refine norm_ (a' := ?_) ?_ ?_
        rotate_left
        · show Act.put _ (some 164) _ = _
          simp only [Act.put, List.setIfInBounds_toArray, List.set_cons_zero, List.set_cons_succ, i64_w, i32_w]
          rfl
        clear h20x0x4 t20x0x4
        refine one_ (i := 9) (N := some 169) #[true, true, true, true, true, true, true, true, true, true, false] rfl rfl (by kernel_rfl) (by decide) (fun K hK => ?_)
        refine app_step (e := 3) (c := c20x0x4) (w0 := w) (d := Kd.int .i64) (i := 2) (by rfl) (.tmp 164) (.tmp 168) 22 (.int .i64 0) 8 rfl Try.underlying22 info_int rfl (by decide) (by decide) (flat_int _) v20x0x4 ((([] : List Int) ++ (q.take n))) (q.drop (n + 1)) _ _ _ rfl rfl HN20x0x4.out (HC5.out _ (crow_le HW20x0x4.out) (crow_C HW20x0x4.out)) ?hs (by rw [List.length_append, List.length_take]; show ((0 + _) + _) * 8 ≤ _; omega) ?_
        (case hs => exact Below.size B20x0x4.out)
        intro v20x0x4x9 w20x0x4x9 c20x0x4x9 h20x0x4x9 t20x0x4x9
        have HN20x0x4x9 := Aside0.mk (show (row 3 (Kd.int .i64)).M w20x0x4x9 w.heap.size (fun k => c20x0x4x9 k = 2) ((([] : List Int) ++ (q.take n)) ++ (q.drop (n + 1))) v20x0x4x9 from h20x0x4x9)
        have HF20x0x4x9 := Aside0.mk (t20x0x4x9.keep _ (fifo) 0 _ _ (by decide) HF20x0x4.out)
        have HW20x0x4x9 := Aside0.mk (t20x0x4x9.keep _ (crow .i64) 1 _ _ (by decide) HW20x0x4.out)
        have B20x0x4x9 := Aside0.mk (t20x0x4x9.far B20x0x4.out)
        have hHeld := trivial
        refine hK.out _ _ hHeld (fun hHeld => ?_)
        clear hK K
        refine norm_ (a' := ?_) ?_ ?_
        rotate_left
        · show Act.put _ (some 169) _ = _
          simp only [Act.put, List.setIfInBounds_toArray, List.set_cons_zero, List.set_cons_succ, i64_w, i32_w]
          rfl
        clear h20x0x4x9 t20x0x4x9
        refine pure_ (i := 10) (N := some 7) (v := ?_) (a' := ?_) #[true, true, true, true, true, true, true, true, true, true, true] rfl rfl (by kernel_rfl) (fun _ _ _ h => hqp _ _ _ _ _ h) (Or.inl ⟨by rfl, ?_⟩) ?_ ?_
        rotate_left
        · intro w'
          go_simp
          with_reducible rfl
        rotate_left
        · simp only [Act.put, List.setIfInBounds_toArray, List.set_cons_zero, List.set_cons_succ, i64_w, i32_w]
          rfl
        exact norm_ (by simp only [putAll, Act.put, List.setIfInBounds_toArray, List.set_cons_zero, List.set_cons_succ]) (hCont (v20x0, v20x0x4, v20x0x4x9) _ ⟨c20x0x4x9, (by have h := HN20x0x4x9.out; rwa [HER.out] at h), HF20x0x4x9.out, B20x0x4x9.out⟩)
      rintro s_ w21 ⟨c21, hN, hF, hB⟩
      have HN21 := Aside0.mk hN
      have HF21 := Aside0.mk hF
      have HB21 := Aside0.mk hB
      clear hN hF hB
      refine done_ (by kernel_rfl) ?_
      simp only [putAll, Act.put, List.setIfInBounds_toArray, List.set_cons_zero, List.set_cons_succ]
      go_wp2
      refine Met.intro ?_
      go_step
      unfold SwR
      refine ⟨_, _, _, _, _, _, _, _, _, _, _, _, _, _, _, _, _, _, _, _, _, _, _, _, _, _, _, _, _, _, _, _, _, _, _, _, _, _, _, _, _, _, _, _, _, _, _, _, _, _, _, _, _, _, _, _, _, _, _, _, _, _, _, _, _, _, _, _, _, _, _, _, _, _, _, _, _, _, _, _, _, _, _, _, _, _, _, _, _, ?_, rfl⟩
      exact ⟨(fun k => if c21 k = 2 then 1 else if c21 k = 0 then 0 else 5), q2, recol fifo (c' := (fun k => if c21 k = 2 then 1 else if c21 k = 0 then 0 else 5)) HF21.out (fun k hk => by simp only [hk]; rfl), crow_of_R (show (Kd.int .i64).R 3 _ w.heap.size (fun k => (fun k => if c21 k = 2 then 1 else if c21 k = 0 then 0 else 5) k = 1) _ _ from recol (row 3 (Kd.int .i64)) (c' := (fun k => if c21 k = 2 then 1 else if c21 k = 0 then 0 else 5)) HN21.out (fun k hk => by simp only [hk]; rfl)), HB21.out⟩
    · have hp1 : p = -1 := by rw [← HP.out, placeOf_lt hmem]
      subst hp1
      have HDM := Aside0.mk (decide_eq_false hmem)
      have HER := Aside0.mk (show q.erase x2 = q from List.erase_of_not_mem hmem)
      clear hmem
      go_wp2_with (first | (go_at_call 14; (with_reducible refine (dropC x2 HF3.out).mono ?_); rintro e w4 ⟨rfl, c4, h4, t4⟩; rw [HDM.out]; rw [HER.out] at h4; have HF4 := Aside0.mk (show (fifo).M w4 w.heap.size (fun k => c4 k = 0) (room, q) vf from h4); have HW4 := Aside0.mk (t4.keep _ (crow .i64) 1 _ _ (by decide) HW3.out); have B4 := Aside0.mk (t4.far HB3.out); clear h4 t4))
      refine Met.intro ?_
      go_step
      unfold SwR
      refine ⟨_, _, _, _, _, _, _, _, _, _, _, _, _, _, _, _, _, _, _, _, _, _, _, _, _, _, _, _, _, _, _, _, _, _, _, _, _, _, _, _, _, _, _, _, _, _, _, _, _, _, _, _, _, _, _, _, _, _, _, _, _, _, _, _, _, _, _, _, _, _, _, _, _, _, _, _, _, _, _, _, _, _, _, _, _, _, _, _, _, ?_, rfl⟩
      exact ⟨c4, q, HF4.out, HW4.out, B4.out⟩
  have q2' : (x1 == 2) = false := beq_eq_false_iff_ne.mpr o2
  clear o2
  by_cases hq : 0 < q.length
  · have hs : decide (0 < q.length) = true := decide_eq_true hq
    have HS := Aside0.mk (show some_ q = true from hs)
    obtain ⟨a0, ha0, _⟩ := Mine.read_at (crow_C HW3.out) hq
    subst ha0
    obtain ⟨q2, hq2⟩ : ∃ q2 : List Int, rot q = q2 := ⟨_, rfl⟩
    have HQ2 := Aside0.mk hq2
    have hlq : q2.length ≤ 300 := by rw [← hq2]; rw [show rot q = q.drop 1 ++ [front q] from rot_parts hq, List.length_append, List.length_drop]; simp; omega
    clear hq2
    have HER := Aside0.mk (show ([] : List Int) ++ q.drop 1 ++ [front q] = q2 from by rw [← HQ2.out, rot_parts hq]; rfl)
    obtain ⟨A', hrun2, hcr2, hcc2⟩ := crow_from (k := .i64) 22 3 (m := 1) Try.underlying22 info_row.choose_spec.1 info_row.choose_spec.2 (some a0) k1 q (by omega)
    rw [show ((1 : Nat) : Int) = 1 from rfl] at hrun2
    have HC5 := Aside0.mk hcc2
    have HRU := Aside0.mk hrun2
    clear hcr2 hcc2
    go_upto_region 29 with (first | (go_at_call 10; (with_reducible refine (turnC HF3.out).mono ?_); rintro e w4 ⟨rfl, c4, h4, t4⟩; rw [HS.out]; rw [HQ2.out] at h4; have HF4 := Aside0.mk (show (fifo).M w4 w.heap.size (fun k => c4 k = 0) (room, q2) vf from h4); have HW4 := Aside0.mk (t4.keep _ (crow .i64) 1 _ _ (by decide) HW3.out); have B4 := Aside0.mk (t4.far HB3.out); clear h4 t4))
    refine start_ (n := 10) (S := fun w' => w'.cell? a0 = some (.int .i64 (front q))) (ds := []) #[false, false, false, false, false, false, false, false, false, false] (by kernel_rfl) rfl rfl (show w4.drew.cell? a0 = _ from crow_cell0 (St.drewN (s := crow .i64) HW4.out 1) hq) (fun hHeld => ?_)
    obtain ⟨w20, hw20⟩ : ∃ w20 : World, w4.drew = w20 := ⟨_, rfl⟩
    have hb20 : Below w4.heap.size w4 w20 := by rw [← hw20]; exact below_drew (Below.refl _ _)
    (try rw [hw20] at hHeld)
    rw [hw20]
    have HF20 := Aside0.mk (St.below (s := fifo) HF4.out hb20)
    have HW20 := Aside0.mk (St.below (s := crow .i64) HW4.out hb20)
    have B20 := Aside0.mk (Below.trans B4.out (Below.mono hb20 (Below.size B4.out)))
    clear hw20 hb20
    refine pure_ (i := 1) (N := some 95) (v := ?_) (a' := ?_) #[false, true, false, false, false, false, false, false, false, false] rfl rfl (by kernel_rfl) (fun _ _ _ h => hqp _ _ _ _ _ h) (Or.inl ⟨by rfl, ?_⟩) ?_ ?_
    rotate_left
    · intro w'
      go_simp
      with_reducible rfl
    rotate_left
    · simp only [Act.put, List.setIfInBounds_toArray, List.set_cons_zero, List.set_cons_succ, i64_w, i32_w]
      rfl
    refine pure_ (i := 2) (N := some 96) (v := ?_) (a' := ?_) #[false, true, true, false, false, false, false, false, false, false] rfl rfl (by kernel_rfl) (fun _ _ _ h => hqp _ _ _ _ _ h) (Or.inl ⟨by rfl, ?_⟩) ?_ ?_
    rotate_left
    · intro w'
      go_simp
      with_reducible rfl
    rotate_left
    · simp only [Act.put, List.setIfInBounds_toArray, List.set_cons_zero, List.set_cons_succ, i64_w, i32_w]
      rfl
    refine pure_ (i := 4) (N := some 98) (v := ?_) (a' := ?_) #[false, true, true, false, true, false, false, false, false, false] rfl rfl (by kernel_rfl) (fun _ _ _ h => hqp _ _ _ _ _ h) (Or.inl ⟨by rfl, ?_⟩) ?_ ?_
    rotate_left
    · intro w'
      go_simp
      with_reducible rfl
    rotate_left
    · simp only [Act.put, List.setIfInBounds_toArray, List.set_cons_zero, List.set_cons_succ, i64_w, i32_w]
      rfl
    refine pure_ (i := 5) (N := some 99) (v := ?_) (a' := ?_) #[false, true, true, false, true, true, false, false, false, false] rfl rfl (by kernel_rfl) (fun _ _ _ h => hqp _ _ _ _ _ h) (Or.inl ⟨by rfl, ?_⟩) ?_ ?_
    rotate_left
    · intro w'
      go_simp
      with_reducible rfl
    rotate_left
    · simp only [Act.put, List.setIfInBounds_toArray, List.set_cons_zero, List.set_cons_succ, i64_w, i32_w]
      rfl
    refine take_ (i := 6) (N := some 100) (v := ?_) (a' := ?_) #[false, true, true, false, true, true, true, false, false, false] rfl rfl (by kernel_rfl) (fun _ _ _ h => hqp _ _ _ _ _ h) (Or.inl ⟨by rfl, ?_⟩) hHeld ?_ ?_
    rotate_left
    · intro w' hS_
      obtain s0_ := hS_
      go_simp
      with_reducible rfl
    rotate_left
    · simp only [Act.put, List.setIfInBounds_toArray, List.set_cons_zero, List.set_cons_succ, i64_w, i32_w]
      rfl
    refine join_ (σ := Value × Value × Value × Value) 0 #[true, true, true, true, true, true, true, true, true, true] (fun s_ => [(94, s_.1), (97, s_.2.1), (101, s_.2.2.1), (102, s_.2.2.2), (7, s_.2.2.2)]) (fun s_ w' => ∃ c' : Nat → Nat, (row 3 (Kd.int .i64)).M w' w.heap.size (fun k => c' k = 2) q2 (s_.2.2.2 : Value) ∧ fifo.M w' w.heap.size (fun k => c' k = 0) (room, q2) vf ∧ Below w.heap.size w w') ?_ ?_
    rotate_left
    · intro hCont
      refine two_ (i := 0) (j := 7) (Ni := some 94) (Nj := some 101) #[true, true, true, false, true, true, true, false, false, false] #[false, true, true, false, true, true, true, true, false, false] rfl rfl rfl rfl (by kernel_rfl) (by decide) (by decide) (fun K hK => ?_) (fun K hK => ?_)
      · skip
        refine lit_step (e := 3) (c := c4) (w0 := w) (Kd.int .i64) 2 ?hg (N := 94) ?hd ([] : List Int) [] ?hr ?hp ?hs (by simp) ?_
        (case hd => rfl)
        (case hg => rfl)
        (case hp => exact Reps.none _ _)
        (case hr => first | (go_simp; done) | (go_simp; rfl))
        (case hs => exact Below.size B20.out)
        intro v20x0 w20x0 c20x0 h20x0 t20x0
        have HN20x0 := Aside0.mk (show (row 3 (Kd.int .i64)).M w20x0 w.heap.size (fun k => c20x0 k = 2) ([] : List Int) v20x0 from h20x0)
        have HF20x0 := Aside0.mk (t20x0.keep _ (fifo) 0 _ _ (by decide) HF20.out)
        have HW20x0 := Aside0.mk (t20x0.keep _ (crow .i64) 1 _ _ (by decide) HW20.out)
        have B20x0 := Aside0.mk (t20x0.far B20.out)
        have hHeld := (show _ = some (Value.int IntKind.i64 (front q)) from crow_cell0 HW20x0.out hq)
        refine hK.out _ _ hHeld (fun hHeld => ?_)
        clear hK K
        refine norm_ (a' := ?_) ?_ ?_
        rotate_left
        · show Act.put _ (some 94) _ = _
          simp only [Act.put, List.setIfInBounds_toArray, List.set_cons_zero, List.set_cons_succ, i64_w, i32_w]
          rfl
        clear h20x0 t20x0
        refine two_ (i := 3) (j := 7) (Ni := some 97) (Nj := some 101) #[true, true, true, true, true, true, true, false, false, false] #[true, true, true, false, true, true, true, true, false, false] rfl rfl rfl rfl (by kernel_rfl) (by decide) (by decide) (fun K hK => ?_) (fun K hK => ?_)
        · skip
          refine app_step (e := 3) (c := c20x0) (w0 := w) (d := Kd.int .i64) (i := 2) (by rfl) (.tmp 94) (.tmp 96) 22 (.int .i64 0) 8 rfl Try.underlying22 info_int rfl (by decide) (by decide) (flat_int _) v20x0 (([] : List Int)) (q.drop 1) _ _ _ rfl rfl HN20x0.out (HC5.out _ (crow_le HW20x0.out) (crow_C HW20x0.out)) ?hs (by show (0 + _) * 8 ≤ _; omega) ?_
          (case hs => exact Below.size B20x0.out)
          intro v20x0x3 w20x0x3 c20x0x3 h20x0x3 t20x0x3
          have HN20x0x3 := Aside0.mk (show (row 3 (Kd.int .i64)).M w20x0x3 w.heap.size (fun k => c20x0x3 k = 2) (([] : List Int) ++ (q.drop 1)) v20x0x3 from h20x0x3)
          have HF20x0x3 := Aside0.mk (t20x0x3.keep _ (fifo) 0 _ _ (by decide) HF20x0.out)
          have HW20x0x3 := Aside0.mk (t20x0x3.keep _ (crow .i64) 1 _ _ (by decide) HW20x0.out)
          have B20x0x3 := Aside0.mk (t20x0x3.far B20x0.out)
          have hHeld := (show _ = some (Value.int IntKind.i64 (front q)) from crow_cell0 HW20x0x3.out hq)
          refine hK.out _ _ hHeld (fun hHeld => ?_)
          clear hK K
          refine norm_ (a' := ?_) ?_ ?_
          rotate_left
          · show Act.put _ (some 97) _ = _
            simp only [Act.put, List.setIfInBounds_toArray, List.set_cons_zero, List.set_cons_succ, i64_w, i32_w]
            rfl
          clear h20x0x3 t20x0x3
          refine one_ (i := 7) (N := some 101) #[true, true, true, true, true, true, true, true, false, false] rfl rfl (by kernel_rfl) (by decide) (fun K hK => ?_)
          refine lit_step (e := 3) (c := c20x0x3) (w0 := w) (Kd.int .i64) 3 ?hg (N := 101) ?hd ([front q] : List Int) [.int .i64 (front q)] ?hr ?hp ?hs (by simp) ?_
          (case hd => rfl)
          (case hg => rfl)
          (case hp => exact reps_nums .i64 _ _ _ [front q])
          (case hr => first | (go_simp; done) | (go_simp; rfl))
          (case hs => exact Below.size B20x0x3.out)
          intro v20x0x3x7 w20x0x3x7 c20x0x3x7 h20x0x3x7 t20x0x3x7
          have HM20x0x3x7 := Aside0.mk (show (row 3 (Kd.int .i64)).M w20x0x3x7 w.heap.size (fun k => c20x0x3x7 k = 3) ([front q] : List Int) v20x0x3x7 from h20x0x3x7)
          have HF20x0x3x7 := Aside0.mk (t20x0x3x7.keep _ (fifo) 0 _ _ (by decide) HF20x0x3.out)
          have HW20x0x3x7 := Aside0.mk (t20x0x3x7.keep _ (crow .i64) 1 _ _ (by decide) HW20x0x3.out)
          have HN20x0x3x7 := Aside0.mk (t20x0x3x7.keep _ (row 3 (Kd.int .i64)) 2 _ _ (by decide) HN20x0x3.out)
          have B20x0x3x7 := Aside0.mk (t20x0x3x7.far B20x0x3.out)
          obtain ⟨A20x0x3x7, k20x0x3x7, rfl, l20x0x3x7, g20x0x3x7⟩ := row_reads h20x0x3x7
          have hHeld := (show _ = some (Value.int IntKind.i64 (front q)) from crow_cell0 HW20x0x3x7.out hq)
          refine hK.out _ _ hHeld (fun hHeld => ?_)
          clear hK K
          refine norm_ (a' := ?_) ?_ ?_
          rotate_left
          · show Act.put _ (some 101) _ = _
            simp only [Act.put, List.setIfInBounds_toArray, List.set_cons_zero, List.set_cons_succ, i64_w, i32_w]
            rfl
          clear h20x0x3x7 t20x0x3x7
          refine one_ (i := 8) (N := some 102) #[true, true, true, true, true, true, true, true, true, false] rfl rfl (by kernel_rfl) (by decide) (fun K hK => ?_)
          refine app_step (e := 3) (c := c20x0x3x7) (w0 := w) (d := Kd.int .i64) (i := 2) (by rfl) (.tmp 97) (.tmp 101) 22 (.int .i64 0) 8 rfl Try.underlying22 info_int rfl (by decide) (by decide) (flat_int _) v20x0x3 ((([] : List Int) ++ (q.drop 1))) ([front q]) _ _ _ rfl rfl HN20x0x3x7.out (row_C HM20x0x3x7.out) ?hs (by rw [List.length_append, List.length_drop]; show ((0 + _) + 1) * 8 ≤ _; omega) ?_
          (case hs => exact Below.size B20x0x3x7.out)
          intro v20x0x3x7x8 w20x0x3x7x8 c20x0x3x7x8 h20x0x3x7x8 t20x0x3x7x8
          have HN20x0x3x7x8 := Aside0.mk (show (row 3 (Kd.int .i64)).M w20x0x3x7x8 w.heap.size (fun k => c20x0x3x7x8 k = 2) ((([] : List Int) ++ (q.drop 1)) ++ ([front q])) v20x0x3x7x8 from h20x0x3x7x8)
          have HF20x0x3x7x8 := Aside0.mk (t20x0x3x7x8.keep _ (fifo) 0 _ _ (by decide) HF20x0x3x7.out)
          have HW20x0x3x7x8 := Aside0.mk (t20x0x3x7x8.keep _ (crow .i64) 1 _ _ (by decide) HW20x0x3x7.out)
          have HM20x0x3x7x8 := Aside0.mk (t20x0x3x7x8.keep _ (row 3 (Kd.int .i64)) 3 _ _ (by decide) HM20x0x3x7.out)
          have B20x0x3x7x8 := Aside0.mk (t20x0x3x7x8.far B20x0x3x7.out)
          have hHeld := (show _ = some (Value.int IntKind.i64 (front q)) from crow_cell0 HW20x0x3x7x8.out hq)
          refine hK.out _ _ hHeld (fun hHeld => ?_)
          clear hK K
          refine norm_ (a' := ?_) ?_ ?_
          rotate_left
          · show Act.put _ (some 102) _ = _
            simp only [Act.put, List.setIfInBounds_toArray, List.set_cons_zero, List.set_cons_succ, i64_w, i32_w]
            rfl
          clear h20x0x3x7x8 t20x0x3x7x8
          refine pure_ (i := 9) (N := some 7) (v := ?_) (a' := ?_) #[true, true, true, true, true, true, true, true, true, true] rfl rfl (by kernel_rfl) (fun _ _ _ h => hqp _ _ _ _ _ h) (Or.inl ⟨by rfl, ?_⟩) ?_ ?_
          rotate_left
          · intro w'
            go_simp
            with_reducible rfl
          rotate_left
          · simp only [Act.put, List.setIfInBounds_toArray, List.set_cons_zero, List.set_cons_succ, i64_w, i32_w]
            rfl
          exact norm_ (by simp only [putAll, Act.put, List.setIfInBounds_toArray, List.set_cons_zero, List.set_cons_succ]) (hCont (v20x0, v20x0x3, (.slice A20x0x3x7 ([front q] : List Int).length k20x0x3x7), v20x0x3x7x8) _ ⟨c20x0x3x7x8, (by have h := HN20x0x3x7x8.out; rwa [HER.out] at h), HF20x0x3x7x8.out, B20x0x3x7x8.out⟩)
        · skip
          refine lit_step (e := 3) (c := c20x0) (w0 := w) (Kd.int .i64) 3 ?hg (N := 101) ?hd ([front q] : List Int) [.int .i64 (front q)] ?hr ?hp ?hs (by simp) ?_
          (case hd => rfl)
          (case hg => rfl)
          (case hp => exact reps_nums .i64 _ _ _ [front q])
          (case hr => first | (go_simp; done) | (go_simp; rfl))
          (case hs => exact Below.size B20x0.out)
          intro v20x0x7 w20x0x7 c20x0x7 h20x0x7 t20x0x7
          have HM20x0x7 := Aside0.mk (show (row 3 (Kd.int .i64)).M w20x0x7 w.heap.size (fun k => c20x0x7 k = 3) ([front q] : List Int) v20x0x7 from h20x0x7)
          have HF20x0x7 := Aside0.mk (t20x0x7.keep _ (fifo) 0 _ _ (by decide) HF20x0.out)
          have HW20x0x7 := Aside0.mk (t20x0x7.keep _ (crow .i64) 1 _ _ (by decide) HW20x0.out)
          have HN20x0x7 := Aside0.mk (t20x0x7.keep _ (row 3 (Kd.int .i64)) 2 _ _ (by decide) HN20x0.out)
          have B20x0x7 := Aside0.mk (t20x0x7.far B20x0.out)
          obtain ⟨A20x0x7, k20x0x7, rfl, l20x0x7, g20x0x7⟩ := row_reads h20x0x7
          have hHeld := (show _ = some (Value.int IntKind.i64 (front q)) from crow_cell0 HW20x0x7.out hq)
          refine hK.out _ _ hHeld (fun hHeld => ?_)
          clear hK K
          refine norm_ (a' := ?_) ?_ ?_
          rotate_left
          · show Act.put _ (some 101) _ = _
            simp only [Act.put, List.setIfInBounds_toArray, List.set_cons_zero, List.set_cons_succ, i64_w, i32_w]
            rfl
          clear h20x0x7 t20x0x7
          refine one_ (i := 3) (N := some 97) #[true, true, true, true, true, true, true, true, false, false] rfl rfl (by kernel_rfl) (by decide) (fun K hK => ?_)
          refine app_step (e := 3) (c := c20x0x7) (w0 := w) (d := Kd.int .i64) (i := 2) (by rfl) (.tmp 94) (.tmp 96) 22 (.int .i64 0) 8 rfl Try.underlying22 info_int rfl (by decide) (by decide) (flat_int _) v20x0 (([] : List Int)) (q.drop 1) _ _ _ rfl rfl HN20x0x7.out (HC5.out _ (crow_le HW20x0x7.out) (crow_C HW20x0x7.out)) ?hs (by show (0 + _) * 8 ≤ _; omega) ?_
          (case hs => exact Below.size B20x0x7.out)
          intro v20x0x7x3 w20x0x7x3 c20x0x7x3 h20x0x7x3 t20x0x7x3
          have HN20x0x7x3 := Aside0.mk (show (row 3 (Kd.int .i64)).M w20x0x7x3 w.heap.size (fun k => c20x0x7x3 k = 2) (([] : List Int) ++ (q.drop 1)) v20x0x7x3 from h20x0x7x3)
          have HF20x0x7x3 := Aside0.mk (t20x0x7x3.keep _ (fifo) 0 _ _ (by decide) HF20x0x7.out)
          have HW20x0x7x3 := Aside0.mk (t20x0x7x3.keep _ (crow .i64) 1 _ _ (by decide) HW20x0x7.out)
          have HM20x0x7x3 := Aside0.mk (t20x0x7x3.keep _ (row 3 (Kd.int .i64)) 3 _ _ (by decide) HM20x0x7.out)
          have B20x0x7x3 := Aside0.mk (t20x0x7x3.far B20x0x7.out)
          have hHeld := (show _ = some (Value.int IntKind.i64 (front q)) from crow_cell0 HW20x0x7x3.out hq)
          refine hK.out _ _ hHeld (fun hHeld => ?_)
          clear hK K
          refine norm_ (a' := ?_) ?_ ?_
          rotate_left
          · show Act.put _ (some 97) _ = _
            simp only [Act.put, List.setIfInBounds_toArray, List.set_cons_zero, List.set_cons_succ, i64_w, i32_w]
            rfl
          clear h20x0x7x3 t20x0x7x3
          refine one_ (i := 8) (N := some 102) #[true, true, true, true, true, true, true, true, true, false] rfl rfl (by kernel_rfl) (by decide) (fun K hK => ?_)
          refine app_step (e := 3) (c := c20x0x7x3) (w0 := w) (d := Kd.int .i64) (i := 2) (by rfl) (.tmp 97) (.tmp 101) 22 (.int .i64 0) 8 rfl Try.underlying22 info_int rfl (by decide) (by decide) (flat_int _) v20x0x7x3 ((([] : List Int) ++ (q.drop 1))) ([front q]) _ _ _ rfl rfl HN20x0x7x3.out (row_C HM20x0x7x3.out) ?hs (by rw [List.length_append, List.length_drop]; show ((0 + _) + 1) * 8 ≤ _; omega) ?_
          (case hs => exact Below.size B20x0x7x3.out)
          intro v20x0x7x3x8 w20x0x7x3x8 c20x0x7x3x8 h20x0x7x3x8 t20x0x7x3x8
          have HN20x0x7x3x8 := Aside0.mk (show (row 3 (Kd.int .i64)).M w20x0x7x3x8 w.heap.size (fun k => c20x0x7x3x8 k = 2) ((([] : List Int) ++ (q.drop 1)) ++ ([front q])) v20x0x7x3x8 from h20x0x7x3x8)
          have HF20x0x7x3x8 := Aside0.mk (t20x0x7x3x8.keep _ (fifo) 0 _ _ (by decide) HF20x0x7x3.out)
          have HW20x0x7x3x8 := Aside0.mk (t20x0x7x3x8.keep _ (crow .i64) 1 _ _ (by decide) HW20x0x7x3.out)
          have HM20x0x7x3x8 := Aside0.mk (t20x0x7x3x8.keep _ (row 3 (Kd.int .i64)) 3 _ _ (by decide) HM20x0x7x3.out)
          have B20x0x7x3x8 := Aside0.mk (t20x0x7x3x8.far B20x0x7x3.out)
          have hHeld := (show _ = some (Value.int IntKind.i64 (front q)) from crow_cell0 HW20x0x7x3x8.out hq)
          refine hK.out _ _ hHeld (fun hHeld => ?_)
          clear hK K
          refine norm_ (a' := ?_) ?_ ?_
          rotate_left
          · show Act.put _ (some 102) _ = _
            simp only [Act.put, List.setIfInBounds_toArray, List.set_cons_zero, List.set_cons_succ, i64_w, i32_w]
            rfl
          clear h20x0x7x3x8 t20x0x7x3x8
          refine pure_ (i := 9) (N := some 7) (v := ?_) (a' := ?_) #[true, true, true, true, true, true, true, true, true, true] rfl rfl (by kernel_rfl) (fun _ _ _ h => hqp _ _ _ _ _ h) (Or.inl ⟨by rfl, ?_⟩) ?_ ?_
          rotate_left
          · intro w'
            go_simp
            with_reducible rfl
          rotate_left
          · simp only [Act.put, List.setIfInBounds_toArray, List.set_cons_zero, List.set_cons_succ, i64_w, i32_w]
            rfl
          exact norm_ (by simp only [putAll, Act.put, List.setIfInBounds_toArray, List.set_cons_zero, List.set_cons_succ]) (hCont (v20x0, v20x0x7x3, (.slice A20x0x7 ([front q] : List Int).length k20x0x7), v20x0x7x3x8) _ ⟨c20x0x7x3x8, (by have h := HN20x0x7x3x8.out; rwa [HER.out] at h), HF20x0x7x3x8.out, B20x0x7x3x8.out⟩)
      · skip
        refine lit_step (e := 3) (c := c4) (w0 := w) (Kd.int .i64) 3 ?hg (N := 101) ?hd ([front q] : List Int) [.int .i64 (front q)] ?hr ?hp ?hs (by simp) ?_
        (case hd => rfl)
        (case hg => rfl)
        (case hp => exact reps_nums .i64 _ _ _ [front q])
        (case hr => first | (go_simp; done) | (go_simp; rfl))
        (case hs => exact Below.size B20.out)
        intro v20x7 w20x7 c20x7 h20x7 t20x7
        have HM20x7 := Aside0.mk (show (row 3 (Kd.int .i64)).M w20x7 w.heap.size (fun k => c20x7 k = 3) ([front q] : List Int) v20x7 from h20x7)
        have HF20x7 := Aside0.mk (t20x7.keep _ (fifo) 0 _ _ (by decide) HF20.out)
        have HW20x7 := Aside0.mk (t20x7.keep _ (crow .i64) 1 _ _ (by decide) HW20.out)
        have B20x7 := Aside0.mk (t20x7.far B20.out)
        obtain ⟨A20x7, k20x7, rfl, l20x7, g20x7⟩ := row_reads h20x7
        have hHeld := (show _ = some (Value.int IntKind.i64 (front q)) from crow_cell0 HW20x7.out hq)
        refine hK.out _ _ hHeld (fun hHeld => ?_)
        clear hK K
        refine norm_ (a' := ?_) ?_ ?_
        rotate_left
        · show Act.put _ (some 101) _ = _
          simp only [Act.put, List.setIfInBounds_toArray, List.set_cons_zero, List.set_cons_succ, i64_w, i32_w]
          rfl
        clear h20x7 t20x7
        refine one_ (i := 0) (N := some 94) #[true, true, true, false, true, true, true, true, false, false] rfl rfl (by kernel_rfl) (by decide) (fun K hK => ?_)
        refine lit_step (e := 3) (c := c20x7) (w0 := w) (Kd.int .i64) 2 ?hg (N := 94) ?hd ([] : List Int) [] ?hr ?hp ?hs (by simp) ?_
        (case hd => rfl)
        (case hg => rfl)
        (case hp => exact Reps.none _ _)
        (case hr => first | (go_simp; done) | (go_simp; rfl))
        (case hs => exact Below.size B20x7.out)
        intro v20x7x0 w20x7x0 c20x7x0 h20x7x0 t20x7x0
        have HN20x7x0 := Aside0.mk (show (row 3 (Kd.int .i64)).M w20x7x0 w.heap.size (fun k => c20x7x0 k = 2) ([] : List Int) v20x7x0 from h20x7x0)
        have HF20x7x0 := Aside0.mk (t20x7x0.keep _ (fifo) 0 _ _ (by decide) HF20x7.out)
        have HW20x7x0 := Aside0.mk (t20x7x0.keep _ (crow .i64) 1 _ _ (by decide) HW20x7.out)
        have HM20x7x0 := Aside0.mk (t20x7x0.keep _ (row 3 (Kd.int .i64)) 3 _ _ (by decide) HM20x7.out)
        have B20x7x0 := Aside0.mk (t20x7x0.far B20x7.out)
        have hHeld := (show _ = some (Value.int IntKind.i64 (front q)) from crow_cell0 HW20x7x0.out hq)
        refine hK.out _ _ hHeld (fun hHeld => ?_)
        clear hK K
        refine norm_ (a' := ?_) ?_ ?_
        rotate_left
        · show Act.put _ (some 94) _ = _
          simp only [Act.put, List.setIfInBounds_toArray, List.set_cons_zero, List.set_cons_succ, i64_w, i32_w]
          rfl
        clear h20x7x0 t20x7x0
        refine one_ (i := 3) (N := some 97) #[true, true, true, true, true, true, true, true, false, false] rfl rfl (by kernel_rfl) (by decide) (fun K hK => ?_)
        refine app_step (e := 3) (c := c20x7x0) (w0 := w) (d := Kd.int .i64) (i := 2) (by rfl) (.tmp 94) (.tmp 96) 22 (.int .i64 0) 8 rfl Try.underlying22 info_int rfl (by decide) (by decide) (flat_int _) v20x7x0 (([] : List Int)) (q.drop 1) _ _ _ rfl rfl HN20x7x0.out (HC5.out _ (crow_le HW20x7x0.out) (crow_C HW20x7x0.out)) ?hs (by show (0 + _) * 8 ≤ _; omega) ?_
        (case hs => exact Below.size B20x7x0.out)
        intro v20x7x0x3 w20x7x0x3 c20x7x0x3 h20x7x0x3 t20x7x0x3
        have HN20x7x0x3 := Aside0.mk (show (row 3 (Kd.int .i64)).M w20x7x0x3 w.heap.size (fun k => c20x7x0x3 k = 2) (([] : List Int) ++ (q.drop 1)) v20x7x0x3 from h20x7x0x3)
        have HF20x7x0x3 := Aside0.mk (t20x7x0x3.keep _ (fifo) 0 _ _ (by decide) HF20x7x0.out)
        have HW20x7x0x3 := Aside0.mk (t20x7x0x3.keep _ (crow .i64) 1 _ _ (by decide) HW20x7x0.out)
        have HM20x7x0x3 := Aside0.mk (t20x7x0x3.keep _ (row 3 (Kd.int .i64)) 3 _ _ (by decide) HM20x7x0.out)
        have B20x7x0x3 := Aside0.mk (t20x7x0x3.far B20x7x0.out)
        have hHeld := (show _ = some (Value.int IntKind.i64 (front q)) from crow_cell0 HW20x7x0x3.out hq)
        refine hK.out _ _ hHeld (fun hHeld => ?_)
        clear hK K
        refine norm_ (a' := ?_) ?_ ?_
        rotate_left
        · show Act.put _ (some 97) _ = _
          simp only [Act.put, List.setIfInBounds_toArray, List.set_cons_zero, List.set_cons_succ, i64_w, i32_w]
          rfl
        clear h20x7x0x3 t20x7x0x3
        refine one_ (i := 8) (N := some 102) #[true, true, true, true, true, true, true, true, true, false] rfl rfl (by kernel_rfl) (by decide) (fun K hK => ?_)
        refine app_step (e := 3) (c := c20x7x0x3) (w0 := w) (d := Kd.int .i64) (i := 2) (by rfl) (.tmp 97) (.tmp 101) 22 (.int .i64 0) 8 rfl Try.underlying22 info_int rfl (by decide) (by decide) (flat_int _) v20x7x0x3 ((([] : List Int) ++ (q.drop 1))) ([front q]) _ _ _ rfl rfl HN20x7x0x3.out (row_C HM20x7x0x3.out) ?hs (by rw [List.length_append, List.length_drop]; show ((0 + _) + 1) * 8 ≤ _; omega) ?_
        (case hs => exact Below.size B20x7x0x3.out)
        intro v20x7x0x3x8 w20x7x0x3x8 c20x7x0x3x8 h20x7x0x3x8 t20x7x0x3x8
        have HN20x7x0x3x8 := Aside0.mk (show (row 3 (Kd.int .i64)).M w20x7x0x3x8 w.heap.size (fun k => c20x7x0x3x8 k = 2) ((([] : List Int) ++ (q.drop 1)) ++ ([front q])) v20x7x0x3x8 from h20x7x0x3x8)
        have HF20x7x0x3x8 := Aside0.mk (t20x7x0x3x8.keep _ (fifo) 0 _ _ (by decide) HF20x7x0x3.out)
        have HW20x7x0x3x8 := Aside0.mk (t20x7x0x3x8.keep _ (crow .i64) 1 _ _ (by decide) HW20x7x0x3.out)
        have HM20x7x0x3x8 := Aside0.mk (t20x7x0x3x8.keep _ (row 3 (Kd.int .i64)) 3 _ _ (by decide) HM20x7x0x3.out)
        have B20x7x0x3x8 := Aside0.mk (t20x7x0x3x8.far B20x7x0x3.out)
        have hHeld := (show _ = some (Value.int IntKind.i64 (front q)) from crow_cell0 HW20x7x0x3x8.out hq)
        refine hK.out _ _ hHeld (fun hHeld => ?_)
        clear hK K
        refine norm_ (a' := ?_) ?_ ?_
        rotate_left
        · show Act.put _ (some 102) _ = _
          simp only [Act.put, List.setIfInBounds_toArray, List.set_cons_zero, List.set_cons_succ, i64_w, i32_w]
          rfl
        clear h20x7x0x3x8 t20x7x0x3x8
        refine pure_ (i := 9) (N := some 7) (v := ?_) (a' := ?_) #[true, true, true, true, true, true, true, true, true, true] rfl rfl (by kernel_rfl) (fun _ _ _ h => hqp _ _ _ _ _ h) (Or.inl ⟨by rfl, ?_⟩) ?_ ?_
        rotate_left
        · intro w'
          go_simp
          with_reducible rfl
        rotate_left
        · simp only [Act.put, List.setIfInBounds_toArray, List.set_cons_zero, List.set_cons_succ, i64_w, i32_w]
          rfl
        exact norm_ (by simp only [putAll, Act.put, List.setIfInBounds_toArray, List.set_cons_zero, List.set_cons_succ]) (hCont (v20x7x0, v20x7x0x3, (.slice A20x7 ([front q] : List Int).length k20x7), v20x7x0x3x8) _ ⟨c20x7x0x3x8, (by have h := HN20x7x0x3x8.out; rwa [HER.out] at h), HF20x7x0x3x8.out, B20x7x0x3x8.out⟩)
    rintro s_ w21 ⟨c21, hN, hF, hB⟩
    have HN21 := Aside0.mk hN
    have HF21 := Aside0.mk hF
    have HB21 := Aside0.mk hB
    clear hN hF hB
    refine done_ (by kernel_rfl) ?_
    simp only [putAll, Act.put, List.setIfInBounds_toArray, List.set_cons_zero, List.set_cons_succ]
    go_wp2
    refine Met.intro ?_
    go_step
    unfold SwR
    refine ⟨_, _, _, _, _, _, _, _, _, _, _, _, _, _, _, _, _, _, _, _, _, _, _, _, _, _, _, _, _, _, _, _, _, _, _, _, _, _, _, _, _, _, _, _, _, _, _, _, _, _, _, _, _, _, _, _, _, _, _, _, _, _, _, _, _, _, _, _, _, _, _, _, _, _, _, _, _, _, _, _, _, _, _, _, _, _, _, _, _, ?_, rfl⟩
    exact ⟨(fun k => if c21 k = 2 then 1 else if c21 k = 0 then 0 else 5), q2, recol fifo (c' := (fun k => if c21 k = 2 then 1 else if c21 k = 0 then 0 else 5)) HF21.out (fun k hk => by simp only [hk]; rfl), crow_of_R (show (Kd.int .i64).R 3 _ w.heap.size (fun k => (fun k => if c21 k = 2 then 1 else if c21 k = 0 then 0 else 5) k = 1) _ _ from recol (row 3 (Kd.int .i64)) (c' := (fun k => if c21 k = 2 then 1 else if c21 k = 0 then 0 else 5)) HN21.out (fun k hk => by simp only [hk]; rfl)), HB21.out⟩
  · have hs : decide (0 < q.length) = false := decide_eq_false hq
    have HS := Aside0.mk (show some_ q = false from hs)
    have HTL := Aside0.mk (show rot q = q from by rw [List.length_eq_zero_iff.1 (show q.length = 0 by omega)]; rfl)
    go_wp2_with (first | (go_at_call 10; (with_reducible refine (turnC HF3.out).mono ?_); rintro e w4 ⟨rfl, c4, h4, t4⟩; rw [HS.out]; rw [HTL.out] at h4; have HF4 := Aside0.mk (show (fifo).M w4 w.heap.size (fun k => c4 k = 0) (room, q) vf from h4); have HW4 := Aside0.mk (t4.keep _ (crow .i64) 1 _ _ (by decide) HW3.out); have B4 := Aside0.mk (t4.far HB3.out); clear h4 t4))
    refine Met.intro ?_
    go_step
    unfold SwR
    refine ⟨_, _, _, _, _, _, _, _, _, _, _, _, _, _, _, _, _, _, _, _, _, _, _, _, _, _, _, _, _, _, _, _, _, _, _, _, _, _, _, _, _, _, _, _, _, _, _, _, _, _, _, _, _, _, _, _, _, _, _, _, _, _, _, _, _, _, _, _, _, _, _, _, _, _, _, _, _, _, _, _, _, _, _, _, _, _, _, _, _, ?_, rfl⟩
    exact ⟨c4, q, HF4.out, HW4.out, B4.out⟩
set_option maxHeartbeats 4000000 in
set_option maxRecDepth 100000 in
theorem plays_walk (most : Int) (_ : (Lit.int .i64 most).wf = true) (A : Option Addr) (cap : Nat) (l : List (Int × Int)) {good : Int × Int → Prop} {w : World} (hr : (Kd.pair (Kd.int .i64) (Kd.int .i64)).C w A l.length l) (hc : l.length ≤ cap) (hg : ∀ a ∈ l, good a) (_ : World) :
    Calls Try.prog 6 #[.int .i64 most, .slice A l.length cap] w fun e w' => e = .returned (.bool true) ∧ Below w.heap.size w w' := by
  have HC := Aside0.mk hr
  clear hr hg
  by_cases hl : l.length ≤ 300
  · have d1 : decide (300 < l.length) = false := decide_eq_false (by omega)
    go_enter Try.func6, Try.ntmps6
    go_upto_if 25 with (first | (go_at_call 7; (with_reducible refine (awake_calls _).mono ?_); rintro e w1 ⟨rfl, hb1⟩; have HB1 := Aside0.mk hb1; clear hb1) | (go_at_call 8; (with_reducible refine (newC (w0 := w) (fun _ => 9) 0 most HB1.out).mono ?_); rintro e w2 ⟨g2, rfl, c2, h2, t2⟩; have H2 := Aside0.mk h2; have HB2 := Aside0.mk (t2.far HB1.out); clear h2 t2))
    generalize hvf : (Value.pointer (some ⟨g2, 0, none⟩)) = vf at H2 ⊢
    go_cut [6] (fun v6 wc => wc = w2 ∧ v6 = .int .i64 (if most < 1 then 1 else most))
    case first =>
      by_cases hm : most < 1
      · go_wp2
        go_meet
        exact ⟨rfl, by rw [if_pos hm]⟩
      · go_wp2
        go_meet
        exact ⟨rfl, by rw [if_neg (by omega)]⟩
    case rest =>
      obtain ⟨rfl, rfl⟩ := hcut
      obtain ⟨r1, hr1⟩ : ∃ r : Int, (if most < 1 then 1 else most) = r := ⟨_, rfl⟩
      have HR1 := Aside0.mk hr1
      rw [hr1]
      clear hr1
      go_upto_if 27 with (fail)
      go_cut [6] (fun v6 wx => wx = wc ∧ v6 = .int .i64 (if 256 < r1 then 256 else r1))
      case first =>
        by_cases hm : 256 < r1
        · go_wp2
          go_meet
          exact ⟨rfl, by rw [if_pos hm]⟩
        · go_wp2
          go_meet
          exact ⟨rfl, by rw [if_neg (by omega)]⟩
      case rest =>
        obtain ⟨rfl, rfl⟩ := hcut
        have hroom : (if 256 < r1 then 256 else r1) = clamp most := by rw [← HR1.out]; rfl
        rw [hroom]
        clear hroom HR1
        generalize clamp most = room at H2 ⊢
        go_wp2
        go_loopw [7, 8] (fun vw i wr => RelP w l.length room vf vw i wr) (fun _ i _ => l.length - (intOf i).toNat)
        case atStart => exact ⟨0, c2, [], Nat.zero_le _, rfl, H2.out, crow_nil _ _ _ _, HB2.out⟩
        case round =>
          obtain ⟨j, c, q, hj, rfl, hF, hW, hB⟩ := hrel
          have HF := Aside0.mk hF
          have HB := Aside0.mk hB
          have HL := Aside0.mk (fifo_len hF)
          clear H2 HB1 HB2 hB
          by_cases hlt : j < l.length
          · obtain ⟨ad, hA, hcell, hcell2⟩ := read_pair (Kd.C_below HC.out HB.out) hlt
            subst hA
            have HXC := Aside0.mk (show ∀ w' : World, Below w.heap.size w w' → w'.cell? (ad.add (j * 2)) = some (.int .i64 (l.getD j (0, 0)).1) from fun w' hb => by obtain ⟨ad', h1, h2, _⟩ := read_pair (Kd.C_below HC.out hb) hlt; cases h1; exact h2)
            generalize l.getD j (0, 0) = x at hcell hcell2 HXC
            obtain ⟨A1, k1, rfl, hk1, hC1⟩ := crow_reads hW
            have HW := Aside0.mk hW
            have HC1 := Aside0.mk hC1
            have HK1 := Aside0.mk hk1
            clear hF hW hC1 hk1
            have hq256 := HL.out.2
            go_wp2
            go_loop [10, 11] (fun a k => ∃ n : Nat, n ≤ q.length ∧ k = .int .i64 ((n : Int) - 1) ∧ a = .int .i64 (lastAt q x.2 n)) (fun _ k => (intOf k + 1).toNat)
            case atStart => exact ⟨q.length, Nat.le_refl _, rfl, by rw [last_end]⟩
            case round =>
              obtain ⟨n, hn, rfl, rfl⟩ := hrel
              by_cases hn0 : n = 0
              · subst hn0
                rw [last_zero]
                clear hn
                obtain ⟨p, hp⟩ : ∃ p : Int, placeOf q x.2 = p := ⟨_, rfl⟩
                have HP := Aside0.mk hp
                rw [hp]
                clear hp
                have hpp : (p != p) = false := by simp
                go_upto_region 23 with ((go_at_call 17; (with_reducible refine (front_calls HF.out).mono ?_); rintro e wz ⟨rfl, rfl⟩))
                go_cut [13, 79] (fun v13 v wc => v = .bool false ∧ fifo.M wc w.heap.size (fun k => c k = 0) (room, q) vf ∧ (crow .i64).M wc w.heap.size (fun k => c k = 1) q (.slice A1 q.length k1) ∧ Below w.heap.size w wc)
                case first =>
                  by_cases hq : 0 < q.length
                  · have hs : decide (0 < q.length) = true := decide_eq_true hq
                    rw [show some_ q = true from hs]
                    obtain ⟨a0, ha0, _⟩ := Mine.read_at HC1.out hq
                    subst ha0
                    have hc0 : wz.cell? a0 = some (.int .i64 (front q)) := crow_cell0 HW.out hq
                    have hyy : (front q != front q) = false := by simp
                    go_wp2_with (first | (go_at_call 13; (with_reducible refine (place_calls x.2 HF.out).mono ?_); rintro e w3 ⟨rfl, nd3, hw3⟩; rw [HP.out]; have HF3 := Aside0.mk (St.drewN (s := fifo) HF.out nd3); have HW3 := Aside0.mk (St.drewN (s := crow .i64) HW.out nd3); have B3 := Aside0.mk (pw_below_drewN HB.out nd3); rw [← hw3] at HF3 HW3 B3; clear hw3))
                    go_meet
                    exact ⟨rfl, HF3.out, HW3.out, B3.out⟩
                  · have hs : decide (0 < q.length) = false := decide_eq_false hq
                    rw [show some_ q = false from hs]
                    go_wp2_with (first | (go_at_call 13; (with_reducible refine (place_calls x.2 HF.out).mono ?_); rintro e w3 ⟨rfl, nd3, hw3⟩; rw [HP.out]; have HF3 := Aside0.mk (St.drewN (s := fifo) HF.out nd3); have HW3 := Aside0.mk (St.drewN (s := crow .i64) HW.out nd3); have B3 := Aside0.mk (pw_below_drewN HB.out nd3); rw [← hw3] at HF3 HW3 B3; clear hw3))
                    go_meet
                    exact ⟨rfl, HF3.out, HW3.out, B3.out⟩
                case rest =>
                  obtain ⟨rfl, hF3, hW3, hB3⟩ := hcut
                  have HF3 := Aside0.mk hF3
                  have HW3 := Aside0.mk hW3
                  have HB3 := Aside0.mk hB3
                  have hc3 := HXC.out _ hB3
                  clear hF3 hW3 hB3 HF HW HB hpp
                  go_upto_block 4 with fail
                  refine switch_piece HF3.out HW3.out HB3.out HL.out HK1.out HP.out _ _ ?hk ?hq
                  case hq => exact fun _ _ _ _ _ h => h
                  intro a' wd hR_
                  obtain ⟨x4, hR_⟩ := hR_
                  obtain ⟨x7, hR_⟩ := hR_
                  obtain ⟨x14, hR_⟩ := hR_
                  obtain ⟨x15, hR_⟩ := hR_
                  obtain ⟨x85, hR_⟩ := hR_
                  obtain ⟨x86, hR_⟩ := hR_
                  obtain ⟨x87, hR_⟩ := hR_
                  obtain ⟨x88, hR_⟩ := hR_
                  obtain ⟨x89, hR_⟩ := hR_
                  obtain ⟨x90, hR_⟩ := hR_
                  obtain ⟨x91, hR_⟩ := hR_
                  obtain ⟨x92, hR_⟩ := hR_
                  obtain ⟨x93, hR_⟩ := hR_
                  obtain ⟨x94, hR_⟩ := hR_
                  obtain ⟨x95, hR_⟩ := hR_
                  obtain ⟨x96, hR_⟩ := hR_
                  obtain ⟨x97, hR_⟩ := hR_
                  obtain ⟨x98, hR_⟩ := hR_
                  obtain ⟨x99, hR_⟩ := hR_
                  obtain ⟨x100, hR_⟩ := hR_
                  obtain ⟨x101, hR_⟩ := hR_
                  obtain ⟨x102, hR_⟩ := hR_
                  obtain ⟨x103, hR_⟩ := hR_
                  obtain ⟨x104, hR_⟩ := hR_
                  obtain ⟨x105, hR_⟩ := hR_
                  obtain ⟨x106, hR_⟩ := hR_
                  obtain ⟨x107, hR_⟩ := hR_
                  obtain ⟨x108, hR_⟩ := hR_
                  obtain ⟨x109, hR_⟩ := hR_
                  obtain ⟨x110, hR_⟩ := hR_
                  obtain ⟨x111, hR_⟩ := hR_
                  obtain ⟨x112, hR_⟩ := hR_
                  obtain ⟨x113, hR_⟩ := hR_
                  obtain ⟨x114, hR_⟩ := hR_
                  obtain ⟨x115, hR_⟩ := hR_
                  obtain ⟨x116, hR_⟩ := hR_
                  obtain ⟨x117, hR_⟩ := hR_
                  obtain ⟨x118, hR_⟩ := hR_
                  obtain ⟨x119, hR_⟩ := hR_
                  obtain ⟨x120, hR_⟩ := hR_
                  obtain ⟨x121, hR_⟩ := hR_
                  obtain ⟨x122, hR_⟩ := hR_
                  obtain ⟨x123, hR_⟩ := hR_
                  obtain ⟨x124, hR_⟩ := hR_
                  obtain ⟨x125, hR_⟩ := hR_
                  obtain ⟨x126, hR_⟩ := hR_
                  obtain ⟨x127, hR_⟩ := hR_
                  obtain ⟨x128, hR_⟩ := hR_
                  obtain ⟨x129, hR_⟩ := hR_
                  obtain ⟨x130, hR_⟩ := hR_
                  obtain ⟨x131, hR_⟩ := hR_
                  obtain ⟨x132, hR_⟩ := hR_
                  obtain ⟨x133, hR_⟩ := hR_
                  obtain ⟨x134, hR_⟩ := hR_
                  obtain ⟨x135, hR_⟩ := hR_
                  obtain ⟨x136, hR_⟩ := hR_
                  obtain ⟨x137, hR_⟩ := hR_
                  obtain ⟨x138, hR_⟩ := hR_
                  obtain ⟨x139, hR_⟩ := hR_
                  obtain ⟨x140, hR_⟩ := hR_
                  obtain ⟨x141, hR_⟩ := hR_
                  obtain ⟨x142, hR_⟩ := hR_
                  obtain ⟨x143, hR_⟩ := hR_
                  obtain ⟨x144, hR_⟩ := hR_
                  obtain ⟨x145, hR_⟩ := hR_
                  obtain ⟨x146, hR_⟩ := hR_
                  obtain ⟨x147, hR_⟩ := hR_
                  obtain ⟨x148, hR_⟩ := hR_
                  obtain ⟨x149, hR_⟩ := hR_
                  obtain ⟨x150, hR_⟩ := hR_
                  obtain ⟨x151, hR_⟩ := hR_
                  obtain ⟨x152, hR_⟩ := hR_
                  obtain ⟨x153, hR_⟩ := hR_
                  obtain ⟨x154, hR_⟩ := hR_
                  obtain ⟨x155, hR_⟩ := hR_
                  obtain ⟨x156, hR_⟩ := hR_
                  obtain ⟨x157, hR_⟩ := hR_
                  obtain ⟨x158, hR_⟩ := hR_
                  obtain ⟨x159, hR_⟩ := hR_
                  obtain ⟨x160, hR_⟩ := hR_
                  obtain ⟨x161, hR_⟩ := hR_
                  obtain ⟨x162, hR_⟩ := hR_
                  obtain ⟨x163, hR_⟩ := hR_
                  obtain ⟨x164, hR_⟩ := hR_
                  obtain ⟨x165, hR_⟩ := hR_
                  obtain ⟨x166, hR_⟩ := hR_
                  obtain ⟨x167, hR_⟩ := hR_
                  obtain ⟨x168, hR_⟩ := hR_
                  obtain ⟨x169, hR_⟩ := hR_
                  obtain ⟨hcut, ha_⟩ := hR_
                  subst ha_
                  obtain ⟨c', q', hF5, hW5, hB5⟩ := hcut
                  obtain ⟨A5, k5, rfl, hk5, hC5⟩ := crow_reads hW5
                  have hq5 := (fifo_len hF5).2
                  have HI := Aside0.mk (show beadlelaw6_ints.f (q'.length + 1) q' q' = some true from by have := ints_f q' q' (by omega) (by omega); rwa [decide_eq_true rfl] at this)
                  have HF5 := Aside0.mk hF5
                  have HW5 := Aside0.mk hW5
                  have HB5 := Aside0.mk hB5
                  have hne : ((q'.length : Int) != (q'.length : Int)) = false := by simp
                  clear hF5 hW5 hB5 hC5 hk5
                  go_wp2_with (first | (go_at_call 12; (with_reducible refine (len_calls HF5.out).mono ?_); rintro e wz ⟨rfl, rfl⟩) | (go_at_call 16; (with_reducible refine (all_calls HF5.out).mono ?_); rintro e w30 ⟨v30, rfl, hR30, hb30⟩; obtain ⟨A30, k30, rfl⟩ := Kd.R_slice hR30; have HF30 := Aside0.mk (St.below (s := fifo) HF5.out hb30); have HW30 := Aside0.mk (St.below (s := crow .i64) HW5.out hb30); have B30 := Aside0.mk (Below.trans HB5.out (Below.mono hb30 (Below.size HB5.out))); have HR30 := Aside0.mk (Kd.R_reads' hR30); clear hR30 hb30) | (go_at_call 15; (with_reducible refine (beadlelaw6_ints.calls (q'.length + 1) A30 k30 q' _ _ q' true _ HR30.out.2.2 HR30.out.2.1 (crow_C HW30.out) (crow_le HW30.out) HI.out).mono ?_); rintro e w30b ⟨rfl, ⟨nd30b, hw30b⟩⟩; have HF30b := Aside0.mk (St.drewN (s := fifo) HF30.out nd30b); have HW30b := Aside0.mk (St.drewN (s := crow .i64) HW30.out nd30b); have B30b := Aside0.mk (pw_below_drewN B30.out nd30b); rw [← hw30b] at HF30b HW30b B30b; clear hw30b))
                  go_roundw
                  case rel => exact ⟨j + 1, c', q', by omega, by go_num, HF30b.out, HW30b.out, B30b.out⟩
                  case measure => simp [intOf] <;> omega
              · obtain ⟨m, rfl⟩ : ∃ m, n = m + 1 := ⟨n - 1, by omega⟩
                obtain ⟨a0, ha0, hc0⟩ := Mine.read_at HC1.out (show m < q.length by omega)
                subst ha0
                have e0 : (((m + 1 : Nat) : Int) - 1) = (m : Int) := by omega
                have HN := Aside0.mk hn
                rw [e0]
                clear e0
                have g0 : (m : Int) < (q.length : Int) := by omega
                by_cases hv : q.getD m 0 = x.2
                · have HV := Aside0.mk (last_hit (show m < q.length by omega) hv)
                  rw [hv] at hc0
                  clear hv
                  have hxx : (x.2 == x.2) = true := by simp
                  go_wp2
                  go_round
                  case rel => exact ⟨m, by have := HN.out; omega, by go_num, by rw [HV.out]⟩
                  case measure => simp [intOf] <;> omega
                · have HV := Aside0.mk (last_miss (show m < q.length by omega) hv)
                  have hv2 : (q.getD m 0 == x.2) = false := beq_eq_false_iff_ne.mpr hv
                  generalize q.getD m 0 = z at hc0 hv2
                  clear hv
                  go_wp2
                  go_round
                  case rel => exact ⟨m, by have := HN.out; omega, by go_num, by rw [HV.out]⟩
                  case measure => simp [intOf] <;> omega
          · go_wp2
            go_ret
            exact ⟨rfl, HB.out⟩
  · have d1 : decide (300 < l.length) = true := decide_eq_true (by omega)
    go_enter Try.func6, Try.ntmps6
    go_wp2_with (first | (go_at_call 7; (with_reducible refine (awake_calls _).mono ?_); rintro e w1 ⟨rfl, hb1⟩; have HB1 := Aside0.mk hb1; clear hb1))
    go_ret
    exact ⟨rfl, HB1.out⟩
end Go.Proofs.Ytfkjcimbpijfcaa.Fifo
