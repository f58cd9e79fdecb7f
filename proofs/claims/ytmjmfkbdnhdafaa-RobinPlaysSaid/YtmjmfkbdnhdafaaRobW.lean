/- RobinPlays: the walk's pieces (no law is stated here; each says its conditions). -/
import Derived.Test.YtmjmfkbdnhdafaaRobT
import Derived.Deep.DeepCutAuto
import Derived.Deep.CutBlock
import Derived.Deep.CutRange
namespace Go.Proofs.Ytmjmfkbdnhdafaa.Robin
open Go.RowKit Go.Proofs.YtmjmfkbdnhdafaaW.PrintWords Go.Proofs.YtmjmfkbdnhdafaaW.PrintLast Go.Proofs.YtmjmfkbdnhdafaaW.PrintMore Go.Proofs.Ytmjmfkbdnhdafaa.St Go.Proofs.Ytmjmfkbdnhdafaa.Q Go.Proofs.Ytmjmfkbdnhdafaa.Fifo
set_option linter.unusedVariables false
set_option linter.unusedSimpArgs false
attribute [local go_sem] max2_int min2_int max_two min_two max_three min_three max_four min_four

theorem info_row : ∃ i : TypeInfo, Try.prog.info? 3 = some i ∧ i.size = 1 := by
  obtain ⟨i, h1, h2⟩ := Option.map_eq_some_iff.1 info_size
  exact ⟨i, h1, h2⟩
theorem turned_step (l : List Int) {P n : Nat} (hn : n ≤ l.length) : turned_ (turned_ l (P % l.length)) n = turned_ l ((P + n) % l.length) := by
  rcases Nat.eq_zero_or_pos l.length with h | h
  · rw [List.length_eq_zero_iff.1 h]; simp [turned_]
  · exact turned_more h hn
/-- The law's own state while it counts. -/
structure CS (w : World) (room : Int) (q : List Int) (vr vo : Value) (g9 bm : Nat) (x1 x2 x3 x4 : Int) (c : Nat → Nat) (f : Int → Int) (P : Nat) (qt : List Int) (vw : Value) (W : World) : Prop where
  sr : robin.M W w.heap.size (fun k => c k = 0) (room, q) vr
  sw : (crow .i64).M W w.heap.size (fun k => c k = 1) qt vw
  sx : blk.M W w.heap.size (fun k => c k = 2) (.cells #[.int .i64 x1, .int .i64 x2, .int .i64 x3, .int .i64 x4] 37 (0, 0)) (.pointer (some ⟨g9, 0, none⟩))
  so : (crow .i64).M W w.heap.size (fun k => c k = 3) q vo
  sm : cmap.M W w.heap.size (fun k => c k = 4) (f, P) (.map (some bm))
  cnt : Cnt q P f
  far : Below w.heap.size w W
theorem CS.counted {w : World} {room : Int} {q : List Int} {vr vo : Value} {g9 bm : Nat} {x1 x2 x3 x4 : Int} {c c1 : Nat → Nat} {f f1 : Int → Int} {P : Nat} {qt : List Int} {vw : Value} {W W1 : World} (h : CS w room q vr vo g9 bm x1 x2 x3 x4 c f P qt vw W)
    (t : Turned c c1 4 w W W1) (hm : cmap.M W1 w.heap.size (fun k => c1 k = 4) (f1, P + 1) (.map (some bm))) (hc : Cnt q (P + 1) f1) : CS w room q vr vo g9 bm x1 x2 x3 x4 c1 f1 (P + 1) qt vw W1 :=
  ⟨t.keep _ robin 0 _ _ (by decide) h.sr, t.keep _ (crow .i64) 1 _ _ (by decide) h.sw, t.keep _ blk 2 _ _ (by decide) h.sx, t.keep _ (crow .i64) 3 _ _ (by decide) h.so, hm, hc, t.far h.far⟩
def RelT5 (w : World) (room : Int) (q : List Int) (vr vo : Value) (g9 bm n : Nat) (x1 x2 x3 x4 : Int) (vw i : Value) (W : World) : Prop :=
  ∃ (t : Nat) (c : Nat → Nat) (f : Int → Int), t ≤ x4.toNat ∧ i = .int .i64 (t : Int) ∧ CS w room q vr vo g9 bm x1 x2 x3 x4 c f (t * n) (turned_ q (t * n % q.length)) vw W
def RelI5 (w : World) (room : Int) (q : List Int) (vr vo : Value) (g9 bm n t : Nat) (x1 x2 x3 x4 : Int) (vw i : Value) (W : World) : Prop :=
  ∃ (j : Nat) (c : Nat → Nat) (f : Int → Int), j ≤ n ∧ i = .int .i64 (j : Int) ∧ CS w room q vr vo g9 bm x1 x2 x3 x4 c f (t * n + j) (turned_ q (t * n % q.length)) vw W
def L5Rel (w : World) (room : Int) (q : List Int) (vr vo : Value) (g9 bm n : Nat) (x1 x2 x3 x4 : Int) (vw : Value) (W : World) : Prop :=
  ∃ (c : Nat → Nat) (f : Int → Int), CS w room q vr vo g9 bm x1 x2 x3 x4 c f (x4.toNat * n) (turned_ q (x4.toNat * n % q.length)) vw W
noncomputable def L5Code : Code := ((Try.f6.body.bind (subBlock 5)).getD .skip)
set_option maxRecDepth 1000000 in
def L5R (w : World) (room : Int) (q : List Int) (vr vo : Value) (g9 bm n : Nat) (a1 a2 a3 a4 : Int) (vw : Value) (u0 u1 u2 u3 u4 u6 u8 u10 u11 u13 u14 u19 u20 u21 u22 u23 u24 u25 u26 u27 u28 u29 u30 u31 u32 u33 u34 u35 u36 u37 u38 u39 u40 u41 u42 u43 u44 u45 u46 u47 u48 u49 u50 u51 u52 u53 u54 u55 u56 u57 u58 u59 u60 u61 u62 u63 u64 u65 u66 u67 u68 u69 u70 u71 u72 u73 u74 u75 u76 u104 u105 u106 u107 u108 u109 u110 u111 u112 u113 u114 u115 u116 u117 u118 u119 u120 u121 u122 u123 u124 u125 u126 u127 u128 u129 u130 u131 u132 u133 u134 u135 u136 u137 u138 u139 u140 u141 u142 u143 u144 u145 u146 u147 u148 u149 u150 u151 u152 u153 u154 u155 u156 u157 u158 u159 u160 u161 u162 u163 u164 u165 u166 u167 u168 u169 u170 u171 u172 u173 u174 u175 u176 u177 u178 u179 u180 u181 u182 u183 u184 u185 u186 u187 u188 u189 u190 u191 u192 u193 u194 u195 u196 u197 u198 u199 u200 u201 u202 u203 u204 u205 u206 u207 u208 u209 u210 u211 u212 u213 u214 u215 u216 u217 u218 u219 u220 u221 u222 u223 u224 u225 u226 u227 u228 u229 u230 u231 u232 u233 u234 u235 u236 : Value) (a' : Act) (w' : World) : Prop := ∃ x7 x17 x18 x77 x78 x79 x80 x81 x82 x83 x84 x85 x86 x87 x88 x89 x90 x91 x92 x93 x94 x95 x96 x97 x98 x99 x100 x101 x102 x103 : Value, L5Rel w room q vr vo g9 bm n a1 a2 a3 a4 x7 w' ∧ a' = ⟨#[u0, u1, u2, u3, u4, vr, u6, x7, u8, .pointer (some ⟨g9, 0, none⟩), u10, u11, .int .i64 (n : Int), u13, u14, vo, .map (some bm), x17, x18, u19, u20, u21, u22, u23, u24, u25, u26, u27, u28, u29, u30, u31, u32, u33, u34, u35, u36, u37, u38, u39, u40, u41, u42, u43, u44, u45, u46, u47, u48, u49, u50, u51, u52, u53, u54, u55, u56, u57, u58, u59, u60, u61, u62, u63, u64, u65, u66, u67, u68, u69, u70, u71, u72, u73, u74, u75, u76, x77, x78, x79, x80, x81, x82, x83, x84, x85, x86, x87, x88, x89, x90, x91, x92, x93, x94, x95, x96, x97, x98, x99, x100, x101, x102, x103, u104, u105, u106, u107, u108, u109, u110, u111, u112, u113, u114, u115, u116, u117, u118, u119, u120, u121, u122, u123, u124, u125, u126, u127, u128, u129, u130, u131, u132, u133, u134, u135, u136, u137, u138, u139, u140, u141, u142, u143, u144, u145, u146, u147, u148, u149, u150, u151, u152, u153, u154, u155, u156, u157, u158, u159, u160, u161, u162, u163, u164, u165, u166, u167, u168, u169, u170, u171, u172, u173, u174, u175, u176, u177, u178, u179, u180, u181, u182, u183, u184, u185, u186, u187, u188, u189, u190, u191, u192, u193, u194, u195, u196, u197, u198, u199, u200, u201, u202, u203, u204, u205, u206, u207, u208, u209, u210, u211, u212, u213, u214, u215, u216, u217, u218, u219, u220, u221, u222, u223, u224, u225, u226, u227, u228, u229, u230, u231, u232, u233, u234, u235, u236], []⟩
set_option maxHeartbeats 8000000 in
set_option maxRecDepth 100000 in
theorem loop5_piece {w wc : World} {room : Int} {q : List Int} {vr vo vw : Value} {g9 bm n : Nat} {a1 a2 a3 a4 : Int} {c : Nat → Nat} {f : Int → Int} {u0 u1 u2 u3 u4 u6 u8 u10 u11 u13 u14 u18 u19 u20 u21 u22 u23 u24 u25 u26 u27 u28 u29 u30 u31 u32 u33 u34 u35 u36 u37 u38 u39 u40 u41 u42 u43 u44 u45 u46 u47 u48 u49 u50 u51 u52 u53 u54 u55 u56 u57 u58 u59 u60 u61 u62 u63 u64 u65 u66 u67 u68 u69 u70 u71 u72 u73 u74 u75 u76 u77 u78 u79 u80 u81 u82 u83 u84 u85 u86 u87 u88 u89 u90 u91 u92 u93 u94 u95 u96 u97 u98 u99 u100 u101 u102 u103 u104 u105 u106 u107 u108 u109 u110 u111 u112 u113 u114 u115 u116 u117 u118 u119 u120 u121 u122 u123 u124 u125 u126 u127 u128 u129 u130 u131 u132 u133 u134 u135 u136 u137 u138 u139 u140 u141 u142 u143 u144 u145 u146 u147 u148 u149 u150 u151 u152 u153 u154 u155 u156 u157 u158 u159 u160 u161 u162 u163 u164 u165 u166 u167 u168 u169 u170 u171 u172 u173 u174 u175 u176 u177 u178 u179 u180 u181 u182 u183 u184 u185 u186 u187 u188 u189 u190 u191 u192 u193 u194 u195 u196 u197 u198 u199 u200 u201 u202 u203 u204 u205 u206 u207 u208 u209 u210 u211 u212 u213 u214 u215 u216 u217 u218 u219 u220 u221 u222 u223 u224 u225 u226 u227 u228 u229 u230 u231 u232 u233 u234 u235 u236 : Value}
    (hS : CS w room q vr vo g9 bm a1 a2 a3 a4 c f 0 (turned_ q (0 % q.length)) vw wc) (hn : n ≤ q.length) (hq : q.length ≤ 256) (ht : a4 ≤ 300) (hd : q.Nodup) (hw : ∀ y ∈ q, (Lit.int .i64 y).wf = true) :
    ∀ (K : Act → World → Prop) (Q' : Exit → Act → World → Prop), (∀ a' w', L5R w room q vr vo g9 bm n a1 a2 a3 a4 vw u0 u1 u2 u3 u4 u6 u8 u10 u11 u13 u14 u19 u20 u21 u22 u23 u24 u25 u26 u27 u28 u29 u30 u31 u32 u33 u34 u35 u36 u37 u38 u39 u40 u41 u42 u43 u44 u45 u46 u47 u48 u49 u50 u51 u52 u53 u54 u55 u56 u57 u58 u59 u60 u61 u62 u63 u64 u65 u66 u67 u68 u69 u70 u71 u72 u73 u74 u75 u76 u104 u105 u106 u107 u108 u109 u110 u111 u112 u113 u114 u115 u116 u117 u118 u119 u120 u121 u122 u123 u124 u125 u126 u127 u128 u129 u130 u131 u132 u133 u134 u135 u136 u137 u138 u139 u140 u141 u142 u143 u144 u145 u146 u147 u148 u149 u150 u151 u152 u153 u154 u155 u156 u157 u158 u159 u160 u161 u162 u163 u164 u165 u166 u167 u168 u169 u170 u171 u172 u173 u174 u175 u176 u177 u178 u179 u180 u181 u182 u183 u184 u185 u186 u187 u188 u189 u190 u191 u192 u193 u194 u195 u196 u197 u198 u199 u200 u201 u202 u203 u204 u205 u206 u207 u208 u209 u210 u211 u212 u213 u214 u215 u216 u217 u218 u219 u220 u221 u222 u223 u224 u225 u226 u227 u228 u229 u230 u231 u232 u233 u234 u235 u236 a' w' → K a' w') → (∀ c a i v w1, Q' (.panic c) (Act.put a (some i) v) w1 → Q' (.panic c) a w1) → Code.wp Try.prog L5Code (Exit.then K Q') ⟨#[u0, u1, u2, u3, u4, vr, u6, vw, u8, .pointer (some ⟨g9, 0, none⟩), u10, u11, .int .i64 (n : Int), u13, u14, vo, .map (some bm), .int .i64 0, u18, u19, u20, u21, u22, u23, u24, u25, u26, u27, u28, u29, u30, u31, u32, u33, u34, u35, u36, u37, u38, u39, u40, u41, u42, u43, u44, u45, u46, u47, u48, u49, u50, u51, u52, u53, u54, u55, u56, u57, u58, u59, u60, u61, u62, u63, u64, u65, u66, u67, u68, u69, u70, u71, u72, u73, u74, u75, u76, u77, u78, u79, u80, u81, u82, u83, u84, u85, u86, u87, u88, u89, u90, u91, u92, u93, u94, u95, u96, u97, u98, u99, u100, u101, u102, u103, u104, u105, u106, u107, u108, u109, u110, u111, u112, u113, u114, u115, u116, u117, u118, u119, u120, u121, u122, u123, u124, u125, u126, u127, u128, u129, u130, u131, u132, u133, u134, u135, u136, u137, u138, u139, u140, u141, u142, u143, u144, u145, u146, u147, u148, u149, u150, u151, u152, u153, u154, u155, u156, u157, u158, u159, u160, u161, u162, u163, u164, u165, u166, u167, u168, u169, u170, u171, u172, u173, u174, u175, u176, u177, u178, u179, u180, u181, u182, u183, u184, u185, u186, u187, u188, u189, u190, u191, u192, u193, u194, u195, u196, u197, u198, u199, u200, u201, u202, u203, u204, u205, u206, u207, u208, u209, u210, u211, u212, u213, u214, u215, u216, u217, u218, u219, u220, u221, u222, u223, u224, u225, u226, u227, u228, u229, u230, u231, u232, u233, u234, u235, u236], []⟩ wc := by
  have H0 := Aside0.mk hS
  have HQ := Aside0.mk (show n ≤ q.length ∧ q.length ≤ 256 ∧ a4 ≤ 300 from ⟨hn, hq, ht⟩)
  have HND := Aside0.mk hd
  have HWQ := Aside0.mk hw
  clear hS hn hq ht hd hw
  intro K Q' hK hqp
  conv => arg 2; whnf
  refine wp_cut (L5R w room q vr vo g9 bm n a1 a2 a3 a4 vw u0 u1 u2 u3 u4 u6 u8 u10 u11 u13 u14 u19 u20 u21 u22 u23 u24 u25 u26 u27 u28 u29 u30 u31 u32 u33 u34 u35 u36 u37 u38 u39 u40 u41 u42 u43 u44 u45 u46 u47 u48 u49 u50 u51 u52 u53 u54 u55 u56 u57 u58 u59 u60 u61 u62 u63 u64 u65 u66 u67 u68 u69 u70 u71 u72 u73 u74 u75 u76 u104 u105 u106 u107 u108 u109 u110 u111 u112 u113 u114 u115 u116 u117 u118 u119 u120 u121 u122 u123 u124 u125 u126 u127 u128 u129 u130 u131 u132 u133 u134 u135 u136 u137 u138 u139 u140 u141 u142 u143 u144 u145 u146 u147 u148 u149 u150 u151 u152 u153 u154 u155 u156 u157 u158 u159 u160 u161 u162 u163 u164 u165 u166 u167 u168 u169 u170 u171 u172 u173 u174 u175 u176 u177 u178 u179 u180 u181 u182 u183 u184 u185 u186 u187 u188 u189 u190 u191 u192 u193 u194 u195 u196 u197 u198 u199 u200 u201 u202 u203 u204 u205 u206 u207 u208 u209 u210 u211 u212 u213 u214 u215 u216 u217 u218 u219 u220 u221 u222 u223 u224 u225 u226 u227 u228 u229 u230 u231 u232 u233 u234 u235 u236) hK ?_
  intro _ _ _ _
  go_wp2
  go_loopw [7, 17] (fun vw i wr => RelT5 w room q vr vo g9 bm n a1 a2 a3 a4 vw i wr) (fun _ i _ => a4.toNat - (intOf i).toNat)
  case atStart => exact ⟨0, c, f, Nat.zero_le _, rfl, by rw [Nat.zero_mul]; exact H0.out⟩
  case round =>
    obtain ⟨t, c1, f1, ht, rfl, hS⟩ := hrel
    have HS := Aside0.mk hS
    have ht300 : t ≤ 300 := by have := HQ.out; omega
    obtain ⟨A1, k1, rfl, hk1, -⟩ := crow_reads hS.sw
    obtain ⟨qt, hqt⟩ : ∃ qt, turned_ q (t * n % q.length) = qt := ⟨_, rfl⟩
    have hql : qt.length = q.length := by rw [← hqt]; exact turned_len _ _
    rw [hqt] at hk1
    have HQT := Aside0.mk hqt
    have HQL := Aside0.mk hql
    clear hS H0 hqt hql
    have y3 := blk_cell (blk_at HS.out.sx) 3
    by_cases hlt : (t : Int) < a4
    · have p1 : decide ((t : Int) < a4) = true := decide_eq_true hlt
      rw [HQT.out] at HS ⊢
      go_wp2
      go_loopw [18] (fun i wz => RelI5 w room q vr vo g9 bm n t a1 a2 a3 a4 (.slice A1 qt.length k1) i wz) (fun i _ => n - (intOf i).toNat)
      case atStart => exact ⟨0, c1, f1, Nat.zero_le _, rfl, by rw [HQT.out]; exact HS.out⟩
      case round =>
        obtain ⟨j, c2, f2, hj, rfl, hI⟩ := hrel
        rw [HQT.out] at hI
        have HI := Aside0.mk hI
        clear HS y3 hI
        by_cases hjn : j < n
        · have HJ := Aside0.mk (show j < n ∧ j < qt.length ∧ 0 < q.length from ⟨hjn, by have := HQ.out; have := HQL.out; omega, by have := HQ.out; omega⟩)
          have hj256 : j < 256 := by have := HQ.out; omega
          have p2 : decide ((j : Int) < (n : Int)) = true := decide_eq_true (by omega)
          have bj : (0 ≤ (j : Int) ∧ (j : Int) < (qt.length : Int)) := by have := HJ.out; omega
          obtain ⟨ad, e, hcell⟩ := Mine.read_at (crow_C HI.out.sw) HJ.out.2.1
          subst e
          obtain ⟨z, hz⟩ : ∃ z, qt.getD j 0 = z := ⟨_, rfl⟩
          rw [hz] at hcell
          have HZQ := Aside0.mk (show q.getD ((t * n + j) % q.length) 0 = z from by rw [← hz, ← HQT.out, turned_get (Nat.le_of_lt (Nat.mod_lt _ HJ.out.2.2)) (by have := HJ.out; have := HQL.out; omega), Nat.mod_add_mod])
          have HWF := Aside0.mk (show (Lit.int .i64 z).wf = true from HWQ.out z (by
            rw [← HZQ.out, List.getD_eq_getElem?_getD, List.getElem?_eq_getElem (Nat.mod_lt _ HJ.out.2.2)]
            exact List.getElem_mem _))
          obtain ⟨fz, hfz⟩ : ∃ fz, f2 z = fz := ⟨_, rfl⟩
          have HFZ := Aside0.mk hfz
          have HPB := Aside0.mk (show t * n + j ≤ 76800 + 256 ∧ 0 ≤ fz ∧ fz ≤ 76800 + 257 from by
            have h1 : t * n ≤ 300 * 256 := Nat.mul_le_mul ht300 (by have := HQ.out; omega)
            have h2 := cnt_val HI.out.cnt (Nat.mod_lt (t * n + j) HJ.out.2.2)
            rw [HZQ.out, hfz] at h2
            have := HQ.out
            omega)
          have hwz : wrap64 (fz + 1) = fz + 1 := by have := HPB.out; unfold wrap64; omega
          have HWZ := Aside0.mk hwz
          have HCN := Aside0.mk (show Cnt q (t * n + j + 1) (fun b => if b = z then fz + 1 else f2 b) from cnt_step HND.out HJ.out.2.2 HI.out.cnt HZQ.out (by rw [if_pos rfl, hfz]) (fun b hb => if_neg hb))
          obtain ⟨D, hown, htell⟩ := cmap_own HI.out.sm
          have HN := Aside0.mk hown
          have HT := Aside0.mk htell
          clear hown htell hfz hz
          go_wp2_with (first | (at_lookup; refine wpList_lookup_own_int _ rfl _ _ 38 rfl 3 2 .i64 law Try.underlying38 Try.underlying2 (zero64 _) bm _ D rfl HN.out _ (kl z) rfl (Go.Maps.keyOf_int_mk Try.underlying3 HWF.out) ?_; intro cv hat hwc; have ecv : cv = fz := (by have h := hat.symm.trans (HT.out z); rw [HFZ.out] at h; injection h with h; injection h with _ h); subst ecv; clear hat hwc) | (at_mapUpdate; refine wpList_mapUpdate_own _ rfl _ _ _ 38 rfl 3 2 law Try.underlying38 _ bm _ D rfl HN.out (by have := HPB.out; unfold maxLen; omega) _ _ (kl z) rfl rfl (Go.Maps.keyOf_int_mk Try.underlying3 HWF.out) _ [] (plainElem_int Try.underlying2 (WalkArith.wf_i64 (by have := HPB.out; omega))) ?_; intro w9 hown9 hgrow9; obtain ⟨c9, h9, t9⟩ := cmap_put HI.out.sm HN.out HT.out hown9 hgrow9 HI.out.far.size; rw [HWZ.out] at h9; have H9 := Aside0.mk (HI.out.counted t9 h9 (HCN.out)); clear hown9 hgrow9 h9 t9))
          go_roundw
          case rel => exact ⟨j + 1, c9, _, by omega, by go_num, by rw [HQT.out]; exact H9.out⟩
          case measure => simp [intOf]; omega
        · have hjn' : j = n := by omega
          rw [hjn'] at HI ⊢
          have p2 : decide ((n : Int) < (n : Int)) = false := decide_eq_false (by omega)
          have HZ := HI
          clear HI hjn hj hjn'
          have hnl : n ≤ qt.length := by have := HQ.out; have := HQL.out; omega
          obtain ⟨q2, hq2⟩ : ∃ q2, turned_ qt n = q2 := ⟨_, rfl⟩
          have hlq : q2.length ≤ 256 := by rw [← hq2, turned_len]; have := HQ.out; have := HQL.out; omega
          have hqt256 : qt.length ≤ 256 := by have := HQ.out; have := HQL.out; omega
          have HER := Aside0.mk (show ([] : List Int) ++ qt.drop n ++ qt.take n = q2 from hq2)
          have HE2 := Aside0.mk (show q2 = turned_ q ((t + 1) * n % q.length) from by rw [← hq2, ← HQT.out, turned_step q (by have := HQ.out; omega), Nat.add_mul, Nat.one_mul])
          have HP2 := Aside0.mk (show t * n + n = (t + 1) * n from by rw [Nat.add_mul, Nat.one_mul])
          clear hq2
          obtain ⟨A', hrun2, hcr2, hcc2⟩ := crow_from (k := .i64) 28 3 (m := n) Try.underlying28 info_row.choose_spec.1 info_row.choose_spec.2 A1 k1 qt hnl
          obtain ⟨hrun, hcr, hcc⟩ := crow_to (k := .i64) 28 3 Try.underlying28 info_row.choose_spec.1 A1 k1 n qt hnl hk1
          have HC4 := Aside0.mk hcc2
          have HC5 := Aside0.mk hcc
          clear hcr hcr2 hcc hcc2
          go_upto_region 39 with (fail)
          refine start_ (n := 10) (S := fun w' => True) (ds := []) #[false, false, false, false, false, false, false, false, false, false] (by kernel_rfl) rfl rfl trivial (fun hHeld => ?_)
          obtain ⟨w20, hw20⟩ : ∃ w20 : World, wr.drew = w20 := ⟨_, rfl⟩
          have hb20 : Below wr.heap.size wr w20 := by rw [← hw20]; exact below_drew (Below.refl _ _)
          (try rw [hw20] at hHeld)
          rw [hw20]
          have HR20 := Aside0.mk (St.below (s := robin) HZ.out.sr hb20)
          have HW20 := Aside0.mk (St.below (s := crow .i64) HZ.out.sw hb20)
          have HX20 := Aside0.mk (St.below (s := blk) HZ.out.sx hb20)
          have HO20 := Aside0.mk (St.below (s := crow .i64) HZ.out.so hb20)
          have HM20 := Aside0.mk (St.below (s := cmap) HZ.out.sm hb20)
          have B20 := Aside0.mk (Below.trans HZ.out.far (Below.mono hb20 (Below.size HZ.out.far)))
          clear hw20 hb20
          refine pure_ (i := 1) (N := some 96) (v := ?_) (a' := ?_) #[false, true, false, false, false, false, false, false, false, false] rfl rfl (by kernel_rfl) (fun _ _ _ h => hqp _ _ _ _ _ h) (Or.inl ⟨by rfl, ?_⟩) ?_ ?_
          rotate_left
          · intro w'
            go_simp
            with_reducible rfl
          rotate_left
          · simp only [Act.put, List.setIfInBounds_toArray, List.set_cons_zero, List.set_cons_succ, i64_w, i32_w]
            rfl
          refine pure_ (i := 2) (N := some 97) (v := ?_) (a' := ?_) #[false, true, true, false, false, false, false, false, false, false] rfl rfl (by kernel_rfl) (fun _ _ _ h => hqp _ _ _ _ _ h) (Or.inl ⟨by rfl, ?_⟩) ?_ ?_
          rotate_left
          · intro w'
            go_simp
            with_reducible rfl
          rotate_left
          · simp only [Act.put, List.setIfInBounds_toArray, List.set_cons_zero, List.set_cons_succ, i64_w, i32_w]
            rfl
          refine pure_ (i := 3) (N := some 98) (v := ?_) (a' := ?_) #[false, true, true, true, false, false, false, false, false, false] rfl rfl (by kernel_rfl) (fun _ _ _ h => hqp _ _ _ _ _ h) (Or.inl ⟨by rfl, ?_⟩) ?_ ?_
          rotate_left
          · intro w'
            go_simp
            with_reducible rfl
          rotate_left
          · simp only [Act.put, List.setIfInBounds_toArray, List.set_cons_zero, List.set_cons_succ, i64_w, i32_w]
            rfl
          refine pure_ (i := 5) (N := some 100) (v := ?_) (a' := ?_) #[false, true, true, true, false, true, false, false, false, false] rfl rfl (by kernel_rfl) (fun _ _ _ h => hqp _ _ _ _ _ h) (Or.inl ⟨by rfl, ?_⟩) ?_ ?_
          rotate_left
          · intro w'
            go_simp
            with_reducible rfl
          rotate_left
          · simp only [Act.put, List.setIfInBounds_toArray, List.set_cons_zero, List.set_cons_succ, i64_w, i32_w]
            rfl
          refine pure_ (i := 6) (N := some 101) (v := ?_) (a' := ?_) #[false, true, true, true, false, true, true, false, false, false] rfl rfl (by kernel_rfl) (fun _ _ _ h => hqp _ _ _ _ _ h) (Or.inl ⟨by rfl, ?_⟩) ?_ ?_
          rotate_left
          · intro w'
            go_simp
            with_reducible rfl
          rotate_left
          · simp only [Act.put, List.setIfInBounds_toArray, List.set_cons_zero, List.set_cons_succ, i64_w, i32_w]
            rfl
          refine pure_ (i := 7) (N := some 102) (v := ?_) (a' := ?_) #[false, true, true, true, false, true, true, true, false, false] rfl rfl (by kernel_rfl) (fun _ _ _ h => hqp _ _ _ _ _ h) (Or.inl ⟨by rfl, ?_⟩) ?_ ?_
          rotate_left
          · intro w'
            go_simp
            with_reducible rfl
          rotate_left
          · simp only [Act.put, List.setIfInBounds_toArray, List.set_cons_zero, List.set_cons_succ, i64_w, i32_w]
            rfl
          refine join_ (σ := Value × Value × Value) 0 #[true, true, true, true, true, true, true, true, true, true] (fun s_ => [(95, s_.1), (99, s_.2.1), (103, s_.2.2), (7, s_.2.2)]) (fun s_ w' => ∃ c' : Nat → Nat, (row 3 (Kd.int .i64)).M w' w.heap.size (fun k => c' k = 6) q2 (s_.2.2 : Value) ∧ (robin).M w' w.heap.size (fun k => c' k = 0) (room, q) vr ∧ (blk).M w' w.heap.size (fun k => c' k = 2) (.cells #[.int .i64 a1, .int .i64 a2, .int .i64 a3, .int .i64 a4] 37 (0, 0)) (.pointer (some ⟨g9, 0, none⟩)) ∧ (crow .i64).M w' w.heap.size (fun k => c' k = 3) q vo ∧ (cmap).M w' w.heap.size (fun k => c' k = 4) (f2, t * n + n) (.map (some bm)) ∧ Below w.heap.size w w') ?_ ?_
          rotate_left
          · intro hCont
            refine one_ (i := 0) (N := some 95) #[true, true, true, true, false, true, true, true, false, false] rfl rfl (by kernel_rfl) (by decide) (fun K hK => ?_)
            refine lit_step (e := 3) (c := c2) (w0 := w) (Kd.int .i64) 6 ?hg (N := 95) ?hd ([] : List Int) [] ?hr ?hp ?hs (by simp) ?_
            (case hd => rfl)
            (case hg => rfl)
            (case hp => exact Reps.none _ _)
            (case hr => first | (go_simp; done) | (go_simp; rfl))
            (case hs => exact Below.size B20.out)
            intro v20x0 w20x0 c20x0 h20x0 t20x0
            have HN20x0 := Aside0.mk (show (row 3 (Kd.int .i64)).M w20x0 w.heap.size (fun k => c20x0 k = 6) ([] : List Int) v20x0 from h20x0)
            have HR20x0 := Aside0.mk (t20x0.keep _ (robin) 0 _ _ (by decide) HR20.out)
            have HW20x0 := Aside0.mk (t20x0.keep _ (crow .i64) 1 _ _ (by decide) HW20.out)
            have HX20x0 := Aside0.mk (t20x0.keep _ (blk) 2 _ _ (by decide) HX20.out)
            have HO20x0 := Aside0.mk (t20x0.keep _ (crow .i64) 3 _ _ (by decide) HO20.out)
            have HM20x0 := Aside0.mk (t20x0.keep _ (cmap) 4 _ _ (by decide) HM20.out)
            have B20x0 := Aside0.mk (t20x0.far B20.out)
            have hHeld := trivial
            refine hK.out _ _ hHeld (fun hHeld => ?_)
            clear hK K
            refine norm_ (a' := ?_) ?_ ?_
            rotate_left
            · show Act.put _ (some 95) _ = _
              simp only [Act.put, List.setIfInBounds_toArray, List.set_cons_zero, List.set_cons_succ, i64_w, i32_w]
              rfl
            clear h20x0 t20x0
            refine one_ (i := 4) (N := some 99) #[true, true, true, true, true, true, true, true, false, false] rfl rfl (by kernel_rfl) (by decide) (fun K hK => ?_)
            refine app_step (e := 3) (c := c20x0) (w0 := w) (d := Kd.int .i64) (i := 6) (by rfl) (.tmp 95) (.tmp 98) 28 (.int .i64 0) 8 rfl Try.underlying28 info_int rfl (by decide) (by decide) (flat_int _) v20x0 (([] : List Int)) (qt.drop n) _ _ _ rfl rfl HN20x0.out (HC4.out _ (crow_le HW20x0.out) (crow_C HW20x0.out)) ?hs (by show (0 + _) * 8 ≤ _; omega) ?_
            (case hs => exact Below.size B20x0.out)
            intro v20x0x4 w20x0x4 c20x0x4 h20x0x4 t20x0x4
            have HN20x0x4 := Aside0.mk (show (row 3 (Kd.int .i64)).M w20x0x4 w.heap.size (fun k => c20x0x4 k = 6) (([] : List Int) ++ (qt.drop n)) v20x0x4 from h20x0x4)
            have HR20x0x4 := Aside0.mk (t20x0x4.keep _ (robin) 0 _ _ (by decide) HR20x0.out)
            have HW20x0x4 := Aside0.mk (t20x0x4.keep _ (crow .i64) 1 _ _ (by decide) HW20x0.out)
            have HX20x0x4 := Aside0.mk (t20x0x4.keep _ (blk) 2 _ _ (by decide) HX20x0.out)
            have HO20x0x4 := Aside0.mk (t20x0x4.keep _ (crow .i64) 3 _ _ (by decide) HO20x0.out)
            have HM20x0x4 := Aside0.mk (t20x0x4.keep _ (cmap) 4 _ _ (by decide) HM20x0.out)
            have B20x0x4 := Aside0.mk (t20x0x4.far B20x0.out)
            have hHeld := trivial
            refine hK.out _ _ hHeld (fun hHeld => ?_)
            clear hK K
            refine norm_ (a' := ?_) ?_ ?_
            rotate_left
            · show Act.put _ (some 99) _ = _
              simp only [Act.put, List.setIfInBounds_toArray, List.set_cons_zero, List.set_cons_succ, i64_w, i32_w]
              rfl
            clear h20x0x4 t20x0x4
            refine one_ (i := 8) (N := some 103) #[true, true, true, true, true, true, true, true, true, false] rfl rfl (by kernel_rfl) (by decide) (fun K hK => ?_)
            refine app_step (e := 3) (c := c20x0x4) (w0 := w) (d := Kd.int .i64) (i := 6) (by rfl) (.tmp 99) (.tmp 102) 28 (.int .i64 0) 8 rfl Try.underlying28 info_int rfl (by decide) (by decide) (flat_int _) v20x0x4 ((([] : List Int) ++ (qt.drop n))) (qt.take n) _ _ _ rfl rfl HN20x0x4.out (HC5.out _ (crow_C HW20x0x4.out)) ?hs (by rw [List.length_append, List.length_drop]; show ((0 + _) + _) * 8 ≤ _; omega) ?_
            (case hs => exact Below.size B20x0x4.out)
            intro v20x0x4x8 w20x0x4x8 c20x0x4x8 h20x0x4x8 t20x0x4x8
            have HN20x0x4x8 := Aside0.mk (show (row 3 (Kd.int .i64)).M w20x0x4x8 w.heap.size (fun k => c20x0x4x8 k = 6) ((([] : List Int) ++ (qt.drop n)) ++ (qt.take n)) v20x0x4x8 from h20x0x4x8)
            have HR20x0x4x8 := Aside0.mk (t20x0x4x8.keep _ (robin) 0 _ _ (by decide) HR20x0x4.out)
            have HW20x0x4x8 := Aside0.mk (t20x0x4x8.keep _ (crow .i64) 1 _ _ (by decide) HW20x0x4.out)
            have HX20x0x4x8 := Aside0.mk (t20x0x4x8.keep _ (blk) 2 _ _ (by decide) HX20x0x4.out)
            have HO20x0x4x8 := Aside0.mk (t20x0x4x8.keep _ (crow .i64) 3 _ _ (by decide) HO20x0x4.out)
            have HM20x0x4x8 := Aside0.mk (t20x0x4x8.keep _ (cmap) 4 _ _ (by decide) HM20x0x4.out)
            have B20x0x4x8 := Aside0.mk (t20x0x4x8.far B20x0x4.out)
            have hHeld := trivial
            refine hK.out _ _ hHeld (fun hHeld => ?_)
            clear hK K
            refine norm_ (a' := ?_) ?_ ?_
            rotate_left
            · show Act.put _ (some 103) _ = _
              simp only [Act.put, List.setIfInBounds_toArray, List.set_cons_zero, List.set_cons_succ, i64_w, i32_w]
              rfl
            clear h20x0x4x8 t20x0x4x8
            refine pure_ (i := 9) (N := some 7) (v := ?_) (a' := ?_) #[true, true, true, true, true, true, true, true, true, true] rfl rfl (by kernel_rfl) (fun _ _ _ h => hqp _ _ _ _ _ h) (Or.inl ⟨by rfl, ?_⟩) ?_ ?_
            rotate_left
            · intro w'
              go_simp
              with_reducible rfl
            rotate_left
            · simp only [Act.put, List.setIfInBounds_toArray, List.set_cons_zero, List.set_cons_succ, i64_w, i32_w]
              rfl
            exact norm_ (by simp only [putAll, Act.put, List.setIfInBounds_toArray, List.set_cons_zero, List.set_cons_succ]) (hCont (v20x0, v20x0x4, v20x0x4x8) _ ⟨c20x0x4x8, (by have h := HN20x0x4x8.out; rwa [HER.out] at h), HR20x0x4x8.out, HX20x0x4x8.out, HO20x0x4x8.out, HM20x0x4x8.out, B20x0x4x8.out⟩)
          rintro s_ w21 ⟨c21, hN, hR, hX, hO, hM, hB⟩
          refine done_ (by kernel_rfl) ?_
          simp only [putAll, Act.put, List.setIfInBounds_toArray, List.set_cons_zero, List.set_cons_succ]
          go_wp2
          go_roundw
          case rel => exact ⟨t + 1, (fun k => if c21 k = 6 then 1 else if c21 k = 1 then 9 else c21 k), f2, by omega, by go_num, by rw [← HE2.out, ← HP2.out]; exact ⟨(recol (robin) (c' := (fun k => if c21 k = 6 then 1 else if c21 k = 1 then 9 else c21 k)) hR (fun k hk => by simp only [hk]; rfl)), (crow_of_R (show (Kd.int .i64).R 3 _ w.heap.size (fun k => (fun k => if c21 k = 6 then 1 else if c21 k = 1 then 9 else c21 k) k = 1) _ _ from (recol (row 3 (Kd.int .i64)) (c' := (fun k => if c21 k = 6 then 1 else if c21 k = 1 then 9 else c21 k)) hN (fun k hk => by simp only [hk]; rfl)))), (recol (blk) (c' := (fun k => if c21 k = 6 then 1 else if c21 k = 1 then 9 else c21 k)) hX (fun k hk => by simp only [hk]; rfl)), (recol (crow .i64) (c' := (fun k => if c21 k = 6 then 1 else if c21 k = 1 then 9 else c21 k)) hO (fun k hk => by simp only [hk]; rfl)), (recol (cmap) (c' := (fun k => if c21 k = 6 then 1 else if c21 k = 1 then 9 else c21 k)) hM (fun k hk => by simp only [hk]; rfl)), HZ.out.cnt, hB⟩⟩
          case measure => simp [intOf]; omega
    · have p1 : decide ((t : Int) < a4) = false := decide_eq_false hlt
      have htt : t = a4.toNat := by omega
      go_wp2
      refine Met.intro ?_
      go_step
      unfold L5R
      refine ⟨_, _, _, _, _, _, _, _, _, _, _, _, _, _, _, _, _, _, _, _, _, _, _, _, _, _, _, _, _, _, ?_, rfl⟩
      exact ⟨c1, f1, by rw [← htt]; exact HS.out⟩
end Go.Proofs.Ytmjmfkbdnhdafaa.Robin
