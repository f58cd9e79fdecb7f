/- RobinPlays: the walk's pieces (no law is stated here; each says its conditions). -/
import Derived.Test.YtmjmfkbdnhdafaaRobW
import Derived.Test.YtmjmfkbdnhdafaaQt
import Derived.Deep.DeepCutAuto
import Derived.Deep.CutBlock
import Derived.Deep.CutRange
namespace Go.Proofs.Ytmjmfkbdnhdafaa.Robin
open Go.RowKit Go.Proofs.YtmjmfkbdnhdafaaW.PrintWords Go.Proofs.YtmjmfkbdnhdafaaW.PrintLast Go.Proofs.YtmjmfkbdnhdafaaW.PrintMore Go.Proofs.Ytmjmfkbdnhdafaa.St Go.Proofs.Ytmjmfkbdnhdafaa.Q Go.Proofs.Ytmjmfkbdnhdafaa.Fifo
set_option linter.unusedVariables false
set_option linter.unusedSimpArgs false
attribute [local go_sem] max2_int min2_int max_two min_two max_three min_three max_four min_four

theorem own_move {w w1 : World} {bm n : Nat} {D : DataW Unit} (h : w.ownsMap Try.prog 3 (plainElem Try.prog 2) bm n D) (e : w1.heap[bm]? = w.heap[bm]?) : w1.ownsMap Try.prog 3 (plainElem Try.prog 2) bm n D := by
  obtain ⟨es, clock, h1, h2⟩ := h
  exact ⟨es, clock, e.trans h1, h2⟩
theorem own_lt {w : World} {bm n : Nat} {D : DataW Unit} (h : w.ownsMap Try.prog 3 (plainElem Try.prog 2) bm n D) : bm < w.heap.size := by
  obtain ⟨es, clock, h1, _⟩ := h
  exact (Array.getElem?_eq_some_iff.1 h1).1
def Rel9 (wc : World) (q : List Int) (i : Value) (W : World) : Prop := ∃ k : Nat, k ≤ q.length ∧ i = .int .i64 (k : Int) ∧ Below wc.heap.size wc W
noncomputable def L9Code : Code := ((Try.f6.body.bind (subBlock 9)).getD .skip)
set_option maxRecDepth 1000000 in
def L9R (wc : World) (q : List Int) (Ao Ac : Option Addr) (ko kc bm : Nat) (u0 u1 u2 u3 u5 u6 u7 u8 u9 u10 u11 u12 u13 u14 u17 u18 u20 u22 u23 u24 u25 u26 u27 u28 u29 u30 u31 u32 u33 u34 u35 u36 u37 u38 u39 u40 u41 u42 u43 u44 u45 u46 u47 u48 u49 u50 u51 u52 u53 u54 u55 u56 u57 u58 u59 u60 u61 u62 u63 u64 u65 u66 u67 u68 u69 u70 u71 u72 u73 u74 u75 u76 u77 u78 u79 u80 u81 u82 u83 u84 u85 u86 u87 u88 u89 u90 u91 u92 u93 u94 u95 u96 u97 u98 u99 u100 u101 u102 u103 u104 u105 u106 u107 u108 u109 u110 u111 u112 u113 u114 u115 u116 u117 u118 u119 u120 u121 u122 u123 u141 u142 u143 u144 u145 u146 u147 u148 u149 u150 u151 u152 u153 u154 u155 u156 u157 u158 u159 u160 u161 u162 u163 u164 u165 u166 u167 u168 u169 u170 u171 u172 u173 u174 u175 u176 u177 u178 u179 u180 u181 u182 u183 u184 u185 u186 u187 u188 u189 u190 u191 u192 u193 u194 u195 u196 u197 u198 u199 u200 u201 u202 u203 u204 u205 u206 u207 u208 u209 u210 u211 u212 u213 u214 u215 u216 u217 u218 u219 u220 u221 u222 u223 u224 u225 u226 u227 u228 u229 u230 u231 u232 u233 u234 u235 u236 : Value) (a' : Act) (w' : World) : Prop := ∃ x4 x21 x124 x125 x126 x127 x128 x129 x130 x131 x132 x133 x134 x135 x136 x137 x138 x139 x140 : Value, Below wc.heap.size wc w' ∧ a' = ⟨#[u0, u1, u2, u3, x4, u5, u6, u7, u8, u9, u10, u11, u12, u13, u14, .slice Ao q.length ko, .map (some bm), u17, u18, .slice Ac q.length kc, u20, x21, u22, u23, u24, u25, u26, u27, u28, u29, u30, u31, u32, u33, u34, u35, u36, u37, u38, u39, u40, u41, u42, u43, u44, u45, u46, u47, u48, u49, u50, u51, u52, u53, u54, u55, u56, u57, u58, u59, u60, u61, u62, u63, u64, u65, u66, u67, u68, u69, u70, u71, u72, u73, u74, u75, u76, u77, u78, u79, u80, u81, u82, u83, u84, u85, u86, u87, u88, u89, u90, u91, u92, u93, u94, u95, u96, u97, u98, u99, u100, u101, u102, u103, u104, u105, u106, u107, u108, u109, u110, u111, u112, u113, u114, u115, u116, u117, u118, u119, u120, u121, u122, u123, x124, x125, x126, x127, x128, x129, x130, x131, x132, x133, x134, x135, x136, x137, x138, x139, x140, u141, u142, u143, u144, u145, u146, u147, u148, u149, u150, u151, u152, u153, u154, u155, u156, u157, u158, u159, u160, u161, u162, u163, u164, u165, u166, u167, u168, u169, u170, u171, u172, u173, u174, u175, u176, u177, u178, u179, u180, u181, u182, u183, u184, u185, u186, u187, u188, u189, u190, u191, u192, u193, u194, u195, u196, u197, u198, u199, u200, u201, u202, u203, u204, u205, u206, u207, u208, u209, u210, u211, u212, u213, u214, u215, u216, u217, u218, u219, u220, u221, u222, u223, u224, u225, u226, u227, u228, u229, u230, u231, u232, u233, u234, u235, u236], []⟩
set_option maxHeartbeats 8000000 in
set_option maxRecDepth 100000 in
theorem loop9_piece {wc : World} {q xs : List Int} {Ao Ac : Option Addr} {ko kc bm n : Nat} {D : DataW Unit} {f : Int → Int} {u0 u1 u2 u3 u4 u5 u6 u7 u8 u9 u10 u11 u12 u13 u14 u17 u18 u20 u22 u23 u24 u25 u26 u27 u28 u29 u30 u31 u32 u33 u34 u35 u36 u37 u38 u39 u40 u41 u42 u43 u44 u45 u46 u47 u48 u49 u50 u51 u52 u53 u54 u55 u56 u57 u58 u59 u60 u61 u62 u63 u64 u65 u66 u67 u68 u69 u70 u71 u72 u73 u74 u75 u76 u77 u78 u79 u80 u81 u82 u83 u84 u85 u86 u87 u88 u89 u90 u91 u92 u93 u94 u95 u96 u97 u98 u99 u100 u101 u102 u103 u104 u105 u106 u107 u108 u109 u110 u111 u112 u113 u114 u115 u116 u117 u118 u119 u120 u121 u122 u123 u124 u125 u126 u127 u128 u129 u130 u131 u132 u133 u134 u135 u136 u137 u138 u139 u140 u141 u142 u143 u144 u145 u146 u147 u148 u149 u150 u151 u152 u153 u154 u155 u156 u157 u158 u159 u160 u161 u162 u163 u164 u165 u166 u167 u168 u169 u170 u171 u172 u173 u174 u175 u176 u177 u178 u179 u180 u181 u182 u183 u184 u185 u186 u187 u188 u189 u190 u191 u192 u193 u194 u195 u196 u197 u198 u199 u200 u201 u202 u203 u204 u205 u206 u207 u208 u209 u210 u211 u212 u213 u214 u215 u216 u217 u218 u219 u220 u221 u222 u223 u224 u225 u226 u227 u228 u229 u230 u231 u232 u233 u234 u235 u236 : Value}
    (ho : (Kd.int .i64).C wc Ao q.length q) (hx : (Kd.int .i64).C wc Ac xs.length xs) (hl : xs.length = q.length) (hq : q.length ≤ 256) (hn : wc.ownsMap Try.prog 3 (plainElem Try.prog 2) bm n D) (ht : Tells D f) (hv : ∀ k, k < q.length → xs.getD k 0 = f (q.getD k 0)) (hw : ∀ y ∈ q, (Lit.int .i64 y).wf = true) :
    ∀ (K : Act → World → Prop) (Q' : Exit → Act → World → Prop), (∀ a' w', L9R wc q Ao Ac ko kc bm u0 u1 u2 u3 u5 u6 u7 u8 u9 u10 u11 u12 u13 u14 u17 u18 u20 u22 u23 u24 u25 u26 u27 u28 u29 u30 u31 u32 u33 u34 u35 u36 u37 u38 u39 u40 u41 u42 u43 u44 u45 u46 u47 u48 u49 u50 u51 u52 u53 u54 u55 u56 u57 u58 u59 u60 u61 u62 u63 u64 u65 u66 u67 u68 u69 u70 u71 u72 u73 u74 u75 u76 u77 u78 u79 u80 u81 u82 u83 u84 u85 u86 u87 u88 u89 u90 u91 u92 u93 u94 u95 u96 u97 u98 u99 u100 u101 u102 u103 u104 u105 u106 u107 u108 u109 u110 u111 u112 u113 u114 u115 u116 u117 u118 u119 u120 u121 u122 u123 u141 u142 u143 u144 u145 u146 u147 u148 u149 u150 u151 u152 u153 u154 u155 u156 u157 u158 u159 u160 u161 u162 u163 u164 u165 u166 u167 u168 u169 u170 u171 u172 u173 u174 u175 u176 u177 u178 u179 u180 u181 u182 u183 u184 u185 u186 u187 u188 u189 u190 u191 u192 u193 u194 u195 u196 u197 u198 u199 u200 u201 u202 u203 u204 u205 u206 u207 u208 u209 u210 u211 u212 u213 u214 u215 u216 u217 u218 u219 u220 u221 u222 u223 u224 u225 u226 u227 u228 u229 u230 u231 u232 u233 u234 u235 u236 a' w' → K a' w') → (∀ c a i v w1, Q' (.panic c) (Act.put a (some i) v) w1 → Q' (.panic c) a w1) → Code.wp Try.prog L9Code (Exit.then K Q') ⟨#[u0, u1, u2, u3, u4, u5, u6, u7, u8, u9, u10, u11, u12, u13, u14, .slice Ao q.length ko, .map (some bm), u17, u18, .slice Ac q.length kc, u20, .int .i64 0, u22, u23, u24, u25, u26, u27, u28, u29, u30, u31, u32, u33, u34, u35, u36, u37, u38, u39, u40, u41, u42, u43, u44, u45, u46, u47, u48, u49, u50, u51, u52, u53, u54, u55, u56, u57, u58, u59, u60, u61, u62, u63, u64, u65, u66, u67, u68, u69, u70, u71, u72, u73, u74, u75, u76, u77, u78, u79, u80, u81, u82, u83, u84, u85, u86, u87, u88, u89, u90, u91, u92, u93, u94, u95, u96, u97, u98, u99, u100, u101, u102, u103, u104, u105, u106, u107, u108, u109, u110, u111, u112, u113, u114, u115, u116, u117, u118, u119, u120, u121, u122, u123, u124, u125, u126, u127, u128, u129, u130, u131, u132, u133, u134, u135, u136, u137, u138, u139, u140, u141, u142, u143, u144, u145, u146, u147, u148, u149, u150, u151, u152, u153, u154, u155, u156, u157, u158, u159, u160, u161, u162, u163, u164, u165, u166, u167, u168, u169, u170, u171, u172, u173, u174, u175, u176, u177, u178, u179, u180, u181, u182, u183, u184, u185, u186, u187, u188, u189, u190, u191, u192, u193, u194, u195, u196, u197, u198, u199, u200, u201, u202, u203, u204, u205, u206, u207, u208, u209, u210, u211, u212, u213, u214, u215, u216, u217, u218, u219, u220, u221, u222, u223, u224, u225, u226, u227, u228, u229, u230, u231, u232, u233, u234, u235, u236], []⟩ wc := by
  have HO := Aside0.mk ho
  have HXS := Aside0.mk hx
  have HL := Aside0.mk (show xs.length = q.length ∧ q.length ≤ 256 from ⟨hl, hq⟩)
  have HN := Aside0.mk hn
  have HB := Aside0.mk (own_lt hn)
  have HT := Aside0.mk ht
  have HV := Aside0.mk hv
  have HW := Aside0.mk hw
  clear ho hx hl hq hn ht hv hw
  intro K Q' hK hqp
  conv => arg 2; whnf
  refine wp_cut (L9R wc q Ao Ac ko kc bm u0 u1 u2 u3 u5 u6 u7 u8 u9 u10 u11 u12 u13 u14 u17 u18 u20 u22 u23 u24 u25 u26 u27 u28 u29 u30 u31 u32 u33 u34 u35 u36 u37 u38 u39 u40 u41 u42 u43 u44 u45 u46 u47 u48 u49 u50 u51 u52 u53 u54 u55 u56 u57 u58 u59 u60 u61 u62 u63 u64 u65 u66 u67 u68 u69 u70 u71 u72 u73 u74 u75 u76 u77 u78 u79 u80 u81 u82 u83 u84 u85 u86 u87 u88 u89 u90 u91 u92 u93 u94 u95 u96 u97 u98 u99 u100 u101 u102 u103 u104 u105 u106 u107 u108 u109 u110 u111 u112 u113 u114 u115 u116 u117 u118 u119 u120 u121 u122 u123 u141 u142 u143 u144 u145 u146 u147 u148 u149 u150 u151 u152 u153 u154 u155 u156 u157 u158 u159 u160 u161 u162 u163 u164 u165 u166 u167 u168 u169 u170 u171 u172 u173 u174 u175 u176 u177 u178 u179 u180 u181 u182 u183 u184 u185 u186 u187 u188 u189 u190 u191 u192 u193 u194 u195 u196 u197 u198 u199 u200 u201 u202 u203 u204 u205 u206 u207 u208 u209 u210 u211 u212 u213 u214 u215 u216 u217 u218 u219 u220 u221 u222 u223 u224 u225 u226 u227 u228 u229 u230 u231 u232 u233 u234 u235 u236) hK ?_
  intro _ _ _ _
  go_wp2
  go_loopw [21] (fun i wz => Rel9 wc q i wz) (fun i _ => q.length - (intOf i).toNat)
  case atStart => exact ⟨0, Nat.zero_le _, rfl, Below.refl _ _⟩
  case round =>
    obtain ⟨k, hk, rfl, hB⟩ := hrel
    have BZ := Aside0.mk hB
    clear hB
    have hk256 : k ≤ 256 := by have := HL.out; omega
    by_cases hqn : k < q.length
    · have pq : decide ((k : Int) < (q.length : Int)) = true := decide_eq_true (by omega)
      have bq : (0 ≤ (k : Int) ∧ (k : Int) < (q.length : Int)) := by omega
      obtain ⟨a1, hA1, _⟩ := Mine.read_at HO.out hqn
      obtain ⟨a2, hA2, _⟩ := Mine.read_at HXS.out (show k < xs.length by rw [HL.out.1]; exact hqn)
      subst hA1
      subst hA2
      obtain ⟨z, hz⟩ : ∃ z, q.getD k 0 = z := ⟨_, rfl⟩
      obtain ⟨y, hy⟩ : ∃ y, xs.getD k 0 = y := ⟨_, rfl⟩
      have HQV := Aside0.mk hz
      have HXV := Aside0.mk hy
      have HFZ := Aside0.mk (show f z = y from by rw [← hz, ← hy, HV.out k hqn])
      have HWF := Aside0.mk (show (Lit.int .i64 z).wf = true from HW.out z (by
        rw [← hz, List.getD_eq_getElem?_getD, List.getElem?_eq_getElem hqn]
        exact List.getElem_mem _))
      clear hz hy
      go_upto_region 46 with (fail)
      refine q_start (by kernel_rfl) (by kernel_rfl) (fun w' => Below wr.heap.size wr w') (below_drew (Below.refl _ _)) ?_
      refine q_op (v := ?_) (a' := ?_) ?hw1 ?_ ?_ ?_
      case hw1 => rfl
      rotate_left
      rotate_left
      · intro w' hC_
        go_simp
        with_reducible rfl
      · show Act.put _ (some 130) _ = _
        simp only [Act.put, List.setIfInBounds_toArray, List.set_cons_zero, List.set_cons_succ, i64_w, i32_w]
        rfl
      refine q_op (v := ?_) (a' := ?_) ?hw1 ?_ ?_ ?_
      case hw1 => rfl
      rotate_left
      rotate_left
      · intro w' hC_
        go_simp
        with_reducible rfl
      · show Act.put _ (some 131) _ = _
        simp only [Act.put, List.setIfInBounds_toArray, List.set_cons_zero, List.set_cons_succ, i64_w, i32_w]
        rfl
      refine q_op (v := ?_) (a' := ?_) ?hw1 ?_ ?_ ?_
      case hw1 => rfl
      rotate_left
      rotate_left
      · intro w' hC_
        go_simp
        with_reducible rfl
      · show Act.put _ (some 132) _ = _
        simp only [Act.put, List.setIfInBounds_toArray, List.set_cons_zero, List.set_cons_succ, i64_w, i32_w]
        rfl
      refine q_op (v := ?_) (a' := ?_) ?hw1 ?_ ?_ ?_
      case hw1 => rfl
      rotate_left
      rotate_left
      · intro w' hC_
        obtain ⟨ad', ea, z1⟩ := Mine.read_at (Kd.C_below HXS.out (BZ.out.trans (hC_.mono BZ.out.size))) (show k < xs.length by rw [HL.out.1]; exact hqn)
        cases ea
        rw [HXV.out] at z1
        go_simp
        with_reducible rfl
      · show Act.put _ (some 133) _ = _
        simp only [Act.put, List.setIfInBounds_toArray, List.set_cons_zero, List.set_cons_succ, i64_w, i32_w]
        rfl
      refine q_op (v := ?_) (a' := ?_) ?hw1 ?_ ?_ ?_
      case hw1 => rfl
      rotate_left
      rotate_left
      · intro w' hC_
        go_simp
        with_reducible rfl
      · show Act.put _ (some 134) _ = _
        simp only [Act.put, List.setIfInBounds_toArray, List.set_cons_zero, List.set_cons_succ, i64_w, i32_w]
        rfl
      refine q_op (v := ?_) (a' := ?_) ?hw1 ?_ ?_ ?_
      case hw1 => rfl
      rotate_left
      rotate_left
      · intro w' hC_
        go_simp
        with_reducible rfl
      · show Act.put _ (some 135) _ = _
        simp only [Act.put, List.setIfInBounds_toArray, List.set_cons_zero, List.set_cons_succ, i64_w, i32_w]
        rfl
      refine q_op (v := ?_) (a' := ?_) ?hw1 ?_ ?_ ?_
      case hw1 => rfl
      rotate_left
      rotate_left
      · intro w' hC_
        go_simp
        with_reducible rfl
      · show Act.put _ (some 136) _ = _
        simp only [Act.put, List.setIfInBounds_toArray, List.set_cons_zero, List.set_cons_succ, i64_w, i32_w]
        rfl
      refine q_op (v := ?_) (a' := ?_) ?hw1 ?_ ?_ ?_
      case hw1 => rfl
      rotate_left
      rotate_left
      · intro w' hC_
        go_simp
        with_reducible rfl
      · show Act.put _ (some 137) _ = _
        simp only [Act.put, List.setIfInBounds_toArray, List.set_cons_zero, List.set_cons_succ, i64_w, i32_w]
        rfl
      refine q_op (v := ?_) (a' := ?_) ?hw1 ?_ ?_ ?_
      case hw1 => rfl
      rotate_left
      rotate_left
      · intro w' hC_
        obtain ⟨ad', ea, z1⟩ := Mine.read_at (Kd.C_below HO.out (BZ.out.trans (hC_.mono BZ.out.size))) hqn
        cases ea
        rw [HQV.out] at z1
        go_simp
        with_reducible rfl
      · show Act.put _ (some 138) _ = _
        simp only [Act.put, List.setIfInBounds_toArray, List.set_cons_zero, List.set_cons_succ, i64_w, i32_w]
        rfl
      refine q_op (v := ?_) (a' := ?_) ?hw1 ?_ ?_ ?_
      case hw1 => rfl
      rotate_left
      rotate_left
      · intro w' hC_
        obtain ⟨cv, hrun, hat, _⟩ := (own_move HN.out ((BZ.out.trans (hC_.mono BZ.out.size)).block bm HB.out)).lookup_int law Try.underlying38 Try.underlying2 (zero64 _) (key := .int .i64 z) (kl := kl z) (Go.Maps.keyOf_int_mk Try.underlying3 HWF.out)
        have ecv : cv = y := by have h := hat.symm.trans (HT.out z); rw [HFZ.out] at h; injection h with h; injection h with _ h
        rw [ecv] at hrun
        clear hat ecv
        go_simp
        with_reducible rfl
      · show Act.put _ (some 139) _ = _
        simp only [Act.put, List.setIfInBounds_toArray, List.set_cons_zero, List.set_cons_succ, i64_w, i32_w]
        rfl
      refine q_op (v := .bool false) (a' := ?_) ?hw1 ?_ ?_ ?_
      case hw1 => rfl
      rotate_left
      · intro w' hC_
        obtain _ := hC_
        go_simp
        (try simp)
      · show Act.put _ (some 140) _ = _
        simp only [Act.put, List.setIfInBounds_toArray, List.set_cons_zero, List.set_cons_succ, i64_w, i32_w]
        rfl
      refine q_nil ?_
      intro w2 hC_
      have B2 := Aside0.mk (BZ.out.trans (hC_.mono BZ.out.size))
      clear hC_
      go_wp2
      go_roundw
      case rel => exact ⟨k + 1, by omega, by go_num, B2.out⟩
      case measure => simp [intOf]; omega
    · have pq : decide ((k : Int) < (q.length : Int)) = false := decide_eq_false (by omega)
      go_wp2
      refine Met.intro ?_
      go_step
      unfold L9R
      refine ⟨_, _, _, _, _, _, _, _, _, _, _, _, _, _, _, _, _, _, _, ?_, rfl⟩
      exact BZ.out
end Go.Proofs.Ytmjmfkbdnhdafaa.Robin
