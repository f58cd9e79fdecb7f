/- RankPlays: the walk's pieces (no law is stated here; each says its conditions). -/
import Derived.Test.YtjeflmdfnfgacaaRankS
import Derived.Test.YtjeflmdfnfgacaaQx34
import Derived.Deep.CutBlock
import Derived.Deep.CutRange
import Derived.Test.YtjeflmdfnfgacaaReg
import Derived.Test.YtjeflmdfnfgacaaQx27
namespace Go.Proofs.Ytjeflmdfnfgacaa.Rank
open Go.RowKit Go.Proofs.YtjeflmdfnfgacaaW.PrintWords Go.Proofs.YtjeflmdfnfgacaaW.PrintLast Go.Proofs.YtjeflmdfnfgacaaW.PrintMore Go.Proofs.Ytjeflmdfnfgacaa.St Go.Proofs.Ytjeflmdfnfgacaa.Q Go.Proofs.Ytjeflmdfnfgacaa.Heap
set_option linter.unusedVariables false
set_option linter.unusedSimpArgs false
attribute [local go_sem] max2_int min2_int max_two min_two max_three min_three max_four min_four

def L3Rel (w : World) (n : Nat) (v : Value) (gw gi : Nat) (s : List (Option Ent)) (csw csi : Array Value) (r16 r17 r18 : Value) (W : World) : Prop :=
  ∃ (r : Int) (m : Nat) (c : Nat → Nat), r16 = .int .i64 r ∧ Up s n r ∧ r17 = .int .u64 (m : Int) ∧ IdU m s n ∧ PS w n v gw gi c s csw csi W ∧ (row 29 KE).M W w.heap.size (fun k => c k = 4) (allOf s) r18
def Rel3 (w : World) (n : Nat) (v : Value) (gw gi : Nat) (s : List (Option Ent)) (csw csi : Array Value) (r16 r17 r18 i : Value) (W : World) : Prop :=
  ∃ (q : Nat) (r : Int) (m : Nat) (c : Nat → Nat), q ≤ n ∧ i = .int .i64 (q : Int) ∧ r16 = .int .i64 r ∧ Up s q r ∧ r17 = .int .u64 (m : Int) ∧ IdU m s q ∧ PS w n v gw gi c s csw csi W ∧ (row 29 KE).M W w.heap.size (fun k => c k = 4) (allOf (s.take q)) r18
noncomputable def L3Code : Code := ((Try.f4.body.bind (subBlock 5)).getD .skip)
set_option maxRecDepth 1000000 in
def L3R (w : World) (n : Nat) (cpus : Int) (v : Value) (gw gi : Nat) (s : List (Option Ent)) (csw csi : Array Value) (u1 u2 u3 u6 u9 u10 u11 u12 u13 u14 u15 u24 u25 u26 u27 u28 u29 u30 u31 u32 u33 u34 u35 u36 u37 u38 u39 u40 u41 u42 u43 u44 u45 u46 u47 u48 u49 u50 u51 u52 u53 u54 u55 u56 u57 u58 u59 u60 u61 u62 u63 u64 u65 u66 u67 u68 u69 u70 u71 u72 u73 u74 u75 u76 u77 u78 u79 u80 u81 u82 u83 u84 u85 u86 u87 u88 u89 u90 u91 u92 u93 u94 u95 u96 u97 u98 u99 u100 u101 u102 u103 u104 u105 u106 u107 u108 u109 u110 u111 u112 u113 u114 u115 u116 u117 u118 u119 u120 u121 u122 u123 u124 u125 u126 u127 u128 u129 u130 u131 u132 u133 u134 u135 u136 u137 u138 u139 u140 u141 u142 u143 u144 u145 u146 u147 u148 u149 u150 u151 u152 u153 u154 u155 u156 u157 u158 u159 u160 u161 u162 u163 u164 u165 u166 u167 u168 u169 u246 u247 u248 u249 u250 u251 u252 u253 u254 u255 u256 u257 u258 u259 u260 u261 u262 u263 u264 u265 u266 u267 u268 u269 u270 u271 u272 u273 u274 u275 u276 u277 u278 u279 u280 u281 u282 u283 u284 u285 u286 u287 u288 u289 u290 u291 u292 u293 u294 u295 u296 u297 u298 u299 u300 : Value) (a' : Act) (w' : World) : Prop := ∃ x4 x16 x17 x18 x19 x20 x21 x22 x23 x170 x171 x172 x173 x174 x175 x176 x177 x178 x179 x180 x181 x182 x183 x184 x185 x186 x187 x188 x189 x190 x191 x192 x193 x194 x195 x196 x197 x198 x199 x200 x201 x202 x203 x204 x205 x206 x207 x208 x209 x210 x211 x212 x213 x214 x215 x216 x217 x218 x219 x220 x221 x222 x223 x224 x225 x226 x227 x228 x229 x230 x231 x232 x233 x234 x235 x236 x237 x238 x239 x240 x241 x242 x243 x244 x245 : Value, L3Rel w n v gw gi s csw csi x16 x17 x18 w' ∧ a' = ⟨#[.int .i64 cpus, u1, u2, u3, x4, v, u6, .pointer (some ⟨gw, 0, none⟩), .pointer (some ⟨gi, 0, none⟩), u9, u10, u11, u12, u13, u14, u15, x16, x17, x18, x19, x20, x21, x22, x23, u24, u25, u26, u27, u28, u29, u30, u31, u32, u33, u34, u35, u36, u37, u38, u39, u40, u41, u42, u43, u44, u45, u46, u47, u48, u49, u50, u51, u52, u53, u54, u55, u56, u57, u58, u59, u60, u61, u62, u63, u64, u65, u66, u67, u68, u69, u70, u71, u72, u73, u74, u75, u76, u77, u78, u79, u80, u81, u82, u83, u84, u85, u86, u87, u88, u89, u90, u91, u92, u93, u94, u95, u96, u97, u98, u99, u100, u101, u102, u103, u104, u105, u106, u107, u108, u109, u110, u111, u112, u113, u114, u115, u116, u117, u118, u119, u120, u121, u122, u123, u124, u125, u126, u127, u128, u129, u130, u131, u132, u133, u134, u135, u136, u137, u138, u139, u140, u141, u142, u143, u144, u145, u146, u147, u148, u149, u150, u151, u152, u153, u154, u155, u156, u157, u158, u159, u160, u161, u162, u163, u164, u165, u166, u167, u168, u169, x170, x171, x172, x173, x174, x175, x176, x177, x178, x179, x180, x181, x182, x183, x184, x185, x186, x187, x188, x189, x190, x191, x192, x193, x194, x195, x196, x197, x198, x199, x200, x201, x202, x203, x204, x205, x206, x207, x208, x209, x210, x211, x212, x213, x214, x215, x216, x217, x218, x219, x220, x221, x222, x223, x224, x225, x226, x227, x228, x229, x230, x231, x232, x233, x234, x235, x236, x237, x238, x239, x240, x241, x242, x243, x244, x245, u246, u247, u248, u249, u250, u251, u252, u253, u254, u255, u256, u257, u258, u259, u260, u261, u262, u263, u264, u265, u266, u267, u268, u269, u270, u271, u272, u273, u274, u275, u276, u277, u278, u279, u280, u281, u282, u283, u284, u285, u286, u287, u288, u289, u290, u291, u292, u293, u294, u295, u296, u297, u298, u299, u300], []⟩
set_option maxHeartbeats 8000000 in
set_option maxRecDepth 100000 in
theorem loop3_piece {w wc : World} {n : Nat} {cpus : Int} {v : Value} {gw gi : Nat} {c : Nat → Nat} {s : List (Option Ent)} {csw csi : Array Value} {u1 u2 u3 u4 u6 u9 u10 u11 u12 u13 u14 u15 u20 u21 u22 u23 u24 u25 u26 u27 u28 u29 u30 u31 u32 u33 u34 u35 u36 u37 u38 u39 u40 u41 u42 u43 u44 u45 u46 u47 u48 u49 u50 u51 u52 u53 u54 u55 u56 u57 u58 u59 u60 u61 u62 u63 u64 u65 u66 u67 u68 u69 u70 u71 u72 u73 u74 u75 u76 u77 u78 u79 u80 u81 u82 u83 u84 u85 u86 u87 u88 u89 u90 u91 u92 u93 u94 u95 u96 u97 u98 u99 u100 u101 u102 u103 u104 u105 u106 u107 u108 u109 u110 u111 u112 u113 u114 u115 u116 u117 u118 u119 u120 u121 u122 u123 u124 u125 u126 u127 u128 u129 u130 u131 u132 u133 u134 u135 u136 u137 u138 u139 u140 u141 u142 u143 u144 u145 u146 u147 u148 u149 u150 u151 u152 u153 u154 u155 u156 u157 u158 u159 u160 u161 u162 u163 u164 u165 u166 u167 u168 u169 u170 u171 u172 u173 u174 u175 u176 u177 u178 u179 u180 u181 u182 u183 u184 u185 u186 u187 u188 u189 u190 u191 u192 u193 u194 u195 u196 u197 u198 u199 u200 u201 u202 u203 u204 u205 u206 u207 u208 u209 u210 u211 u212 u213 u214 u215 u216 u217 u218 u219 u220 u221 u222 u223 u224 u225 u226 u227 u228 u229 u230 u231 u232 u233 u234 u235 u236 u237 u238 u239 u240 u241 u242 u243 u244 u245 u246 u247 u248 u249 u250 u251 u252 u253 u254 u255 u256 u257 u258 u259 u260 u261 u262 u263 u264 u265 u266 u267 u268 u269 u270 u271 u272 u273 u274 u275 u276 u277 u278 u279 u280 u281 u282 u283 u284 u285 u286 u287 u288 u289 u290 u291 u292 u293 u294 u295 u296 u297 u298 u299 u300 : Value}
    (hP : PS w n v gw gi c s csw csi wc) (hn : cpus = (n : Int) ∧ 1 ≤ n ∧ n ≤ 64) :
    ∀ (K : Act → World → Prop) (Q' : Exit → Act → World → Prop), (∀ a' w', L3R w n cpus v gw gi s csw csi u1 u2 u3 u6 u9 u10 u11 u12 u13 u14 u15 u24 u25 u26 u27 u28 u29 u30 u31 u32 u33 u34 u35 u36 u37 u38 u39 u40 u41 u42 u43 u44 u45 u46 u47 u48 u49 u50 u51 u52 u53 u54 u55 u56 u57 u58 u59 u60 u61 u62 u63 u64 u65 u66 u67 u68 u69 u70 u71 u72 u73 u74 u75 u76 u77 u78 u79 u80 u81 u82 u83 u84 u85 u86 u87 u88 u89 u90 u91 u92 u93 u94 u95 u96 u97 u98 u99 u100 u101 u102 u103 u104 u105 u106 u107 u108 u109 u110 u111 u112 u113 u114 u115 u116 u117 u118 u119 u120 u121 u122 u123 u124 u125 u126 u127 u128 u129 u130 u131 u132 u133 u134 u135 u136 u137 u138 u139 u140 u141 u142 u143 u144 u145 u146 u147 u148 u149 u150 u151 u152 u153 u154 u155 u156 u157 u158 u159 u160 u161 u162 u163 u164 u165 u166 u167 u168 u169 u246 u247 u248 u249 u250 u251 u252 u253 u254 u255 u256 u257 u258 u259 u260 u261 u262 u263 u264 u265 u266 u267 u268 u269 u270 u271 u272 u273 u274 u275 u276 u277 u278 u279 u280 u281 u282 u283 u284 u285 u286 u287 u288 u289 u290 u291 u292 u293 u294 u295 u296 u297 u298 u299 u300 a' w' → K a' w') → (∀ c a i v w1, Q' (.panic c) (Act.put a (some i) v) w1 → Q' (.panic c) a w1) → Code.wp Try.prog L3Code (Exit.then K Q') ⟨#[.int .i64 cpus, u1, u2, u3, u4, v, u6, .pointer (some ⟨gw, 0, none⟩), .pointer (some ⟨gi, 0, none⟩), u9, u10, u11, u12, u13, u14, u15, .int .i64 (-1), .int .u64 0, .slice none 0 0, .int .i64 0, u20, u21, u22, u23, u24, u25, u26, u27, u28, u29, u30, u31, u32, u33, u34, u35, u36, u37, u38, u39, u40, u41, u42, u43, u44, u45, u46, u47, u48, u49, u50, u51, u52, u53, u54, u55, u56, u57, u58, u59, u60, u61, u62, u63, u64, u65, u66, u67, u68, u69, u70, u71, u72, u73, u74, u75, u76, u77, u78, u79, u80, u81, u82, u83, u84, u85, u86, u87, u88, u89, u90, u91, u92, u93, u94, u95, u96, u97, u98, u99, u100, u101, u102, u103, u104, u105, u106, u107, u108, u109, u110, u111, u112, u113, u114, u115, u116, u117, u118, u119, u120, u121, u122, u123, u124, u125, u126, u127, u128, u129, u130, u131, u132, u133, u134, u135, u136, u137, u138, u139, u140, u141, u142, u143, u144, u145, u146, u147, u148, u149, u150, u151, u152, u153, u154, u155, u156, u157, u158, u159, u160, u161, u162, u163, u164, u165, u166, u167, u168, u169, u170, u171, u172, u173, u174, u175, u176, u177, u178, u179, u180, u181, u182, u183, u184, u185, u186, u187, u188, u189, u190, u191, u192, u193, u194, u195, u196, u197, u198, u199, u200, u201, u202, u203, u204, u205, u206, u207, u208, u209, u210, u211, u212, u213, u214, u215, u216, u217, u218, u219, u220, u221, u222, u223, u224, u225, u226, u227, u228, u229, u230, u231, u232, u233, u234, u235, u236, u237, u238, u239, u240, u241, u242, u243, u244, u245, u246, u247, u248, u249, u250, u251, u252, u253, u254, u255, u256, u257, u258, u259, u260, u261, u262, u263, u264, u265, u266, u267, u268, u269, u270, u271, u272, u273, u274, u275, u276, u277, u278, u279, u280, u281, u282, u283, u284, u285, u286, u287, u288, u289, u290, u291, u292, u293, u294, u295, u296, u297, u298, u299, u300], []⟩ wc := by
  have P6 := Aside0.mk hP
  have HN := Aside0.mk hn
  clear hP hn
  intro K Q' hK hqp
  conv => arg 2; whnf
  refine wp_cut (L3R w n cpus v gw gi s csw csi u1 u2 u3 u6 u9 u10 u11 u12 u13 u14 u15 u24 u25 u26 u27 u28 u29 u30 u31 u32 u33 u34 u35 u36 u37 u38 u39 u40 u41 u42 u43 u44 u45 u46 u47 u48 u49 u50 u51 u52 u53 u54 u55 u56 u57 u58 u59 u60 u61 u62 u63 u64 u65 u66 u67 u68 u69 u70 u71 u72 u73 u74 u75 u76 u77 u78 u79 u80 u81 u82 u83 u84 u85 u86 u87 u88 u89 u90 u91 u92 u93 u94 u95 u96 u97 u98 u99 u100 u101 u102 u103 u104 u105 u106 u107 u108 u109 u110 u111 u112 u113 u114 u115 u116 u117 u118 u119 u120 u121 u122 u123 u124 u125 u126 u127 u128 u129 u130 u131 u132 u133 u134 u135 u136 u137 u138 u139 u140 u141 u142 u143 u144 u145 u146 u147 u148 u149 u150 u151 u152 u153 u154 u155 u156 u157 u158 u159 u160 u161 u162 u163 u164 u165 u166 u167 u168 u169 u246 u247 u248 u249 u250 u251 u252 u253 u254 u255 u256 u257 u258 u259 u260 u261 u262 u263 u264 u265 u266 u267 u268 u269 u270 u271 u272 u273 u274 u275 u276 u277 u278 u279 u280 u281 u282 u283 u284 u285 u286 u287 u288 u289 u290 u291 u292 u293 u294 u295 u296 u297 u298 u299 u300) hK ?_
  intro _ _ _ _
  go_wp2
  go_loopw [16, 17, 18, 19] (fun r16 r17 r18 i wr => Rel3 w n v gw gi s csw csi r16 r17 r18 i wr) (fun _ _ _ i _ => n - (intOf i).toNat)
  case atStart => exact ⟨0, -1, 0, c, Nat.zero_le _, rfl, rfl, up_zero s, rfl, idU_zero s, P6.out, Kd.R_nil _ _ _ _ _⟩
  case round =>
    obtain ⟨q, r, m, c, hq, rfl, rfl, hU, rfl, hI, hP, hR⟩ := hrel
    have PZ := Aside0.mk hP
    have UZ := Aside0.mk hU
    have IZ := Aside0.mk hI
    obtain ⟨al, hal⟩ : ∃ al, allOf (s.take q) = al := ⟨_, rfl⟩
    have hq64 : q ≤ 64 := by have := HN.out; omega
    have HL := Aside0.mk (show al.length ≤ 64 from by rw [← hal]; have := all_le s q; omega)
    rw [hal] at hR
    have AL := Aside0.mk hal
    obtain ⟨A, c2, rfl⟩ := Kd.R_slice hR
    have RZ := Aside0.mk hR
    clear hP hU hI hR hal P6
    by_cases hqn : q < n
    · have pq : decide ((q : Int) < cpus) = true := decide_eq_true (by have := HN.out; omega)
      have bq : (0 ≤ (q : Int) ∧ (q : Int) < 64) := by have := HN.out; omega
      have hq64' : q < 64 := by have := HN.out; omega
      cases hs : s.getD q none with
      | none =>
        have HXF := Aside0.mk (at_gone (by rw [PZ.out.len]; exact hqn) hs)
        have HS := Aside0.mk hs
        have HIB := Aside0.mk (show inB s q = false from by unfold inB; rw [hs]; rfl)
        have HAL := Aside0.mk ((all_none (by rw [PZ.out.len]; exact hqn) hs).trans AL.out)
        clear hs
        go_upto_region 43 with (first | (go_at_call 11; (with_reducible refine (atL (q : Int) 0 0 false false HXF.out PZ.out.st).mono ?_); rintro e w30 ⟨rfl, hb30⟩; have P30 := Aside0.mk (PZ.out.below hb30); have R30 := Aside0.mk (St.below (s := row 29 KE) RZ.out hb30); clear hb30) | ((with_reducible refine gate_dst (N := 20) rfl ?_); refine box_event ?hg (N := 20) ?hd (cs := #[(.int .i64 0), (.int .i64 0), (.bool false)]) (t := 29) ?hr ?_; (case hd => rfl); (case hg => rfl); (case hr => first | (go_simp; done) | (go_simp; rfl)); intro g31 hg31 w31 hx31 hb31; have HX31 := Aside0.mk hx31; have HB31 := Aside0.mk hb31; have HG31 := Aside0.mk hg31; have r031 := blk_cell hx31 0; have r131 := blk_cell hx31 1; have r231 := blk_cell hx31 2; have q031 := blk_frozen hx31 0; have q131 := blk_frozen hx31 1; have q231 := blk_frozen hx31 2; clear hx31 hb31 hg31))
        have hbz : Below w30.heap.size w30 (((w31.setCell ⟨g31, 0, none⟩ (.int .i64 (0))).setCell ⟨g31, 1, none⟩ (.int .i64 (0))).setCell ⟨g31, 2, none⟩ (.bool false)) := ((HB31.out.setCell (by have := HG31.out; show w30.heap.size ≤ g31; omega) _).setCell (by have := HG31.out; show w30.heap.size ≤ g31; omega) _).setCell (by have := HG31.out; show w30.heap.size ≤ g31; omega) _
        have hy : (((w31.setCell ⟨g31, 0, none⟩ (.int .i64 (0))).setCell ⟨g31, 1, none⟩ (.int .i64 (0))).setCell ⟨g31, 2, none⟩ (.bool false)).heap[g31]? = some (.cells #[.int .i64 (0), .int .i64 (0), .bool false] 29 (0, 0)) := blk_put (cs := #[.int .i64 (0), .int .i64 (0), .bool false]) (blk_put (cs := #[.int .i64 (0), .int .i64 0, .bool false]) (blk_put (cs := #[.int .i64 0, .int .i64 0, .bool false]) HX31.out 0 _ rfl) 1 _ rfl) 2 _ rfl
        clear r031 r131 r231 q031 q131 q231
        generalize (((w31.setCell ⟨g31, 0, none⟩ (.int .i64 (0))).setCell ⟨g31, 1, none⟩ (.int .i64 (0))).setCell ⟨g31, 2, none⟩ (.bool false)) = w32 at hbz hy ⊢
        have P32 := Aside0.mk (P30.out.below hbz)
        have R32 := Aside0.mk (St.below (s := row 29 KE) R30.out hbz)
        have XB := Aside0.mk hy
        clear hbz hy HX31 HB31 HG31
        refine q_start (by kernel_rfl) (by kernel_rfl) (fun w' => Below w32.heap.size w32 w') (below_drew (Below.refl _ _)) ?_
        refine q_op (v := ?_) (a' := ?_) ?hw4 ?_ ?_ ?_
        case hw4 => rfl
        rotate_left
        rotate_left
        · intro w' hC_
          go_simp
          with_reducible rfl
        · show Act.put _ (some 181) _ = _
          simp only [Act.put, List.setIfInBounds_toArray, List.set_cons_zero, List.set_cons_succ, i64_w, i32_w]
          rfl
        refine q_op (v := ?_) (a' := ?_) ?hw4 ?_ ?_ ?_
        case hw4 => rfl
        rotate_left
        rotate_left
        · intro w' hC_
          go_simp
          with_reducible rfl
        · show Act.put _ (some 182) _ = _
          simp only [Act.put, List.setIfInBounds_toArray, List.set_cons_zero, List.set_cons_succ, i64_w, i32_w]
          rfl
        refine q_op (v := ?_) (a' := ?_) ?hw4 ?_ ?_ ?_
        case hw4 => rfl
        rotate_left
        rotate_left
        · intro w' hC_
          go_simp
          with_reducible rfl
        · show Act.put _ (some 183) _ = _
          simp only [Act.put, List.setIfInBounds_toArray, List.set_cons_zero, List.set_cons_succ, i64_w, i32_w]
          rfl
        refine q_op (v := ?_) (a' := ?_) ?hw4 ?_ ?_ ?_
        case hw4 => rfl
        rotate_left
        rotate_left
        · intro w' hC_
          have z0 := ((P32.out.below hC_).icell (k := q) hq64').1
          rw [HIB.out] at z0
          go_simp
          with_reducible rfl
        · show Act.put _ (some 184) _ = _
          simp only [Act.put, List.setIfInBounds_toArray, List.set_cons_zero, List.set_cons_succ, i64_w, i32_w]
          rfl
        refine q_op (v := ?_) (a' := ?_) ?hw4 ?_ ?_ ?_
        case hw4 => rfl
        rotate_left
        rotate_left
        · intro w' hC_
          go_simp
          with_reducible rfl
        · show Act.put _ (some 185) _ = _
          simp only [Act.put, List.setIfInBounds_toArray, List.set_cons_zero, List.set_cons_succ, i64_w, i32_w]
          rfl
        refine q_op (v := ?_) (a' := ?_) ?hw4 ?_ ?_ ?_
        case hw4 => rfl
        rotate_left
        rotate_left
        · intro w' hC_
          go_simp
          with_reducible rfl
        · show Act.put _ (some 186) _ = _
          simp only [Act.put, List.setIfInBounds_toArray, List.set_cons_zero, List.set_cons_succ, i64_w, i32_w]
          rfl
        refine q_op (v := ?_) (a' := ?_) ?hw4 ?_ ?_ ?_
        case hw4 => exact wanted_on rfl rfl rfl rfl
        rotate_left
        rotate_left
        · intro w' hC_
          go_simp
          with_reducible rfl
        · show Act.put _ (some 187) _ = _
          simp only [Act.put, List.setIfInBounds_toArray, List.set_cons_zero, List.set_cons_succ, i64_w, i32_w]
          rfl
        refine q_op (v := ?_) (a' := ?_) ?hw4 ?_ ?_ ?_
        case hw4 => exact wanted_on rfl rfl rfl rfl
        rotate_left
        rotate_left
        · intro w' hC_
          go_simp
          with_reducible rfl
        · show Act.put _ (some 188) _ = _
          simp only [Act.put, List.setIfInBounds_toArray, List.set_cons_zero, List.set_cons_succ, i64_w, i32_w]
          rfl
        refine q_off (a' := ?_) ?hw4 ?_ ?_
        case hw4 => exact wanted_off rfl rfl rfl rfl
        rotate_left
        · show Act.put _ (some 189) _ = _
          simp only [Act.put, List.setIfInBounds_toArray, List.set_cons_zero, List.set_cons_succ, i64_w, i32_w]
          rfl
        refine q_off (a' := ?_) ?hw4 ?_ ?_
        case hw4 => exact wanted_off rfl rfl rfl rfl
        rotate_left
        · show Act.put _ (some 190) _ = _
          simp only [Act.put, List.setIfInBounds_toArray, List.set_cons_zero, List.set_cons_succ, i64_w, i32_w]
          rfl
        refine q_off (a' := ?_) ?hw4 ?_ ?_
        case hw4 => exact wanted_off rfl rfl rfl rfl
        rotate_left
        · show Act.put _ (some 191) _ = _
          simp only [Act.put, List.setIfInBounds_toArray, List.set_cons_zero, List.set_cons_succ, i64_w, i32_w]
          rfl
        refine q_off (a' := ?_) ?hw4 ?_ ?_
        case hw4 => exact wanted_off rfl rfl rfl rfl
        rotate_left
        · show Act.put _ (some 192) _ = _
          simp only [Act.put, List.setIfInBounds_toArray, List.set_cons_zero, List.set_cons_succ, i64_w, i32_w]
          rfl
        refine q_off (a' := ?_) ?hw4 ?_ ?_
        case hw4 => exact wanted_off rfl rfl rfl rfl
        rotate_left
        · show Act.put _ (some 193) _ = _
          simp only [Act.put, List.setIfInBounds_toArray, List.set_cons_zero, List.set_cons_succ, i64_w, i32_w]
          rfl
        refine q_op (v := ?_) (a' := ?_) ?hw4 ?_ ?_ ?_
        case hw4 => exact wanted_on rfl rfl rfl rfl
        rotate_left
        rotate_left
        · intro w' hC_
          go_simp
          with_reducible rfl
        · show Act.put _ (some 194) _ = _
          simp only [Act.put, List.setIfInBounds_toArray, List.set_cons_zero, List.set_cons_succ, i64_w, i32_w]
          rfl
        refine q_op (v := ?_) (a' := ?_) ?hw4 ?_ ?_ ?_
        case hw4 => rfl
        rotate_left
        rotate_left
        · intro w' hC_
          go_simp
          with_reducible rfl
        · show Act.put _ (some 195) _ = _
          simp only [Act.put, List.setIfInBounds_toArray, List.set_cons_zero, List.set_cons_succ, i64_w, i32_w]
          rfl
        refine q_nil ?_
        intro w33 hC_
        have P33 := Aside0.mk (P32.out.below hC_)
        have R33 := Aside0.mk (St.below (s := row 29 KE) R32.out hC_)
        clear hC_
        obtain ⟨i2, _⟩ := P33.out.icell (k := q) hq64'
        rw [HIB.out] at i2
        have HWI := Aside0.mk (idU_with IZ.out HS.out hq64')
        go_wp2_with (first | (go_at_call 16; (with_reducible refine (mask_Mask_With.calls (m : Int) (q : Int) _ _ HWI.out.1).mono ?_); rintro e w34 ⟨rfl, hd34⟩; have P34 := Aside0.mk (P33.out.below (Drawn0.below hd34)); have R34 := Aside0.mk (St.below (s := row 29 KE) R33.out (Drawn0.below hd34)); clear hd34))
        go_roundw
        case rel => exact ⟨q + 1, r, m ||| 2 ^ q, c, by omega, by go_num, rfl, up_skip UZ.out (fun e hc => by have h1 := hc.2.1; rw [HS.out] at h1; cases h1), rfl, HWI.out.2, P34.out, by rw [HAL.out]; exact R34.out⟩
        case measure => simp [intOf]; omega
      | some e =>
        obtain ⟨e1, e2, e3⟩ := e
        have HXF := Aside0.mk (at_here (by rw [PZ.out.len]; exact hqn) hs)
        have HS := Aside0.mk hs
        have HIB := Aside0.mk (show inB s q = true from by unfold inB; rw [hs]; rfl)
        have HAL := Aside0.mk ((all_some (by rw [PZ.out.len]; exact hqn) hs).trans (congrArg (· ++ [(e1, e2, e3)]) AL.out))
        have HW := Aside0.mk (wv_here PZ.out.good hs)
        clear hs
        go_upto_region 43 with (first | (go_at_call 11; (with_reducible refine (atL (q : Int) e1 e2 e3 true HXF.out PZ.out.st).mono ?_); rintro e w30 ⟨rfl, hb30⟩; have P30 := Aside0.mk (PZ.out.below hb30); have R30 := Aside0.mk (St.below (s := row 29 KE) RZ.out hb30); clear hb30) | ((with_reducible refine gate_dst (N := 20) rfl ?_); refine box_event ?hg (N := 20) ?hd (cs := #[(.int .i64 0), (.int .i64 0), (.bool false)]) (t := 29) ?hr ?_; (case hd => rfl); (case hg => rfl); (case hr => first | (go_simp; done) | (go_simp; rfl)); intro g31 hg31 w31 hx31 hb31; have HX31 := Aside0.mk hx31; have HB31 := Aside0.mk hb31; have HG31 := Aside0.mk hg31; have r031 := blk_cell hx31 0; have r131 := blk_cell hx31 1; have r231 := blk_cell hx31 2; have q031 := blk_frozen hx31 0; have q131 := blk_frozen hx31 1; have q231 := blk_frozen hx31 2; clear hx31 hb31 hg31))
        have hbz : Below w30.heap.size w30 (((w31.setCell ⟨g31, 0, none⟩ (.int .i64 (e1))).setCell ⟨g31, 1, none⟩ (.int .i64 (e2))).setCell ⟨g31, 2, none⟩ (.bool e3)) := ((HB31.out.setCell (by have := HG31.out; show w30.heap.size ≤ g31; omega) _).setCell (by have := HG31.out; show w30.heap.size ≤ g31; omega) _).setCell (by have := HG31.out; show w30.heap.size ≤ g31; omega) _
        have hy : (((w31.setCell ⟨g31, 0, none⟩ (.int .i64 (e1))).setCell ⟨g31, 1, none⟩ (.int .i64 (e2))).setCell ⟨g31, 2, none⟩ (.bool e3)).heap[g31]? = some (.cells #[.int .i64 (e1), .int .i64 (e2), .bool e3] 29 (0, 0)) := blk_put (cs := #[.int .i64 (e1), .int .i64 (e2), .bool false]) (blk_put (cs := #[.int .i64 (e1), .int .i64 0, .bool false]) (blk_put (cs := #[.int .i64 0, .int .i64 0, .bool false]) HX31.out 0 _ rfl) 1 _ rfl) 2 _ rfl
        clear r031 r131 r231 q031 q131 q231
        generalize (((w31.setCell ⟨g31, 0, none⟩ (.int .i64 (e1))).setCell ⟨g31, 1, none⟩ (.int .i64 (e2))).setCell ⟨g31, 2, none⟩ (.bool e3)) = w32 at hbz hy ⊢
        have P32 := Aside0.mk (P30.out.below hbz)
        have R32 := Aside0.mk (St.below (s := row 29 KE) R30.out hbz)
        have XB := Aside0.mk hy
        clear hbz hy HX31 HB31 HG31
        refine q_start (by kernel_rfl) (by kernel_rfl) (fun w' => Below w32.heap.size w32 w') (below_drew (Below.refl _ _)) ?_
        refine q_op (v := ?_) (a' := ?_) ?hw5 ?_ ?_ ?_
        case hw5 => rfl
        rotate_left
        rotate_left
        · intro w' hC_
          go_simp
          with_reducible rfl
        · show Act.put _ (some 181) _ = _
          simp only [Act.put, List.setIfInBounds_toArray, List.set_cons_zero, List.set_cons_succ, i64_w, i32_w]
          rfl
        refine q_op (v := ?_) (a' := ?_) ?hw5 ?_ ?_ ?_
        case hw5 => rfl
        rotate_left
        rotate_left
        · intro w' hC_
          go_simp
          with_reducible rfl
        · show Act.put _ (some 182) _ = _
          simp only [Act.put, List.setIfInBounds_toArray, List.set_cons_zero, List.set_cons_succ, i64_w, i32_w]
          rfl
        refine q_op (v := ?_) (a' := ?_) ?hw5 ?_ ?_ ?_
        case hw5 => rfl
        rotate_left
        rotate_left
        · intro w' hC_
          go_simp
          with_reducible rfl
        · show Act.put _ (some 183) _ = _
          simp only [Act.put, List.setIfInBounds_toArray, List.set_cons_zero, List.set_cons_succ, i64_w, i32_w]
          rfl
        refine q_op (v := ?_) (a' := ?_) ?hw5 ?_ ?_ ?_
        case hw5 => rfl
        rotate_left
        rotate_left
        · intro w' hC_
          have z0 := ((P32.out.below hC_).icell (k := q) hq64').1
          rw [HIB.out] at z0
          go_simp
          with_reducible rfl
        · show Act.put _ (some 184) _ = _
          simp only [Act.put, List.setIfInBounds_toArray, List.set_cons_zero, List.set_cons_succ, i64_w, i32_w]
          rfl
        refine q_op (v := ?_) (a' := ?_) ?hw5 ?_ ?_ ?_
        case hw5 => rfl
        rotate_left
        rotate_left
        · intro w' hC_
          go_simp
          with_reducible rfl
        · show Act.put _ (some 185) _ = _
          simp only [Act.put, List.setIfInBounds_toArray, List.set_cons_zero, List.set_cons_succ, i64_w, i32_w]
          rfl
        refine q_op (v := ?_) (a' := ?_) ?hw5 ?_ ?_ ?_
        case hw5 => rfl
        rotate_left
        rotate_left
        · intro w' hC_
          go_simp
          with_reducible rfl
        · show Act.put _ (some 186) _ = _
          simp only [Act.put, List.setIfInBounds_toArray, List.set_cons_zero, List.set_cons_succ, i64_w, i32_w]
          rfl
        refine q_op (v := ?_) (a' := ?_) ?hw5 ?_ ?_ ?_
        case hw5 => exact wanted_on rfl rfl rfl rfl
        rotate_left
        rotate_left
        · intro w' hC_
          go_simp
          with_reducible rfl
        · show Act.put _ (some 187) _ = _
          simp only [Act.put, List.setIfInBounds_toArray, List.set_cons_zero, List.set_cons_succ, i64_w, i32_w]
          rfl
        refine q_op (v := ?_) (a' := ?_) ?hw5 ?_ ?_ ?_
        case hw5 => exact wanted_on rfl rfl rfl rfl
        rotate_left
        rotate_left
        · intro w' hC_
          go_simp
          with_reducible rfl
        · show Act.put _ (some 188) _ = _
          simp only [Act.put, List.setIfInBounds_toArray, List.set_cons_zero, List.set_cons_succ, i64_w, i32_w]
          rfl
        refine q_op (v := ?_) (a' := ?_) ?hw5 ?_ ?_ ?_
        case hw5 => exact wanted_on rfl rfl rfl rfl
        rotate_left
        rotate_left
        · intro w' hC_
          have y0 := blk_cell ((hC_.block _ (blk_lt XB.out)).trans XB.out) 0
          have y1 := blk_cell ((hC_.block _ (blk_lt XB.out)).trans XB.out) 1
          have y2 := blk_cell ((hC_.block _ (blk_lt XB.out)).trans XB.out) 2
          go_simp
          with_reducible rfl
        · show Act.put _ (some 189) _ = _
          simp only [Act.put, List.setIfInBounds_toArray, List.set_cons_zero, List.set_cons_succ, i64_w, i32_w]
          rfl
        refine q_op (v := ?_) (a' := ?_) ?hw5 ?_ ?_ ?_
        case hw5 => exact wanted_on rfl rfl rfl rfl
        rotate_left
        rotate_left
        · intro w' hC_
          go_simp
          with_reducible rfl
        · show Act.put _ (some 190) _ = _
          simp only [Act.put, List.setIfInBounds_toArray, List.set_cons_zero, List.set_cons_succ, i64_w, i32_w]
          rfl
        refine q_op (v := ?_) (a' := ?_) ?hw5 ?_ ?_ ?_
        case hw5 => exact wanted_on rfl rfl rfl rfl
        rotate_left
        rotate_left
        · intro w' hC_
          go_simp
          with_reducible rfl
        · show Act.put _ (some 191) _ = _
          simp only [Act.put, List.setIfInBounds_toArray, List.set_cons_zero, List.set_cons_succ, i64_w, i32_w]
          rfl
        refine q_op (v := ?_) (a' := ?_) ?hw5 ?_ ?_ ?_
        case hw5 => exact wanted_on rfl rfl rfl rfl
        rotate_left
        rotate_left
        · intro w' hC_
          obtain ⟨z1, z2, z3⟩ := (P32.out.below hC_).wcell HS.out
          go_simp
          with_reducible rfl
        · show Act.put _ (some 192) _ = _
          simp only [Act.put, List.setIfInBounds_toArray, List.set_cons_zero, List.set_cons_succ, i64_w, i32_w]
          rfl
        refine q_op (v := ?_) (a' := ?_) ?hw5 ?_ ?_ ?_
        case hw5 => exact wanted_on rfl rfl rfl rfl
        rotate_left
        rotate_left
        · intro w' hC_
          go_simp
          with_reducible rfl
        · show Act.put _ (some 193) _ = _
          simp only [Act.put, List.setIfInBounds_toArray, List.set_cons_zero, List.set_cons_succ, i64_w, i32_w]
          rfl
        refine q_op (v := ?_) (a' := ?_) ?hw5 ?_ ?_ ?_
        case hw5 => exact wanted_on rfl rfl rfl rfl
        rotate_left
        rotate_left
        · intro w' hC_
          go_simp
          with_reducible rfl
        · show Act.put _ (some 194) _ = _
          simp only [Act.put, List.setIfInBounds_toArray, List.set_cons_zero, List.set_cons_succ, i64_w, i32_w]
          rfl
        refine q_op (v := ?_) (a' := ?_) ?hw5 ?_ ?_ ?_
        case hw5 => rfl
        rotate_left
        rotate_left
        · intro w' hC_
          go_simp
          with_reducible rfl
        · show Act.put _ (some 195) _ = _
          simp only [Act.put, List.setIfInBounds_toArray, List.set_cons_zero, List.set_cons_succ, i64_w, i32_w]
          rfl
        refine q_nil ?_
        intro w33 hC_
        have P33 := Aside0.mk (P32.out.below hC_)
        have R33 := Aside0.mk (St.below (s := row 29 KE) R32.out hC_)
        clear hC_
        obtain ⟨i2, _⟩ := P33.out.icell (k := q) hq64'
        rw [HIB.out] at i2
        obtain ⟨k1, k2, k3⟩ := P33.out.wcell HS.out
        go_upto_region 48 with (first | ((with_reducible refine gate_builtin (b := .append) (xs := #[.tmp 203, .tmp 207]) rfl ?_); at_builtin; refine app_one (c := c) (w0 := w) (i := 4) (d := KE) rfl (.tmp 203) (.tmp 207) 36 (.agg #[.int .i64 0, .int .i64 0, .bool false]) 24 rfl Try.underlying36 info_ent rfl (by decide) (by decide) (.slice A al.length c2) al (e1, e2, e3) [.int .i64 e1, .int .i64 e2, .bool e3] rfl rfl (ke_mk _ _ _ _) R33.out (Below.size P33.out.far) (by have := HL.out; omega) ?_; intro v40 w40 c40 h40 t40; have P40 := Aside0.mk (P33.out.turn4 (by decide) t40); have R40 := Aside0.mk h40; clear h40 t40))
        clear k1 k2 k3 i2
        obtain ⟨k1, k2, k3⟩ := P40.out.wcell HS.out
        have sq : ((q : Int) != (q : Int)) = false := by simp
        go_upto_region 51 with (first | (go_at_call 10; (with_reducible refine (whereL e1 (q : Int) true HW.out P40.out.st).mono ?_); rintro e w41 ⟨rfl, hb41⟩; have P41 := Aside0.mk (P40.out.below hb41); have R41 := Aside0.mk (St.below (s := row 29 KE) R40.out hb41); clear hb41))
        clear k1 k2 k3
        cases e3 with
        | true =>
          refine q_start (by kernel_rfl) (by kernel_rfl) (fun w' => Below w41.heap.size w41 w') (below_drew (Below.refl _ _)) ?_
          refine q_op (v := ?_) (a' := ?_) ?hw6 ?_ ?_ ?_
          case hw6 => rfl
          rotate_left
          rotate_left
          · intro w' hC_
            go_simp
            with_reducible rfl
          · show Act.put _ (some 225) _ = _
            simp only [Act.put, List.setIfInBounds_toArray, List.set_cons_zero, List.set_cons_succ, i64_w, i32_w]
            rfl
          refine q_op (v := ?_) (a' := ?_) ?hw6 ?_ ?_ ?_
          case hw6 => rfl
          rotate_left
          rotate_left
          · intro w' hC_
            go_simp
            with_reducible rfl
          · show Act.put _ (some 226) _ = _
            simp only [Act.put, List.setIfInBounds_toArray, List.set_cons_zero, List.set_cons_succ, i64_w, i32_w]
            rfl
          refine q_op (v := ?_) (a' := ?_) ?hw6 ?_ ?_ ?_
          case hw6 => rfl
          rotate_left
          rotate_left
          · intro w' hC_
            go_simp
            with_reducible rfl
          · show Act.put _ (some 227) _ = _
            simp only [Act.put, List.setIfInBounds_toArray, List.set_cons_zero, List.set_cons_succ, i64_w, i32_w]
            rfl
          refine q_op (v := ?_) (a' := ?_) ?hw6 ?_ ?_ ?_
          case hw6 => rfl
          rotate_left
          rotate_left
          · intro w' hC_
            obtain ⟨z1, z2, z3⟩ := (P41.out.below hC_).wcell HS.out
            go_simp
            with_reducible rfl
          · show Act.put _ (some 228) _ = _
            simp only [Act.put, List.setIfInBounds_toArray, List.set_cons_zero, List.set_cons_succ, i64_w, i32_w]
            rfl
          refine q_op (v := ?_) (a' := ?_) ?hw6 ?_ ?_ ?_
          case hw6 => rfl
          rotate_left
          rotate_left
          · intro w' hC_
            go_simp
            with_reducible rfl
          · show Act.put _ (some 229) _ = _
            simp only [Act.put, List.setIfInBounds_toArray, List.set_cons_zero, List.set_cons_succ, i64_w, i32_w]
            rfl
          refine q_op (v := ?_) (a' := ?_) ?hw6 ?_ ?_ ?_
          case hw6 => rfl
          rotate_left
          rotate_left
          · intro w' hC_
            go_simp
            with_reducible rfl
          · show Act.put _ (some 230) _ = _
            simp only [Act.put, List.setIfInBounds_toArray, List.set_cons_zero, List.set_cons_succ, i64_w, i32_w]
            rfl
          refine q_off (a' := ?_) ?hw6 ?_ ?_
          case hw6 => exact wanted_off rfl rfl rfl rfl
          rotate_left
          · show Act.put _ (some 231) _ = _
            simp only [Act.put, List.setIfInBounds_toArray, List.set_cons_zero, List.set_cons_succ, i64_w, i32_w]
            rfl
          refine q_off (a' := ?_) ?hw6 ?_ ?_
          case hw6 => exact wanted_off rfl rfl rfl rfl
          rotate_left
          · show Act.put _ (some 232) _ = _
            simp only [Act.put, List.setIfInBounds_toArray, List.set_cons_zero, List.set_cons_succ, i64_w, i32_w]
            rfl
          refine q_off (a' := ?_) ?hw6 ?_ ?_
          case hw6 => exact wanted_off rfl rfl rfl rfl
          rotate_left
          · show Act.put _ (some 233) _ = _
            simp only [Act.put, List.setIfInBounds_toArray, List.set_cons_zero, List.set_cons_succ, i64_w, i32_w]
            rfl
          refine q_off (a' := ?_) ?hw6 ?_ ?_
          case hw6 => exact wanted_none rfl rfl rfl rfl
          rotate_left
          · show Act.put _ (some 234) _ = _
            simp only [Act.put, List.setIfInBounds_toArray, List.set_cons_zero, List.set_cons_succ, i64_w, i32_w]
            rfl
          refine q_off (a' := ?_) ?hw6 ?_ ?_
          case hw6 => exact wanted_none rfl rfl rfl rfl
          rotate_left
          · show Act.put _ (some 235) _ = _
            simp only [Act.put, List.setIfInBounds_toArray, List.set_cons_zero, List.set_cons_succ, i64_w, i32_w]
            rfl
          refine q_off (a' := ?_) ?hw6 ?_ ?_
          case hw6 => exact wanted_none rfl rfl rfl rfl
          rotate_left
          · show Act.put _ (some 236) _ = _
            simp only [Act.put, List.setIfInBounds_toArray, List.set_cons_zero, List.set_cons_succ, i64_w, i32_w]
            rfl
          refine q_off (a' := ?_) ?hw6 ?_ ?_
          case hw6 => exact wanted_none rfl rfl rfl rfl
          rotate_left
          · show Act.put _ (some 237) _ = _
            simp only [Act.put, List.setIfInBounds_toArray, List.set_cons_zero, List.set_cons_succ, i64_w, i32_w]
            rfl
          refine q_off (a' := ?_) ?hw6 ?_ ?_
          case hw6 => exact wanted_none rfl rfl rfl rfl
          rotate_left
          · show Act.put _ (some 238) _ = _
            simp only [Act.put, List.setIfInBounds_toArray, List.set_cons_zero, List.set_cons_succ, i64_w, i32_w]
            rfl
          refine q_off (a' := ?_) ?hw6 ?_ ?_
          case hw6 => exact wanted_none rfl rfl rfl rfl
          rotate_left
          · show Act.put _ (some 239) _ = _
            simp only [Act.put, List.setIfInBounds_toArray, List.set_cons_zero, List.set_cons_succ, i64_w, i32_w]
            rfl
          refine q_off (a' := ?_) ?hw6 ?_ ?_
          case hw6 => exact wanted_none rfl rfl rfl rfl
          rotate_left
          · show Act.put _ (some 240) _ = _
            simp only [Act.put, List.setIfInBounds_toArray, List.set_cons_zero, List.set_cons_succ, i64_w, i32_w]
            rfl
          refine q_off (a' := ?_) ?hw6 ?_ ?_
          case hw6 => exact wanted_none rfl rfl rfl rfl
          rotate_left
          · show Act.put _ (some 241) _ = _
            simp only [Act.put, List.setIfInBounds_toArray, List.set_cons_zero, List.set_cons_succ, i64_w, i32_w]
            rfl
          refine q_off (a' := ?_) ?hw6 ?_ ?_
          case hw6 => exact wanted_none rfl rfl rfl rfl
          rotate_left
          · show Act.put _ (some 242) _ = _
            simp only [Act.put, List.setIfInBounds_toArray, List.set_cons_zero, List.set_cons_succ, i64_w, i32_w]
            rfl
          refine q_off (a' := ?_) ?hw6 ?_ ?_
          case hw6 => exact wanted_off rfl rfl rfl rfl
          rotate_left
          · show Act.put _ (some 243) _ = _
            simp only [Act.put, List.setIfInBounds_toArray, List.set_cons_zero, List.set_cons_succ, i64_w, i32_w]
            rfl
          refine q_op (v := ?_) (a' := ?_) ?hw6 ?_ ?_ ?_
          case hw6 => rfl
          rotate_left
          rotate_left
          · intro w' hC_
            go_simp
            with_reducible rfl
          · show Act.put _ (some 244) _ = _
            simp only [Act.put, List.setIfInBounds_toArray, List.set_cons_zero, List.set_cons_succ, i64_w, i32_w]
            rfl
          refine q_nil ?_
          intro w42 hC_
          have P42 := Aside0.mk (P41.out.below hC_)
          have R42 := Aside0.mk (St.below (s := row 29 KE) R41.out hC_)
          clear hC_
          go_wp2
          go_roundw
          case rel => exact ⟨q + 1, r, m, c40, by omega, by go_num, rfl, up_skip UZ.out (fun e hc => by have h1 := hc.2.1; rw [HS.out] at h1; cases h1; have h2 := hc.2.2; cases h2), rfl, idU_skip IZ.out HS.out, P42.out, by rw [HAL.out]; exact R42.out⟩
          case measure => simp [intOf]; omega
        | false =>
          rcases UZ.out with ⟨hr, _⟩ | ⟨j, ⟨f1, f2, f3⟩, hr, hj, hcj, _⟩
          · have HRR := Aside0.mk hr
            have dr : decide (r < 0) = true := decide_eq_true (by omega)
            clear hr
            refine q_start (by kernel_rfl) (by kernel_rfl) (fun w' => Below w41.heap.size w41 w') (below_drew (Below.refl _ _)) ?_
            refine q_op (v := ?_) (a' := ?_) ?hw7 ?_ ?_ ?_
            case hw7 => rfl
            rotate_left
            rotate_left
            · intro w' hC_
              go_simp
              with_reducible rfl
            · show Act.put _ (some 225) _ = _
              simp only [Act.put, List.setIfInBounds_toArray, List.set_cons_zero, List.set_cons_succ, i64_w, i32_w]
              rfl
            refine q_op (v := ?_) (a' := ?_) ?hw7 ?_ ?_ ?_
            case hw7 => rfl
            rotate_left
            rotate_left
            · intro w' hC_
              go_simp
              with_reducible rfl
            · show Act.put _ (some 226) _ = _
              simp only [Act.put, List.setIfInBounds_toArray, List.set_cons_zero, List.set_cons_succ, i64_w, i32_w]
              rfl
            refine q_op (v := ?_) (a' := ?_) ?hw7 ?_ ?_ ?_
            case hw7 => rfl
            rotate_left
            rotate_left
            · intro w' hC_
              go_simp
              with_reducible rfl
            · show Act.put _ (some 227) _ = _
              simp only [Act.put, List.setIfInBounds_toArray, List.set_cons_zero, List.set_cons_succ, i64_w, i32_w]
              rfl
            refine q_op (v := ?_) (a' := ?_) ?hw7 ?_ ?_ ?_
            case hw7 => rfl
            rotate_left
            rotate_left
            · intro w' hC_
              obtain ⟨z1, z2, z3⟩ := (P41.out.below hC_).wcell HS.out
              go_simp
              with_reducible rfl
            · show Act.put _ (some 228) _ = _
              simp only [Act.put, List.setIfInBounds_toArray, List.set_cons_zero, List.set_cons_succ, i64_w, i32_w]
              rfl
            refine q_op (v := ?_) (a' := ?_) ?hw7 ?_ ?_ ?_
            case hw7 => rfl
            rotate_left
            rotate_left
            · intro w' hC_
              go_simp
              with_reducible rfl
            · show Act.put _ (some 229) _ = _
              simp only [Act.put, List.setIfInBounds_toArray, List.set_cons_zero, List.set_cons_succ, i64_w, i32_w]
              rfl
            refine q_op (v := ?_) (a' := ?_) ?hw7 ?_ ?_ ?_
            case hw7 => rfl
            rotate_left
            rotate_left
            · intro w' hC_
              go_simp
              with_reducible rfl
            · show Act.put _ (some 230) _ = _
              simp only [Act.put, List.setIfInBounds_toArray, List.set_cons_zero, List.set_cons_succ, i64_w, i32_w]
              rfl
            refine q_op (v := ?_) (a' := ?_) ?hw7 ?_ ?_ ?_
            case hw7 => exact wanted_on rfl rfl rfl rfl
            rotate_left
            rotate_left
            · intro w' hC_
              go_simp
              with_reducible rfl
            · show Act.put _ (some 231) _ = _
              simp only [Act.put, List.setIfInBounds_toArray, List.set_cons_zero, List.set_cons_succ, i64_w, i32_w]
              rfl
            refine q_op (v := .bool true) (a' := ?_) ?hw7 ?_ ?_ ?_
            case hw7 => exact wanted_on rfl rfl rfl rfl
            rotate_left
            · intro w' hC_
              obtain _ := hC_
              go_simp
            · show Act.put _ (some 232) _ = _
              simp only [Act.put, List.setIfInBounds_toArray, List.set_cons_zero, List.set_cons_succ, i64_w, i32_w]
              rfl
            refine q_op (v := ?_) (a' := ?_) ?hw7 ?_ ?_ ?_
            case hw7 => exact wanted_on rfl rfl rfl rfl
            rotate_left
            rotate_left
            · intro w' hC_
              go_simp
              with_reducible rfl
            · show Act.put _ (some 233) _ = _
              simp only [Act.put, List.setIfInBounds_toArray, List.set_cons_zero, List.set_cons_succ, i64_w, i32_w]
              rfl
            refine q_off (a' := ?_) ?hw7 ?_ ?_
            case hw7 => exact wanted_off rfl rfl rfl rfl
            rotate_left
            · show Act.put _ (some 234) _ = _
              simp only [Act.put, List.setIfInBounds_toArray, List.set_cons_zero, List.set_cons_succ, i64_w, i32_w]
              rfl
            refine q_off (a' := ?_) ?hw7 ?_ ?_
            case hw7 => exact wanted_off rfl rfl rfl rfl
            rotate_left
            · show Act.put _ (some 235) _ = _
              simp only [Act.put, List.setIfInBounds_toArray, List.set_cons_zero, List.set_cons_succ, i64_w, i32_w]
              rfl
            refine q_off (a' := ?_) ?hw7 ?_ ?_
            case hw7 => exact wanted_off rfl rfl rfl rfl
            rotate_left
            · show Act.put _ (some 236) _ = _
              simp only [Act.put, List.setIfInBounds_toArray, List.set_cons_zero, List.set_cons_succ, i64_w, i32_w]
              rfl
            refine q_off (a' := ?_) ?hw7 ?_ ?_
            case hw7 => exact wanted_off rfl rfl rfl rfl
            rotate_left
            · show Act.put _ (some 237) _ = _
              simp only [Act.put, List.setIfInBounds_toArray, List.set_cons_zero, List.set_cons_succ, i64_w, i32_w]
              rfl
            refine q_off (a' := ?_) ?hw7 ?_ ?_
            case hw7 => exact wanted_off rfl rfl rfl rfl
            rotate_left
            · show Act.put _ (some 238) _ = _
              simp only [Act.put, List.setIfInBounds_toArray, List.set_cons_zero, List.set_cons_succ, i64_w, i32_w]
              rfl
            refine q_off (a' := ?_) ?hw7 ?_ ?_
            case hw7 => exact wanted_off rfl rfl rfl rfl
            rotate_left
            · show Act.put _ (some 239) _ = _
              simp only [Act.put, List.setIfInBounds_toArray, List.set_cons_zero, List.set_cons_succ, i64_w, i32_w]
              rfl
            refine q_off (a' := ?_) ?hw7 ?_ ?_
            case hw7 => exact wanted_off rfl rfl rfl rfl
            rotate_left
            · show Act.put _ (some 240) _ = _
              simp only [Act.put, List.setIfInBounds_toArray, List.set_cons_zero, List.set_cons_succ, i64_w, i32_w]
              rfl
            refine q_off (a' := ?_) ?hw7 ?_ ?_
            case hw7 => exact wanted_off rfl rfl rfl rfl
            rotate_left
            · show Act.put _ (some 241) _ = _
              simp only [Act.put, List.setIfInBounds_toArray, List.set_cons_zero, List.set_cons_succ, i64_w, i32_w]
              rfl
            refine q_off (a' := ?_) ?hw7 ?_ ?_
            case hw7 => exact wanted_off rfl rfl rfl rfl
            rotate_left
            · show Act.put _ (some 242) _ = _
              simp only [Act.put, List.setIfInBounds_toArray, List.set_cons_zero, List.set_cons_succ, i64_w, i32_w]
              rfl
            refine q_op (v := ?_) (a' := ?_) ?hw7 ?_ ?_ ?_
            case hw7 => exact wanted_on rfl rfl rfl rfl
            rotate_left
            rotate_left
            · intro w' hC_
              go_simp
              with_reducible rfl
            · show Act.put _ (some 243) _ = _
              simp only [Act.put, List.setIfInBounds_toArray, List.set_cons_zero, List.set_cons_succ, i64_w, i32_w]
              rfl
            refine q_op (v := ?_) (a' := ?_) ?hw7 ?_ ?_ ?_
            case hw7 => rfl
            rotate_left
            rotate_left
            · intro w' hC_
              go_simp
              with_reducible rfl
            · show Act.put _ (some 244) _ = _
              simp only [Act.put, List.setIfInBounds_toArray, List.set_cons_zero, List.set_cons_succ, i64_w, i32_w]
              rfl
            refine q_nil ?_
            intro w42 hC_
            have P42 := Aside0.mk (P41.out.below hC_)
            have R42 := Aside0.mk (St.below (s := row 29 KE) R41.out hC_)
            clear hC_
            go_wp2
            go_roundw
            case rel => exact ⟨q + 1, (q : Int), m, c40, by omega, by go_num, rfl, up_take (HRR.out ▸ UZ.out) ⟨by rw [P42.out.len]; exact hqn, HS.out, rfl⟩, rfl, idU_skip IZ.out HS.out, P42.out, by rw [HAL.out]; exact R42.out⟩
            case measure => simp [intOf]; omega
          · subst hr
            have dj : decide ((j : Int) < 0) = false := decide_eq_false (by omega)
            have HJ := Aside0.mk hcj.2.1
            have HCJ := Aside0.mk hcj
            have bj : (0 ≤ (j : Int) ∧ (j : Int) < 64) := by omega
            clear hcj
            refine q_start (by kernel_rfl) (by kernel_rfl) (fun w' => Below w41.heap.size w41 w') (below_drew (Below.refl _ _)) ?_
            refine q_op (v := ?_) (a' := ?_) ?hw8 ?_ ?_ ?_
            case hw8 => rfl
            rotate_left
            rotate_left
            · intro w' hC_
              go_simp
              with_reducible rfl
            · show Act.put _ (some 225) _ = _
              simp only [Act.put, List.setIfInBounds_toArray, List.set_cons_zero, List.set_cons_succ, i64_w, i32_w]
              rfl
            refine q_op (v := ?_) (a' := ?_) ?hw8 ?_ ?_ ?_
            case hw8 => rfl
            rotate_left
            rotate_left
            · intro w' hC_
              go_simp
              with_reducible rfl
            · show Act.put _ (some 226) _ = _
              simp only [Act.put, List.setIfInBounds_toArray, List.set_cons_zero, List.set_cons_succ, i64_w, i32_w]
              rfl
            refine q_op (v := ?_) (a' := ?_) ?hw8 ?_ ?_ ?_
            case hw8 => rfl
            rotate_left
            rotate_left
            · intro w' hC_
              go_simp
              with_reducible rfl
            · show Act.put _ (some 227) _ = _
              simp only [Act.put, List.setIfInBounds_toArray, List.set_cons_zero, List.set_cons_succ, i64_w, i32_w]
              rfl
            refine q_op (v := ?_) (a' := ?_) ?hw8 ?_ ?_ ?_
            case hw8 => rfl
            rotate_left
            rotate_left
            · intro w' hC_
              obtain ⟨z1, z2, z3⟩ := (P41.out.below hC_).wcell HS.out
              go_simp
              with_reducible rfl
            · show Act.put _ (some 228) _ = _
              simp only [Act.put, List.setIfInBounds_toArray, List.set_cons_zero, List.set_cons_succ, i64_w, i32_w]
              rfl
            refine q_op (v := ?_) (a' := ?_) ?hw8 ?_ ?_ ?_
            case hw8 => rfl
            rotate_left
            rotate_left
            · intro w' hC_
              go_simp
              with_reducible rfl
            · show Act.put _ (some 229) _ = _
              simp only [Act.put, List.setIfInBounds_toArray, List.set_cons_zero, List.set_cons_succ, i64_w, i32_w]
              rfl
            refine q_op (v := ?_) (a' := ?_) ?hw8 ?_ ?_ ?_
            case hw8 => rfl
            rotate_left
            rotate_left
            · intro w' hC_
              go_simp
              with_reducible rfl
            · show Act.put _ (some 230) _ = _
              simp only [Act.put, List.setIfInBounds_toArray, List.set_cons_zero, List.set_cons_succ, i64_w, i32_w]
              rfl
            refine q_op (v := ?_) (a' := ?_) ?hw8 ?_ ?_ ?_
            case hw8 => exact wanted_on rfl rfl rfl rfl
            rotate_left
            rotate_left
            · intro w' hC_
              go_simp
              with_reducible rfl
            · show Act.put _ (some 231) _ = _
              simp only [Act.put, List.setIfInBounds_toArray, List.set_cons_zero, List.set_cons_succ, i64_w, i32_w]
              rfl
            refine q_op (v := ?_) (a' := ?_) ?hw8 ?_ ?_ ?_
            case hw8 => exact wanted_on rfl rfl rfl rfl
            rotate_left
            rotate_left
            · intro w' hC_
              go_simp
              with_reducible rfl
            · show Act.put _ (some 232) _ = _
              simp only [Act.put, List.setIfInBounds_toArray, List.set_cons_zero, List.set_cons_succ, i64_w, i32_w]
              rfl
            refine q_op (v := ?_) (a' := ?_) ?hw8 ?_ ?_ ?_
            case hw8 => exact wanted_on rfl rfl rfl rfl
            rotate_left
            rotate_left
            · intro w' hC_
              go_simp
              with_reducible rfl
            · show Act.put _ (some 233) _ = _
              simp only [Act.put, List.setIfInBounds_toArray, List.set_cons_zero, List.set_cons_succ, i64_w, i32_w]
              rfl
            refine q_op (v := ?_) (a' := ?_) ?hw8 ?_ ?_ ?_
            case hw8 => exact wanted_on rfl rfl rfl rfl
            rotate_left
            rotate_left
            · intro w' hC_
              go_simp
              with_reducible rfl
            · show Act.put _ (some 234) _ = _
              simp only [Act.put, List.setIfInBounds_toArray, List.set_cons_zero, List.set_cons_succ, i64_w, i32_w]
              rfl
            refine q_op (v := ?_) (a' := ?_) ?hw8 ?_ ?_ ?_
            case hw8 => exact wanted_on rfl rfl rfl rfl
            rotate_left
            rotate_left
            · intro w' hC_
              go_simp
              with_reducible rfl
            · show Act.put _ (some 235) _ = _
              simp only [Act.put, List.setIfInBounds_toArray, List.set_cons_zero, List.set_cons_succ, i64_w, i32_w]
              rfl
            refine q_op (v := ?_) (a' := ?_) ?hw8 ?_ ?_ ?_
            case hw8 => exact wanted_on rfl rfl rfl rfl
            rotate_left
            rotate_left
            · intro w' hC_
              obtain ⟨z1, z2, z3⟩ := (P41.out.below hC_).wcell HJ.out
              go_simp
              with_reducible rfl
            · show Act.put _ (some 236) _ = _
              simp only [Act.put, List.setIfInBounds_toArray, List.set_cons_zero, List.set_cons_succ, i64_w, i32_w]
              rfl
            refine q_call (a' := ?_) Try.func18 (by kernel_rfl) rfl #[.agg #[.int .i64 f1, .int .i64 f2, .bool f3]] ?hw8 rfl ?hx8 (.agg #[.int .i64 f1, .int .i64 f2, .bool f3]) ?_ ?_ ?_
            case hw8 => exact wanted_on rfl rfl rfl rfl
            case hx8 => (try simp only [List.map_toArray, List.map_cons, List.map_nil]); first | done | rfl
            rotate_left
            · intro w' hC_
              exact (beadlelaw23_ent.calls _ _ _ _ _ _ _ rfl).mono (by rintro e w'' ⟨rfl, hq⟩; exact ⟨rfl, hC_.trans (hq.mono hC_.size)⟩)
            · show Act.put _ (some 237) _ = _
              simp only [Act.put, List.setIfInBounds_toArray, List.set_cons_zero, List.set_cons_succ, i64_w, i32_w]
              rfl
            refine q_op (v := ?_) (a' := ?_) ?hw8 ?_ ?_ ?_
            case hw8 => exact wanted_on rfl rfl rfl rfl
            rotate_left
            rotate_left
            · intro w' hC_
              go_simp
              with_reducible rfl
            · show Act.put _ (some 238) _ = _
              simp only [Act.put, List.setIfInBounds_toArray, List.set_cons_zero, List.set_cons_succ, i64_w, i32_w]
              rfl
            refine q_op (v := ?_) (a' := ?_) ?hw8 ?_ ?_ ?_
            case hw8 => exact wanted_on rfl rfl rfl rfl
            rotate_left
            rotate_left
            · intro w' hC_
              go_simp
              with_reducible rfl
            · show Act.put _ (some 239) _ = _
              simp only [Act.put, List.setIfInBounds_toArray, List.set_cons_zero, List.set_cons_succ, i64_w, i32_w]
              rfl
            refine q_op (v := ?_) (a' := ?_) ?hw8 ?_ ?_ ?_
            case hw8 => exact wanted_on rfl rfl rfl rfl
            rotate_left
            rotate_left
            · intro w' hC_
              obtain ⟨z1, z2, z3⟩ := (P41.out.below hC_).wcell HS.out
              go_simp
              with_reducible rfl
            · show Act.put _ (some 240) _ = _
              simp only [Act.put, List.setIfInBounds_toArray, List.set_cons_zero, List.set_cons_succ, i64_w, i32_w]
              rfl
            refine q_call (a' := ?_) Try.func18 (by kernel_rfl) rfl #[.agg #[.int .i64 e1, .int .i64 e2, .bool false]] ?hw8 rfl ?hx8 (.agg #[.int .i64 e1, .int .i64 e2, .bool false]) ?_ ?_ ?_
            case hw8 => exact wanted_on rfl rfl rfl rfl
            case hx8 => (try simp only [List.map_toArray, List.map_cons, List.map_nil]); first | done | rfl
            rotate_left
            · intro w' hC_
              exact (beadlelaw23_ent.calls _ _ _ _ _ _ _ rfl).mono (by rintro e w'' ⟨rfl, hq⟩; exact ⟨rfl, hC_.trans (hq.mono hC_.size)⟩)
            · show Act.put _ (some 241) _ = _
              simp only [Act.put, List.setIfInBounds_toArray, List.set_cons_zero, List.set_cons_succ, i64_w, i32_w]
              rfl
            refine q_call (a' := ?_) Try.func17 (by kernel_rfl) rfl #[.agg #[.int .i64 f1, .int .i64 f2, .bool f3], .agg #[.int .i64 e1, .int .i64 e2, .bool false]] ?hw8 rfl ?hx8 (.bool (less (f1, f2, f3) (e1, e2, false))) ?_ ?_ ?_
            case hw8 => exact wanted_on rfl rfl rfl rfl
            case hx8 => (try simp only [List.map_toArray, List.map_cons, List.map_nil]); first | done | rfl
            rotate_left
            · intro w' hC_
              exact (beadleref10_EntLess.calls _ _ _ _ _ _ _ _ (entless_f (f1, f2, f3) (e1, e2, false))).mono (by rintro e w'' ⟨rfl, hq⟩; exact ⟨rfl, hC_.trans (hq.mono hC_.size)⟩)
            · show Act.put _ (some 242) _ = _
              simp only [Act.put, List.setIfInBounds_toArray, List.set_cons_zero, List.set_cons_succ, i64_w, i32_w]
              rfl
            refine q_op (v := ?_) (a' := ?_) ?hw8 ?_ ?_ ?_
            case hw8 => exact wanted_on rfl rfl rfl rfl
            rotate_left
            rotate_left
            · intro w' hC_
              go_simp
              with_reducible rfl
            · show Act.put _ (some 243) _ = _
              simp only [Act.put, List.setIfInBounds_toArray, List.set_cons_zero, List.set_cons_succ, i64_w, i32_w]
              rfl
            refine q_op (v := ?_) (a' := ?_) ?hw8 ?_ ?_ ?_
            case hw8 => rfl
            rotate_left
            rotate_left
            · intro w' hC_
              go_simp
              with_reducible rfl
            · show Act.put _ (some 244) _ = _
              simp only [Act.put, List.setIfInBounds_toArray, List.set_cons_zero, List.set_cons_succ, i64_w, i32_w]
              rfl
            refine q_nil ?_
            intro w42 hC_
            have P42 := Aside0.mk (P41.out.below hC_)
            have R42 := Aside0.mk (St.below (s := row 29 KE) R41.out hC_)
            clear hC_
            by_cases hl : less (f1, f2, f3) (e1, e2, false) = true
            · have HLT := Aside0.mk hl
              rw [hl]
              clear hl
              go_wp2
              go_roundw
              case rel => exact ⟨q + 1, (q : Int), m, c40, by omega, by go_num, rfl, up_more UZ.out HCJ.out ⟨by rw [P42.out.len]; exact hqn, HS.out, rfl⟩ HLT.out, rfl, idU_skip IZ.out HS.out, P42.out, by rw [HAL.out]; exact R42.out⟩
              case measure => simp [intOf]; omega
            · have hl : less (f1, f2, f3) (e1, e2, false) = false := by simpa using hl
              have HLT := Aside0.mk hl
              rw [hl]
              clear hl
              go_wp2
              go_roundw
              case rel => exact ⟨q + 1, (j : Int), m, c40, by omega, by go_num, rfl, up_stay P42.out.good UZ.out HCJ.out ⟨by rw [P42.out.len]; exact hqn, HS.out, rfl⟩ HLT.out, rfl, idU_skip IZ.out HS.out, P42.out, by rw [HAL.out]; exact R42.out⟩
              case measure => simp [intOf]; omega
    · have pq : decide ((q : Int) < cpus) = false := decide_eq_false (by have := HN.out; omega)
      have hqn' : q = n := by omega
      have pn : decide ((n : Int) < cpus) = false := decide_eq_false (by have := HN.out; omega)
      subst hqn'
      go_wp2
      refine Met.intro ?_
      go_step
      unfold L3R
      refine ⟨_, _, _, _, _, _, _, _, _, _, _, _, _, _, _, _, _, _, _, _, _, _, _, _, _, _, _, _, _, _, _, _, _, _, _, _, _, _, _, _, _, _, _, _, _, _, _, _, _, _, _, _, _, _, _, _, _, _, _, _, _, _, _, _, _, _, _, _, _, _, _, _, _, _, _, _, _, _, _, _, _, _, _, _, _, ?_, rfl⟩
      exact ⟨r, m, c, rfl, UZ.out, rfl, IZ.out, PZ.out, by rw [show allOf s = al from by rw [← AL.out, List.take_of_length_le (by rw [PZ.out.len]; exact Nat.le_refl _)]]; exact RZ.out⟩
end Go.Proofs.Ytjeflmdfnfgacaa.Rank
