/- PokePlays: any calls: what each is told, by whom, how often each is rung, are as the document says (the walk; no condition). -/
import Derived.Test.YteihnocbeaaokaaPlaysS
namespace Go.Proofs.Yteihnocbeaaokaa.Poke
open Go.RowKit Go.Proofs.YteihnocbeaaokaaW.PrintWords Go.Proofs.YteihnocbeaaokaaW.PrintLast Go.Proofs.YteihnocbeaaokaaW.PrintMore Go.Proofs.Yteihnocbeaaokaa.St Go.Proofs.Yteihnocbeaaokaa.Q
set_option linter.unusedVariables false
set_option linter.unusedSimpArgs false
attribute [local go_sem] max2_int min2_int max_two min_two max_three min_three max_four min_four

theorem read_quad {w : World} {A : Option Addr} {l : List (Int × Int × Int × Int)} (h : (Kd.pair (Kd.int .i64) (Kd.pair (Kd.int .i64) (Kd.pair (Kd.int .i64) (Kd.int .i64)))).C w A l.length l) {j : Nat} (hj : j < l.length) :
    ∃ ad, A = some ad ∧ w.cell? (ad.add (j * 4)) = some (.int .i64 (l.getD j (0, 0, 0, 0)).1) ∧ w.cell? ⟨(ad.add (j * 4)).block, (ad.add (j * 4)).off + 1, none⟩ = some (.int .i64 (l.getD j (0, 0, 0, 0)).2.1) ∧ w.cell? ⟨(ad.add (j * 4)).block, (ad.add (j * 4)).off + 2, none⟩ = some (.int .i64 (l.getD j (0, 0, 0, 0)).2.2.1) ∧ w.cell? ⟨(ad.add (j * 4)).block, (ad.add (j * 4)).off + 3, none⟩ = some (.int .i64 (l.getD j (0, 0, 0, 0)).2.2.2) := by
  obtain ⟨ad, c, e, _, hK, hc0⟩ := Kd.C_get h (0, 0, 0, 0) (j : Int) (by omega) (by omega)
  rw [Int.toNat_natCast] at hK hc0
  have hc : ∀ i u, c[i]? = some u → w.cell? (ad.add (j * 4 + i)) = some u := hc0
  obtain ⟨_, _, rfl, rfl, _, _, rfl, rfl, _, _, rfl, rfl, rfl⟩ := hK
  exact ⟨ad, e, hc 0 _ rfl, by rw [← add_field _ _ 1 (by omega)]; exact hc 1 _ rfl, by rw [← add_field _ _ 2 (by omega)]; exact hc 2 _ rfl, by rw [← add_field _ _ 3 (by omega)]; exact hc 3 _ rfl⟩
/-- Between two acts. -/
structure PN (w : World) (n : Nat) (v : Value) (gw gf gc : Nat) (p : List S56) (W : World) : Prop where
  len : p.length = n
  st : poke.M W w.heap.size (fun k => w.heap.size ≤ k ∧ k ≠ gw ∧ k ≠ gf ∧ k ≠ gc) p v
  aw : Arr W gw 42 .i64 n (F0 p)
  af : Arr W gf 43 .u64 n (F1 p)
  ac : Arr W gc 44 .i64 n (F2 p)
  far : Below w.heap.size w W
theorem PI.toN {w W : World} {n : Nat} {v : Value} {gw gf gc gx : Nat} {o c t h : Int} {p : List S56} (a : PI w n v gw gf gc gx o c t h p (F0 p) (F1 p) (F2 p) W) : PN w n v gw gf gc p W :=
  ⟨a.len, poke.mono (fun _ hk => ⟨hk.1, hk.2.1, hk.2.2.1, hk.2.2.2.1⟩) a.st, a.aw, a.af, a.ac, a.far⟩
theorem PN.toI {w W W1 : World} {n : Nat} {v : Value} {gw gf gc gx : Nat} {o c t h : Int} {p : List S56} (a : PN w n v gw gf gc p W) (hb : Below W.heap.size W W1) (hx : W.heap.size ≤ gx) (hX : W1.heap[gx]? = some (.cells #[.int .i64 o, .int .i64 c, .int .i64 t, .int .i64 h] 46 (0, 0))) : PI w n v gw gf gc gx o c t h p (F0 p) (F1 p) (F2 p) W1 :=
  ⟨a.len, poke.mono (fun k hk => ⟨hk.1.1, hk.1.2.1, hk.1.2.2.1, hk.1.2.2.2, fun e => by have := hk.2.2; omega⟩) (poke.move (fun k hk => hb.block k hk.2.2) (poke.bound a.st)), a.aw.move (hb.block _ a.aw.lt), a.af.move (hb.block _ a.af.lt), a.ac.move (hb.block _ a.ac.lt), hX, a.far.trans (hb.mono a.far.size)⟩
theorem PN.m {w W : World} {n : Nat} {v : Value} {gw gf gc : Nat} {p : List S56} (a : PN w n v gw gf gc p W) : poke.M W w.heap.size (fun k => w.heap.size ≤ k ∧ k ≠ gw ∧ k ≠ gf ∧ k ≠ gc) p v := a.st
theorem PN.drewN {w W : World} {n : Nat} {v : Value} {gw gf gc : Nat} {p : List S56} (a : PN w n v gw gf gc p W) (m : Nat) : PN w n v gw gf gc p (W.drewN m) :=
  ⟨a.len, poke.move (fun _ _ => rfl) a.st, a.aw.move rfl, a.af.move rfl, a.ac.move rfl, a.far.trans ⟨rfl, rfl, rfl, Nat.le_refl _, fun _ _ => rfl⟩⟩
theorem PN.below {w W W1 : World} {n : Nat} {v : Value} {gw gf gc : Nat} {p : List S56} (a : PN w n v gw gf gc p W) (hb : Below W.heap.size W W1) : PN w n v gw gf gc p W1 :=
  ⟨a.len, poke.mono (fun _ hk => hk.1) (poke.move (fun k hk => hb.block k hk.2.2) (poke.bound a.st)), a.aw.move (hb.block _ a.aw.lt), a.af.move (hb.block _ a.af.lt), a.ac.move (hb.block _ a.ac.lt), a.far.trans (hb.mono a.far.size)⟩
theorem PN.see {w W : World} {n : Nat} {v : Value} {gw gf gc : Nat} {p : List S56} (a : PN w n v gw gf gc p W) {k : Nat} (hk : k < n) (m : Nat) : Calls Try.prog 16 #[v, .int .i64 (k : Int)] (W.drewN m) fun e w' => e = .returned (.int .i64 (F0 p k)) ∧ w' = W.drewN m := by
  have h := see_calls (k : Int) (a.drewN m).m
  unfold seev isv at h
  rw [a.len, decide_eq_true (by omega), decide_eq_true (by omega), show (true && true) = true from rfl, if_pos rfl, Int.toNat_natCast] at h
  exact h
theorem PN.count {w W : World} {n : Nat} {v : Value} {gw gf gc : Nat} {p : List S56} (a : PN w n v gw gf gc p W) {k : Nat} (hk : k < n) (m : Nat) : Calls Try.prog 12 #[v, .int .i64 (k : Int)] (W.drewN m) fun e w' => e = .returned (.int .i64 (F2 p k)) ∧ w' = W.drewN m := by
  have h := count_calls (k : Int) (a.drewN m).m
  unfold countv isv at h
  rw [a.len, decide_eq_true (by omega), decide_eq_true (by omega), show (true && true) = true from rfl, if_pos rfl, Int.toNat_natCast] at h
  exact h
def RelP (w : World) (m n : Nat) (v : Value) (gw gf gc : Nat) (i : Value) (wr : World) : Prop := ∃ (j : Nat) (p : List S56), j ≤ m ∧ i = .int .i64 (j : Int) ∧ PN w n v gw gf gc p wr
def RelQ (w : World) (n : Nat) (v : Value) (gw gf gc : Nat) (p : List S56) (mv i : Value) (wr : World) : Prop := ∃ k : Nat, k ≤ n ∧ i = .int .i64 (k : Int) ∧ mv = .int .u64 (waitS p k) ∧ PN w n v gw gf gc p wr
/-- What an act's own numbers are good for. -/
def goodv (n : Nat) (c h : Int) : Bool := (decide (0 ≤ c) && decide (c < (n : Int))) && (decide (1 ≤ h) && decide (h ≤ 15))
def tov (n : Nat) (t : Int) : Bool := decide (0 ≤ t) && decide (t < (n : Int))
def QRel (w : World) (n : Nat) (v : Value) (gw gf gc : Nat) (p' : List S56) (mv : Value) (wd : World) : Prop := mv = .int .u64 (waitS p' n) ∧ PN w n v gw gf gc p' wd
noncomputable def LoCode : Code := ((Try.f5.body.bind (subBlock 6)).getD .skip)
set_option maxRecDepth 1000000 in
def LoR (w : World) (n : Nat) (v : Value) (gw gf gc : Nat) (p' : List S56) (u1 u2 u3 u6 u10 u11 u12 u13 u14 u15 u16 u17 u18 u19 u20 u21 u22 u25 u26 u27 u28 u29 u30 u31 u32 u33 u34 u35 u36 u37 u38 u39 u40 u41 u42 u43 u44 u45 u46 u47 u48 u49 u50 u51 u52 u53 u54 u55 u56 u57 u58 u59 u60 u61 u62 u63 u64 u65 u66 u67 u68 u69 u70 u71 u72 u73 u74 u75 u76 u77 u78 u79 u80 u81 u82 u83 u84 u85 u86 u87 u88 u89 u90 u91 u92 u93 u94 u95 u96 u97 u98 u99 u100 u101 u102 u103 u104 u105 u106 u107 u108 u109 u110 u111 u112 u113 u114 u115 u116 u117 u118 u119 u120 u121 u122 u123 u124 u125 u126 u127 u128 u129 u130 u131 u132 u133 u134 u135 u136 u137 u138 u139 u140 u141 u142 u143 u144 u145 u146 u147 u148 u149 u150 u151 u152 u153 u154 u155 u156 u157 u158 u159 u160 u161 u162 u163 u164 u165 u166 u167 u168 u169 u170 u171 u172 u173 u174 u175 u176 u177 u178 u179 u180 u181 u182 u183 u184 u185 u186 u187 u188 u189 u190 u191 u192 u193 u194 u195 u196 u197 u198 u199 u200 u201 u202 u203 u204 u205 u206 u207 u208 u209 u210 u211 u212 u213 u214 u215 u216 u217 u218 u219 u220 u221 u222 u223 u224 u225 u226 u227 u228 u229 u230 u231 u232 u233 u234 u235 u236 u237 u238 u239 u240 u241 u242 u243 u244 u245 u246 u247 u248 u249 u250 u251 u252 u253 u254 u255 u256 u257 u258 u259 u260 u261 u262 u263 u264 u265 u266 u267 u268 u269 u270 u301 u302 u303 u304 : Value) (a' : Act) (w' : World) : Prop := ∃ x4 x23 x24 x271 x272 x273 x274 x275 x276 x277 x278 x279 x280 x281 x282 x283 x284 x285 x286 x287 x288 x289 x290 x291 x292 x293 x294 x295 x296 x297 x298 x299 x300 : Value, QRel w n v gw gf gc p' x23 w' ∧ a' = ⟨#[.int .i64 (n : Int), u1, u2, u3, x4, v, u6, .pointer (some ⟨gw, 0, none⟩), .pointer (some ⟨gf, 0, none⟩), .pointer (some ⟨gc, 0, none⟩), u10, u11, u12, u13, u14, u15, u16, u17, u18, u19, u20, u21, u22, x23, x24, u25, u26, u27, u28, u29, u30, u31, u32, u33, u34, u35, u36, u37, u38, u39, u40, u41, u42, u43, u44, u45, u46, u47, u48, u49, u50, u51, u52, u53, u54, u55, u56, u57, u58, u59, u60, u61, u62, u63, u64, u65, u66, u67, u68, u69, u70, u71, u72, u73, u74, u75, u76, u77, u78, u79, u80, u81, u82, u83, u84, u85, u86, u87, u88, u89, u90, u91, u92, u93, u94, u95, u96, u97, u98, u99, u100, u101, u102, u103, u104, u105, u106, u107, u108, u109, u110, u111, u112, u113, u114, u115, u116, u117, u118, u119, u120, u121, u122, u123, u124, u125, u126, u127, u128, u129, u130, u131, u132, u133, u134, u135, u136, u137, u138, u139, u140, u141, u142, u143, u144, u145, u146, u147, u148, u149, u150, u151, u152, u153, u154, u155, u156, u157, u158, u159, u160, u161, u162, u163, u164, u165, u166, u167, u168, u169, u170, u171, u172, u173, u174, u175, u176, u177, u178, u179, u180, u181, u182, u183, u184, u185, u186, u187, u188, u189, u190, u191, u192, u193, u194, u195, u196, u197, u198, u199, u200, u201, u202, u203, u204, u205, u206, u207, u208, u209, u210, u211, u212, u213, u214, u215, u216, u217, u218, u219, u220, u221, u222, u223, u224, u225, u226, u227, u228, u229, u230, u231, u232, u233, u234, u235, u236, u237, u238, u239, u240, u241, u242, u243, u244, u245, u246, u247, u248, u249, u250, u251, u252, u253, u254, u255, u256, u257, u258, u259, u260, u261, u262, u263, u264, u265, u266, u267, u268, u269, u270, x271, x272, x273, x274, x275, x276, x277, x278, x279, x280, x281, x282, x283, x284, x285, x286, x287, x288, x289, x290, x291, x292, x293, x294, x295, x296, x297, x298, x299, x300, u301, u302, u303, u304], []⟩
set_option maxHeartbeats 4000000 in
set_option maxRecDepth 100000 in
theorem loop_piece {w wc : World} {n : Nat} {v : Value} {gw gf gc : Nat} {p' : List S56} {u1 u2 u3 u4 u6 u10 u11 u12 u13 u14 u15 u16 u17 u18 u19 u20 u21 u22 u25 u26 u27 u28 u29 u30 u31 u32 u33 u34 u35 u36 u37 u38 u39 u40 u41 u42 u43 u44 u45 u46 u47 u48 u49 u50 u51 u52 u53 u54 u55 u56 u57 u58 u59 u60 u61 u62 u63 u64 u65 u66 u67 u68 u69 u70 u71 u72 u73 u74 u75 u76 u77 u78 u79 u80 u81 u82 u83 u84 u85 u86 u87 u88 u89 u90 u91 u92 u93 u94 u95 u96 u97 u98 u99 u100 u101 u102 u103 u104 u105 u106 u107 u108 u109 u110 u111 u112 u113 u114 u115 u116 u117 u118 u119 u120 u121 u122 u123 u124 u125 u126 u127 u128 u129 u130 u131 u132 u133 u134 u135 u136 u137 u138 u139 u140 u141 u142 u143 u144 u145 u146 u147 u148 u149 u150 u151 u152 u153 u154 u155 u156 u157 u158 u159 u160 u161 u162 u163 u164 u165 u166 u167 u168 u169 u170 u171 u172 u173 u174 u175 u176 u177 u178 u179 u180 u181 u182 u183 u184 u185 u186 u187 u188 u189 u190 u191 u192 u193 u194 u195 u196 u197 u198 u199 u200 u201 u202 u203 u204 u205 u206 u207 u208 u209 u210 u211 u212 u213 u214 u215 u216 u217 u218 u219 u220 u221 u222 u223 u224 u225 u226 u227 u228 u229 u230 u231 u232 u233 u234 u235 u236 u237 u238 u239 u240 u241 u242 u243 u244 u245 u246 u247 u248 u249 u250 u251 u252 u253 u254 u255 u256 u257 u258 u259 u260 u261 u262 u263 u264 u265 u266 u267 u268 u269 u270 u271 u272 u273 u274 u275 u276 u277 u278 u279 u280 u281 u282 u283 u284 u285 u286 u287 u288 u289 u290 u291 u292 u293 u294 u295 u296 u297 u298 u299 u300 u301 u302 u303 u304 : Value}
    (hP : PN w n v gw gf gc p' wc) (hn : n ≤ 64) :
    ∀ (K : Act → World → Prop) (Q' : Exit → Act → World → Prop), (∀ a' w', LoR w n v gw gf gc p' u1 u2 u3 u6 u10 u11 u12 u13 u14 u15 u16 u17 u18 u19 u20 u21 u22 u25 u26 u27 u28 u29 u30 u31 u32 u33 u34 u35 u36 u37 u38 u39 u40 u41 u42 u43 u44 u45 u46 u47 u48 u49 u50 u51 u52 u53 u54 u55 u56 u57 u58 u59 u60 u61 u62 u63 u64 u65 u66 u67 u68 u69 u70 u71 u72 u73 u74 u75 u76 u77 u78 u79 u80 u81 u82 u83 u84 u85 u86 u87 u88 u89 u90 u91 u92 u93 u94 u95 u96 u97 u98 u99 u100 u101 u102 u103 u104 u105 u106 u107 u108 u109 u110 u111 u112 u113 u114 u115 u116 u117 u118 u119 u120 u121 u122 u123 u124 u125 u126 u127 u128 u129 u130 u131 u132 u133 u134 u135 u136 u137 u138 u139 u140 u141 u142 u143 u144 u145 u146 u147 u148 u149 u150 u151 u152 u153 u154 u155 u156 u157 u158 u159 u160 u161 u162 u163 u164 u165 u166 u167 u168 u169 u170 u171 u172 u173 u174 u175 u176 u177 u178 u179 u180 u181 u182 u183 u184 u185 u186 u187 u188 u189 u190 u191 u192 u193 u194 u195 u196 u197 u198 u199 u200 u201 u202 u203 u204 u205 u206 u207 u208 u209 u210 u211 u212 u213 u214 u215 u216 u217 u218 u219 u220 u221 u222 u223 u224 u225 u226 u227 u228 u229 u230 u231 u232 u233 u234 u235 u236 u237 u238 u239 u240 u241 u242 u243 u244 u245 u246 u247 u248 u249 u250 u251 u252 u253 u254 u255 u256 u257 u258 u259 u260 u261 u262 u263 u264 u265 u266 u267 u268 u269 u270 u301 u302 u303 u304 a' w' → K a' w') → (∀ c a i v w1, Q' (.panic c) (Act.put a (some i) v) w1 → Q' (.panic c) a w1) → Code.wp Try.prog LoCode (Exit.then K Q') ⟨#[.int .i64 (n : Int), u1, u2, u3, u4, v, u6, .pointer (some ⟨gw, 0, none⟩), .pointer (some ⟨gf, 0, none⟩), .pointer (some ⟨gc, 0, none⟩), u10, u11, u12, u13, u14, u15, u16, u17, u18, u19, u20, u21, u22, .int .u64 0, .int .i64 0, u25, u26, u27, u28, u29, u30, u31, u32, u33, u34, u35, u36, u37, u38, u39, u40, u41, u42, u43, u44, u45, u46, u47, u48, u49, u50, u51, u52, u53, u54, u55, u56, u57, u58, u59, u60, u61, u62, u63, u64, u65, u66, u67, u68, u69, u70, u71, u72, u73, u74, u75, u76, u77, u78, u79, u80, u81, u82, u83, u84, u85, u86, u87, u88, u89, u90, u91, u92, u93, u94, u95, u96, u97, u98, u99, u100, u101, u102, u103, u104, u105, u106, u107, u108, u109, u110, u111, u112, u113, u114, u115, u116, u117, u118, u119, u120, u121, u122, u123, u124, u125, u126, u127, u128, u129, u130, u131, u132, u133, u134, u135, u136, u137, u138, u139, u140, u141, u142, u143, u144, u145, u146, u147, u148, u149, u150, u151, u152, u153, u154, u155, u156, u157, u158, u159, u160, u161, u162, u163, u164, u165, u166, u167, u168, u169, u170, u171, u172, u173, u174, u175, u176, u177, u178, u179, u180, u181, u182, u183, u184, u185, u186, u187, u188, u189, u190, u191, u192, u193, u194, u195, u196, u197, u198, u199, u200, u201, u202, u203, u204, u205, u206, u207, u208, u209, u210, u211, u212, u213, u214, u215, u216, u217, u218, u219, u220, u221, u222, u223, u224, u225, u226, u227, u228, u229, u230, u231, u232, u233, u234, u235, u236, u237, u238, u239, u240, u241, u242, u243, u244, u245, u246, u247, u248, u249, u250, u251, u252, u253, u254, u255, u256, u257, u258, u259, u260, u261, u262, u263, u264, u265, u266, u267, u268, u269, u270, u271, u272, u273, u274, u275, u276, u277, u278, u279, u280, u281, u282, u283, u284, u285, u286, u287, u288, u289, u290, u291, u292, u293, u294, u295, u296, u297, u298, u299, u300, u301, u302, u303, u304], []⟩ wc := by
  have P6 := Aside0.mk hP
  have HN := Aside0.mk hn
  clear hP hn
  intro K Q' hK hqp
  conv => arg 2; whnf
  refine wp_cut (LoR w n v gw gf gc p' u1 u2 u3 u6 u10 u11 u12 u13 u14 u15 u16 u17 u18 u19 u20 u21 u22 u25 u26 u27 u28 u29 u30 u31 u32 u33 u34 u35 u36 u37 u38 u39 u40 u41 u42 u43 u44 u45 u46 u47 u48 u49 u50 u51 u52 u53 u54 u55 u56 u57 u58 u59 u60 u61 u62 u63 u64 u65 u66 u67 u68 u69 u70 u71 u72 u73 u74 u75 u76 u77 u78 u79 u80 u81 u82 u83 u84 u85 u86 u87 u88 u89 u90 u91 u92 u93 u94 u95 u96 u97 u98 u99 u100 u101 u102 u103 u104 u105 u106 u107 u108 u109 u110 u111 u112 u113 u114 u115 u116 u117 u118 u119 u120 u121 u122 u123 u124 u125 u126 u127 u128 u129 u130 u131 u132 u133 u134 u135 u136 u137 u138 u139 u140 u141 u142 u143 u144 u145 u146 u147 u148 u149 u150 u151 u152 u153 u154 u155 u156 u157 u158 u159 u160 u161 u162 u163 u164 u165 u166 u167 u168 u169 u170 u171 u172 u173 u174 u175 u176 u177 u178 u179 u180 u181 u182 u183 u184 u185 u186 u187 u188 u189 u190 u191 u192 u193 u194 u195 u196 u197 u198 u199 u200 u201 u202 u203 u204 u205 u206 u207 u208 u209 u210 u211 u212 u213 u214 u215 u216 u217 u218 u219 u220 u221 u222 u223 u224 u225 u226 u227 u228 u229 u230 u231 u232 u233 u234 u235 u236 u237 u238 u239 u240 u241 u242 u243 u244 u245 u246 u247 u248 u249 u250 u251 u252 u253 u254 u255 u256 u257 u258 u259 u260 u261 u262 u263 u264 u265 u266 u267 u268 u269 u270 u301 u302 u303 u304) hK ?_
  intro _ _ _ _
  go_wp2
  go_loopw [23, 24] (fun mv iv wr => RelQ w n v gw gf gc p' mv iv wr) (fun _ i _ => n - (intOf i).toNat)
  case atStart => exact ⟨0, Nat.zero_le _, rfl, rfl, P6.out⟩
  case round =>
    obtain ⟨k, hk, rfl, rfl, hP⟩ := hrel
    have HP := Aside0.mk hP
    clear hP P6
    by_cases hkn : k < n
    · have hb64 : (0 ≤ (k : Int) ∧ (k : Int) < 64) := by have := HN.out; omega
      obtain ⟨k0, k1⟩ := HP.out.aw.cell hkn
      obtain ⟨k2, k3⟩ := HP.out.ac.cell hkn
      have HSE := Aside0.mk (HP.out.see hkn)
      have HCO := Aside0.mk (HP.out.count hkn)
      obtain ⟨a0, ha0⟩ : ∃ a, F0 p' k = a := ⟨_, rfl⟩
      obtain ⟨a2, ha2⟩ : ∃ a, F2 p' k = a := ⟨_, rfl⟩
      rw [ha0] at k0 HSE
      rw [ha2] at k2 HCO
      have HA0 := Aside0.mk (show (p'.getD k z56).f0 = a0 from ha0)
      clear ha0 ha2
      have s1 : (a0 != a0) = false := by simp
      have s2 : (a2 != a2) = false := by simp
      obtain ⟨m, hm⟩ : ∃ m, waitS p' k = m := ⟨_, rfl⟩
      rw [hm]
      by_cases hz : a0 = 0
      · have HS := Aside0.mk (show waitS p' (k + 1) = m from by rw [waitS, HA0.out, if_pos hz, hm])
        have r0 : (a0 != 0) = false := by rw [hz]; rfl
        clear hz hm
        go_upto_region 62 with (fail)
        go_quiet (first | (go_at_call 16; exact Calls.quiet_of_same (HSE.out _)) | (go_at_call 12; exact Calls.quiet_of_same (HCO.out _)))
        go_wp2
        go_roundw
        case rel => exact ⟨k + 1, by omega, by go_num, by rw [HS.out], HP.out.drewN _⟩
        case measure => simp [intOf]; omega
      · have HS := Aside0.mk (show waitS p' (k + 1) = Go.bits .or .u64 m (Go.IntKind.u64.wrap (2 ^ k)) from by rw [waitS, HA0.out, if_neg hz, hm]; unfold withv; rw [bit_at k (by omega), Nat.min_eq_left (show k ≤ 64 by omega)])
        have r0 : (a0 != 0) = true := by rw [bne, beq_eq_false_iff_ne.mpr hz]; rfl
        clear hz hm
        go_upto_region 62 with (fail)
        go_quiet (first | (go_at_call 16; exact Calls.quiet_of_same (HSE.out _)) | (go_at_call 12; exact Calls.quiet_of_same (HCO.out _)))
        go_wp2
        go_roundw
        case rel => exact ⟨k + 1, by omega, by go_num, by rw [HS.out], HP.out.drewN _⟩
        case measure => simp [intOf]; omega
    · have hke : k = n := by omega
      subst hke
      clear hkn hk
      go_wp2
      refine Met.intro ?_
      go_step
      unfold LoR
      refine ⟨_, _, _, _, _, _, _, _, _, _, _, _, _, _, _, _, _, _, _, _, _, _, _, _, _, _, _, _, _, _, _, _, _, ?_, rfl⟩
      exact ⟨rfl, HP.out⟩
end Go.Proofs.Yteihnocbeaaokaa.Poke
