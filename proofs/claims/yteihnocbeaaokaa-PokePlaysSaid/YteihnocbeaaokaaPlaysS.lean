/- PokePlays, the switch: what each act does to the pokes and to the law's own rows (no law is stated here; each says its conditions). -/
import Derived.Test.YteihnocbeaaokaaPlaysB
import Derived.Test.YteihnocbeaaokaaReg
import Derived.Test.YteihnocbeaaokaaWGuard
import Derived.Deep.DeepCutAuto
import Derived.Deep.CutBlock
import Derived.StillTailTactics
import Derived.BigQuiet
namespace Go.Proofs.Yteihnocbeaaokaa.Poke
open Go.RowKit Go.Proofs.YteihnocbeaaokaaW.PrintWords Go.Proofs.YteihnocbeaaokaaW.PrintLast Go.Proofs.YteihnocbeaaokaaW.PrintMore Go.Proofs.Yteihnocbeaaokaa.St Go.Proofs.Yteihnocbeaaokaa.Q
set_option linter.unusedVariables false
set_option linter.unusedSimpArgs false
attribute [local go_sem] max2_int min2_int max_two min_two max_three min_three max_four min_four

def FRel (w : World) (n : Nat) (v : Value) (gw gf gc gx : Nat) (o c t h : Int) (wd : World) : Prop := ∃ p' : List S56, PI w n v gw gf gc gx o c t h p' (F0 p') (F1 p') (F2 p') wd
noncomputable def SwCode : Code := ((Try.f5.body.bind (subBlock 2)).getD .skip)
set_option maxRecDepth 1000000 in
def SwR (w : World) (n : Nat) (v : Value) (gw gf gc gx : Nat) (gd td : Bool) (o c t h : Int) (u1 u2 u3 u6 u10 u23 u24 u25 u26 u27 u28 u29 u30 u31 u32 u33 u34 u35 u36 u37 u38 u39 u40 u41 u42 u43 u44 u45 u46 u47 u48 u49 u50 u51 u52 u53 u54 u55 u56 u57 u58 u59 u60 u61 u62 u63 u64 u65 u66 u67 u68 u69 u70 u71 u72 u73 u74 u75 u76 u77 u78 u79 u80 u81 u82 u83 u84 u85 u86 u87 u88 u89 u90 u91 u92 u93 u94 u95 u96 u97 u98 u99 u271 u272 u273 u274 u275 u276 u277 u278 u279 u280 u281 u282 u283 u284 u285 u286 u287 u288 u289 u290 u291 u292 u293 u294 u295 u296 u297 u298 u299 u300 u301 u302 u303 u304 : Value) (a' : Act) (w' : World) : Prop := ∃ x4 x14 x15 x16 x17 x18 x19 x20 x21 x22 x101 x102 x103 x104 x105 x106 x107 x108 x109 x110 x111 x112 x113 x114 x115 x116 x117 x118 x119 x120 x121 x122 x123 x124 x125 x126 x127 x128 x129 x130 x131 x132 x133 x134 x135 x136 x137 x138 x139 x140 x141 x142 x143 x144 x145 x146 x147 x148 x149 x150 x151 x152 x153 x154 x155 x156 x157 x158 x159 x160 x161 x162 x163 x164 x165 x166 x167 x168 x169 x170 x171 x172 x173 x174 x175 x176 x177 x178 x179 x180 x181 x182 x183 x184 x185 x186 x187 x188 x189 x190 x191 x192 x193 x194 x195 x196 x197 x198 x199 x200 x201 x202 x203 x204 x205 x206 x207 x208 x209 x210 x211 x212 x213 x214 x215 x216 x217 x218 x219 x220 x221 x222 x223 x224 x225 x226 x227 x228 x229 x230 x231 x232 x233 x234 x235 x236 x237 x238 x239 x240 x241 x242 x243 x244 x245 x246 x247 x248 x249 x250 x251 x252 x253 x254 x255 x256 x257 x258 x259 x260 x261 x262 x263 x264 x265 x266 x267 x268 x269 x270 : Value, FRel w n v gw gf gc gx o c t h w' ∧ a' = ⟨#[.int .i64 (n : Int), u1, u2, u3, x4, v, u6, .pointer (some ⟨gw, 0, none⟩), .pointer (some ⟨gf, 0, none⟩), .pointer (some ⟨gc, 0, none⟩), u10, .pointer (some ⟨gx, 0, none⟩), .bool gd, .bool td, x14, x15, x16, x17, x18, x19, x20, x21, x22, u23, u24, u25, u26, u27, u28, u29, u30, u31, u32, u33, u34, u35, u36, u37, u38, u39, u40, u41, u42, u43, u44, u45, u46, u47, u48, u49, u50, u51, u52, u53, u54, u55, u56, u57, u58, u59, u60, u61, u62, u63, u64, u65, u66, u67, u68, u69, u70, u71, u72, u73, u74, u75, u76, u77, u78, u79, u80, u81, u82, u83, u84, u85, u86, u87, u88, u89, u90, u91, u92, u93, u94, u95, u96, u97, u98, u99, .int .i64 o, x101, x102, x103, x104, x105, x106, x107, x108, x109, x110, x111, x112, x113, x114, x115, x116, x117, x118, x119, x120, x121, x122, x123, x124, x125, x126, x127, x128, x129, x130, x131, x132, x133, x134, x135, x136, x137, x138, x139, x140, x141, x142, x143, x144, x145, x146, x147, x148, x149, x150, x151, x152, x153, x154, x155, x156, x157, x158, x159, x160, x161, x162, x163, x164, x165, x166, x167, x168, x169, x170, x171, x172, x173, x174, x175, x176, x177, x178, x179, x180, x181, x182, x183, x184, x185, x186, x187, x188, x189, x190, x191, x192, x193, x194, x195, x196, x197, x198, x199, x200, x201, x202, x203, x204, x205, x206, x207, x208, x209, x210, x211, x212, x213, x214, x215, x216, x217, x218, x219, x220, x221, x222, x223, x224, x225, x226, x227, x228, x229, x230, x231, x232, x233, x234, x235, x236, x237, x238, x239, x240, x241, x242, x243, x244, x245, x246, x247, x248, x249, x250, x251, x252, x253, x254, x255, x256, x257, x258, x259, x260, x261, x262, x263, x264, x265, x266, x267, x268, x269, x270, u271, u272, u273, u274, u275, u276, u277, u278, u279, u280, u281, u282, u283, u284, u285, u286, u287, u288, u289, u290, u291, u292, u293, u294, u295, u296, u297, u298, u299, u300, u301, u302, u303, u304], []⟩
set_option maxHeartbeats 4000000 in
set_option maxRecDepth 100000 in
theorem send_no {w wc : World} {n : Nat} {v : Value} {gw gf gc gx : Nat} {o c t h : Int} {gd td : Bool} {p : List S56} {u1 u2 u3 u4 u6 u10 u14 u15 u16 u17 u18 u19 u20 u21 u22 u23 u24 u25 u26 u27 u28 u29 u30 u31 u32 u33 u34 u35 u36 u37 u38 u39 u40 u41 u42 u43 u44 u45 u46 u47 u48 u49 u50 u51 u52 u53 u54 u55 u56 u57 u58 u59 u60 u61 u62 u63 u64 u65 u66 u67 u68 u69 u70 u71 u72 u73 u74 u75 u76 u77 u78 u79 u80 u81 u82 u83 u84 u85 u86 u87 u88 u89 u90 u91 u92 u93 u94 u95 u96 u97 u98 u99 u101 u102 u103 u104 u105 u106 u107 u108 u109 u110 u111 u112 u113 u114 u115 u116 u117 u118 u119 u120 u121 u122 u123 u124 u125 u126 u127 u128 u129 u130 u131 u132 u133 u134 u135 u136 u137 u138 u139 u140 u141 u142 u143 u144 u145 u146 u147 u148 u149 u150 u151 u152 u153 u154 u155 u156 u157 u158 u159 u160 u161 u162 u163 u164 u165 u166 u167 u168 u169 u170 u171 u172 u173 u174 u175 u176 u177 u178 u179 u180 u181 u182 u183 u184 u185 u186 u187 u188 u189 u190 u191 u192 u193 u194 u195 u196 u197 u198 u199 u200 u201 u202 u203 u204 u205 u206 u207 u208 u209 u210 u211 u212 u213 u214 u215 u216 u217 u218 u219 u220 u221 u222 u223 u224 u225 u226 u227 u228 u229 u230 u231 u232 u233 u234 u235 u236 u237 u238 u239 u240 u241 u242 u243 u244 u245 u246 u247 u248 u249 u250 u251 u252 u253 u254 u255 u256 u257 u258 u259 u260 u261 u262 u263 u264 u265 u266 u267 u268 u269 u270 u271 u272 u273 u274 u275 u276 u277 u278 u279 u280 u281 u282 u283 u284 u285 u286 u287 u288 u289 u290 u291 u292 u293 u294 u295 u296 u297 u298 u299 u300 u301 u302 u303 u304 : Value}
    (hI : PI w n v gw gf gc gx o c t h p (F0 p) (F1 p) (F2 p) wc) (hB : Bl w gw gf gc gx) (hgd : mayv p c h = gd) (htd : isv p t = td) (hn : n ≤ 64) (ho : o = 0) (hx : gd = false ∨ td = false) :
    ∀ (K : Act → World → Prop) (Q' : Exit → Act → World → Prop), (∀ a' w', SwR w n v gw gf gc gx gd td o c t h u1 u2 u3 u6 u10 u23 u24 u25 u26 u27 u28 u29 u30 u31 u32 u33 u34 u35 u36 u37 u38 u39 u40 u41 u42 u43 u44 u45 u46 u47 u48 u49 u50 u51 u52 u53 u54 u55 u56 u57 u58 u59 u60 u61 u62 u63 u64 u65 u66 u67 u68 u69 u70 u71 u72 u73 u74 u75 u76 u77 u78 u79 u80 u81 u82 u83 u84 u85 u86 u87 u88 u89 u90 u91 u92 u93 u94 u95 u96 u97 u98 u99 u271 u272 u273 u274 u275 u276 u277 u278 u279 u280 u281 u282 u283 u284 u285 u286 u287 u288 u289 u290 u291 u292 u293 u294 u295 u296 u297 u298 u299 u300 u301 u302 u303 u304 a' w' → K a' w') → (∀ c a i v w1, Q' (.panic c) (Act.put a (some i) v) w1 → Q' (.panic c) a w1) → Code.wp Try.prog SwCode (Exit.then K Q') ⟨#[.int .i64 (n : Int), u1, u2, u3, u4, v, u6, .pointer (some ⟨gw, 0, none⟩), .pointer (some ⟨gf, 0, none⟩), .pointer (some ⟨gc, 0, none⟩), u10, .pointer (some ⟨gx, 0, none⟩), .bool gd, .bool td, u14, u15, u16, u17, u18, u19, u20, u21, u22, u23, u24, u25, u26, u27, u28, u29, u30, u31, u32, u33, u34, u35, u36, u37, u38, u39, u40, u41, u42, u43, u44, u45, u46, u47, u48, u49, u50, u51, u52, u53, u54, u55, u56, u57, u58, u59, u60, u61, u62, u63, u64, u65, u66, u67, u68, u69, u70, u71, u72, u73, u74, u75, u76, u77, u78, u79, u80, u81, u82, u83, u84, u85, u86, u87, u88, u89, u90, u91, u92, u93, u94, u95, u96, u97, u98, u99, .int .i64 o, u101, u102, u103, u104, u105, u106, u107, u108, u109, u110, u111, u112, u113, u114, u115, u116, u117, u118, u119, u120, u121, u122, u123, u124, u125, u126, u127, u128, u129, u130, u131, u132, u133, u134, u135, u136, u137, u138, u139, u140, u141, u142, u143, u144, u145, u146, u147, u148, u149, u150, u151, u152, u153, u154, u155, u156, u157, u158, u159, u160, u161, u162, u163, u164, u165, u166, u167, u168, u169, u170, u171, u172, u173, u174, u175, u176, u177, u178, u179, u180, u181, u182, u183, u184, u185, u186, u187, u188, u189, u190, u191, u192, u193, u194, u195, u196, u197, u198, u199, u200, u201, u202, u203, u204, u205, u206, u207, u208, u209, u210, u211, u212, u213, u214, u215, u216, u217, u218, u219, u220, u221, u222, u223, u224, u225, u226, u227, u228, u229, u230, u231, u232, u233, u234, u235, u236, u237, u238, u239, u240, u241, u242, u243, u244, u245, u246, u247, u248, u249, u250, u251, u252, u253, u254, u255, u256, u257, u258, u259, u260, u261, u262, u263, u264, u265, u266, u267, u268, u269, u270, u271, u272, u273, u274, u275, u276, u277, u278, u279, u280, u281, u282, u283, u284, u285, u286, u287, u288, u289, u290, u291, u292, u293, u294, u295, u296, u297, u298, u299, u300, u301, u302, u303, u304], []⟩ wc := by
  have HI := Aside0.mk hI
  have HB := Aside0.mk hB
  have HN := Aside0.mk hn
  obtain ⟨c0, c1, c2, c3⟩ := hI.act
  clear hI hB hn
  have HX := Aside0.mk (show mayv p c h = false ∨ isv p t = false from by rw [hgd, htd]; exact hx)
  have q0 : (o == 0) = true := beq_iff_eq.mpr ho
  clear ho
  intro K Q' hK hqp
  conv => arg 2; whnf
  refine wp_cut (SwR w n v gw gf gc gx gd td o c t h u1 u2 u3 u6 u10 u23 u24 u25 u26 u27 u28 u29 u30 u31 u32 u33 u34 u35 u36 u37 u38 u39 u40 u41 u42 u43 u44 u45 u46 u47 u48 u49 u50 u51 u52 u53 u54 u55 u56 u57 u58 u59 u60 u61 u62 u63 u64 u65 u66 u67 u68 u69 u70 u71 u72 u73 u74 u75 u76 u77 u78 u79 u80 u81 u82 u83 u84 u85 u86 u87 u88 u89 u90 u91 u92 u93 u94 u95 u96 u97 u98 u99 u271 u272 u273 u274 u275 u276 u277 u278 u279 u280 u281 u282 u283 u284 u285 u286 u287 u288 u289 u290 u291 u292 u293 u294 u295 u296 u297 u298 u299 u300 u301 u302 u303 u304) hK ?_
  intro _ _ _ _
  rcases hx with rfl | rfl
  · go_wp2_with (first | (go_at_call 15; (with_reducible refine (send_bad c t h HI.out.m HX.out).mono ?_); rintro e w3 ⟨rfl, hM3, hW3⟩; have P3 := Aside0.mk (HI.out.call rfl hM3 hW3); clear hM3 hW3))
    refine Met.intro ?_
    go_step
    unfold SwR
    refine ⟨_, _, _, _, _, _, _, _, _, _, _, _, _, _, _, _, _, _, _, _, _, _, _, _, _, _, _, _, _, _, _, _, _, _, _, _, _, _, _, _, _, _, _, _, _, _, _, _, _, _, _, _, _, _, _, _, _, _, _, _, _, _, _, _, _, _, _, _, _, _, _, _, _, _, _, _, _, _, _, _, _, _, _, _, _, _, _, _, _, _, _, _, _, _, _, _, _, _, _, _, _, _, _, _, _, _, _, _, _, _, _, _, _, _, _, _, _, _, _, _, _, _, _, _, _, _, _, _, _, _, _, _, _, _, _, _, _, _, _, _, _, _, _, _, _, _, _, _, _, _, _, _, _, _, _, _, _, _, _, _, _, _, _, _, _, _, _, _, _, _, _, _, _, _, _, _, _, _, _, _, ?_, rfl⟩
    exact ⟨p, P3.out⟩
  · cases gd
    · go_wp2_with (first | (go_at_call 15; (with_reducible refine (send_bad c t h HI.out.m HX.out).mono ?_); rintro e w3 ⟨rfl, hM3, hW3⟩; have P3 := Aside0.mk (HI.out.call rfl hM3 hW3); clear hM3 hW3))
      refine Met.intro ?_
      go_step
      unfold SwR
      refine ⟨_, _, _, _, _, _, _, _, _, _, _, _, _, _, _, _, _, _, _, _, _, _, _, _, _, _, _, _, _, _, _, _, _, _, _, _, _, _, _, _, _, _, _, _, _, _, _, _, _, _, _, _, _, _, _, _, _, _, _, _, _, _, _, _, _, _, _, _, _, _, _, _, _, _, _, _, _, _, _, _, _, _, _, _, _, _, _, _, _, _, _, _, _, _, _, _, _, _, _, _, _, _, _, _, _, _, _, _, _, _, _, _, _, _, _, _, _, _, _, _, _, _, _, _, _, _, _, _, _, _, _, _, _, _, _, _, _, _, _, _, _, _, _, _, _, _, _, _, _, _, _, _, _, _, _, _, _, _, _, _, _, _, _, _, _, _, _, _, _, _, _, _, _, _, _, _, _, _, _, _, ?_, rfl⟩
      exact ⟨p, P3.out⟩
    · go_wp2_with (first | (go_at_call 15; (with_reducible refine (send_bad c t h HI.out.m HX.out).mono ?_); rintro e w3 ⟨rfl, hM3, hW3⟩; have P3 := Aside0.mk (HI.out.call rfl hM3 hW3); clear hM3 hW3))
      refine Met.intro ?_
      go_step
      unfold SwR
      refine ⟨_, _, _, _, _, _, _, _, _, _, _, _, _, _, _, _, _, _, _, _, _, _, _, _, _, _, _, _, _, _, _, _, _, _, _, _, _, _, _, _, _, _, _, _, _, _, _, _, _, _, _, _, _, _, _, _, _, _, _, _, _, _, _, _, _, _, _, _, _, _, _, _, _, _, _, _, _, _, _, _, _, _, _, _, _, _, _, _, _, _, _, _, _, _, _, _, _, _, _, _, _, _, _, _, _, _, _, _, _, _, _, _, _, _, _, _, _, _, _, _, _, _, _, _, _, _, _, _, _, _, _, _, _, _, _, _, _, _, _, _, _, _, _, _, _, _, _, _, _, _, _, _, _, _, _, _, _, _, _, _, _, _, _, _, _, _, _, _, _, _, _, _, _, _, _, _, _, _, _, _, ?_, rfl⟩
      exact ⟨p, P3.out⟩
set_option maxHeartbeats 4000000 in
set_option maxRecDepth 100000 in
theorem send_yes {w wc : World} {n : Nat} {v : Value} {gw gf gc gx : Nat} {o c t h : Int} {gd td : Bool} {p : List S56} {u1 u2 u3 u4 u6 u10 u14 u15 u16 u17 u18 u19 u20 u21 u22 u23 u24 u25 u26 u27 u28 u29 u30 u31 u32 u33 u34 u35 u36 u37 u38 u39 u40 u41 u42 u43 u44 u45 u46 u47 u48 u49 u50 u51 u52 u53 u54 u55 u56 u57 u58 u59 u60 u61 u62 u63 u64 u65 u66 u67 u68 u69 u70 u71 u72 u73 u74 u75 u76 u77 u78 u79 u80 u81 u82 u83 u84 u85 u86 u87 u88 u89 u90 u91 u92 u93 u94 u95 u96 u97 u98 u99 u101 u102 u103 u104 u105 u106 u107 u108 u109 u110 u111 u112 u113 u114 u115 u116 u117 u118 u119 u120 u121 u122 u123 u124 u125 u126 u127 u128 u129 u130 u131 u132 u133 u134 u135 u136 u137 u138 u139 u140 u141 u142 u143 u144 u145 u146 u147 u148 u149 u150 u151 u152 u153 u154 u155 u156 u157 u158 u159 u160 u161 u162 u163 u164 u165 u166 u167 u168 u169 u170 u171 u172 u173 u174 u175 u176 u177 u178 u179 u180 u181 u182 u183 u184 u185 u186 u187 u188 u189 u190 u191 u192 u193 u194 u195 u196 u197 u198 u199 u200 u201 u202 u203 u204 u205 u206 u207 u208 u209 u210 u211 u212 u213 u214 u215 u216 u217 u218 u219 u220 u221 u222 u223 u224 u225 u226 u227 u228 u229 u230 u231 u232 u233 u234 u235 u236 u237 u238 u239 u240 u241 u242 u243 u244 u245 u246 u247 u248 u249 u250 u251 u252 u253 u254 u255 u256 u257 u258 u259 u260 u261 u262 u263 u264 u265 u266 u267 u268 u269 u270 u271 u272 u273 u274 u275 u276 u277 u278 u279 u280 u281 u282 u283 u284 u285 u286 u287 u288 u289 u290 u291 u292 u293 u294 u295 u296 u297 u298 u299 u300 u301 u302 u303 u304 : Value}
    (hI : PI w n v gw gf gc gx o c t h p (F0 p) (F1 p) (F2 p) wc) (hB : Bl w gw gf gc gx) (hgd : mayv p c h = gd) (htd : isv p t = td) (hn : n ≤ 64) (ho : o = 0) (hg1 : gd = true) (ht1 : td = true) :
    ∀ (K : Act → World → Prop) (Q' : Exit → Act → World → Prop), (∀ a' w', SwR w n v gw gf gc gx gd td o c t h u1 u2 u3 u6 u10 u23 u24 u25 u26 u27 u28 u29 u30 u31 u32 u33 u34 u35 u36 u37 u38 u39 u40 u41 u42 u43 u44 u45 u46 u47 u48 u49 u50 u51 u52 u53 u54 u55 u56 u57 u58 u59 u60 u61 u62 u63 u64 u65 u66 u67 u68 u69 u70 u71 u72 u73 u74 u75 u76 u77 u78 u79 u80 u81 u82 u83 u84 u85 u86 u87 u88 u89 u90 u91 u92 u93 u94 u95 u96 u97 u98 u99 u271 u272 u273 u274 u275 u276 u277 u278 u279 u280 u281 u282 u283 u284 u285 u286 u287 u288 u289 u290 u291 u292 u293 u294 u295 u296 u297 u298 u299 u300 u301 u302 u303 u304 a' w' → K a' w') → (∀ c a i v w1, Q' (.panic c) (Act.put a (some i) v) w1 → Q' (.panic c) a w1) → Code.wp Try.prog SwCode (Exit.then K Q') ⟨#[.int .i64 (n : Int), u1, u2, u3, u4, v, u6, .pointer (some ⟨gw, 0, none⟩), .pointer (some ⟨gf, 0, none⟩), .pointer (some ⟨gc, 0, none⟩), u10, .pointer (some ⟨gx, 0, none⟩), .bool gd, .bool td, u14, u15, u16, u17, u18, u19, u20, u21, u22, u23, u24, u25, u26, u27, u28, u29, u30, u31, u32, u33, u34, u35, u36, u37, u38, u39, u40, u41, u42, u43, u44, u45, u46, u47, u48, u49, u50, u51, u52, u53, u54, u55, u56, u57, u58, u59, u60, u61, u62, u63, u64, u65, u66, u67, u68, u69, u70, u71, u72, u73, u74, u75, u76, u77, u78, u79, u80, u81, u82, u83, u84, u85, u86, u87, u88, u89, u90, u91, u92, u93, u94, u95, u96, u97, u98, u99, .int .i64 o, u101, u102, u103, u104, u105, u106, u107, u108, u109, u110, u111, u112, u113, u114, u115, u116, u117, u118, u119, u120, u121, u122, u123, u124, u125, u126, u127, u128, u129, u130, u131, u132, u133, u134, u135, u136, u137, u138, u139, u140, u141, u142, u143, u144, u145, u146, u147, u148, u149, u150, u151, u152, u153, u154, u155, u156, u157, u158, u159, u160, u161, u162, u163, u164, u165, u166, u167, u168, u169, u170, u171, u172, u173, u174, u175, u176, u177, u178, u179, u180, u181, u182, u183, u184, u185, u186, u187, u188, u189, u190, u191, u192, u193, u194, u195, u196, u197, u198, u199, u200, u201, u202, u203, u204, u205, u206, u207, u208, u209, u210, u211, u212, u213, u214, u215, u216, u217, u218, u219, u220, u221, u222, u223, u224, u225, u226, u227, u228, u229, u230, u231, u232, u233, u234, u235, u236, u237, u238, u239, u240, u241, u242, u243, u244, u245, u246, u247, u248, u249, u250, u251, u252, u253, u254, u255, u256, u257, u258, u259, u260, u261, u262, u263, u264, u265, u266, u267, u268, u269, u270, u271, u272, u273, u274, u275, u276, u277, u278, u279, u280, u281, u282, u283, u284, u285, u286, u287, u288, u289, u290, u291, u292, u293, u294, u295, u296, u297, u298, u299, u300, u301, u302, u303, u304], []⟩ wc := by
  have HI := Aside0.mk hI
  have HB := Aside0.mk hB
  have HN := Aside0.mk hn
  obtain ⟨c0, c1, c2, c3⟩ := hI.act
  clear hI hB hn
  intro K Q' hK hqp
  conv => arg 2; whnf
  refine wp_cut (SwR w n v gw gf gc gx gd td o c t h u1 u2 u3 u6 u10 u23 u24 u25 u26 u27 u28 u29 u30 u31 u32 u33 u34 u35 u36 u37 u38 u39 u40 u41 u42 u43 u44 u45 u46 u47 u48 u49 u50 u51 u52 u53 u54 u55 u56 u57 u58 u59 u60 u61 u62 u63 u64 u65 u66 u67 u68 u69 u70 u71 u72 u73 u74 u75 u76 u77 u78 u79 u80 u81 u82 u83 u84 u85 u86 u87 u88 u89 u90 u91 u92 u93 u94 u95 u96 u97 u98 u99 u271 u272 u273 u274 u275 u276 u277 u278 u279 u280 u281 u282 u283 u284 u285 u286 u287 u288 u289 u290 u291 u292 u293 u294 u295 u296 u297 u298 u299 u300 u301 u302 u303 u304) hK ?_
  intro _ _ _ _
  subst hg1 ht1
  obtain ⟨j, rfl, hj⟩ := isv_t htd
  have HGD := Aside0.mk hgd
  have HJL := Aside0.mk hj
  have hjn : j < n := by have := HI.out.len; omega
  have hj64 : (0 ≤ (j : Int) ∧ (j : Int) < 64) := by have := HN.out; omega
  obtain ⟨cc, rfl, hcc⟩ : ∃ cc : Nat, c = (cc : Int) ∧ cc < 64 := by
    have h1 : isv p c = true := by unfold mayv at hgd; revert hgd; cases isv p c <;> simp
    obtain ⟨k, h2, h3⟩ := isv_t h1
    exact ⟨k, h2, by have := HI.out.len; have := HN.out; omega⟩
  have HBIT := Aside0.mk (bit_at cc hcc)
  obtain ⟨a0, ha0⟩ : ∃ a, F0 p j = a := ⟨_, rfl⟩
  obtain ⟨a1, ha1⟩ : ∃ a, F1 p j = a := ⟨_, rfl⟩
  obtain ⟨a2, ha2⟩ : ∃ a, F2 p j = a := ⟨_, rfl⟩
  have HA0 := Aside0.mk (show (p.getD j z56).f0 = a0 from ha0)
  have HA1 := Aside0.mk (show (p.getD j z56).f1 = a1 from ha1)
  have HA2 := Aside0.mk (show (p.getD j z56).f2 = a2 from ha2)
  clear hgd htd hj
  have q0 : (o == 0) = true := beq_iff_eq.mpr ho
  clear ho
  go_upto_region 33 with (first | (go_at_call 15; (with_reducible refine (send_ok (cc : Int) j h (withv (p.getD j z56).f1 (cc : Int)) HI.out.m HGD.out HJL.out (with_some _ _)).mono ?_); rintro e w3 ⟨rfl, hM3, hW3⟩; have P3 := Aside0.mk (HI.out.call (List.length_set ..) hM3 hW3); clear hM3 hW3; rw [HA0.out]))
  obtain ⟨c0, c1, c2, c3⟩ := P3.out.act
  obtain ⟨⟨k0, k1⟩, ⟨k2, k3⟩, ⟨k4, k5⟩⟩ := P3.out.cells hjn
  rw [ha0] at k0
  rw [ha1] at k2
  rw [ha2] at k4
  have HH0 := Aside0.mk ha0
  have HH1 := Aside0.mk ha1
  have HH2 := Aside0.mk ha2
  clear ha0 ha1 ha2
  by_cases hz : a0 = 0
  · have r0 : (a0 == 0) = true := beq_iff_eq.mpr hz
    have HRW := Aside0.mk (fun i => rows_set (p := p) HJL.out (sendBox (p.getD j z56) h (withv (p.getD j z56).f1 (cc : Int))) i)
    have HSB := Aside0.mk (show sendBox (p.getD j z56) h (withv (p.getD j z56).f1 (cc : Int)) = ⟨Go.bits .or .i64 a0 h, Go.bits .or .u64 a1 (Go.IntKind.u64.wrap (2 ^ min cc 64)), wrap64 (a2 + 1)⟩ from by unfold sendBox withv; rw [HA0.out, HA1.out, HA2.out, HBIT.out, if_pos hz])
    clear hz
    go_upto_region 37 with (fail)
    have P4 := Aside0.mk (P3.out.setc HB.out hjn (wrap64 (a2 + 1)))
    clear c0 c1 c2 c3 k0 k1 k2 k3 k4 k5 r0
    generalize w3.setCell ⟨gc, j, none⟩ (.int .i64 (wrap64 (a2 + 1))) = w4 at P4 ⊢
    obtain ⟨c0, c1, c2, c3⟩ := P4.out.act
    obtain ⟨⟨k0, k1⟩, ⟨k2, k3⟩, _⟩ := P4.out.cells hjn
    rw [HH0.out] at k0
    go_still_tail 8, (by kernel_rfl)
    change wpList _ _ _ _ _ w4.drew
    obtain ⟨w5, hw5⟩ : ∃ w5 : World, w4.drew = w5 := ⟨_, rfl⟩
    rw [hw5]
    have P5 := Aside0.mk (show PI w n v gw gf gc gx o (cc : Int) (j : Int) h _ _ _ _ w5 from by rw [← hw5]; exact P4.out.drew)
    clear c0 c1 c2 c3 k0 k1 k2 k3 hw5
    obtain ⟨⟨k0, k1⟩, _, _⟩ := P5.out.cells hjn
    go_upto_region 38 with (fail)
    have P6 := Aside0.mk (P5.out.setw HB.out hjn (Go.bits .or .i64 a0 h))
    clear k0 k1
    generalize w5.setCell ⟨gw, j, none⟩ (.int .i64 (Go.bits .or .i64 a0 h)) = w6 at P6 ⊢
    obtain ⟨c0, c1, c2, c3⟩ := P6.out.act
    obtain ⟨_, ⟨k2, k3⟩, _⟩ := P6.out.cells hjn
    rw [HH1.out] at k2
    go_still_tail 10, (by kernel_rfl)
    change wpList _ _ _ _ _ w6.drew
    obtain ⟨w7, hw7⟩ : ∃ w7 : World, w6.drew = w7 := ⟨_, rfl⟩
    rw [hw7]
    have P7 := Aside0.mk (show PI w n v gw gf gc gx o (cc : Int) (j : Int) h _ _ _ _ w7 from by rw [← hw7]; exact P6.out.drew)
    clear c0 c1 c2 c3 k2 k3 hw7
    obtain ⟨_, ⟨k2, k3⟩, _⟩ := P7.out.cells hjn
    go_wp2
    have P9 := Aside0.mk (P7.out.setf HB.out hjn (Go.bits .or .u64 a1 (Go.IntKind.u64.wrap (2 ^ min cc 64))))
    refine Met.intro ?_
    go_step
    unfold SwR
    refine ⟨_, _, _, _, _, _, _, _, _, _, _, _, _, _, _, _, _, _, _, _, _, _, _, _, _, _, _, _, _, _, _, _, _, _, _, _, _, _, _, _, _, _, _, _, _, _, _, _, _, _, _, _, _, _, _, _, _, _, _, _, _, _, _, _, _, _, _, _, _, _, _, _, _, _, _, _, _, _, _, _, _, _, _, _, _, _, _, _, _, _, _, _, _, _, _, _, _, _, _, _, _, _, _, _, _, _, _, _, _, _, _, _, _, _, _, _, _, _, _, _, _, _, _, _, _, _, _, _, _, _, _, _, _, _, _, _, _, _, _, _, _, _, _, _, _, _, _, _, _, _, _, _, _, _, _, _, _, _, _, _, _, _, _, _, _, _, _, _, _, _, _, _, _, _, _, _, _, _, _, _, ?_, rfl⟩
    exact ⟨(p.set j (sendBox (p.getD j z56) h (withv (p.getD j z56).f1 (cc : Int)))), P9.out.congr (fw' := F0 (p.set j (sendBox (p.getD j z56) h (withv (p.getD j z56).f1 (cc : Int))))) (ff' := F1 (p.set j (sendBox (p.getD j z56) h (withv (p.getD j z56).f1 (cc : Int))))) (fc' := F2 (p.set j (sendBox (p.getD j z56) h (withv (p.getD j z56).f1 (cc : Int))))) (fun i hi => by rw [(HRW.out i).1, HSB.out]) (fun i hi => by rw [(HRW.out i).2.1, HSB.out]) (fun i hi => by rw [(HRW.out i).2.2, HSB.out])⟩
  · have r0 : (a0 == 0) = false := beq_eq_false_iff_ne.mpr hz
    have HRW := Aside0.mk (fun i => rows_set (p := p) HJL.out (sendBox (p.getD j z56) h (withv (p.getD j z56).f1 (cc : Int))) i)
    have HSB := Aside0.mk (show sendBox (p.getD j z56) h (withv (p.getD j z56).f1 (cc : Int)) = ⟨Go.bits .or .i64 a0 h, Go.bits .or .u64 a1 (Go.IntKind.u64.wrap (2 ^ min cc 64)), a2⟩ from by unfold sendBox withv; rw [HA0.out, HA1.out, HA2.out, HBIT.out, if_neg hz])
    clear hz
    go_upto_region 37 with (fail)
    have P4 := Aside0.mk P3.out
    clear c0 c1 c2 c3 k0 k1 k2 k3 k4 k5 r0
    obtain ⟨w4, hw4⟩ : ∃ w4 : World, w3 = w4 := ⟨_, rfl⟩
    rw [hw4] at P4 ⊢
    clear hw4
    obtain ⟨c0, c1, c2, c3⟩ := P4.out.act
    obtain ⟨⟨k0, k1⟩, ⟨k2, k3⟩, _⟩ := P4.out.cells hjn
    rw [HH0.out] at k0
    go_still_tail 8, (by kernel_rfl)
    change wpList _ _ _ _ _ w4.drew
    obtain ⟨w5, hw5⟩ : ∃ w5 : World, w4.drew = w5 := ⟨_, rfl⟩
    rw [hw5]
    have P5 := Aside0.mk (show PI w n v gw gf gc gx o (cc : Int) (j : Int) h _ _ _ _ w5 from by rw [← hw5]; exact P4.out.drew)
    clear c0 c1 c2 c3 k0 k1 k2 k3 hw5
    obtain ⟨⟨k0, k1⟩, _, _⟩ := P5.out.cells hjn
    go_upto_region 38 with (fail)
    have P6 := Aside0.mk (P5.out.setw HB.out hjn (Go.bits .or .i64 a0 h))
    clear k0 k1
    generalize w5.setCell ⟨gw, j, none⟩ (.int .i64 (Go.bits .or .i64 a0 h)) = w6 at P6 ⊢
    obtain ⟨c0, c1, c2, c3⟩ := P6.out.act
    obtain ⟨_, ⟨k2, k3⟩, _⟩ := P6.out.cells hjn
    rw [HH1.out] at k2
    go_still_tail 10, (by kernel_rfl)
    change wpList _ _ _ _ _ w6.drew
    obtain ⟨w7, hw7⟩ : ∃ w7 : World, w6.drew = w7 := ⟨_, rfl⟩
    rw [hw7]
    have P7 := Aside0.mk (show PI w n v gw gf gc gx o (cc : Int) (j : Int) h _ _ _ _ w7 from by rw [← hw7]; exact P6.out.drew)
    clear c0 c1 c2 c3 k2 k3 hw7
    obtain ⟨_, ⟨k2, k3⟩, _⟩ := P7.out.cells hjn
    go_wp2
    have P9 := Aside0.mk (P7.out.setf HB.out hjn (Go.bits .or .u64 a1 (Go.IntKind.u64.wrap (2 ^ min cc 64))))
    refine Met.intro ?_
    go_step
    unfold SwR
    refine ⟨_, _, _, _, _, _, _, _, _, _, _, _, _, _, _, _, _, _, _, _, _, _, _, _, _, _, _, _, _, _, _, _, _, _, _, _, _, _, _, _, _, _, _, _, _, _, _, _, _, _, _, _, _, _, _, _, _, _, _, _, _, _, _, _, _, _, _, _, _, _, _, _, _, _, _, _, _, _, _, _, _, _, _, _, _, _, _, _, _, _, _, _, _, _, _, _, _, _, _, _, _, _, _, _, _, _, _, _, _, _, _, _, _, _, _, _, _, _, _, _, _, _, _, _, _, _, _, _, _, _, _, _, _, _, _, _, _, _, _, _, _, _, _, _, _, _, _, _, _, _, _, _, _, _, _, _, _, _, _, _, _, _, _, _, _, _, _, _, _, _, _, _, _, _, _, _, _, _, _, _, ?_, rfl⟩
    exact ⟨(p.set j (sendBox (p.getD j z56) h (withv (p.getD j z56).f1 (cc : Int)))), P9.out.congr (fw' := F0 (p.set j (sendBox (p.getD j z56) h (withv (p.getD j z56).f1 (cc : Int))))) (ff' := F1 (p.set j (sendBox (p.getD j z56) h (withv (p.getD j z56).f1 (cc : Int))))) (fc' := F2 (p.set j (sendBox (p.getD j z56) h (withv (p.getD j z56).f1 (cc : Int))))) (fun i hi => by rw [(HRW.out i).1, HSB.out]) (fun i hi => by rw [(HRW.out i).2.1, HSB.out]) (fun i hi => by rw [(HRW.out i).2.2, HSB.out, ← HH2.out]; exact (upf_same (F2 p) j i).symm)⟩
set_option maxHeartbeats 4000000 in
set_option maxRecDepth 100000 in
theorem all_no {w wc : World} {n : Nat} {v : Value} {gw gf gc gx : Nat} {o c t h : Int} {gd td : Bool} {p : List S56} {u1 u2 u3 u4 u6 u10 u14 u15 u16 u17 u18 u19 u20 u21 u22 u23 u24 u25 u26 u27 u28 u29 u30 u31 u32 u33 u34 u35 u36 u37 u38 u39 u40 u41 u42 u43 u44 u45 u46 u47 u48 u49 u50 u51 u52 u53 u54 u55 u56 u57 u58 u59 u60 u61 u62 u63 u64 u65 u66 u67 u68 u69 u70 u71 u72 u73 u74 u75 u76 u77 u78 u79 u80 u81 u82 u83 u84 u85 u86 u87 u88 u89 u90 u91 u92 u93 u94 u95 u96 u97 u98 u99 u101 u102 u103 u104 u105 u106 u107 u108 u109 u110 u111 u112 u113 u114 u115 u116 u117 u118 u119 u120 u121 u122 u123 u124 u125 u126 u127 u128 u129 u130 u131 u132 u133 u134 u135 u136 u137 u138 u139 u140 u141 u142 u143 u144 u145 u146 u147 u148 u149 u150 u151 u152 u153 u154 u155 u156 u157 u158 u159 u160 u161 u162 u163 u164 u165 u166 u167 u168 u169 u170 u171 u172 u173 u174 u175 u176 u177 u178 u179 u180 u181 u182 u183 u184 u185 u186 u187 u188 u189 u190 u191 u192 u193 u194 u195 u196 u197 u198 u199 u200 u201 u202 u203 u204 u205 u206 u207 u208 u209 u210 u211 u212 u213 u214 u215 u216 u217 u218 u219 u220 u221 u222 u223 u224 u225 u226 u227 u228 u229 u230 u231 u232 u233 u234 u235 u236 u237 u238 u239 u240 u241 u242 u243 u244 u245 u246 u247 u248 u249 u250 u251 u252 u253 u254 u255 u256 u257 u258 u259 u260 u261 u262 u263 u264 u265 u266 u267 u268 u269 u270 u271 u272 u273 u274 u275 u276 u277 u278 u279 u280 u281 u282 u283 u284 u285 u286 u287 u288 u289 u290 u291 u292 u293 u294 u295 u296 u297 u298 u299 u300 u301 u302 u303 u304 : Value}
    (hI : PI w n v gw gf gc gx o c t h p (F0 p) (F1 p) (F2 p) wc) (hB : Bl w gw gf gc gx) (hgd : mayv p c h = gd) (htd : isv p t = td) (hn : n ≤ 64) (ho : o = 1) (hg0 : gd = false) :
    ∀ (K : Act → World → Prop) (Q' : Exit → Act → World → Prop), (∀ a' w', SwR w n v gw gf gc gx gd td o c t h u1 u2 u3 u6 u10 u23 u24 u25 u26 u27 u28 u29 u30 u31 u32 u33 u34 u35 u36 u37 u38 u39 u40 u41 u42 u43 u44 u45 u46 u47 u48 u49 u50 u51 u52 u53 u54 u55 u56 u57 u58 u59 u60 u61 u62 u63 u64 u65 u66 u67 u68 u69 u70 u71 u72 u73 u74 u75 u76 u77 u78 u79 u80 u81 u82 u83 u84 u85 u86 u87 u88 u89 u90 u91 u92 u93 u94 u95 u96 u97 u98 u99 u271 u272 u273 u274 u275 u276 u277 u278 u279 u280 u281 u282 u283 u284 u285 u286 u287 u288 u289 u290 u291 u292 u293 u294 u295 u296 u297 u298 u299 u300 u301 u302 u303 u304 a' w' → K a' w') → (∀ c a i v w1, Q' (.panic c) (Act.put a (some i) v) w1 → Q' (.panic c) a w1) → Code.wp Try.prog SwCode (Exit.then K Q') ⟨#[.int .i64 (n : Int), u1, u2, u3, u4, v, u6, .pointer (some ⟨gw, 0, none⟩), .pointer (some ⟨gf, 0, none⟩), .pointer (some ⟨gc, 0, none⟩), u10, .pointer (some ⟨gx, 0, none⟩), .bool gd, .bool td, u14, u15, u16, u17, u18, u19, u20, u21, u22, u23, u24, u25, u26, u27, u28, u29, u30, u31, u32, u33, u34, u35, u36, u37, u38, u39, u40, u41, u42, u43, u44, u45, u46, u47, u48, u49, u50, u51, u52, u53, u54, u55, u56, u57, u58, u59, u60, u61, u62, u63, u64, u65, u66, u67, u68, u69, u70, u71, u72, u73, u74, u75, u76, u77, u78, u79, u80, u81, u82, u83, u84, u85, u86, u87, u88, u89, u90, u91, u92, u93, u94, u95, u96, u97, u98, u99, .int .i64 o, u101, u102, u103, u104, u105, u106, u107, u108, u109, u110, u111, u112, u113, u114, u115, u116, u117, u118, u119, u120, u121, u122, u123, u124, u125, u126, u127, u128, u129, u130, u131, u132, u133, u134, u135, u136, u137, u138, u139, u140, u141, u142, u143, u144, u145, u146, u147, u148, u149, u150, u151, u152, u153, u154, u155, u156, u157, u158, u159, u160, u161, u162, u163, u164, u165, u166, u167, u168, u169, u170, u171, u172, u173, u174, u175, u176, u177, u178, u179, u180, u181, u182, u183, u184, u185, u186, u187, u188, u189, u190, u191, u192, u193, u194, u195, u196, u197, u198, u199, u200, u201, u202, u203, u204, u205, u206, u207, u208, u209, u210, u211, u212, u213, u214, u215, u216, u217, u218, u219, u220, u221, u222, u223, u224, u225, u226, u227, u228, u229, u230, u231, u232, u233, u234, u235, u236, u237, u238, u239, u240, u241, u242, u243, u244, u245, u246, u247, u248, u249, u250, u251, u252, u253, u254, u255, u256, u257, u258, u259, u260, u261, u262, u263, u264, u265, u266, u267, u268, u269, u270, u271, u272, u273, u274, u275, u276, u277, u278, u279, u280, u281, u282, u283, u284, u285, u286, u287, u288, u289, u290, u291, u292, u293, u294, u295, u296, u297, u298, u299, u300, u301, u302, u303, u304], []⟩ wc := by
  have HI := Aside0.mk hI
  have HB := Aside0.mk hB
  have HN := Aside0.mk hn
  obtain ⟨c0, c1, c2, c3⟩ := hI.act
  clear hI hB hn
  intro K Q' hK hqp
  conv => arg 2; whnf
  refine wp_cut (SwR w n v gw gf gc gx gd td o c t h u1 u2 u3 u6 u10 u23 u24 u25 u26 u27 u28 u29 u30 u31 u32 u33 u34 u35 u36 u37 u38 u39 u40 u41 u42 u43 u44 u45 u46 u47 u48 u49 u50 u51 u52 u53 u54 u55 u56 u57 u58 u59 u60 u61 u62 u63 u64 u65 u66 u67 u68 u69 u70 u71 u72 u73 u74 u75 u76 u77 u78 u79 u80 u81 u82 u83 u84 u85 u86 u87 u88 u89 u90 u91 u92 u93 u94 u95 u96 u97 u98 u99 u271 u272 u273 u274 u275 u276 u277 u278 u279 u280 u281 u282 u283 u284 u285 u286 u287 u288 u289 u290 u291 u292 u293 u294 u295 u296 u297 u298 u299 u300 u301 u302 u303 u304) hK ?_
  intro _ _ _ _
  subst hg0
  have HX := Aside0.mk hgd
  have q0 : (o == 0) = false := beq_eq_false_iff_ne.mpr (by omega)
  have q1 : (o == 1) = true := beq_iff_eq.mpr ho
  clear ho
  go_wp2_with (first | (go_at_call 8; (with_reducible refine (all_bad c h HI.out.m HX.out).mono ?_); rintro e w3 ⟨rfl, hM3, hW3⟩; have P3 := Aside0.mk (HI.out.call rfl hM3 hW3); clear hM3 hW3))
  refine Met.intro ?_
  go_step
  unfold SwR
  refine ⟨_, _, _, _, _, _, _, _, _, _, _, _, _, _, _, _, _, _, _, _, _, _, _, _, _, _, _, _, _, _, _, _, _, _, _, _, _, _, _, _, _, _, _, _, _, _, _, _, _, _, _, _, _, _, _, _, _, _, _, _, _, _, _, _, _, _, _, _, _, _, _, _, _, _, _, _, _, _, _, _, _, _, _, _, _, _, _, _, _, _, _, _, _, _, _, _, _, _, _, _, _, _, _, _, _, _, _, _, _, _, _, _, _, _, _, _, _, _, _, _, _, _, _, _, _, _, _, _, _, _, _, _, _, _, _, _, _, _, _, _, _, _, _, _, _, _, _, _, _, _, _, _, _, _, _, _, _, _, _, _, _, _, _, _, _, _, _, _, _, _, _, _, _, _, _, _, _, _, _, _, ?_, rfl⟩
  exact ⟨p, P3.out⟩
def RelL (w : World) (n : Nat) (v : Value) (gw gf gc gx : Nat) (o c t h : Int) (p : List S56) (rv iv : Value) (wr : World) : Prop :=
  ∃ j : Nat, j ≤ n ∧ iv = .int .i64 (j : Int) ∧ rv = .int .u64 (allS c h p j).2 ∧ PI w n v gw gf gc gx o c t h (allS c h p n).1 (F0 (allS c h p j).1) (F1 (allS c h p j).1) (F2 (allS c h p j).1) wr
set_option maxHeartbeats 4000000 in
set_option maxRecDepth 100000 in
theorem all_yes {w wc : World} {n : Nat} {v : Value} {gw gf gc gx : Nat} {o c t h : Int} {gd td : Bool} {p : List S56} {u1 u2 u3 u4 u6 u10 u14 u15 u16 u17 u18 u19 u20 u21 u22 u23 u24 u25 u26 u27 u28 u29 u30 u31 u32 u33 u34 u35 u36 u37 u38 u39 u40 u41 u42 u43 u44 u45 u46 u47 u48 u49 u50 u51 u52 u53 u54 u55 u56 u57 u58 u59 u60 u61 u62 u63 u64 u65 u66 u67 u68 u69 u70 u71 u72 u73 u74 u75 u76 u77 u78 u79 u80 u81 u82 u83 u84 u85 u86 u87 u88 u89 u90 u91 u92 u93 u94 u95 u96 u97 u98 u99 u101 u102 u103 u104 u105 u106 u107 u108 u109 u110 u111 u112 u113 u114 u115 u116 u117 u118 u119 u120 u121 u122 u123 u124 u125 u126 u127 u128 u129 u130 u131 u132 u133 u134 u135 u136 u137 u138 u139 u140 u141 u142 u143 u144 u145 u146 u147 u148 u149 u150 u151 u152 u153 u154 u155 u156 u157 u158 u159 u160 u161 u162 u163 u164 u165 u166 u167 u168 u169 u170 u171 u172 u173 u174 u175 u176 u177 u178 u179 u180 u181 u182 u183 u184 u185 u186 u187 u188 u189 u190 u191 u192 u193 u194 u195 u196 u197 u198 u199 u200 u201 u202 u203 u204 u205 u206 u207 u208 u209 u210 u211 u212 u213 u214 u215 u216 u217 u218 u219 u220 u221 u222 u223 u224 u225 u226 u227 u228 u229 u230 u231 u232 u233 u234 u235 u236 u237 u238 u239 u240 u241 u242 u243 u244 u245 u246 u247 u248 u249 u250 u251 u252 u253 u254 u255 u256 u257 u258 u259 u260 u261 u262 u263 u264 u265 u266 u267 u268 u269 u270 u271 u272 u273 u274 u275 u276 u277 u278 u279 u280 u281 u282 u283 u284 u285 u286 u287 u288 u289 u290 u291 u292 u293 u294 u295 u296 u297 u298 u299 u300 u301 u302 u303 u304 : Value}
    (hI : PI w n v gw gf gc gx o c t h p (F0 p) (F1 p) (F2 p) wc) (hB : Bl w gw gf gc gx) (hgd : mayv p c h = gd) (htd : isv p t = td) (hn : n ≤ 64) (ho : o = 1) (hg1 : gd = true) :
    ∀ (K : Act → World → Prop) (Q' : Exit → Act → World → Prop), (∀ a' w', SwR w n v gw gf gc gx gd td o c t h u1 u2 u3 u6 u10 u23 u24 u25 u26 u27 u28 u29 u30 u31 u32 u33 u34 u35 u36 u37 u38 u39 u40 u41 u42 u43 u44 u45 u46 u47 u48 u49 u50 u51 u52 u53 u54 u55 u56 u57 u58 u59 u60 u61 u62 u63 u64 u65 u66 u67 u68 u69 u70 u71 u72 u73 u74 u75 u76 u77 u78 u79 u80 u81 u82 u83 u84 u85 u86 u87 u88 u89 u90 u91 u92 u93 u94 u95 u96 u97 u98 u99 u271 u272 u273 u274 u275 u276 u277 u278 u279 u280 u281 u282 u283 u284 u285 u286 u287 u288 u289 u290 u291 u292 u293 u294 u295 u296 u297 u298 u299 u300 u301 u302 u303 u304 a' w' → K a' w') → (∀ c a i v w1, Q' (.panic c) (Act.put a (some i) v) w1 → Q' (.panic c) a w1) → Code.wp Try.prog SwCode (Exit.then K Q') ⟨#[.int .i64 (n : Int), u1, u2, u3, u4, v, u6, .pointer (some ⟨gw, 0, none⟩), .pointer (some ⟨gf, 0, none⟩), .pointer (some ⟨gc, 0, none⟩), u10, .pointer (some ⟨gx, 0, none⟩), .bool gd, .bool td, u14, u15, u16, u17, u18, u19, u20, u21, u22, u23, u24, u25, u26, u27, u28, u29, u30, u31, u32, u33, u34, u35, u36, u37, u38, u39, u40, u41, u42, u43, u44, u45, u46, u47, u48, u49, u50, u51, u52, u53, u54, u55, u56, u57, u58, u59, u60, u61, u62, u63, u64, u65, u66, u67, u68, u69, u70, u71, u72, u73, u74, u75, u76, u77, u78, u79, u80, u81, u82, u83, u84, u85, u86, u87, u88, u89, u90, u91, u92, u93, u94, u95, u96, u97, u98, u99, .int .i64 o, u101, u102, u103, u104, u105, u106, u107, u108, u109, u110, u111, u112, u113, u114, u115, u116, u117, u118, u119, u120, u121, u122, u123, u124, u125, u126, u127, u128, u129, u130, u131, u132, u133, u134, u135, u136, u137, u138, u139, u140, u141, u142, u143, u144, u145, u146, u147, u148, u149, u150, u151, u152, u153, u154, u155, u156, u157, u158, u159, u160, u161, u162, u163, u164, u165, u166, u167, u168, u169, u170, u171, u172, u173, u174, u175, u176, u177, u178, u179, u180, u181, u182, u183, u184, u185, u186, u187, u188, u189, u190, u191, u192, u193, u194, u195, u196, u197, u198, u199, u200, u201, u202, u203, u204, u205, u206, u207, u208, u209, u210, u211, u212, u213, u214, u215, u216, u217, u218, u219, u220, u221, u222, u223, u224, u225, u226, u227, u228, u229, u230, u231, u232, u233, u234, u235, u236, u237, u238, u239, u240, u241, u242, u243, u244, u245, u246, u247, u248, u249, u250, u251, u252, u253, u254, u255, u256, u257, u258, u259, u260, u261, u262, u263, u264, u265, u266, u267, u268, u269, u270, u271, u272, u273, u274, u275, u276, u277, u278, u279, u280, u281, u282, u283, u284, u285, u286, u287, u288, u289, u290, u291, u292, u293, u294, u295, u296, u297, u298, u299, u300, u301, u302, u303, u304], []⟩ wc := by
  have HI := Aside0.mk hI
  have HB := Aside0.mk hB
  have HN := Aside0.mk hn
  obtain ⟨c0, c1, c2, c3⟩ := hI.act
  clear hI hB hn
  intro K Q' hK hqp
  conv => arg 2; whnf
  refine wp_cut (SwR w n v gw gf gc gx gd td o c t h u1 u2 u3 u6 u10 u23 u24 u25 u26 u27 u28 u29 u30 u31 u32 u33 u34 u35 u36 u37 u38 u39 u40 u41 u42 u43 u44 u45 u46 u47 u48 u49 u50 u51 u52 u53 u54 u55 u56 u57 u58 u59 u60 u61 u62 u63 u64 u65 u66 u67 u68 u69 u70 u71 u72 u73 u74 u75 u76 u77 u78 u79 u80 u81 u82 u83 u84 u85 u86 u87 u88 u89 u90 u91 u92 u93 u94 u95 u96 u97 u98 u99 u271 u272 u273 u274 u275 u276 u277 u278 u279 u280 u281 u282 u283 u284 u285 u286 u287 u288 u289 u290 u291 u292 u293 u294 u295 u296 u297 u298 u299 u300 u301 u302 u303 u304) hK ?_
  intro _ _ _ _
  subst hg1
  obtain ⟨cc, rfl, hcc, hcn⟩ : ∃ cc : Nat, c = (cc : Int) ∧ cc < 64 ∧ cc < n := by
    have h1 : isv p c = true := by unfold mayv at hgd; revert hgd; cases isv p c <;> simp
    obtain ⟨k, h2, h3⟩ := isv_t h1
    exact ⟨k, h2, by have := HI.out.len; have := HN.out; omega, by have := HI.out.len; omega⟩
  have HGD := Aside0.mk hgd
  have HBIT := Aside0.mk (bit_at cc hcc)
  have HAL := Aside0.mk (fun j => (allS_len (cc : Int) h p j).trans HI.out.len)
  clear hgd htd
  have q0 : (o == 0) = false := beq_eq_false_iff_ne.mpr (by omega)
  have q1 : (o == 1) = true := beq_iff_eq.mpr ho
  clear ho
  go_upto_block 4 with (first | (go_at_call 8; (with_reducible refine (all_ok (cc : Int) h HI.out.m HGD.out).mono ?_); rintro e w3 ⟨rfl, hM3, hW3⟩; rw [HI.out.len] at hM3 ⊢; have P3 := Aside0.mk (HI.out.call ((HAL.out n).trans HI.out.len.symm) hM3 hW3); clear hM3 hW3))
  go_wp2
  go_loopw [18, 19] (fun rv iv wr => RelL w n v gw gf gc gx o (cc : Int) t h p rv iv wr) (fun _ i _ => n - (intOf i).toNat)
  case atStart => exact ⟨0, Nat.zero_le _, rfl, rfl, P3.out⟩
  case round =>
    obtain ⟨j, hj, rfl, rfl, hP⟩ := hrel
    have HP := Aside0.mk hP
    have hj64 : j ≤ 64 := by have := HN.out; omega
    clear hP P3
    by_cases hjn : j < n
    · have hb64 : (0 ≤ (j : Int) ∧ (j : Int) < 64) := by have := HN.out; omega
      clear hj64
      obtain ⟨q, hq⟩ : ∃ q, (allS (cc : Int) h p j).1 = q := ⟨_, rfl⟩
      obtain ⟨r, hr⟩ : ∃ r, (allS (cc : Int) h p j).2 = r := ⟨_, rfl⟩
      have HQ := Aside0.mk hq
      have HR := Aside0.mk hr
      have HQL := Aside0.mk (show j < q.length by rw [← hq, HAL.out]; exact hjn)
      rw [hr]
      rw [hq] at HP
      clear hq hr
      obtain ⟨c0, c1, c2, c3⟩ := HP.out.act
      obtain ⟨⟨k0, k1⟩, ⟨k2, k3⟩, ⟨k4, k5⟩⟩ := HP.out.cells hjn
      obtain ⟨a0, ha0⟩ : ∃ a, F0 q j = a := ⟨_, rfl⟩
      obtain ⟨a1, ha1⟩ : ∃ a, F1 q j = a := ⟨_, rfl⟩
      obtain ⟨a2, ha2⟩ : ∃ a, F2 q j = a := ⟨_, rfl⟩
      have HA0 := Aside0.mk (show (q.getD j z56).f0 = a0 from ha0)
      have HA1 := Aside0.mk (show (q.getD j z56).f1 = a1 from ha1)
      have HA2 := Aside0.mk (show (q.getD j z56).f2 = a2 from ha2)
      rw [ha0] at k0
      rw [ha1] at k2
      rw [ha2] at k4
      have HH0 := Aside0.mk ha0
      have HH1 := Aside0.mk ha1
      have HH2 := Aside0.mk ha2
      clear ha0 ha1 ha2
      by_cases hjc : j = cc
      · have e1 : ((j : Int) == (cc : Int)) = true := beq_iff_eq.mpr (by omega)
        have HS := Aside0.mk (show allS (cc : Int) h p (j + 1) = (q, r) from by rw [allS, if_pos (by omega)]; exact Prod.ext HQ.out HR.out)
        clear hjc
        go_wp2
        go_roundw
        case rel => exact ⟨j + 1, by omega, by go_num, by rw [HS.out], by rw [HS.out]; exact HP.out⟩
        case measure => simp [intOf]; omega
      · have e1 : ((j : Int) == (cc : Int)) = false := beq_eq_false_iff_ne.mpr (by omega)
        have HRW := Aside0.mk (fun i => rows_set (p := q) HQL.out (sendBox (q.getD j z56) h (withv (q.getD j z56).f1 (cc : Int))) i)
        have hjc2 : ¬ (j : Int) = (cc : Int) := by omega
        clear hjc
        by_cases hz : a0 = 0
        · have r0 : (a0 == 0) = true := beq_iff_eq.mpr hz
          have HS := Aside0.mk (show allS (cc : Int) h p (j + 1) = ((q.set j (sendBox (q.getD j z56) h (withv (q.getD j z56).f1 (cc : Int)))), Go.bits .or .u64 r (Go.IntKind.u64.wrap (2 ^ min j 64))) from by rw [allS, if_neg hjc2, HQ.out, HR.out, HA0.out, if_pos hz]; unfold withv; rw [bit_at j (by have := HN.out; omega)])
          have HSB := Aside0.mk (show sendBox (q.getD j z56) h (withv (q.getD j z56).f1 (cc : Int)) = ⟨Go.bits .or .i64 a0 h, Go.bits .or .u64 a1 (Go.IntKind.u64.wrap (2 ^ min cc 64)), wrap64 (a2 + 1)⟩ from by unfold sendBox withv; rw [HA0.out, HA1.out, HA2.out, HBIT.out, if_pos hz])
          clear hz hjc2
          go_upto_region 52 with (fail)
          have P4 := Aside0.mk (HP.out.setc HB.out hjn (wrap64 (a2 + 1)))
          clear c0 c1 c2 c3 k0 k1 k2 k3 k4 k5 r0
          generalize wr.setCell ⟨gc, j, none⟩ (.int .i64 (wrap64 (a2 + 1))) = w4 at P4 ⊢
          obtain ⟨c0, c1, c2, c3⟩ := P4.out.act
          obtain ⟨⟨k0, k1⟩, ⟨k2, k3⟩, _⟩ := P4.out.cells hjn
          rw [HH0.out] at k0
          go_still_tail 7, (by kernel_rfl)
          change wpList _ _ _ _ _ w4.drew
          obtain ⟨w5, hw5⟩ : ∃ w5 : World, w4.drew = w5 := ⟨_, rfl⟩
          rw [hw5]
          have P5 := Aside0.mk (show PI w n v gw gf gc gx o (cc : Int) t h _ _ _ _ w5 from by rw [← hw5]; exact P4.out.drew)
          clear c0 c1 c2 c3 k0 k1 k2 k3 hw5
          obtain ⟨⟨k0, k1⟩, _, _⟩ := P5.out.cells hjn
          go_upto_region 53 with (fail)
          have P6 := Aside0.mk (P5.out.setw HB.out hjn (Go.bits .or .i64 a0 h))
          clear k0 k1
          generalize w5.setCell ⟨gw, j, none⟩ (.int .i64 (Go.bits .or .i64 a0 h)) = w6 at P6 ⊢
          obtain ⟨c0, c1, c2, c3⟩ := P6.out.act
          obtain ⟨_, ⟨k2, k3⟩, _⟩ := P6.out.cells hjn
          rw [HH1.out] at k2
          go_still_tail 9, (by kernel_rfl)
          change wpList _ _ _ _ _ w6.drew
          obtain ⟨w7, hw7⟩ : ∃ w7 : World, w6.drew = w7 := ⟨_, rfl⟩
          rw [hw7]
          have P7 := Aside0.mk (show PI w n v gw gf gc gx o (cc : Int) t h _ _ _ _ w7 from by rw [← hw7]; exact P6.out.drew)
          clear c0 c1 c2 c3 k2 k3 hw7
          obtain ⟨_, ⟨k2, k3⟩, _⟩ := P7.out.cells hjn
          go_wp2
          have P9 := Aside0.mk (P7.out.setf HB.out hjn (Go.bits .or .u64 a1 (Go.IntKind.u64.wrap (2 ^ min cc 64))))
          go_roundw
          case rel => exact ⟨j + 1, by omega, by go_num, by rw [HS.out, Nat.min_eq_left (show j ≤ 64 by omega)], by rw [HS.out]; exact P9.out.congr (fw' := F0 (q.set j (sendBox (q.getD j z56) h (withv (q.getD j z56).f1 (cc : Int))))) (ff' := F1 (q.set j (sendBox (q.getD j z56) h (withv (q.getD j z56).f1 (cc : Int))))) (fc' := F2 (q.set j (sendBox (q.getD j z56) h (withv (q.getD j z56).f1 (cc : Int))))) (fun i hi => by rw [(HRW.out i).1, HSB.out]) (fun i hi => by rw [(HRW.out i).2.1, HSB.out]) (fun i hi => by rw [(HRW.out i).2.2, HSB.out])⟩
          case measure => simp [intOf]; omega
        · have r0 : (a0 == 0) = false := beq_eq_false_iff_ne.mpr hz
          have HS := Aside0.mk (show allS (cc : Int) h p (j + 1) = ((q.set j (sendBox (q.getD j z56) h (withv (q.getD j z56).f1 (cc : Int)))), r) from by rw [allS, if_neg hjc2, HQ.out, HR.out, HA0.out, if_neg hz])
          have HSB := Aside0.mk (show sendBox (q.getD j z56) h (withv (q.getD j z56).f1 (cc : Int)) = ⟨Go.bits .or .i64 a0 h, Go.bits .or .u64 a1 (Go.IntKind.u64.wrap (2 ^ min cc 64)), a2⟩ from by unfold sendBox withv; rw [HA0.out, HA1.out, HA2.out, HBIT.out, if_neg hz])
          clear hz hjc2
          go_upto_region 52 with (fail)
          have P4 := Aside0.mk HP.out
          clear c0 c1 c2 c3 k0 k1 k2 k3 k4 k5 r0
          obtain ⟨w4, hw4⟩ : ∃ w4 : World, wr = w4 := ⟨_, rfl⟩
          rw [hw4] at P4 ⊢
          clear hw4
          obtain ⟨c0, c1, c2, c3⟩ := P4.out.act
          obtain ⟨⟨k0, k1⟩, ⟨k2, k3⟩, _⟩ := P4.out.cells hjn
          rw [HH0.out] at k0
          go_still_tail 7, (by kernel_rfl)
          change wpList _ _ _ _ _ w4.drew
          obtain ⟨w5, hw5⟩ : ∃ w5 : World, w4.drew = w5 := ⟨_, rfl⟩
          rw [hw5]
          have P5 := Aside0.mk (show PI w n v gw gf gc gx o (cc : Int) t h _ _ _ _ w5 from by rw [← hw5]; exact P4.out.drew)
          clear c0 c1 c2 c3 k0 k1 k2 k3 hw5
          obtain ⟨⟨k0, k1⟩, _, _⟩ := P5.out.cells hjn
          go_upto_region 53 with (fail)
          have P6 := Aside0.mk (P5.out.setw HB.out hjn (Go.bits .or .i64 a0 h))
          clear k0 k1
          generalize w5.setCell ⟨gw, j, none⟩ (.int .i64 (Go.bits .or .i64 a0 h)) = w6 at P6 ⊢
          obtain ⟨c0, c1, c2, c3⟩ := P6.out.act
          obtain ⟨_, ⟨k2, k3⟩, _⟩ := P6.out.cells hjn
          rw [HH1.out] at k2
          go_still_tail 9, (by kernel_rfl)
          change wpList _ _ _ _ _ w6.drew
          obtain ⟨w7, hw7⟩ : ∃ w7 : World, w6.drew = w7 := ⟨_, rfl⟩
          rw [hw7]
          have P7 := Aside0.mk (show PI w n v gw gf gc gx o (cc : Int) t h _ _ _ _ w7 from by rw [← hw7]; exact P6.out.drew)
          clear c0 c1 c2 c3 k2 k3 hw7
          obtain ⟨_, ⟨k2, k3⟩, _⟩ := P7.out.cells hjn
          go_wp2
          have P9 := Aside0.mk (P7.out.setf HB.out hjn (Go.bits .or .u64 a1 (Go.IntKind.u64.wrap (2 ^ min cc 64))))
          go_roundw
          case rel => exact ⟨j + 1, by omega, by go_num, by rw [HS.out], by rw [HS.out]; exact P9.out.congr (fw' := F0 (q.set j (sendBox (q.getD j z56) h (withv (q.getD j z56).f1 (cc : Int))))) (ff' := F1 (q.set j (sendBox (q.getD j z56) h (withv (q.getD j z56).f1 (cc : Int))))) (fc' := F2 (q.set j (sendBox (q.getD j z56) h (withv (q.getD j z56).f1 (cc : Int))))) (fun i hi => by rw [(HRW.out i).1, HSB.out]) (fun i hi => by rw [(HRW.out i).2.1, HSB.out]) (fun i hi => by rw [(HRW.out i).2.2, HSB.out, ← HH2.out]; exact (upf_same (F2 q) j i).symm)⟩
          case measure => simp [intOf]; omega
    · have hje : j = n := by omega
      subst hje
      clear hjn hj
      go_wp2
      refine Met.intro ?_
      go_step
      unfold SwR
      refine ⟨_, _, _, _, _, _, _, _, _, _, _, _, _, _, _, _, _, _, _, _, _, _, _, _, _, _, _, _, _, _, _, _, _, _, _, _, _, _, _, _, _, _, _, _, _, _, _, _, _, _, _, _, _, _, _, _, _, _, _, _, _, _, _, _, _, _, _, _, _, _, _, _, _, _, _, _, _, _, _, _, _, _, _, _, _, _, _, _, _, _, _, _, _, _, _, _, _, _, _, _, _, _, _, _, _, _, _, _, _, _, _, _, _, _, _, _, _, _, _, _, _, _, _, _, _, _, _, _, _, _, _, _, _, _, _, _, _, _, _, _, _, _, _, _, _, _, _, _, _, _, _, _, _, _, _, _, _, _, _, _, _, _, _, _, _, _, _, _, _, _, _, _, _, _, _, _, _, _, _, _, ?_, rfl⟩
      exact ⟨_, HP.out⟩
set_option maxHeartbeats 4000000 in
set_option maxRecDepth 100000 in
theorem read_no {w wc : World} {n : Nat} {v : Value} {gw gf gc gx : Nat} {o c t h : Int} {gd td : Bool} {p : List S56} {u1 u2 u3 u4 u6 u10 u14 u15 u16 u17 u18 u19 u20 u21 u22 u23 u24 u25 u26 u27 u28 u29 u30 u31 u32 u33 u34 u35 u36 u37 u38 u39 u40 u41 u42 u43 u44 u45 u46 u47 u48 u49 u50 u51 u52 u53 u54 u55 u56 u57 u58 u59 u60 u61 u62 u63 u64 u65 u66 u67 u68 u69 u70 u71 u72 u73 u74 u75 u76 u77 u78 u79 u80 u81 u82 u83 u84 u85 u86 u87 u88 u89 u90 u91 u92 u93 u94 u95 u96 u97 u98 u99 u101 u102 u103 u104 u105 u106 u107 u108 u109 u110 u111 u112 u113 u114 u115 u116 u117 u118 u119 u120 u121 u122 u123 u124 u125 u126 u127 u128 u129 u130 u131 u132 u133 u134 u135 u136 u137 u138 u139 u140 u141 u142 u143 u144 u145 u146 u147 u148 u149 u150 u151 u152 u153 u154 u155 u156 u157 u158 u159 u160 u161 u162 u163 u164 u165 u166 u167 u168 u169 u170 u171 u172 u173 u174 u175 u176 u177 u178 u179 u180 u181 u182 u183 u184 u185 u186 u187 u188 u189 u190 u191 u192 u193 u194 u195 u196 u197 u198 u199 u200 u201 u202 u203 u204 u205 u206 u207 u208 u209 u210 u211 u212 u213 u214 u215 u216 u217 u218 u219 u220 u221 u222 u223 u224 u225 u226 u227 u228 u229 u230 u231 u232 u233 u234 u235 u236 u237 u238 u239 u240 u241 u242 u243 u244 u245 u246 u247 u248 u249 u250 u251 u252 u253 u254 u255 u256 u257 u258 u259 u260 u261 u262 u263 u264 u265 u266 u267 u268 u269 u270 u271 u272 u273 u274 u275 u276 u277 u278 u279 u280 u281 u282 u283 u284 u285 u286 u287 u288 u289 u290 u291 u292 u293 u294 u295 u296 u297 u298 u299 u300 u301 u302 u303 u304 : Value}
    (hI : PI w n v gw gf gc gx o c t h p (F0 p) (F1 p) (F2 p) wc) (hB : Bl w gw gf gc gx) (hgd : mayv p c h = gd) (htd : isv p t = td) (hn : n ≤ 64) (ho : o ≠ 0) (ho1 : o ≠ 1) (ht0 : td = false) :
    ∀ (K : Act → World → Prop) (Q' : Exit → Act → World → Prop), (∀ a' w', SwR w n v gw gf gc gx gd td o c t h u1 u2 u3 u6 u10 u23 u24 u25 u26 u27 u28 u29 u30 u31 u32 u33 u34 u35 u36 u37 u38 u39 u40 u41 u42 u43 u44 u45 u46 u47 u48 u49 u50 u51 u52 u53 u54 u55 u56 u57 u58 u59 u60 u61 u62 u63 u64 u65 u66 u67 u68 u69 u70 u71 u72 u73 u74 u75 u76 u77 u78 u79 u80 u81 u82 u83 u84 u85 u86 u87 u88 u89 u90 u91 u92 u93 u94 u95 u96 u97 u98 u99 u271 u272 u273 u274 u275 u276 u277 u278 u279 u280 u281 u282 u283 u284 u285 u286 u287 u288 u289 u290 u291 u292 u293 u294 u295 u296 u297 u298 u299 u300 u301 u302 u303 u304 a' w' → K a' w') → (∀ c a i v w1, Q' (.panic c) (Act.put a (some i) v) w1 → Q' (.panic c) a w1) → Code.wp Try.prog SwCode (Exit.then K Q') ⟨#[.int .i64 (n : Int), u1, u2, u3, u4, v, u6, .pointer (some ⟨gw, 0, none⟩), .pointer (some ⟨gf, 0, none⟩), .pointer (some ⟨gc, 0, none⟩), u10, .pointer (some ⟨gx, 0, none⟩), .bool gd, .bool td, u14, u15, u16, u17, u18, u19, u20, u21, u22, u23, u24, u25, u26, u27, u28, u29, u30, u31, u32, u33, u34, u35, u36, u37, u38, u39, u40, u41, u42, u43, u44, u45, u46, u47, u48, u49, u50, u51, u52, u53, u54, u55, u56, u57, u58, u59, u60, u61, u62, u63, u64, u65, u66, u67, u68, u69, u70, u71, u72, u73, u74, u75, u76, u77, u78, u79, u80, u81, u82, u83, u84, u85, u86, u87, u88, u89, u90, u91, u92, u93, u94, u95, u96, u97, u98, u99, .int .i64 o, u101, u102, u103, u104, u105, u106, u107, u108, u109, u110, u111, u112, u113, u114, u115, u116, u117, u118, u119, u120, u121, u122, u123, u124, u125, u126, u127, u128, u129, u130, u131, u132, u133, u134, u135, u136, u137, u138, u139, u140, u141, u142, u143, u144, u145, u146, u147, u148, u149, u150, u151, u152, u153, u154, u155, u156, u157, u158, u159, u160, u161, u162, u163, u164, u165, u166, u167, u168, u169, u170, u171, u172, u173, u174, u175, u176, u177, u178, u179, u180, u181, u182, u183, u184, u185, u186, u187, u188, u189, u190, u191, u192, u193, u194, u195, u196, u197, u198, u199, u200, u201, u202, u203, u204, u205, u206, u207, u208, u209, u210, u211, u212, u213, u214, u215, u216, u217, u218, u219, u220, u221, u222, u223, u224, u225, u226, u227, u228, u229, u230, u231, u232, u233, u234, u235, u236, u237, u238, u239, u240, u241, u242, u243, u244, u245, u246, u247, u248, u249, u250, u251, u252, u253, u254, u255, u256, u257, u258, u259, u260, u261, u262, u263, u264, u265, u266, u267, u268, u269, u270, u271, u272, u273, u274, u275, u276, u277, u278, u279, u280, u281, u282, u283, u284, u285, u286, u287, u288, u289, u290, u291, u292, u293, u294, u295, u296, u297, u298, u299, u300, u301, u302, u303, u304], []⟩ wc := by
  have HI := Aside0.mk hI
  have HB := Aside0.mk hB
  have HN := Aside0.mk hn
  obtain ⟨c0, c1, c2, c3⟩ := hI.act
  clear hI hB hn
  intro K Q' hK hqp
  conv => arg 2; whnf
  refine wp_cut (SwR w n v gw gf gc gx gd td o c t h u1 u2 u3 u6 u10 u23 u24 u25 u26 u27 u28 u29 u30 u31 u32 u33 u34 u35 u36 u37 u38 u39 u40 u41 u42 u43 u44 u45 u46 u47 u48 u49 u50 u51 u52 u53 u54 u55 u56 u57 u58 u59 u60 u61 u62 u63 u64 u65 u66 u67 u68 u69 u70 u71 u72 u73 u74 u75 u76 u77 u78 u79 u80 u81 u82 u83 u84 u85 u86 u87 u88 u89 u90 u91 u92 u93 u94 u95 u96 u97 u98 u99 u271 u272 u273 u274 u275 u276 u277 u278 u279 u280 u281 u282 u283 u284 u285 u286 u287 u288 u289 u290 u291 u292 u293 u294 u295 u296 u297 u298 u299 u300 u301 u302 u303 u304) hK ?_
  intro _ _ _ _
  subst ht0
  have HX := Aside0.mk htd
  have q0 : (o == 0) = false := beq_eq_false_iff_ne.mpr ho
  have q1 : (o == 1) = false := beq_eq_false_iff_ne.mpr ho1
  clear ho ho1
  go_wp2_with (first | (go_at_call 11; (with_reducible refine (read_bad t HI.out.m HX.out).mono ?_); rintro e w3 ⟨rfl, hM3, hW3⟩; have P3 := Aside0.mk (HI.out.call rfl hM3 hW3); clear hM3 hW3))
  refine Met.intro ?_
  go_step
  unfold SwR
  refine ⟨_, _, _, _, _, _, _, _, _, _, _, _, _, _, _, _, _, _, _, _, _, _, _, _, _, _, _, _, _, _, _, _, _, _, _, _, _, _, _, _, _, _, _, _, _, _, _, _, _, _, _, _, _, _, _, _, _, _, _, _, _, _, _, _, _, _, _, _, _, _, _, _, _, _, _, _, _, _, _, _, _, _, _, _, _, _, _, _, _, _, _, _, _, _, _, _, _, _, _, _, _, _, _, _, _, _, _, _, _, _, _, _, _, _, _, _, _, _, _, _, _, _, _, _, _, _, _, _, _, _, _, _, _, _, _, _, _, _, _, _, _, _, _, _, _, _, _, _, _, _, _, _, _, _, _, _, _, _, _, _, _, _, _, _, _, _, _, _, _, _, _, _, _, _, _, _, _, _, _, _, ?_, rfl⟩
  exact ⟨p, P3.out⟩
set_option maxHeartbeats 4000000 in
set_option maxRecDepth 100000 in
theorem read_yes {w wc : World} {n : Nat} {v : Value} {gw gf gc gx : Nat} {o c t h : Int} {gd td : Bool} {p : List S56} {u1 u2 u3 u4 u6 u10 u14 u15 u16 u17 u18 u19 u20 u21 u22 u23 u24 u25 u26 u27 u28 u29 u30 u31 u32 u33 u34 u35 u36 u37 u38 u39 u40 u41 u42 u43 u44 u45 u46 u47 u48 u49 u50 u51 u52 u53 u54 u55 u56 u57 u58 u59 u60 u61 u62 u63 u64 u65 u66 u67 u68 u69 u70 u71 u72 u73 u74 u75 u76 u77 u78 u79 u80 u81 u82 u83 u84 u85 u86 u87 u88 u89 u90 u91 u92 u93 u94 u95 u96 u97 u98 u99 u101 u102 u103 u104 u105 u106 u107 u108 u109 u110 u111 u112 u113 u114 u115 u116 u117 u118 u119 u120 u121 u122 u123 u124 u125 u126 u127 u128 u129 u130 u131 u132 u133 u134 u135 u136 u137 u138 u139 u140 u141 u142 u143 u144 u145 u146 u147 u148 u149 u150 u151 u152 u153 u154 u155 u156 u157 u158 u159 u160 u161 u162 u163 u164 u165 u166 u167 u168 u169 u170 u171 u172 u173 u174 u175 u176 u177 u178 u179 u180 u181 u182 u183 u184 u185 u186 u187 u188 u189 u190 u191 u192 u193 u194 u195 u196 u197 u198 u199 u200 u201 u202 u203 u204 u205 u206 u207 u208 u209 u210 u211 u212 u213 u214 u215 u216 u217 u218 u219 u220 u221 u222 u223 u224 u225 u226 u227 u228 u229 u230 u231 u232 u233 u234 u235 u236 u237 u238 u239 u240 u241 u242 u243 u244 u245 u246 u247 u248 u249 u250 u251 u252 u253 u254 u255 u256 u257 u258 u259 u260 u261 u262 u263 u264 u265 u266 u267 u268 u269 u270 u271 u272 u273 u274 u275 u276 u277 u278 u279 u280 u281 u282 u283 u284 u285 u286 u287 u288 u289 u290 u291 u292 u293 u294 u295 u296 u297 u298 u299 u300 u301 u302 u303 u304 : Value}
    (hI : PI w n v gw gf gc gx o c t h p (F0 p) (F1 p) (F2 p) wc) (hB : Bl w gw gf gc gx) (hgd : mayv p c h = gd) (htd : isv p t = td) (hn : n ≤ 64) (ho : o ≠ 0) (ho1 : o ≠ 1) (ht1 : td = true) :
    ∀ (K : Act → World → Prop) (Q' : Exit → Act → World → Prop), (∀ a' w', SwR w n v gw gf gc gx gd td o c t h u1 u2 u3 u6 u10 u23 u24 u25 u26 u27 u28 u29 u30 u31 u32 u33 u34 u35 u36 u37 u38 u39 u40 u41 u42 u43 u44 u45 u46 u47 u48 u49 u50 u51 u52 u53 u54 u55 u56 u57 u58 u59 u60 u61 u62 u63 u64 u65 u66 u67 u68 u69 u70 u71 u72 u73 u74 u75 u76 u77 u78 u79 u80 u81 u82 u83 u84 u85 u86 u87 u88 u89 u90 u91 u92 u93 u94 u95 u96 u97 u98 u99 u271 u272 u273 u274 u275 u276 u277 u278 u279 u280 u281 u282 u283 u284 u285 u286 u287 u288 u289 u290 u291 u292 u293 u294 u295 u296 u297 u298 u299 u300 u301 u302 u303 u304 a' w' → K a' w') → (∀ c a i v w1, Q' (.panic c) (Act.put a (some i) v) w1 → Q' (.panic c) a w1) → Code.wp Try.prog SwCode (Exit.then K Q') ⟨#[.int .i64 (n : Int), u1, u2, u3, u4, v, u6, .pointer (some ⟨gw, 0, none⟩), .pointer (some ⟨gf, 0, none⟩), .pointer (some ⟨gc, 0, none⟩), u10, .pointer (some ⟨gx, 0, none⟩), .bool gd, .bool td, u14, u15, u16, u17, u18, u19, u20, u21, u22, u23, u24, u25, u26, u27, u28, u29, u30, u31, u32, u33, u34, u35, u36, u37, u38, u39, u40, u41, u42, u43, u44, u45, u46, u47, u48, u49, u50, u51, u52, u53, u54, u55, u56, u57, u58, u59, u60, u61, u62, u63, u64, u65, u66, u67, u68, u69, u70, u71, u72, u73, u74, u75, u76, u77, u78, u79, u80, u81, u82, u83, u84, u85, u86, u87, u88, u89, u90, u91, u92, u93, u94, u95, u96, u97, u98, u99, .int .i64 o, u101, u102, u103, u104, u105, u106, u107, u108, u109, u110, u111, u112, u113, u114, u115, u116, u117, u118, u119, u120, u121, u122, u123, u124, u125, u126, u127, u128, u129, u130, u131, u132, u133, u134, u135, u136, u137, u138, u139, u140, u141, u142, u143, u144, u145, u146, u147, u148, u149, u150, u151, u152, u153, u154, u155, u156, u157, u158, u159, u160, u161, u162, u163, u164, u165, u166, u167, u168, u169, u170, u171, u172, u173, u174, u175, u176, u177, u178, u179, u180, u181, u182, u183, u184, u185, u186, u187, u188, u189, u190, u191, u192, u193, u194, u195, u196, u197, u198, u199, u200, u201, u202, u203, u204, u205, u206, u207, u208, u209, u210, u211, u212, u213, u214, u215, u216, u217, u218, u219, u220, u221, u222, u223, u224, u225, u226, u227, u228, u229, u230, u231, u232, u233, u234, u235, u236, u237, u238, u239, u240, u241, u242, u243, u244, u245, u246, u247, u248, u249, u250, u251, u252, u253, u254, u255, u256, u257, u258, u259, u260, u261, u262, u263, u264, u265, u266, u267, u268, u269, u270, u271, u272, u273, u274, u275, u276, u277, u278, u279, u280, u281, u282, u283, u284, u285, u286, u287, u288, u289, u290, u291, u292, u293, u294, u295, u296, u297, u298, u299, u300, u301, u302, u303, u304], []⟩ wc := by
  have HI := Aside0.mk hI
  have HB := Aside0.mk hB
  have HN := Aside0.mk hn
  obtain ⟨c0, c1, c2, c3⟩ := hI.act
  clear hI hB hn
  intro K Q' hK hqp
  conv => arg 2; whnf
  refine wp_cut (SwR w n v gw gf gc gx gd td o c t h u1 u2 u3 u6 u10 u23 u24 u25 u26 u27 u28 u29 u30 u31 u32 u33 u34 u35 u36 u37 u38 u39 u40 u41 u42 u43 u44 u45 u46 u47 u48 u49 u50 u51 u52 u53 u54 u55 u56 u57 u58 u59 u60 u61 u62 u63 u64 u65 u66 u67 u68 u69 u70 u71 u72 u73 u74 u75 u76 u77 u78 u79 u80 u81 u82 u83 u84 u85 u86 u87 u88 u89 u90 u91 u92 u93 u94 u95 u96 u97 u98 u99 u271 u272 u273 u274 u275 u276 u277 u278 u279 u280 u281 u282 u283 u284 u285 u286 u287 u288 u289 u290 u291 u292 u293 u294 u295 u296 u297 u298 u299 u300 u301 u302 u303 u304) hK ?_
  intro _ _ _ _
  subst ht1
  obtain ⟨j, rfl, hj⟩ := isv_t htd
  have HJL := Aside0.mk hj
  have hjn : j < n := by have := HI.out.len; omega
  have hj64 : (0 ≤ (j : Int) ∧ (j : Int) < 64) := by have := HN.out; omega
  obtain ⟨a0, ha0⟩ : ∃ a, F0 p j = a := ⟨_, rfl⟩
  obtain ⟨a1, ha1⟩ : ∃ a, F1 p j = a := ⟨_, rfl⟩
  have HA0 := Aside0.mk (show (p.getD j z56).f0 = a0 from ha0)
  have HA1 := Aside0.mk (show (p.getD j z56).f1 = a1 from ha1)
  have HH0 := Aside0.mk ha0
  have HH1 := Aside0.mk ha1
  clear hgd htd hj ha0 ha1
  have q0 : (o == 0) = false := beq_eq_false_iff_ne.mpr ho
  have q1 : (o == 1) = false := beq_eq_false_iff_ne.mpr ho1
  clear ho ho1
  by_cases hz : a0 = 0
  · have r0 : (a0 == 0) = true := beq_iff_eq.mpr hz
    have HZ := Aside0.mk (show (p.getD j z56).f0 = 0 from HA0.out.trans hz)
    clear hz
    go_upto_region 25 with (first | (go_at_call 11; (with_reducible refine (read_none j HI.out.m HJL.out HZ.out).mono ?_); rintro e w3 ⟨rfl, hM3, hW3⟩; have P3 := Aside0.mk (HI.out.call rfl hM3 hW3); clear hM3 hW3))
    obtain ⟨c0, c1, c2, c3⟩ := P3.out.act
    obtain ⟨⟨k0, k1⟩, ⟨k2, k3⟩, _⟩ := P3.out.cells hjn
    rw [HH0.out] at k0
    go_wp2
    refine Met.intro ?_
    go_step
    unfold SwR
    refine ⟨_, _, _, _, _, _, _, _, _, _, _, _, _, _, _, _, _, _, _, _, _, _, _, _, _, _, _, _, _, _, _, _, _, _, _, _, _, _, _, _, _, _, _, _, _, _, _, _, _, _, _, _, _, _, _, _, _, _, _, _, _, _, _, _, _, _, _, _, _, _, _, _, _, _, _, _, _, _, _, _, _, _, _, _, _, _, _, _, _, _, _, _, _, _, _, _, _, _, _, _, _, _, _, _, _, _, _, _, _, _, _, _, _, _, _, _, _, _, _, _, _, _, _, _, _, _, _, _, _, _, _, _, _, _, _, _, _, _, _, _, _, _, _, _, _, _, _, _, _, _, _, _, _, _, _, _, _, _, _, _, _, _, _, _, _, _, _, _, _, _, _, _, _, _, _, _, _, _, _, _, ?_, rfl⟩
    exact ⟨p, P3.out⟩
  · have r0 : (a0 == 0) = false := beq_eq_false_iff_ne.mpr hz
    have HZ := Aside0.mk (show (p.getD j z56).f0 ≠ 0 from fun e => hz (HA0.out.symm.trans e))
    have r1 : (a0 != a0) = false := by simp
    have r2 : (a1 != a1) = false := by simp
    clear hz
    go_upto_region 25 with (first | (go_at_call 11; (with_reducible refine (read_ok j HI.out.m HJL.out HZ.out).mono ?_); rintro e w3 ⟨rfl, hM3, hW3⟩; have P3 := Aside0.mk (HI.out.call (List.length_set ..) hM3 hW3); clear hM3 hW3; rw [HA0.out, HA1.out]))
    obtain ⟨c0, c1, c2, c3⟩ := P3.out.act
    obtain ⟨⟨k0, k1⟩, ⟨k2, k3⟩, _⟩ := P3.out.cells hjn
    rw [HH0.out] at k0
    rw [HH1.out] at k2
    go_upto_region 21 with (fail)
    have x1 := HB.out.wf
    have x2 := x1.symm
    have x3 := HB.out.wx
    have x4 := x3.symm
    have x5 := HB.out.fx
    have x6 := x5.symm
    go_region
    have P4 := Aside0.mk (((P3.out.setw HB.out hjn 0).setf HB.out hjn 0).drew)
    have HRW := Aside0.mk (fun i => rows_set (p := p) HJL.out (readBox (p.getD j z56)) i)
    clear c0 c1 c2 c3 k0 k1 k2 k3
    generalize ((w3.setCell ⟨gw, j, none⟩ (.int .i64 0)).setCell ⟨gf, j, none⟩ (.int .u64 0)).drew = w4 at P4 ⊢
    go_wp2
    refine Met.intro ?_
    go_step
    unfold SwR
    refine ⟨_, _, _, _, _, _, _, _, _, _, _, _, _, _, _, _, _, _, _, _, _, _, _, _, _, _, _, _, _, _, _, _, _, _, _, _, _, _, _, _, _, _, _, _, _, _, _, _, _, _, _, _, _, _, _, _, _, _, _, _, _, _, _, _, _, _, _, _, _, _, _, _, _, _, _, _, _, _, _, _, _, _, _, _, _, _, _, _, _, _, _, _, _, _, _, _, _, _, _, _, _, _, _, _, _, _, _, _, _, _, _, _, _, _, _, _, _, _, _, _, _, _, _, _, _, _, _, _, _, _, _, _, _, _, _, _, _, _, _, _, _, _, _, _, _, _, _, _, _, _, _, _, _, _, _, _, _, _, _, _, _, _, _, _, _, _, _, _, _, _, _, _, _, _, _, _, _, _, _, _, ?_, rfl⟩
    exact ⟨(p.set j (readBox (p.getD j z56))), P4.out.congr (fw' := F0 (p.set j (readBox (p.getD j z56)))) (ff' := F1 (p.set j (readBox (p.getD j z56)))) (fc' := F2 (p.set j (readBox (p.getD j z56)))) (fun i hi => (HRW.out i).1.symm) (fun i hi => (HRW.out i).2.1.symm) (fun i hi => ((HRW.out i).2.2.trans (upf_same (F2 p) j i)).symm)⟩
theorem switch_piece {w wc : World} {n : Nat} {v : Value} {gw gf gc gx : Nat} {o c t h : Int} {gd td : Bool} {p : List S56} {u1 u2 u3 u4 u6 u10 u14 u15 u16 u17 u18 u19 u20 u21 u22 u23 u24 u25 u26 u27 u28 u29 u30 u31 u32 u33 u34 u35 u36 u37 u38 u39 u40 u41 u42 u43 u44 u45 u46 u47 u48 u49 u50 u51 u52 u53 u54 u55 u56 u57 u58 u59 u60 u61 u62 u63 u64 u65 u66 u67 u68 u69 u70 u71 u72 u73 u74 u75 u76 u77 u78 u79 u80 u81 u82 u83 u84 u85 u86 u87 u88 u89 u90 u91 u92 u93 u94 u95 u96 u97 u98 u99 u101 u102 u103 u104 u105 u106 u107 u108 u109 u110 u111 u112 u113 u114 u115 u116 u117 u118 u119 u120 u121 u122 u123 u124 u125 u126 u127 u128 u129 u130 u131 u132 u133 u134 u135 u136 u137 u138 u139 u140 u141 u142 u143 u144 u145 u146 u147 u148 u149 u150 u151 u152 u153 u154 u155 u156 u157 u158 u159 u160 u161 u162 u163 u164 u165 u166 u167 u168 u169 u170 u171 u172 u173 u174 u175 u176 u177 u178 u179 u180 u181 u182 u183 u184 u185 u186 u187 u188 u189 u190 u191 u192 u193 u194 u195 u196 u197 u198 u199 u200 u201 u202 u203 u204 u205 u206 u207 u208 u209 u210 u211 u212 u213 u214 u215 u216 u217 u218 u219 u220 u221 u222 u223 u224 u225 u226 u227 u228 u229 u230 u231 u232 u233 u234 u235 u236 u237 u238 u239 u240 u241 u242 u243 u244 u245 u246 u247 u248 u249 u250 u251 u252 u253 u254 u255 u256 u257 u258 u259 u260 u261 u262 u263 u264 u265 u266 u267 u268 u269 u270 u271 u272 u273 u274 u275 u276 u277 u278 u279 u280 u281 u282 u283 u284 u285 u286 u287 u288 u289 u290 u291 u292 u293 u294 u295 u296 u297 u298 u299 u300 u301 u302 u303 u304 : Value}
    (hI : PI w n v gw gf gc gx o c t h p (F0 p) (F1 p) (F2 p) wc) (hB : Bl w gw gf gc gx) (hgd : mayv p c h = gd) (htd : isv p t = td) (hn : n ≤ 64) :
    ∀ (K : Act → World → Prop) (Q' : Exit → Act → World → Prop), (∀ a' w', SwR w n v gw gf gc gx gd td o c t h u1 u2 u3 u6 u10 u23 u24 u25 u26 u27 u28 u29 u30 u31 u32 u33 u34 u35 u36 u37 u38 u39 u40 u41 u42 u43 u44 u45 u46 u47 u48 u49 u50 u51 u52 u53 u54 u55 u56 u57 u58 u59 u60 u61 u62 u63 u64 u65 u66 u67 u68 u69 u70 u71 u72 u73 u74 u75 u76 u77 u78 u79 u80 u81 u82 u83 u84 u85 u86 u87 u88 u89 u90 u91 u92 u93 u94 u95 u96 u97 u98 u99 u271 u272 u273 u274 u275 u276 u277 u278 u279 u280 u281 u282 u283 u284 u285 u286 u287 u288 u289 u290 u291 u292 u293 u294 u295 u296 u297 u298 u299 u300 u301 u302 u303 u304 a' w' → K a' w') → (∀ c a i v w1, Q' (.panic c) (Act.put a (some i) v) w1 → Q' (.panic c) a w1) → Code.wp Try.prog SwCode (Exit.then K Q') ⟨#[.int .i64 (n : Int), u1, u2, u3, u4, v, u6, .pointer (some ⟨gw, 0, none⟩), .pointer (some ⟨gf, 0, none⟩), .pointer (some ⟨gc, 0, none⟩), u10, .pointer (some ⟨gx, 0, none⟩), .bool gd, .bool td, u14, u15, u16, u17, u18, u19, u20, u21, u22, u23, u24, u25, u26, u27, u28, u29, u30, u31, u32, u33, u34, u35, u36, u37, u38, u39, u40, u41, u42, u43, u44, u45, u46, u47, u48, u49, u50, u51, u52, u53, u54, u55, u56, u57, u58, u59, u60, u61, u62, u63, u64, u65, u66, u67, u68, u69, u70, u71, u72, u73, u74, u75, u76, u77, u78, u79, u80, u81, u82, u83, u84, u85, u86, u87, u88, u89, u90, u91, u92, u93, u94, u95, u96, u97, u98, u99, .int .i64 o, u101, u102, u103, u104, u105, u106, u107, u108, u109, u110, u111, u112, u113, u114, u115, u116, u117, u118, u119, u120, u121, u122, u123, u124, u125, u126, u127, u128, u129, u130, u131, u132, u133, u134, u135, u136, u137, u138, u139, u140, u141, u142, u143, u144, u145, u146, u147, u148, u149, u150, u151, u152, u153, u154, u155, u156, u157, u158, u159, u160, u161, u162, u163, u164, u165, u166, u167, u168, u169, u170, u171, u172, u173, u174, u175, u176, u177, u178, u179, u180, u181, u182, u183, u184, u185, u186, u187, u188, u189, u190, u191, u192, u193, u194, u195, u196, u197, u198, u199, u200, u201, u202, u203, u204, u205, u206, u207, u208, u209, u210, u211, u212, u213, u214, u215, u216, u217, u218, u219, u220, u221, u222, u223, u224, u225, u226, u227, u228, u229, u230, u231, u232, u233, u234, u235, u236, u237, u238, u239, u240, u241, u242, u243, u244, u245, u246, u247, u248, u249, u250, u251, u252, u253, u254, u255, u256, u257, u258, u259, u260, u261, u262, u263, u264, u265, u266, u267, u268, u269, u270, u271, u272, u273, u274, u275, u276, u277, u278, u279, u280, u281, u282, u283, u284, u285, u286, u287, u288, u289, u290, u291, u292, u293, u294, u295, u296, u297, u298, u299, u300, u301, u302, u303, u304], []⟩ wc := by
  by_cases ho : o = 0
  · cases hg : gd
    · exact send_no hI hB (hgd.trans hg) htd hn ho (Or.inl rfl)
    · cases ht : td
      · exact send_no hI hB (hgd.trans hg) (htd.trans ht) hn ho (Or.inr rfl)
      · exact send_yes hI hB (hgd.trans hg) (htd.trans ht) hn ho rfl rfl
  · by_cases ho1 : o = 1
    · cases hg : gd
      · exact all_no hI hB (hgd.trans hg) htd hn ho1 rfl
      · exact all_yes hI hB (hgd.trans hg) htd hn ho1 rfl
    · cases ht : td
      · exact read_no hI hB hgd (htd.trans ht) hn ho ho1 rfl
      · exact read_yes hI hB hgd (htd.trans ht) hn ho ho1 rfl
end Go.Proofs.Yteihnocbeaaokaa.Poke
