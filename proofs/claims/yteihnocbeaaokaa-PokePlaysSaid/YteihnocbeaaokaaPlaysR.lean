/- PokePlays, a round: any calls: what each is told, by whom, how often each is rung, are as the document says (the walk; no condition). -/
import Derived.Test.YteihnocbeaaokaaPlaysL
namespace Go.Proofs.Yteihnocbeaaokaa.Poke
open Go.RowKit Go.Proofs.YteihnocbeaaokaaW.PrintWords Go.Proofs.YteihnocbeaaokaaW.PrintLast Go.Proofs.YteihnocbeaaokaaW.PrintMore Go.Proofs.Yteihnocbeaaokaa.St Go.Proofs.Yteihnocbeaaokaa.Q
set_option linter.unusedVariables false
set_option linter.unusedSimpArgs false
attribute [local go_sem] max2_int min2_int max_two min_two max_three min_three max_four min_four

def BRel (w : World) (n : Nat) (v : Value) (gw gf gc : Nat) (wd : World) : Prop := ∃ p' : List S56, PN w n v gw gf gc p' wd
noncomputable def RoCode : Code := ((Try.f5.body.bind (subBlock 1)).getD .skip)
set_option maxRecDepth 1000000 in
def RoR (w : World) (n : Nat) (v : Value) (gw gf gc : Nat) (ad : Addr) (l : List (Int × Int × Int × Int)) (cap j : Nat) (u2 u3 u6 u25 u26 u27 u28 u29 u30 u31 u32 u33 u34 u35 u36 u37 u38 u39 u40 u41 u42 u43 u44 u45 u46 u47 u48 u49 u50 u51 u52 u53 u54 u55 u56 u57 u58 u59 u60 u61 u62 u63 u64 u65 u66 : Value) (a' : Act) (w' : World) : Prop := ∃ x4 x11 x12 x13 x14 x15 x16 x17 x18 x19 x20 x21 x22 x23 x24 x67 x68 x69 x70 x71 x72 x73 x74 x75 x76 x77 x78 x79 x80 x81 x82 x83 x84 x85 x86 x87 x88 x89 x90 x91 x92 x93 x94 x95 x96 x97 x98 x99 x100 x101 x102 x103 x104 x105 x106 x107 x108 x109 x110 x111 x112 x113 x114 x115 x116 x117 x118 x119 x120 x121 x122 x123 x124 x125 x126 x127 x128 x129 x130 x131 x132 x133 x134 x135 x136 x137 x138 x139 x140 x141 x142 x143 x144 x145 x146 x147 x148 x149 x150 x151 x152 x153 x154 x155 x156 x157 x158 x159 x160 x161 x162 x163 x164 x165 x166 x167 x168 x169 x170 x171 x172 x173 x174 x175 x176 x177 x178 x179 x180 x181 x182 x183 x184 x185 x186 x187 x188 x189 x190 x191 x192 x193 x194 x195 x196 x197 x198 x199 x200 x201 x202 x203 x204 x205 x206 x207 x208 x209 x210 x211 x212 x213 x214 x215 x216 x217 x218 x219 x220 x221 x222 x223 x224 x225 x226 x227 x228 x229 x230 x231 x232 x233 x234 x235 x236 x237 x238 x239 x240 x241 x242 x243 x244 x245 x246 x247 x248 x249 x250 x251 x252 x253 x254 x255 x256 x257 x258 x259 x260 x261 x262 x263 x264 x265 x266 x267 x268 x269 x270 x271 x272 x273 x274 x275 x276 x277 x278 x279 x280 x281 x282 x283 x284 x285 x286 x287 x288 x289 x290 x291 x292 x293 x294 x295 x296 x297 x298 x299 x300 x301 x302 x303 x304 : Value, BRel w n v gw gf gc w' ∧ a' = ⟨#[.int .i64 (n : Int), (.slice (some ad) l.length cap), u2, u3, x4, v, u6, .pointer (some ⟨gw, 0, none⟩), .pointer (some ⟨gf, 0, none⟩), .pointer (some ⟨gc, 0, none⟩), .int .i64 (j : Int), x11, x12, x13, x14, x15, x16, x17, x18, x19, x20, x21, x22, x23, x24, u25, u26, u27, u28, u29, u30, u31, u32, u33, u34, u35, u36, u37, u38, u39, u40, u41, u42, u43, u44, u45, u46, u47, u48, u49, u50, u51, u52, u53, u54, u55, u56, u57, u58, u59, u60, u61, u62, u63, u64, u65, u66, x67, x68, x69, x70, x71, x72, x73, x74, x75, x76, x77, x78, x79, x80, x81, x82, x83, x84, x85, x86, x87, x88, x89, x90, x91, x92, x93, x94, x95, x96, x97, x98, x99, x100, x101, x102, x103, x104, x105, x106, x107, x108, x109, x110, x111, x112, x113, x114, x115, x116, x117, x118, x119, x120, x121, x122, x123, x124, x125, x126, x127, x128, x129, x130, x131, x132, x133, x134, x135, x136, x137, x138, x139, x140, x141, x142, x143, x144, x145, x146, x147, x148, x149, x150, x151, x152, x153, x154, x155, x156, x157, x158, x159, x160, x161, x162, x163, x164, x165, x166, x167, x168, x169, x170, x171, x172, x173, x174, x175, x176, x177, x178, x179, x180, x181, x182, x183, x184, x185, x186, x187, x188, x189, x190, x191, x192, x193, x194, x195, x196, x197, x198, x199, x200, x201, x202, x203, x204, x205, x206, x207, x208, x209, x210, x211, x212, x213, x214, x215, x216, x217, x218, x219, x220, x221, x222, x223, x224, x225, x226, x227, x228, x229, x230, x231, x232, x233, x234, x235, x236, x237, x238, x239, x240, x241, x242, x243, x244, x245, x246, x247, x248, x249, x250, x251, x252, x253, x254, x255, x256, x257, x258, x259, x260, x261, x262, x263, x264, x265, x266, x267, x268, x269, x270, x271, x272, x273, x274, x275, x276, x277, x278, x279, x280, x281, x282, x283, x284, x285, x286, x287, x288, x289, x290, x291, x292, x293, x294, x295, x296, x297, x298, x299, x300, x301, x302, x303, x304], []⟩
set_option maxHeartbeats 4000000 in
set_option maxRecDepth 100000 in
theorem round_piece {w wr : World} {n : Nat} {v : Value} {gw gf gc : Nat} {p : List S56} {ad : Addr} {l : List (Int × Int × Int × Int)} {cap j : Nat} {u2 u3 u4 u6 u11 u12 u13 u14 u15 u16 u17 u18 u19 u20 u21 u22 u23 u24 u25 u26 u27 u28 u29 u30 u31 u32 u33 u34 u35 u36 u37 u38 u39 u40 u41 u42 u43 u44 u45 u46 u47 u48 u49 u50 u51 u52 u53 u54 u55 u56 u57 u58 u59 u60 u61 u62 u63 u64 u65 u66 u67 u68 u69 u70 u71 u72 u73 u74 u75 u76 u77 u78 u79 u80 u81 u82 u83 u84 u85 u86 u87 u88 u89 u90 u91 u92 u93 u94 u95 u96 u97 u98 u99 u100 u101 u102 u103 u104 u105 u106 u107 u108 u109 u110 u111 u112 u113 u114 u115 u116 u117 u118 u119 u120 u121 u122 u123 u124 u125 u126 u127 u128 u129 u130 u131 u132 u133 u134 u135 u136 u137 u138 u139 u140 u141 u142 u143 u144 u145 u146 u147 u148 u149 u150 u151 u152 u153 u154 u155 u156 u157 u158 u159 u160 u161 u162 u163 u164 u165 u166 u167 u168 u169 u170 u171 u172 u173 u174 u175 u176 u177 u178 u179 u180 u181 u182 u183 u184 u185 u186 u187 u188 u189 u190 u191 u192 u193 u194 u195 u196 u197 u198 u199 u200 u201 u202 u203 u204 u205 u206 u207 u208 u209 u210 u211 u212 u213 u214 u215 u216 u217 u218 u219 u220 u221 u222 u223 u224 u225 u226 u227 u228 u229 u230 u231 u232 u233 u234 u235 u236 u237 u238 u239 u240 u241 u242 u243 u244 u245 u246 u247 u248 u249 u250 u251 u252 u253 u254 u255 u256 u257 u258 u259 u260 u261 u262 u263 u264 u265 u266 u267 u268 u269 u270 u271 u272 u273 u274 u275 u276 u277 u278 u279 u280 u281 u282 u283 u284 u285 u286 u287 u288 u289 u290 u291 u292 u293 u294 u295 u296 u297 u298 u299 u300 u301 u302 u303 u304 : Value}
    (hr : (Kd.pair (Kd.int .i64) (Kd.pair (Kd.int .i64) (Kd.pair (Kd.int .i64) (Kd.int .i64)))).C w (some ad) l.length l) (hP : PN w n v gw gf gc p wr) (hB : (w.heap.size ≤ gw ∧ w.heap.size ≤ gf ∧ w.heap.size ≤ gc) ∧ gw ≠ gf ∧ gw ≠ gc ∧ gf ≠ gc) (hn : 1 ≤ n ∧ n ≤ 64) (hlt : j < l.length) :
    ∀ (K : Act → World → Prop) (Q' : Exit → Act → World → Prop), (∀ a' w', RoR w n v gw gf gc ad l cap j u2 u3 u6 u25 u26 u27 u28 u29 u30 u31 u32 u33 u34 u35 u36 u37 u38 u39 u40 u41 u42 u43 u44 u45 u46 u47 u48 u49 u50 u51 u52 u53 u54 u55 u56 u57 u58 u59 u60 u61 u62 u63 u64 u65 u66 a' w' → K a' w') → (∀ c a i v w1, Q' (.panic c) (Act.put a (some i) v) w1 → Q' (.panic c) a w1) → Code.wp Try.prog RoCode (Exit.then K Q') ⟨#[.int .i64 (n : Int), (.slice (some ad) l.length cap), u2, u3, u4, v, u6, .pointer (some ⟨gw, 0, none⟩), .pointer (some ⟨gf, 0, none⟩), .pointer (some ⟨gc, 0, none⟩), .int .i64 (j : Int), u11, u12, u13, u14, u15, u16, u17, u18, u19, u20, u21, u22, u23, u24, u25, u26, u27, u28, u29, u30, u31, u32, u33, u34, u35, u36, u37, u38, u39, u40, u41, u42, u43, u44, u45, u46, u47, u48, u49, u50, u51, u52, u53, u54, u55, u56, u57, u58, u59, u60, u61, u62, u63, u64, u65, u66, u67, u68, u69, u70, u71, u72, u73, u74, u75, u76, u77, u78, u79, u80, u81, u82, u83, u84, u85, u86, u87, u88, u89, u90, u91, u92, u93, u94, u95, u96, u97, u98, u99, u100, u101, u102, u103, u104, u105, u106, u107, u108, u109, u110, u111, u112, u113, u114, u115, u116, u117, u118, u119, u120, u121, u122, u123, u124, u125, u126, u127, u128, u129, u130, u131, u132, u133, u134, u135, u136, u137, u138, u139, u140, u141, u142, u143, u144, u145, u146, u147, u148, u149, u150, u151, u152, u153, u154, u155, u156, u157, u158, u159, u160, u161, u162, u163, u164, u165, u166, u167, u168, u169, u170, u171, u172, u173, u174, u175, u176, u177, u178, u179, u180, u181, u182, u183, u184, u185, u186, u187, u188, u189, u190, u191, u192, u193, u194, u195, u196, u197, u198, u199, u200, u201, u202, u203, u204, u205, u206, u207, u208, u209, u210, u211, u212, u213, u214, u215, u216, u217, u218, u219, u220, u221, u222, u223, u224, u225, u226, u227, u228, u229, u230, u231, u232, u233, u234, u235, u236, u237, u238, u239, u240, u241, u242, u243, u244, u245, u246, u247, u248, u249, u250, u251, u252, u253, u254, u255, u256, u257, u258, u259, u260, u261, u262, u263, u264, u265, u266, u267, u268, u269, u270, u271, u272, u273, u274, u275, u276, u277, u278, u279, u280, u281, u282, u283, u284, u285, u286, u287, u288, u289, u290, u291, u292, u293, u294, u295, u296, u297, u298, u299, u300, u301, u302, u303, u304], []⟩ wr := by
  have HC := Aside0.mk hr
  have HP := Aside0.mk hP
  have HBL := Aside0.mk hB
  have HN := Aside0.mk hn
  clear hr hP hB hn
  intro K Q' hK hqp
  conv => arg 2; whnf
  refine wp_cut (RoR w n v gw gf gc ad l cap j u2 u3 u6 u25 u26 u27 u28 u29 u30 u31 u32 u33 u34 u35 u36 u37 u38 u39 u40 u41 u42 u43 u44 u45 u46 u47 u48 u49 u50 u51 u52 u53 u54 u55 u56 u57 u58 u59 u60 u61 u62 u63 u64 u65 u66) hK ?_
  intro _ _ _ _
  obtain ⟨ad1, hAd, r0, r1, r2, r3⟩ := read_quad (Kd.C_below HC.out HP.out.far) hlt
  cases hAd
  obtain ⟨⟨o, c, t, h⟩, hx⟩ : ∃ x, l.getD j (0, 0, 0, 0) = x := ⟨_, rfl⟩
  rw [hx] at r0 r1 r2 r3
  clear hx
  go_upto_region 15 with (first | ((with_reducible refine gate_dst (N := 11) rfl ?_); refine box_event ?hg (N := 11) ?hd (cs := #[.int .i64 0, .int .i64 0, .int .i64 0, .int .i64 0]) (t := 46) ?hr ?_; (case hd => rfl); (case hg => rfl); (case hr => first | (go_simp; done) | (go_simp; rfl) | kernel_rfl); intro gx hg5 w5 hx5 hb5; have HX5 := Aside0.mk hx5; have HB5 := Aside0.mk hb5; have HG5 := Aside0.mk hg5; clear hx5 hb5 hg5; have s0 := blk_cell HX5.out 0; have s1 := blk_cell HX5.out 1; have s2 := blk_cell HX5.out 2; have s3 := blk_cell HX5.out 3; have t0 := blk_frozen HX5.out 0; have t1 := blk_frozen HX5.out 1; have t2 := blk_frozen HX5.out 2; have t3 := blk_frozen HX5.out 3))
  have hgx : wr.heap.size ≤ gx := by have := HG5.out; omega
  have hb5 : Below wr.heap.size wr ((((w5.setCell ⟨gx, 0, none⟩ (.int .i64 o)).setCell ⟨gx, 1, none⟩ (.int .i64 c)).setCell ⟨gx, 2, none⟩ (.int .i64 t)).setCell ⟨gx, 3, none⟩ (.int .i64 h)) := ((((HB5.out.setCell hgx _).setCell hgx _).setCell hgx _).setCell hgx _)
  have X5 := blk_put (cs := #[.int .i64 o, .int .i64 c, .int .i64 t, .int .i64 0]) (blk_put (cs := #[.int .i64 o, .int .i64 c, .int .i64 0, .int .i64 0]) (blk_put (cs := #[.int .i64 o, .int .i64 0, .int .i64 0, .int .i64 0]) (blk_put (cs := #[.int .i64 0, .int .i64 0, .int .i64 0, .int .i64 0]) HX5.out 0 (.int .i64 o) rfl) 1 (.int .i64 c) rfl) 2 (.int .i64 t) rfl) 3 (.int .i64 h) rfl
  have P5 := Aside0.mk (HP.out.toI hb5 hgx X5)
  have HBB := Aside0.mk (show Bl w gw gf gc gx from by
    obtain ⟨⟨b1, b2, b3⟩, n1, n2, n3⟩ := HBL.out
    have := HP.out.aw.lt
    have := HP.out.af.lt
    have := HP.out.ac.lt
    have := HP.out.far.size
    exact ⟨b1, b2, b3, by omega, n1, n2, by omega, n3, by omega, by omega⟩)
  clear hgx hb5 X5 HX5 HB5 HG5 r0 r1 r2 r3 HP
  generalize ((((w5.setCell ⟨gx, 0, none⟩ (.int .i64 o)).setCell ⟨gx, 1, none⟩ (.int .i64 c)).setCell ⟨gx, 2, none⟩ (.int .i64 t)).setCell ⟨gx, 3, none⟩ (.int .i64 h)) = w6 at P5 ⊢
  obtain ⟨c0, c1, c2, c3⟩ := P5.out.act
  go_cut [12] from 71 to 89 (fun v12 wc => wc = w6 ∧ v12 = .bool (goodv n c h))
  case first =>
    by_cases a1 : 0 ≤ c
    · have e1 : decide (0 ≤ c) = true := decide_eq_true a1
      clear a1
      by_cases a2 : c < (n : Int)
      · have e2 : decide (c < (n : Int)) = true := decide_eq_true a2
        clear a2
        by_cases a3 : 1 ≤ h
        · have e3 : decide (1 ≤ h) = true := decide_eq_true a3
          clear a3
          by_cases a4 : h ≤ 15
          · have e4 : decide (h ≤ 15) = true := decide_eq_true a4
            have HE := Aside0.mk (show goodv n c h = true from by unfold goodv; rw [e1, e2, e3, e4]; rfl)
            clear a4
            go_wp2
            go_meet
            exact ⟨rfl, by rw [HE.out]⟩
          · have e4 : decide (h ≤ 15) = false := decide_eq_false a4
            have HE := Aside0.mk (show goodv n c h = false from by unfold goodv; rw [e1, e2, e3, e4]; rfl)
            clear a4
            go_wp2
            go_meet
            exact ⟨rfl, by rw [HE.out]⟩
        · have e3 : decide (1 ≤ h) = false := decide_eq_false a3
          have HE := Aside0.mk (show goodv n c h = false from by unfold goodv; rw [e1, e2, e3]; rfl)
          clear a3
          go_wp2
          go_meet
          exact ⟨rfl, by rw [HE.out]⟩
      · have e2 : decide (c < (n : Int)) = false := decide_eq_false a2
        have HE := Aside0.mk (show goodv n c h = false from by unfold goodv; rw [e1, e2]; rfl)
        clear a2
        go_wp2
        go_meet
        exact ⟨rfl, by rw [HE.out]⟩
    · have e1 : decide (0 ≤ c) = false := decide_eq_false a1
      have HE := Aside0.mk (show goodv n c h = false from by unfold goodv; rw [e1]; rfl)
      clear a1
      go_wp2
      go_meet
      exact ⟨rfl, by rw [HE.out]⟩
  case rest =>
    obtain ⟨rfl, rfl⟩ := hcut
    go_upto_region 16 with (fail)
    go_cut [13] from 90 to 98 (fun v13 wx => wx = wc ∧ v13 = .bool (tov n t))
    case first =>
      by_cases a1 : 0 ≤ t
      · have e1 : decide (0 ≤ t) = true := decide_eq_true a1
        clear a1
        by_cases a2 : t < (n : Int)
        · have e2 : decide (t < (n : Int)) = true := decide_eq_true a2
          have HE := Aside0.mk (show tov n t = true from by unfold tov; rw [e1, e2]; rfl)
          clear a2
          go_wp2
          go_meet
          exact ⟨rfl, by rw [HE.out]⟩
        · have e2 : decide (t < (n : Int)) = false := decide_eq_false a2
          have HE := Aside0.mk (show tov n t = false from by unfold tov; rw [e1, e2]; rfl)
          clear a2
          go_wp2
          go_meet
          exact ⟨rfl, by rw [HE.out]⟩
      · have e1 : decide (0 ≤ t) = false := decide_eq_false a1
        have HE := Aside0.mk (show tov n t = false from by unfold tov; rw [e1]; rfl)
        clear a1
        go_wp2
        go_meet
        exact ⟨rfl, by rw [HE.out]⟩
    case rest =>
      obtain ⟨rfl, rfl⟩ := hcut
      have hgd : mayv p c h = goodv n c h := by unfold mayv isv goodv; rw [P5.out.len]
      have htd : isv p t = tov n t := by unfold isv tov; rw [P5.out.len]
      go_upto_block 2 with (fail)
      refine switch_piece P5.out HBB.out hgd htd HN.out.2 _ _ ?hk ?hq
      case hq => exact fun _ _ _ _ _ h => hqp _ _ _ _ _ h
      intro a' wd hR_
      obtain ⟨x4, hR_⟩ := hR_
      obtain ⟨x14, hR_⟩ := hR_
      obtain ⟨x15, hR_⟩ := hR_
      obtain ⟨x16, hR_⟩ := hR_
      obtain ⟨x17, hR_⟩ := hR_
      obtain ⟨x18, hR_⟩ := hR_
      obtain ⟨x19, hR_⟩ := hR_
      obtain ⟨x20, hR_⟩ := hR_
      obtain ⟨x21, hR_⟩ := hR_
      obtain ⟨x22, hR_⟩ := hR_
      obtain ⟨x101, hR_⟩ := hR_
      obtain ⟨x102, hR_⟩ := hR_
      obtain ⟨x103, hR_⟩ := hR_
      obtain ⟨x104, hR_⟩ := hR_
      obtain ⟨x105, hR_⟩ := hR_
      obtain ⟨x106, hR_⟩ := hR_
      obtain ⟨x107, hR_⟩ := hR_
      obtain ⟨x108, hR_⟩ := hR_
      obtain ⟨x109, hR_⟩ := hR_
      obtain ⟨x110, hR_⟩ := hR_
      obtain ⟨x111, hR_⟩ := hR_
      obtain ⟨x112, hR_⟩ := hR_
      obtain ⟨x113, hR_⟩ := hR_
      obtain ⟨x114, hR_⟩ := hR_
      obtain ⟨x115, hR_⟩ := hR_
      obtain ⟨x116, hR_⟩ := hR_
      obtain ⟨x117, hR_⟩ := hR_
      obtain ⟨x118, hR_⟩ := hR_
      obtain ⟨x119, hR_⟩ := hR_
      obtain ⟨x120, hR_⟩ := hR_
      obtain ⟨x121, hR_⟩ := hR_
      obtain ⟨x122, hR_⟩ := hR_
      obtain ⟨x123, hR_⟩ := hR_
      obtain ⟨x124, hR_⟩ := hR_
      obtain ⟨x125, hR_⟩ := hR_
      obtain ⟨x126, hR_⟩ := hR_
      obtain ⟨x127, hR_⟩ := hR_
      obtain ⟨x128, hR_⟩ := hR_
      obtain ⟨x129, hR_⟩ := hR_
      obtain ⟨x130, hR_⟩ := hR_
      obtain ⟨x131, hR_⟩ := hR_
      obtain ⟨x132, hR_⟩ := hR_
      obtain ⟨x133, hR_⟩ := hR_
      obtain ⟨x134, hR_⟩ := hR_
      obtain ⟨x135, hR_⟩ := hR_
      obtain ⟨x136, hR_⟩ := hR_
      obtain ⟨x137, hR_⟩ := hR_
      obtain ⟨x138, hR_⟩ := hR_
      obtain ⟨x139, hR_⟩ := hR_
      obtain ⟨x140, hR_⟩ := hR_
      obtain ⟨x141, hR_⟩ := hR_
      obtain ⟨x142, hR_⟩ := hR_
      obtain ⟨x143, hR_⟩ := hR_
      obtain ⟨x144, hR_⟩ := hR_
      obtain ⟨x145, hR_⟩ := hR_
      obtain ⟨x146, hR_⟩ := hR_
      obtain ⟨x147, hR_⟩ := hR_
      obtain ⟨x148, hR_⟩ := hR_
      obtain ⟨x149, hR_⟩ := hR_
      obtain ⟨x150, hR_⟩ := hR_
      obtain ⟨x151, hR_⟩ := hR_
      obtain ⟨x152, hR_⟩ := hR_
      obtain ⟨x153, hR_⟩ := hR_
      obtain ⟨x154, hR_⟩ := hR_
      obtain ⟨x155, hR_⟩ := hR_
      obtain ⟨x156, hR_⟩ := hR_
      obtain ⟨x157, hR_⟩ := hR_
      obtain ⟨x158, hR_⟩ := hR_
      obtain ⟨x159, hR_⟩ := hR_
      obtain ⟨x160, hR_⟩ := hR_
      obtain ⟨x161, hR_⟩ := hR_
      obtain ⟨x162, hR_⟩ := hR_
      obtain ⟨x163, hR_⟩ := hR_
      obtain ⟨x164, hR_⟩ := hR_
      obtain ⟨x165, hR_⟩ := hR_
      obtain ⟨x166, hR_⟩ := hR_
      obtain ⟨x167, hR_⟩ := hR_
      obtain ⟨x168, hR_⟩ := hR_
      obtain ⟨x169, hR_⟩ := hR_
      obtain ⟨x170, hR_⟩ := hR_
      obtain ⟨x171, hR_⟩ := hR_
      obtain ⟨x172, hR_⟩ := hR_
      obtain ⟨x173, hR_⟩ := hR_
      obtain ⟨x174, hR_⟩ := hR_
      obtain ⟨x175, hR_⟩ := hR_
      obtain ⟨x176, hR_⟩ := hR_
      obtain ⟨x177, hR_⟩ := hR_
      obtain ⟨x178, hR_⟩ := hR_
      obtain ⟨x179, hR_⟩ := hR_
      obtain ⟨x180, hR_⟩ := hR_
      obtain ⟨x181, hR_⟩ := hR_
      obtain ⟨x182, hR_⟩ := hR_
      obtain ⟨x183, hR_⟩ := hR_
      obtain ⟨x184, hR_⟩ := hR_
      obtain ⟨x185, hR_⟩ := hR_
      obtain ⟨x186, hR_⟩ := hR_
      obtain ⟨x187, hR_⟩ := hR_
      obtain ⟨x188, hR_⟩ := hR_
      obtain ⟨x189, hR_⟩ := hR_
      obtain ⟨x190, hR_⟩ := hR_
      obtain ⟨x191, hR_⟩ := hR_
      obtain ⟨x192, hR_⟩ := hR_
      obtain ⟨x193, hR_⟩ := hR_
      obtain ⟨x194, hR_⟩ := hR_
      obtain ⟨x195, hR_⟩ := hR_
      obtain ⟨x196, hR_⟩ := hR_
      obtain ⟨x197, hR_⟩ := hR_
      obtain ⟨x198, hR_⟩ := hR_
      obtain ⟨x199, hR_⟩ := hR_
      obtain ⟨x200, hR_⟩ := hR_
      obtain ⟨x201, hR_⟩ := hR_
      obtain ⟨x202, hR_⟩ := hR_
      obtain ⟨x203, hR_⟩ := hR_
      obtain ⟨x204, hR_⟩ := hR_
      obtain ⟨x205, hR_⟩ := hR_
      obtain ⟨x206, hR_⟩ := hR_
      obtain ⟨x207, hR_⟩ := hR_
      obtain ⟨x208, hR_⟩ := hR_
      obtain ⟨x209, hR_⟩ := hR_
      obtain ⟨x210, hR_⟩ := hR_
      obtain ⟨x211, hR_⟩ := hR_
      obtain ⟨x212, hR_⟩ := hR_
      obtain ⟨x213, hR_⟩ := hR_
      obtain ⟨x214, hR_⟩ := hR_
      obtain ⟨x215, hR_⟩ := hR_
      obtain ⟨x216, hR_⟩ := hR_
      obtain ⟨x217, hR_⟩ := hR_
      obtain ⟨x218, hR_⟩ := hR_
      obtain ⟨x219, hR_⟩ := hR_
      obtain ⟨x220, hR_⟩ := hR_
      obtain ⟨x221, hR_⟩ := hR_
      obtain ⟨x222, hR_⟩ := hR_
      obtain ⟨x223, hR_⟩ := hR_
      obtain ⟨x224, hR_⟩ := hR_
      obtain ⟨x225, hR_⟩ := hR_
      obtain ⟨x226, hR_⟩ := hR_
      obtain ⟨x227, hR_⟩ := hR_
      obtain ⟨x228, hR_⟩ := hR_
      obtain ⟨x229, hR_⟩ := hR_
      obtain ⟨x230, hR_⟩ := hR_
      obtain ⟨x231, hR_⟩ := hR_
      obtain ⟨x232, hR_⟩ := hR_
      obtain ⟨x233, hR_⟩ := hR_
      obtain ⟨x234, hR_⟩ := hR_
      obtain ⟨x235, hR_⟩ := hR_
      obtain ⟨x236, hR_⟩ := hR_
      obtain ⟨x237, hR_⟩ := hR_
      obtain ⟨x238, hR_⟩ := hR_
      obtain ⟨x239, hR_⟩ := hR_
      obtain ⟨x240, hR_⟩ := hR_
      obtain ⟨x241, hR_⟩ := hR_
      obtain ⟨x242, hR_⟩ := hR_
      obtain ⟨x243, hR_⟩ := hR_
      obtain ⟨x244, hR_⟩ := hR_
      obtain ⟨x245, hR_⟩ := hR_
      obtain ⟨x246, hR_⟩ := hR_
      obtain ⟨x247, hR_⟩ := hR_
      obtain ⟨x248, hR_⟩ := hR_
      obtain ⟨x249, hR_⟩ := hR_
      obtain ⟨x250, hR_⟩ := hR_
      obtain ⟨x251, hR_⟩ := hR_
      obtain ⟨x252, hR_⟩ := hR_
      obtain ⟨x253, hR_⟩ := hR_
      obtain ⟨x254, hR_⟩ := hR_
      obtain ⟨x255, hR_⟩ := hR_
      obtain ⟨x256, hR_⟩ := hR_
      obtain ⟨x257, hR_⟩ := hR_
      obtain ⟨x258, hR_⟩ := hR_
      obtain ⟨x259, hR_⟩ := hR_
      obtain ⟨x260, hR_⟩ := hR_
      obtain ⟨x261, hR_⟩ := hR_
      obtain ⟨x262, hR_⟩ := hR_
      obtain ⟨x263, hR_⟩ := hR_
      obtain ⟨x264, hR_⟩ := hR_
      obtain ⟨x265, hR_⟩ := hR_
      obtain ⟨x266, hR_⟩ := hR_
      obtain ⟨x267, hR_⟩ := hR_
      obtain ⟨x268, hR_⟩ := hR_
      obtain ⟨x269, hR_⟩ := hR_
      obtain ⟨x270, hR_⟩ := hR_
      obtain ⟨hcut, ha_⟩ := hR_
      subst ha_
      obtain ⟨p', hP'⟩ := hcut
      have P6 := Aside0.mk hP'.toN
      clear hP' P5 HBB hgd htd c0 c1 c2 c3
      go_upto_block 6 with (fail)
      refine loop_piece P6.out HN.out.2 _ _ ?hk2 ?hq2
      case hq2 => exact fun _ _ _ _ _ h => hqp _ _ _ _ _ h
      intro a' wd hR_
      obtain ⟨x4, hR_⟩ := hR_
      obtain ⟨x23, hR_⟩ := hR_
      obtain ⟨x24, hR_⟩ := hR_
      obtain ⟨x271, hR_⟩ := hR_
      obtain ⟨x272, hR_⟩ := hR_
      obtain ⟨x273, hR_⟩ := hR_
      obtain ⟨x274, hR_⟩ := hR_
      obtain ⟨x275, hR_⟩ := hR_
      obtain ⟨x276, hR_⟩ := hR_
      obtain ⟨x277, hR_⟩ := hR_
      obtain ⟨x278, hR_⟩ := hR_
      obtain ⟨x279, hR_⟩ := hR_
      obtain ⟨x280, hR_⟩ := hR_
      obtain ⟨x281, hR_⟩ := hR_
      obtain ⟨x282, hR_⟩ := hR_
      obtain ⟨x283, hR_⟩ := hR_
      obtain ⟨x284, hR_⟩ := hR_
      obtain ⟨x285, hR_⟩ := hR_
      obtain ⟨x286, hR_⟩ := hR_
      obtain ⟨x287, hR_⟩ := hR_
      obtain ⟨x288, hR_⟩ := hR_
      obtain ⟨x289, hR_⟩ := hR_
      obtain ⟨x290, hR_⟩ := hR_
      obtain ⟨x291, hR_⟩ := hR_
      obtain ⟨x292, hR_⟩ := hR_
      obtain ⟨x293, hR_⟩ := hR_
      obtain ⟨x294, hR_⟩ := hR_
      obtain ⟨x295, hR_⟩ := hR_
      obtain ⟨x296, hR_⟩ := hR_
      obtain ⟨x297, hR_⟩ := hR_
      obtain ⟨x298, hR_⟩ := hR_
      obtain ⟨x299, hR_⟩ := hR_
      obtain ⟨x300, hR_⟩ := hR_
      obtain ⟨hcut, ha_⟩ := hR_
      subst ha_
      obtain ⟨rfl, hP⟩ := hcut
      have HP := Aside0.mk hP
      have HWT := Aside0.mk (show waitS p' p'.length = waitS p' n from by rw [hP.len])
      clear hP P6
      generalize waitS p' n = m at HWT
      have s1 : (m != m) = false := by simp
      go_wp2_with (first | (go_at_call 14; (with_reducible refine (waits_calls HP.out.m).mono ?_); rintro e w9 ⟨rfl, b9⟩; rw [HWT.out]; have P9 := Aside0.mk (HP.out.below b9); clear b9))
      refine Met.intro ?_
      go_step
      unfold RoR
      refine ⟨_, _, _, _, _, _, _, _, _, _, _, _, _, _, _, _, _, _, _, _, _, _, _, _, _, _, _, _, _, _, _, _, _, _, _, _, _, _, _, _, _, _, _, _, _, _, _, _, _, _, _, _, _, _, _, _, _, _, _, _, _, _, _, _, _, _, _, _, _, _, _, _, _, _, _, _, _, _, _, _, _, _, _, _, _, _, _, _, _, _, _, _, _, _, _, _, _, _, _, _, _, _, _, _, _, _, _, _, _, _, _, _, _, _, _, _, _, _, _, _, _, _, _, _, _, _, _, _, _, _, _, _, _, _, _, _, _, _, _, _, _, _, _, _, _, _, _, _, _, _, _, _, _, _, _, _, _, _, _, _, _, _, _, _, _, _, _, _, _, _, _, _, _, _, _, _, _, _, _, _, _, _, _, _, _, _, _, _, _, _, _, _, _, _, _, _, _, _, _, _, _, _, _, _, _, _, _, _, _, _, _, _, _, _, _, _, _, _, _, _, _, _, _, _, _, _, _, _, _, _, _, _, _, _, _, _, _, _, _, _, _, _, _, _, _, _, _, _, _, _, _, _, _, ?_, rfl⟩
      exact ⟨p', P9.out⟩
end Go.Proofs.Yteihnocbeaaokaa.Poke
