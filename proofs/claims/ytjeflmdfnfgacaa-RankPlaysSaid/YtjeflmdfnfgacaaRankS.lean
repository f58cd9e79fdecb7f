/- RankPlays: the walk's pieces (no law is stated here; each says its conditions). -/
import Derived.Test.YtjeflmdfnfgacaaRankL
import Derived.Test.YtjeflmdfnfgacaaRankW
import Derived.Test.YtjeflmdfnfgacaaReg
import Derived.Test.YtjeflmdfnfgacaaQx27
namespace Go.Proofs.Ytjeflmdfnfgacaa.Rank
open Go.RowKit Go.Proofs.YtjeflmdfnfgacaaW.PrintWords Go.Proofs.YtjeflmdfnfgacaaW.PrintLast Go.Proofs.YtjeflmdfnfgacaaW.PrintMore Go.Proofs.Ytjeflmdfnfgacaa.St Go.Proofs.Ytjeflmdfnfgacaa.Q Go.Proofs.Ytjeflmdfnfgacaa.Heap
set_option linter.unusedVariables false
set_option linter.unusedSimpArgs false
attribute [local go_sem] max2_int min2_int max_two min_two max_three min_three max_four min_four

def zw : Array Value := (Array.range 192).map (fun i => if i % 3 = 2 then .bool false else .int .i64 0)
theorem zw_size : zw.size = 192 := by unfold zw; rw [Array.size_map, Array.size_range]
/-- Between two acts. -/
structure PS (w : World) (n : Nat) (v : Value) (gw gi : Nat) (c : Nat → Nat) (s : List (Option Ent)) (csw csi : Array Value) (W : World) : Prop where
  good : Good s
  len : s.length = n
  st : rank.M W w.heap.size (fun k => c k = 0) s v
  aw : blk.M W w.heap.size (fun k => c k = 1) (.cells csw 44 (0, 0)) (.pointer (some ⟨gw, 0, none⟩))
  ai : blk.M W w.heap.size (fun k => c k = 2) (.cells csi 45 (0, 0)) (.pointer (some ⟨gi, 0, none⟩))
  wok : wOk csw s
  iok : iOk csi s
  far : Below w.heap.size w W
def RelP (w : World) (m n : Nat) (v : Value) (gw gi : Nat) (i : Value) (W : World) : Prop := ∃ (j : Nat) (c : Nat → Nat) (s : List (Option Ent)) (csw csi : Array Value), j ≤ m ∧ i = .int .i64 (j : Int) ∧ PS w n v gw gi c s csw csi W
theorem PS.below {w : World} {n : Nat} {v : Value} {gw gi : Nat} {c : Nat → Nat} {s : List (Option Ent)} {csw csi : Array Value} {W W1 : World} (h : PS w n v gw gi c s csw csi W) (hb : Below W.heap.size W W1) : PS w n v gw gi c s csw csi W1 :=
  ⟨h.good, h.len, St.below (s := rank) h.st hb, St.below (s := blk) h.aw hb, St.below (s := blk) h.ai hb, h.wok, h.iok, h.far.trans (hb.mono h.far.size)⟩
theorem PS.icell {w : World} {n : Nat} {v : Value} {gw gi : Nat} {c : Nat → Nat} {s : List (Option Ent)} {csw csi : Array Value} {W : World} (h : PS w n v gw gi c s csw csi W) {k : Nat} (hk : k < 64) : W.cell? ⟨gi, k, none⟩ = some (.bool (inB s k)) ∧ W.frozen? ⟨gi, k, none⟩ = false :=
  ⟨(blk_cell (blk_at h.ai) k).trans (h.iok.2 k hk), blk_frozen (blk_at h.ai) k⟩
theorem PS.wcell {w : World} {n : Nat} {v : Value} {gw gi : Nat} {c : Nat → Nat} {s : List (Option Ent)} {csw csi : Array Value} {W : World} (h : PS w n v gw gi c s csw csi W) {k : Nat} {e1 e2 : Int} {e3 : Bool} (hk : s.getD k none = some (e1, e2, e3)) :
    W.cell? ⟨gw, k * 3, none⟩ = some (.int .i64 e1) ∧ W.cell? ⟨gw, k * 3 + 1, none⟩ = some (.int .i64 e2) ∧ W.cell? ⟨gw, k * 3 + 2, none⟩ = some (.bool e3) :=
  ⟨(blk_cell (blk_at h.aw) _).trans (h.wok.2 k _ hk).1, (blk_cell (blk_at h.aw) _).trans (h.wok.2 k _ hk).2.1, (blk_cell (blk_at h.aw) _).trans (h.wok.2 k _ hk).2.2⟩
theorem PS.turn {w : World} {n : Nat} {v : Value} {gw gi : Nat} {c c1 : Nat → Nat} {s : List (Option Ent)} {csw csi : Array Value} {W W1 : World} (h : PS w n v gw gi c s csw csi W) (t : Turned c c1 3 w W W1) : PS w n v gw gi c1 s csw csi W1 :=
  ⟨h.good, h.len, t.keep _ rank 0 _ _ (by decide) h.st, t.keep _ blk 1 _ _ (by decide) h.aw, t.keep _ blk 2 _ _ (by decide) h.ai, h.wok, h.iok, t.far h.far⟩
theorem read_act5 {w : World} {ad : Addr} {l : List (Int × Int × Int × Int × Bool)} (h : (Kd.pair (Kd.int .i64) (Kd.pair (Kd.int .i64) (Kd.pair (Kd.int .i64) (Kd.pair (Kd.int .i64) Kd.bool)))).C w (some ad) l.length l) {j : Nat} (hj : j < l.length) {x1 x2 x3 x4 : Int} {x5 : Bool} (hx : l.getD j (0, 0, 0, 0, false) = (x1, x2, x3, x4, x5)) :
    w.cell? (ad.add (j * 5)) = some (.int .i64 x1) ∧ w.cell? ⟨(ad.add (j * 5)).block, (ad.add (j * 5)).off + 1, none⟩ = some (.int .i64 x2) ∧ w.cell? ⟨(ad.add (j * 5)).block, (ad.add (j * 5)).off + 2, none⟩ = some (.int .i64 x3) ∧ w.cell? ⟨(ad.add (j * 5)).block, (ad.add (j * 5)).off + 3, none⟩ = some (.int .i64 x4) ∧ w.cell? ⟨(ad.add (j * 5)).block, (ad.add (j * 5)).off + 4, none⟩ = some (.bool x5) := by
  obtain ⟨ad', c, e, _, hK, hc0⟩ := Kd.C_get h (0, 0, 0, 0, false) (j : Int) (by omega) (by omega)
  cases e
  rw [Int.toNat_natCast] at hK hc0
  have hc : ∀ i u, c[i]? = some u → w.cell? (ad.add (j * 5 + i)) = some u := hc0
  rw [hx] at hK
  obtain ⟨_, _, rfl, rfl, _, _, rfl, rfl, _, _, rfl, rfl, _, _, rfl, rfl, rfl⟩ := hK
  exact ⟨hc 0 _ rfl, by rw [← add_field _ _ 1 (by omega)]; exact hc 1 _ rfl, by rw [← add_field _ _ 2 (by omega)]; exact hc 2 _ rfl, by rw [← add_field _ _ 3 (by omega)]; exact hc 3 _ rfl, by rw [← add_field _ _ 4 (by omega)]; exact hc 4 _ rfl⟩
theorem some_ad5 {w : World} {A : Option Addr} {l : List (Int × Int × Int × Int × Bool)} (h : (Kd.pair (Kd.int .i64) (Kd.pair (Kd.int .i64) (Kd.pair (Kd.int .i64) (Kd.pair (Kd.int .i64) Kd.bool)))).C w A l.length l) {j : Nat} (hj : j < l.length) : ∃ ad, A = some ad := by
  obtain ⟨ad, c, e, _⟩ := Kd.C_get h (0, 0, 0, 0, false) (j : Int) (by omega) (by omega)
  exact ⟨ad, e⟩
/-- A CPU is cleared: the law's own row is told so. -/
theorem PS.cleared {w : World} {n : Nat} {v : Value} {gw gi : Nat} {c c1 : Nat → Nat} {s : List (Option Ent)} {csw csi : Array Value} {W W1 : World} (h : PS w n v gw gi c s csw csi W) {j : Nat} (hj : j < n) (hn : n ≤ 64)
    (H : rank.M W1 w.heap.size (fun k => c1 k = 0) (s.set j none) v) (T : Turned c c1 0 w W W1) :
    ∃ c2, PS w n v gw gi c2 (s.set j none) csw (csi.setIfInBounds j (.bool false)) (W1.setCell ⟨gi, j, none⟩ (.bool false)) ∧ Turned c1 c2 2 w W1 (W1.setCell ⟨gi, j, none⟩ (.bool false)) := by
  have hl : j < s.length := by rw [h.len]; exact hj
  have aw := T.keep _ blk 1 _ _ (by decide) h.aw
  have ai := T.keep _ blk 2 _ _ (by decide) h.ai
  have far := T.far h.far
  obtain ⟨c2, h2, t2⟩ := blk_put1 ai j (.bool false) far.size
  exact ⟨c2, ⟨good_none h.good j hl, by rw [List.length_set]; exact h.len, t2.keep _ rank 0 _ _ (by decide) H, t2.keep _ blk 1 _ _ (by decide) aw, h2, wOk_clear h.wok j hl, iOk_set h.iok j hl (by omega) none, t2.far far⟩, t2⟩
theorem PS.filled {w : World} {n : Nat} {v : Value} {gw gi : Nat} {c c1 : Nat → Nat} {s : List (Option Ent)} {csw csi : Array Value} {W W1 : World} (h : PS w n v gw gi c s csw csi W) {j : Nat} (hj : j < n) (hn : n ≤ 64) {e1 e2 : Int} {e3 : Bool}
    (hG : Good (s.set j (some (e1, e2, e3)))) (H : rank.M W1 w.heap.size (fun k => c1 k = 0) (s.set j (some (e1, e2, e3))) v) (T : Turned c c1 0 w W W1) :
    ∃ c2, PS w n v gw gi c2 (s.set j (some (e1, e2, e3))) (((csw.setIfInBounds (j * 3) (.int .i64 e1)).setIfInBounds (j * 3 + 1) (.int .i64 e2)).setIfInBounds (j * 3 + 2) (.bool e3)) (csi.setIfInBounds j (.bool true)) ((((W1.setCell ⟨gw, j * 3, none⟩ (.int .i64 e1)).setCell ⟨gw, j * 3 + 1, none⟩ (.int .i64 e2)).setCell ⟨gw, j * 3 + 2, none⟩ (.bool e3)).setCell ⟨gi, j, none⟩ (.bool true)) := by
  have hl : j < s.length := by rw [h.len]; exact hj
  have a0 := T.keep _ blk 1 _ _ (by decide) h.aw
  have b0 := T.keep _ blk 2 _ _ (by decide) h.ai
  have H0 := H
  have f0 := T.far h.far
  obtain ⟨d1, a1, t1⟩ := blk_put1 a0 (j * 3) (.int .i64 e1) f0.size
  have b1 := t1.keep _ blk 2 _ _ (by decide) b0
  have H1 := t1.keep _ rank 0 _ _ (by decide) H0
  have f1 := t1.far f0
  obtain ⟨d2, a2, t2⟩ := blk_put1 a1 (j * 3 + 1) (.int .i64 e2) f1.size
  have b2 := t2.keep _ blk 2 _ _ (by decide) b1
  have H2 := t2.keep _ rank 0 _ _ (by decide) H1
  have f2 := t2.far f1
  obtain ⟨d3, a3, t3⟩ := blk_put1 a2 (j * 3 + 2) (.bool e3) f2.size
  have b3 := t3.keep _ blk 2 _ _ (by decide) b2
  have H3 := t3.keep _ rank 0 _ _ (by decide) H2
  have f3 := t3.far f2
  obtain ⟨d4, b4, t4⟩ := blk_put1 b3 (j) (.bool true) f3.size
  have a4 := t4.keep _ blk 1 _ _ (by decide) a3
  have H4 := t4.keep _ rank 0 _ _ (by decide) H3
  have f4 := t4.far f3
  exact ⟨_, ⟨hG, by rw [List.length_set]; exact h.len, H4, a4, b4, wOk_set h.wok j hl (by omega) e1 e2 e3, iOk_set h.iok j hl (by omega) (some (e1, e2, e3)), f4⟩⟩
theorem PS.filled2 {w : World} {n : Nat} {v : Value} {gw gi : Nat} {c c1 : Nat → Nat} {s : List (Option Ent)} {csw csi : Array Value} {W W1 : World} (h : PS w n v gw gi c s csw csi W) {j : Nat} (hj : j < n) (hn : n ≤ 64) {e1 e2 : Int} {e3 : Bool}
    (hG : Good (s.set j (some (e1, e2, e3)))) (H : rank.M W1 w.heap.size (fun k => c1 k = 0) (s.set j (some (e1, e2, e3))) v) (T : Turned c c1 0 w W W1) :
    ∃ c2, PS w n v gw gi c2 (s.set j (some (e1, e2, e3))) (((csw.setIfInBounds (j * 3) (.int .i64 e1)).setIfInBounds (j * 3 + 1) (.int .i64 e2)).setIfInBounds (j * 3 + 2) (.bool e3)) (csi.setIfInBounds j (.bool true)) ((((W1.setCell ⟨gi, j, none⟩ (.bool true)).setCell ⟨gw, j * 3, none⟩ (.int .i64 e1)).setCell ⟨gw, j * 3 + 1, none⟩ (.int .i64 e2)).setCell ⟨gw, j * 3 + 2, none⟩ (.bool e3)) := by
  have hl : j < s.length := by rw [h.len]; exact hj
  have a0 := T.keep _ blk 1 _ _ (by decide) h.aw
  have b0 := T.keep _ blk 2 _ _ (by decide) h.ai
  have H0 := H
  have f0 := T.far h.far
  obtain ⟨d1, b1, t1⟩ := blk_put1 b0 (j) (.bool true) f0.size
  have a1 := t1.keep _ blk 1 _ _ (by decide) a0
  have H1 := t1.keep _ rank 0 _ _ (by decide) H0
  have f1 := t1.far f0
  obtain ⟨d2, a2, t2⟩ := blk_put1 a1 (j * 3) (.int .i64 e1) f1.size
  have b2 := t2.keep _ blk 2 _ _ (by decide) b1
  have H2 := t2.keep _ rank 0 _ _ (by decide) H1
  have f2 := t2.far f1
  obtain ⟨d3, a3, t3⟩ := blk_put1 a2 (j * 3 + 1) (.int .i64 e2) f2.size
  have b3 := t3.keep _ blk 2 _ _ (by decide) b2
  have H3 := t3.keep _ rank 0 _ _ (by decide) H2
  have f3 := t3.far f2
  obtain ⟨d4, a4, t4⟩ := blk_put1 a3 (j * 3 + 2) (.bool e3) f3.size
  have b4 := t4.keep _ blk 2 _ _ (by decide) b3
  have H4 := t4.keep _ rank 0 _ _ (by decide) H3
  have f4 := t4.far f3
  exact ⟨_, ⟨hG, by rw [List.length_set]; exact h.len, H4, a4, b4, wOk_set h.wok j hl (by omega) e1 e2 e3, iOk_set h.iok j hl (by omega) (some (e1, e2, e3)), f4⟩⟩
def RelAt (w11 : World) (s : List (Option Ent)) (id : Int) (n : Nat) (a k : Value) (wz : World) : Prop := ∃ q : Nat, q ≤ n ∧ k = .int .i64 (q : Int) ∧ a = .int .i64 (atUp s id q) ∧ Below w11.heap.size w11 wz
section
variable {ops : Array Oper} {o og : Oper} {a : Act} {g t : Nat} {u : Bool}
theorem wanted_none (hg : o.guard = some (g, u)) (ho : ops[g]? = some og) (hd : og.dst = some t) (hv : a.tmps[t]? = some undef) : Region.wanted o (yielded ops a.tmps) = false := by
  cases u <;> simp_all [Region.wanted, yielded, undef]
end
theorem PS.turn4 {w : World} {n : Nat} {v : Value} {gw gi : Nat} {c c1 : Nat → Nat} {s : List (Option Ent)} {csw csi : Array Value} {W W1 : World} (h : PS w n v gw gi c s csw csi W) {i : Nat} (hi : 3 ≤ i) (t : Turned c c1 i w W W1) : PS w n v gw gi c1 s csw csi W1 :=
  ⟨h.good, h.len, t.keep _ rank 0 _ _ (by omega) h.st, t.keep _ blk 1 _ _ (by omega) h.aw, t.keep _ blk 2 _ _ (by omega) h.ai, h.wok, h.iok, t.far h.far⟩
/-- A call that changes nothing, told by colours. -/
theorem PS.same {w : World} {n : Nat} {v : Value} {gw gi : Nat} {c c1 : Nat → Nat} {s : List (Option Ent)} {csw csi : Array Value} {W W1 : World} (h : PS w n v gw gi c s csw csi W)
    (H : rank.M W1 w.heap.size (fun k => c1 k = 0) s v) (t : Turned c c1 0 w W W1) : PS w n v gw gi c1 s csw csi W1 :=
  ⟨h.good, h.len, H, t.keep _ blk 1 _ _ (by decide) h.aw, t.keep _ blk 2 _ _ (by decide) h.ai, h.wok, h.iok, t.far h.far⟩
theorem at_here {s : List (Option Ent)} {q : Nat} {e1 e2 : Int} {e3 : Bool} (hq : q < s.length) (h : s.getD q none = some (e1, e2, e3)) : atv s (q : Int) = ((e1, e2, e3), true) := by
  unfold atv
  rw [if_pos (isv_of hq), Int.toNat_natCast, h]
theorem at_gone {s : List (Option Ent)} {q : Nat} (hq : q < s.length) (h : s.getD q none = none) : atv s (q : Int) = ((0, 0, false), false) := by
  unfold atv
  rw [if_pos (isv_of hq), Int.toNat_natCast, h]
  rfl
theorem entless_f (a b : Ent) : beadleref10_EntLess.f a.1 a.2.1 a.2.2 b.1 b.2.1 b.2.2 = some (less a b) := by
  unfold beadleref10_EntLess.f less
  split <;> rfl
theorem idle_known {b : Nat} {ok : Nat → Prop} {s : List (Option Ent)} {v : Value} {W : World} {m : Nat} (hm : IdleIs m s) (h : rank.M W b ok s v) :
    Calls Try.prog 14 #[v] W fun e w' => e = .returned (.int .u64 (m : Int)) ∧ w' = W := by
  refine (idle_calls h).mono ?_
  rintro e w' ⟨⟨m', h1, h2⟩, h3⟩
  rw [h1, idle_unique hm h2]
  exact ⟨rfl, h3⟩
/-- An entry appended to a row of colour i. -/
theorem app_one {P : Program} {ops : Array Oper} {o : Oper} {a : Act} {Q : Exit → Act → World → Prop} {rest : List Oper} {α : Type} {e : Nat} {w0 W : World} {c : Nat → Nat} {d : Kd α} {i : Nat} (hgd : o.guard = none) (s x : Operand) (t : TypeId) (z : Value) (bytes : Nat)
    (ho : o.op = .call { callee := .builtin .append, args := #[s, x], argTypes := #[t, t] })
    (ht : P.underlying t = some (.slice e)) (hinfo : (P.info? e).map (fun i => (i.zero, i.size, i.bytes)) = some (some z, d.sz, bytes)) (hz : z.cells.size = d.sz) (hs0 : 0 < d.sz) (hb0 : 0 < bytes)
    (v : Value) (xs : List α) (p : α) (cs : List Value) (hs : a.eval s = v) (hx : a.eval x = .slice (some ⟨W.heap.size, 0, none⟩) 1 1) (hp : d.M W w0.heap.size (fun _ => False) p cs)
    (HO : (row e d).M W w0.heap.size (fun k => c k = i) xs v) (hb : w0.heap.size ≤ W.heap.size) (hl : (xs.length + 1) * bytes ≤ 140737488355328)
    (h : ∀ v1 w1 c1, (row e d).M w1 w0.heap.size (fun k => c1 k = i) (xs ++ [p]) v1 → Turned c c1 i w0 W w1 → wpList P ops Q rest (a.put o.dst v1) w1) : wpList P ops Q (o :: rest) a (W.alloc (.cells cs.toArray e)) := by
  refine Kd.R_append d (w0 := W) w0.heap.size hgd s x t e z bytes ho ht hinfo hz hs0 hb0 v xs p cs (fun k => mineOf c i w0 k ∨ W.heap.size ≤ k) (fun _ => False) hs hx hp (fun _ h => h.elim) (fun _ hk => Or.inr hk) (row_ready HO) (Below.refl _ _) hb hl ?_
  intro v1 w1 hR hB hG _
  obtain ⟨c1, h1, h2⟩ := row_turned HO hR hG hb
  exact h _ _ _ h1 h2
theorem read_ent {w : World} {A : Option Addr} {m k : Nat} {l : List Ent} (h : KE.C w A m l) (hk : k < m) :
    ∃ ad, A = some ad ∧ w.cell? (ad.add (k * 3)) = some (.int .i64 (l.getD k z0).1) ∧ w.cell? ⟨(ad.add (k * 3)).block, (ad.add (k * 3)).off + 1, none⟩ = some (.int .i64 (l.getD k z0).2.1) ∧ w.cell? ⟨(ad.add (k * 3)).block, (ad.add (k * 3)).off + 2, none⟩ = some (.bool (l.getD k z0).2.2) := by
  obtain ⟨ad, c, e, _, hK, hc0⟩ := Kd.C_get h z0 (k : Int) (by omega) (by omega)
  rw [Int.toNat_natCast] at hK hc0
  obtain rfl := ke_openK hK
  have hc : ∀ i u, (cellsE (l.getD k z0))[i]? = some u → w.cell? (ad.add (k * 3 + i)) = some u := hc0
  exact ⟨ad, e, hc 0 _ rfl, by rw [← add_field _ _ 1 (by omega)]; exact hc 1 _ rfl, by rw [← add_field _ _ 2 (by omega)]; exact hc 2 _ rfl⟩
set_option maxHeartbeats 2000000 in
set_option maxRecDepth 100000 in
theorem plays_bad (cpus : Int) (A : Option Addr) (cap : Nat) (l : List (Int × Int × Int × Int × Bool)) {w : World} (hq : cpus < 1 ∨ 64 < cpus) :
    Calls Try.prog 4 #[.int .i64 cpus, .slice A l.length cap] w fun e w' => e = .returned (.bool true) ∧ Below w.heap.size w w' := by
  have HQ := Aside0.mk hq
  by_cases q0 : cpus < 1
  · have p0 : decide (cpus < 1) = true := decide_eq_true q0
    clear q0 hq
    go_enter Try.func4, Try.ntmps4
    go_wp2_with (first | (go_at_call 6; (with_reducible refine (awake_calls _).mono ?_); rintro e w1 ⟨rfl, hb1⟩; have B1 := Aside0.mk hb1; clear hb1) | (go_at_call 7; (with_reducible refine (new_bad cpus _ HQ.out).mono ?_); rintro e w2 ⟨rfl, hb2⟩; have B2 := Aside0.mk (Below.trans B1.out (Below.mono hb2 (Below.size B1.out))); clear hb2))
    go_ret
    exact ⟨rfl, B2.out⟩
  · have p0 : decide (cpus < 1) = false := decide_eq_false q0
    have p1 : decide (64 < cpus) = true := decide_eq_true (by omega)
    clear q0 hq
    go_enter Try.func4, Try.ntmps4
    go_wp2_with (first | (go_at_call 6; (with_reducible refine (awake_calls _).mono ?_); rintro e w1 ⟨rfl, hb1⟩; have B1 := Aside0.mk hb1; clear hb1) | (go_at_call 7; (with_reducible refine (new_bad cpus _ HQ.out).mono ?_); rintro e w2 ⟨rfl, hb2⟩; have B2 := Aside0.mk (Below.trans B1.out (Below.mono hb2 (Below.size B1.out))); clear hb2))
    go_ret
    exact ⟨rfl, B2.out⟩
set_option maxHeartbeats 2000000 in
set_option maxRecDepth 100000 in
theorem plays_long (cpus : Int) (n : Nat) (A : Option Addr) (cap : Nat) (l : List (Int × Int × Int × Int × Bool)) {w : World} (hn : cpus = (n : Int)) (h1 : 1 ≤ n) (h2 : n ≤ 64) (hl : 80 < (l.length : Int)) :
    Calls Try.prog 4 #[.int .i64 cpus, .slice A l.length cap] w fun e w' => e = .returned (.bool true) ∧ Below w.heap.size w w' := by
  have HN := Aside0.mk (show cpus = (n : Int) ∧ 1 ≤ n ∧ n ≤ 64 from ⟨hn, h1, h2⟩)
  have p0 : decide (cpus < 1) = false := decide_eq_false (by omega)
  have p1 : decide (64 < cpus) = false := decide_eq_false (by omega)
  have p2 : decide (80 < (l.length : Int)) = true := decide_eq_true hl
  have p3 : decide (80 < l.length) = true := decide_eq_true (by omega)
  clear hn h1 h2 hl
  go_enter Try.func4, Try.ntmps4
  go_wp2_with (first | (go_at_call 6; (with_reducible refine (awake_calls _).mono ?_); rintro e w1 ⟨rfl, hb1⟩; have B1 := Aside0.mk hb1; clear hb1) | (go_at_call 7; (with_reducible refine (newL (w0 := w) (fun _ => 9) 0 cpus n (List.replicate n none) HN.out.1 rfl HN.out.2.1 HN.out.2.2 B1.out).mono ?_); rintro e w2 ⟨gn, rfl, c2, h2, t2⟩; have H2 := Aside0.mk h2; have B2 := Aside0.mk (t2.far B1.out); clear h2 t2))
  go_ret
  exact ⟨rfl, B2.out⟩
end Go.Proofs.Ytjeflmdfnfgacaa.Rank
