/- Admit: Change (no law is stated here; each says its conditions). -/
import Derived.Test.YtmjodeijafoabaaSt
import Derived.Test.YtmjodeijafoabaaReg
import Derived.Test.YtmjodeijafoabaaQt
import Derived.Test.YtmjodeijafoabaaAdI
namespace Go.Proofs.Ytmjodeijafoabaa.Admit
open Go.RowKit Go.Proofs.YtmjodeijafoabaaW.PrintWords Go.Proofs.YtmjodeijafoabaaW.PrintLast Go.Proofs.YtmjodeijafoabaaW.PrintMore Go.Proofs.Ytmjodeijafoabaa.St Go.Proofs.Ytmjodeijafoabaa.Q Go.Proofs.Ytmjodeijafoabaa.Pure
set_option linter.unusedVariables false
set_option linter.unusedSimpArgs false
attribute [local go_sem] max2_int min2_int max_two min_two max_three min_three max_four min_four

def cells37 (x : S37) : List Value := [.int .i64 x.f0, .int .i64 x.f1.f0, .int .i64 x.f1.f1, .int .i64 x.f2]
def cells24 (x : S24) : List Value := [.int .i64 x.f0, .int .i64 x.f1]
theorem e_set {W : World} {base g n cap : Nat} {ok : Nat → Prop} {xs : List S37} (h : k37.R 37 W base ok (.slice (some ⟨g, 0, none⟩) n cap) xs) {j f : Nat} (hj : j < n) (hf : f < 4) (u : Value) (x' : S37) (hx : cells37 x' = (cells37 (xs.getD j z4)).set f u) :
    k37.R 37 (W.setCell ⟨g, j * 4 + f, none⟩ u) base ok (.slice (some ⟨g, 0, none⟩) n cap) (xs.set j x') ∧ W.grownBy (W.setCell ⟨g, j * 4 + f, none⟩ u) (some g) := by
  obtain ⟨c, hcl, hM, hcell, hfr⟩ := Kd.R_elem h z4 (j : Int) (by omega) (by omega)
  have hcs : c = cells37 (xs.getD (j : Int).toNat z4) := k37_openM hM
  subst hcs
  have hM2 : k37.M W base (fun _ => False) x' ((cells37 (xs.getD (j : Int).toNat z4)).take f ++ [u] ++ (cells37 (xs.getD (j : Int).toNat z4)).drop (f + 1)) := by
    rw [Int.toNat_natCast]
    have e : (cells37 (xs.getD j z4)).take f ++ [u] ++ (cells37 (xs.getD j z4)).drop (f + 1) = cells37 x' := by
      rw [hx]
      have h3 : f = 0 ∨ f = 1 ∨ f = 2 ∨ f = 3 := by omega
      rcases h3 with rfl | rfl | rfl | rfl <;> rfl
    rw [e]
    exact k37_mkM _ _ _ x'
  have h2 := Kd.R_seg h (j : Int) (by omega) (by omega) hcl hcell (seg := [u]) (j := f) (by show f + 1 ≤ 4; omega) hM2 (fun _ hk => hk.elim)
  rw [Int.toNat_natCast] at h2
  exact h2
theorem e_set_at {W : World} {base g n cap : Nat} {ok : Nat → Prop} {xs : List S37} (h : k37.R 37 W base ok (.slice (some ⟨g, 0, none⟩) n cap) xs) {j f : Nat} (hj : j < n) (hf : f < 4) :
    (∃ u, W.cell? ⟨g, j * 4 + f, none⟩ = some u) ∧ W.frozen? ⟨g, j * 4 + f, none⟩ = false := by
  obtain ⟨c, hcl, hM, hcell, hfr⟩ := Kd.R_elem h z4 (j : Int) (by omega) (by omega)
  have hcs : c = cells37 (xs.getD (j : Int).toNat z4) := k37_openM hM
  subst hcs
  rw [Int.toNat_natCast] at hcell hfr
  have hl : f < (cells37 (xs.getD j z4)).length := hf
  exact ⟨⟨_, hcell f _ (List.getElem?_eq_getElem hl)⟩, hfr f⟩
theorem e_set_C {w0 W : World} {c : Nat → Nat} {i g k : Nat} {l : List S37} {n : Nat} (h : (row 37 k37).M W w0.heap.size (fun k => c k = i) l (.slice (some ⟨g, 0, none⟩) n k)) {j f : Nat} (hj : j < n) (hf : f < 4) (u : Value) (x' : S37) (hx : cells37 x' = (cells37 (l.getD j z4)).set f u) (hs : w0.heap.size ≤ W.heap.size) :
    ∃ c', (row 37 k37).M (W.setCell ⟨g, j * 4 + f, none⟩ u) w0.heap.size (fun k => c' k = i) (l.set j x') (.slice (some ⟨g, 0, none⟩) n k) ∧ Turned c c' i w0 W (W.setCell ⟨g, j * 4 + f, none⟩ u) :=
  row_turned h (e_set (row_ready h) hj hf u x' hx).1 (e_set (row_ready h) hj hf u x' hx).2 hs
theorem p_set {W : World} {base g n cap : Nat} {ok : Nat → Prop} {xs : List S24} (h : k24.R 24 W base ok (.slice (some ⟨g, 0, none⟩) n cap) xs) {j f : Nat} (hj : j < n) (hf : f < 2) (u : Value) (x' : S24) (hx : cells24 x' = (cells24 (xs.getD j z24)).set f u) :
    k24.R 24 (W.setCell ⟨g, j * 2 + f, none⟩ u) base ok (.slice (some ⟨g, 0, none⟩) n cap) (xs.set j x') ∧ W.grownBy (W.setCell ⟨g, j * 2 + f, none⟩ u) (some g) := by
  obtain ⟨c, hcl, hM, hcell, hfr⟩ := Kd.R_elem h z24 (j : Int) (by omega) (by omega)
  have hcs : c = cells24 (xs.getD (j : Int).toNat z24) := k24_openM hM
  subst hcs
  have hM2 : k24.M W base (fun _ => False) x' ((cells24 (xs.getD (j : Int).toNat z24)).take f ++ [u] ++ (cells24 (xs.getD (j : Int).toNat z24)).drop (f + 1)) := by
    rw [Int.toNat_natCast]
    have e : (cells24 (xs.getD j z24)).take f ++ [u] ++ (cells24 (xs.getD j z24)).drop (f + 1) = cells24 x' := by
      rw [hx]
      have h3 : f = 0 ∨ f = 1 := by omega
      rcases h3 with rfl | rfl <;> rfl
    rw [e]
    exact k24_mkM _ _ _ x'
  have h2 := Kd.R_seg h (j : Int) (by omega) (by omega) hcl hcell (seg := [u]) (j := f) (by show f + 1 ≤ 2; omega) hM2 (fun _ hk => hk.elim)
  rw [Int.toNat_natCast] at h2
  exact h2
theorem p_set_at {W : World} {base g n cap : Nat} {ok : Nat → Prop} {xs : List S24} (h : k24.R 24 W base ok (.slice (some ⟨g, 0, none⟩) n cap) xs) {j f : Nat} (hj : j < n) (hf : f < 2) :
    (∃ u, W.cell? ⟨g, j * 2 + f, none⟩ = some u) ∧ W.frozen? ⟨g, j * 2 + f, none⟩ = false := by
  obtain ⟨c, hcl, hM, hcell, hfr⟩ := Kd.R_elem h z24 (j : Int) (by omega) (by omega)
  have hcs : c = cells24 (xs.getD (j : Int).toNat z24) := k24_openM hM
  subst hcs
  rw [Int.toNat_natCast] at hcell hfr
  have hl : f < (cells24 (xs.getD j z24)).length := hf
  exact ⟨⟨_, hcell f _ (List.getElem?_eq_getElem hl)⟩, hfr f⟩
theorem p_set_C {w0 W : World} {c : Nat → Nat} {i g k : Nat} {l : List S24} {n : Nat} (h : (row 24 k24).M W w0.heap.size (fun k => c k = i) l (.slice (some ⟨g, 0, none⟩) n k)) {j f : Nat} (hj : j < n) (hf : f < 2) (u : Value) (x' : S24) (hx : cells24 x' = (cells24 (l.getD j z24)).set f u) (hs : w0.heap.size ≤ W.heap.size) :
    ∃ c', (row 24 k24).M (W.setCell ⟨g, j * 2 + f, none⟩ u) w0.heap.size (fun k => c' k = i) (l.set j x') (.slice (some ⟨g, 0, none⟩) n k) ∧ Turned c c' i w0 W (W.setCell ⟨g, j * 2 + f, none⟩ u) :=
  row_turned h (p_set (row_ready h) hj hf u x' hx).1 (p_set (row_ready h) hj hf u x' hx).2 hs

theorem turned_two {c c1 c2 : Nat → Nat} {i : Nat} {w0 W W1 W2 : World} (h : Turned c c1 i w0 W W1) (k : Turned c1 c2 i w0 W1 W2) : Turned c c2 i w0 W W2 :=
  ⟨fun hb => k.far (h.far hb), fun α s j y u hne hm => k.keep α s j y u hne (h.keep α s j y u hne hm)⟩
theorem getD_set_here {α : Type} {l : List α} {j : Nat} (z x : α) (hj : j < l.length) : (l.set j x).getD j z = x := by
  rw [List.getD_eq_getElem?_getD, List.getElem?_set_self hj]; rfl
theorem pair_C37 {w0 W : World} {c : Nat → Nat} {i g k : Nat} {l : List S37} (q p : Int) (h : (row 37 k37).M W w0.heap.size (fun k => c k = i) l (.slice (some ⟨g, 0, none⟩) l.length k)) {j : Nat} (hj : j < l.length) (hs : w0.heap.size ≤ W.heap.size) :
    ∃ c', (row 37 k37).M ((W.setCell ⟨g, j * 4 + 1, none⟩ (.int .i64 q)).setCell ⟨g, j * 4 + 1 + 1, none⟩ (.int .i64 p)) w0.heap.size (fun k => c' k = i) (l.set j ⟨(l.getD j z4).f0, ⟨q, p⟩, (l.getD j z4).f2⟩) (.slice (some ⟨g, 0, none⟩) l.length k) ∧ Turned c c' i w0 W ((W.setCell ⟨g, j * 4 + 1, none⟩ (.int .i64 q)).setCell ⟨g, j * 4 + 1 + 1, none⟩ (.int .i64 p)) := by
  obtain ⟨c1, h1, t1⟩ := e_set_C h hj (f := 1) (by decide) (.int .i64 q) ⟨(l.getD j z4).f0, ⟨q, (l.getD j z4).f1.f1⟩, (l.getD j z4).f2⟩ rfl hs
  have hs1 : w0.heap.size ≤ (W.setCell ⟨g, j * 4 + 1, none⟩ (.int .i64 q)).heap.size := by simp [World.setCell]; exact hs
  obtain ⟨c2, h2, t2⟩ := e_set_C h1 hj (f := 2) (by decide) (.int .i64 p) ⟨(l.getD j z4).f0, ⟨q, p⟩, (l.getD j z4).f2⟩ (by rw [getD_set_here z4 _ hj]; rfl) hs1
  rw [List.set_set] at h2
  exact ⟨c2, h2, turned_two t1 t2⟩
theorem pair_C24 {w0 W : World} {c : Nat → Nat} {i g k : Nat} {l : List S24} (q p : Int) (h : (row 24 k24).M W w0.heap.size (fun k => c k = i) l (.slice (some ⟨g, 0, none⟩) l.length k)) {j : Nat} (hj : j < l.length) (hs : w0.heap.size ≤ W.heap.size) :
    ∃ c', (row 24 k24).M ((W.setCell ⟨g, j * 2, none⟩ (.int .i64 q)).setCell ⟨g, j * 2 + 1, none⟩ (.int .i64 p)) w0.heap.size (fun k => c' k = i) (l.set j ⟨q, p⟩) (.slice (some ⟨g, 0, none⟩) l.length k) ∧ Turned c c' i w0 W ((W.setCell ⟨g, j * 2, none⟩ (.int .i64 q)).setCell ⟨g, j * 2 + 1, none⟩ (.int .i64 p)) := by
  obtain ⟨c1, h1, t1⟩ := p_set_C h hj (f := 0) (by decide) (.int .i64 q) ⟨q, (l.getD j z24).f1⟩ rfl hs
  have hs1 : w0.heap.size ≤ (W.setCell ⟨g, j * 2 + 0, none⟩ (.int .i64 q)).heap.size := by simp [World.setCell]; exact hs
  obtain ⟨c2, h2, t2⟩ := p_set_C h1 hj (f := 1) (by decide) (.int .i64 p) ⟨q, p⟩ (by rw [getD_set_here z24 _ hj]; rfl) hs1
  rw [List.set_set] at h2
  exact ⟨c2, h2, turned_two t1 t2⟩
theorem row_lt {w0 W : World} {α : Type} {d : Kd α} {e : Nat} {c : Nat → Nat} {i g n k : Nat} {l : List α} (h : (row e d).M W w0.heap.size (fun k => c k = i) l (.slice (some ⟨g, 0, none⟩) n k)) : g < W.heap.size := Kd.R_lt h _ rfl
theorem BK.mk' {w0 W : World} {c : Nat → Nat} {i g gl k1 k2 n : Nat} {m : Int} {A2 : Option Addr} {l1 l2 : List S37} (h1 : blk.M W w0.heap.size (fun k => c k = i) (.cells #[.int .i64 m, .slice (some ⟨gl, 0, none⟩) n k1, .slice A2 l2.length k2] 55 (0, 0)) (.pointer (some ⟨g, 0, none⟩))) (h2 : (row 37 k37).M W w0.heap.size (fun k => c k = (i + 1)) l1 (.slice (some ⟨gl, 0, none⟩) n k1)) (h3 : (row 37 k37).M W w0.heap.size (fun k => c k = (i + 2)) l2 (.slice A2 l2.length k2)) (hn : n = l1.length) : BK w0 W c i m l1 l2 g := by
  subst hn
  exact ⟨_, _, _, _, h1, h2, h3⟩
/-- What Change answers, who is live then. -/
def changeV (m : Int) (l1 l2 : List S37) (id q p now : Int) : Int :=
  if goodP q p = false ∨ now < 0 then 1 else if findE id l1 0 < 0 then 2 else if fitB m ((prs l1).set (findE id l1 0).toNat ⟨q, p⟩ ++ prs (ling now l2)) = true then 0 else 7
def changeL (m : Int) (l1 l2 : List S37) (id q p now : Int) : List S37 :=
  if changeV m l1 l2 id q p now = 0 then l1.set (findE id l1 0).toNat ⟨(l1.getD (findE id l1 0).toNat z4).f0, ⟨q, p⟩, (l1.getD (findE id l1 0).toNat z4).f2⟩ else l1
theorem okl_set {l1 l2 : List S37} {q p now : Int} {k : Nat} (h1 : Okl (prs l1)) (h : okv q p) (h2 : Okl (prs l2)) : Okl ((prs l1).set k ⟨q, p⟩ ++ prs (ling now l2)) := by
  intro x hx
  rcases List.mem_append.1 hx with hx | hx
  · rcases List.mem_or_eq_of_mem_set hx with hx | hx
    · exact h1 x hx
    · rw [hx]; exact h
  · obtain ⟨y, hy, rfl⟩ := List.mem_map.1 hx
    exact h2 _ (List.mem_map.2 ⟨y, (List.mem_filter.1 hy).1, rfl⟩)
set_option maxHeartbeats 8000000 in
set_option maxRecDepth 100000 in
theorem change_calls {w0 W : World} {c : Nat → Nat} {i g : Nat} {m : Int} {l1 l2 : List S37} (id q p now : Int) (h : BK w0 W c i m l1 l2 g) (hB : Below w0.heap.size w0 W) (hl : l1.length ≤ 400 ∧ l2.length ≤ 900) (hm : 1 ≤ m ∧ m ≤ 64) (hok1 : Okl (prs l1)) (hok2 : Okl (prs l2)) :
    Calls Try.prog 14 #[.pointer (some ⟨g, 0, none⟩), .int .i64 id, .agg #[.int .i64 q, .int .i64 p], .int .i64 now] W fun e w' => e = .returned (.int .i64 (changeV m l1 l2 id q p now)) ∧ ∃ c', BK w0 w' c' i m (changeL m l1 l2 id q p now) l2 g ∧ TurnedL c c' [i, (i + 1), (i + 2), (i + 3), (i + 4)] w0 W w' := by
  obtain ⟨A1, k1, A2, k2, hb1, hb2, hb3⟩ := h
  have HLN := Aside0.mk hl
  have HM := Aside0.mk hm
  have hl400 : l1.length ≤ 400 := hl.1
  have HG := Aside0.mk (blk_lt (blk_at hb1))
  have HPF := Aside0.mk (pairs_f l1 (by omega))
  obtain ⟨gb, hgb⟩ : ∃ gb, goodP q p = gb := ⟨_, rfl⟩
  have GB := Aside0.mk hgb
  have HFC := Aside0.mk (find_cases id l1 0)
  obtain ⟨fv, hfv⟩ : ∃ fv, findE id l1 0 = fv := ⟨_, rfl⟩
  have FV := Aside0.mk hfv
  have HKO := Aside0.mk (show gb = true → Okl ((prs l1).set fv.toNat ⟨q, p⟩ ++ prs (ling now l2)) from fun h => okl_set hok1 (good_ok (hgb.trans h)) hok2)
  obtain ⟨ev, hev⟩ : ∃ ev, changeV m l1 l2 id q p now = ev := ⟨_, rfl⟩
  obtain ⟨el, hel⟩ : ∃ el, changeL m l1 l2 id q p now = el := ⟨_, rfl⟩
  have HEV := Aside0.mk (show ev = if gb = false ∨ now < 0 then 1 else if fv < 0 then 2 else if fitB m ((prs l1).set fv.toNat ⟨q, p⟩ ++ prs (ling now l2)) = true then 0 else 7 from by rw [← hev]; unfold changeV; rw [hgb, hfv])
  have HEL := Aside0.mk (show el = if ev = 0 then l1.set fv.toNat ⟨(l1.getD fv.toNat z4).f0, ⟨q, p⟩, (l1.getD fv.toNat z4).f2⟩ else l1 from by rw [← hel, ← hev]; unfold changeL; rw [hfv])
  rw [hev, hel]
  have M1 := Aside0.mk hb1
  have M2 := Aside0.mk hb2
  have M3 := Aside0.mk hb3
  have HB := Aside0.mk hB
  rw [hfv] at HFC
  clear hgb hfv hev hel hb1 hb2 hb3 hB hl hm hok1 hok2
  go_enter Try.func14, Try.ntmps14
  go_upto_region 1 with (fail)
  have hbx : Below W.heap.size W (W.alloc (.cells #[.int .i64 q, .int .i64 p] 24)) := below_alloc (Below.refl _ _) _
  have hX : (W.alloc (.cells #[.int .i64 q, .int .i64 p] 24)).heap[W.heap.size]? = some (.cells #[.int .i64 q, .int .i64 p] 24 (0, 0)) := by simpa using heap_alloc_new W _
  obtain ⟨c1, h1, t1⟩ := blk_new1 (w0 := W) (fun _ => 9) 3 (Nat.le_refl _) hX hbx (Nat.le_refl _)
  have HX1 := Aside0.mk h1
  have B1 := Aside0.mk hbx
  clear h1 t1 hX hbx
  generalize W.alloc (.cells #[.int .i64 q, .int .i64 p] 24) = w1 at HX1 B1 ⊢
  cases gb with
  | false =>
    have HV := Aside0.mk (show ev = 1 from by rw [HEV.out, if_pos (Or.inl rfl)])
    have HVL := Aside0.mk (show el = l1 from by rw [HEL.out, HV.out, if_neg (by decide)])
    have y0 := blk_cell (blk_at HX1.out) 0
    have y1 := blk_cell (blk_at HX1.out) 1
    go_wp2_with (first | (go_at_call 22; (with_reducible refine (win_Good.calls q p _ _ (good_f q p)).mono ?_); rintro e w2 ⟨rfl, hb2⟩; rw [GB.out]; have HX2 := Aside0.mk (St.below (s := blk) HX1.out hb2); have B2 := Aside0.mk (Below.trans B1.out (Below.mono hb2 (Below.size B1.out))); clear hb2; clear y0 y1))
    go_ret
    exact ⟨by rw [HV.out]; rfl, c, by rw [HVL.out]; exact BK.below ⟨_, _, _, _, M1.out, M2.out, M3.out⟩ B2.out, (TurnedL.refl c _ w0 W).below B2.out⟩
  | true =>
    by_cases hn : now < 0
    · have pn : decide (now < 0) = true := decide_eq_true hn
      have HV := Aside0.mk (show ev = 1 from by rw [HEV.out, if_pos (Or.inr hn)])
      have HVL := Aside0.mk (show el = l1 from by rw [HEL.out, HV.out, if_neg (by decide)])
      clear hn
      have y0 := blk_cell (blk_at HX1.out) 0
      have y1 := blk_cell (blk_at HX1.out) 1
      go_wp2_with (first | (go_at_call 22; (with_reducible refine (win_Good.calls q p _ _ (good_f q p)).mono ?_); rintro e w2 ⟨rfl, hb2⟩; rw [GB.out]; have HX2 := Aside0.mk (St.below (s := blk) HX1.out hb2); have B2 := Aside0.mk (Below.trans B1.out (Below.mono hb2 (Below.size B1.out))); clear hb2; clear y0 y1))
      go_ret
      exact ⟨by rw [HV.out]; rfl, c, by rw [HVL.out]; exact BK.below ⟨_, _, _, _, M1.out, M2.out, M3.out⟩ B2.out, (TurnedL.refl c _ w0 W).below B2.out⟩
    have pn : decide (now < 0) = false := decide_eq_false hn
    have HE2 := Aside0.mk (show ev = if fv < 0 then 2 else if fitB m ((prs l1).set fv.toNat ⟨q, p⟩ ++ prs (ling now l2)) = true then 0 else 7 from by rw [HEV.out, if_neg (by rintro (h | h); cases h; exact hn h)])
    clear hn
    rcases HFC.out with ⟨k, hkl, hfe, -, -⟩ | ⟨hfe, -⟩
    rotate_left
    · subst hfe
      have HV := Aside0.mk (show ev = 2 from by rw [HE2.out, if_pos (by decide)])
      have HVL := Aside0.mk (show el = l1 from by rw [HEL.out, HV.out, if_neg (by decide)])
      have y0 := blk_cell (blk_at HX1.out) 0
      have y1 := blk_cell (blk_at HX1.out) 1
      go_wp2_with (first | (go_at_call 22; (with_reducible refine (win_Good.calls q p _ _ (good_f q p)).mono ?_); rintro e w2 ⟨rfl, hb2⟩; rw [GB.out]; have HX2 := Aside0.mk (St.below (s := blk) HX1.out hb2); have B2 := Aside0.mk (Below.trans B1.out (Below.mono hb2 (Below.size B1.out))); clear hb2; clear y0 y1) | (go_at_call 23; (with_reducible refine (find_calls id ((B2.out.block g HG.out).trans (blk_at M1.out)) (Kd.C_below (row_C M2.out) B2.out) (by have := HLN.out; omega)).mono ?_); rintro e w3 ⟨rfl, hb3⟩; rw [FV.out]; have HX3 := Aside0.mk (St.below (s := blk) HX2.out hb3); have B3 := Aside0.mk (Below.trans B2.out (Below.mono hb3 (Below.size B2.out))); clear hb3))
      go_ret
      exact ⟨by rw [HV.out]; rfl, c, by rw [HVL.out]; exact BK.below ⟨_, _, _, _, M1.out, M2.out, M3.out⟩ B3.out, (TurnedL.refl c _ w0 W).below B3.out⟩
    rw [Nat.zero_add] at hfe
    subst hfe
    have hk0 : 0 < l1.length := by omega
    obtain ⟨gl, kk, hA, -⟩ := Kd.R_form M2.out hk0
    injection hA with hA1 hA2 hA3
    subst hA1
    subst hA3
    clear hA2
    have bk : (0 ≤ (k : Int) ∧ (k : Int) < (l1.length : Int)) := by omega
    have pk : decide ((k : Int) < 0) = false := decide_eq_false (by omega)
    have HOK := Aside0.mk (HKO.out rfl)
    rw [Int.toNat_natCast] at HOK HE2 HEL
    have HE3 := Aside0.mk (show ev = if fitB m ((prs l1).set k ⟨q, p⟩ ++ prs (ling now l2)) = true then 0 else 7 from by rw [HE2.out, if_neg (by omega)])
    obtain ⟨ps, hps⟩ : ∃ ps, (prs l1).set k ⟨q, p⟩ = ps := ⟨_, rfl⟩
    have HPS := Aside0.mk hps
    have HPL := Aside0.mk (show (prs l1).length = ps.length from by rw [← hps, List.length_set])
    have HPN := Aside0.mk (show ps.length ≤ 400 from by rw [← hps, List.length_set, prs_len]; exact hl400)
    rw [hps] at HE3 HOK
    obtain ⟨fb, hfb⟩ : ∃ fb, fitB m (ps ++ prs (ling now l2)) = fb := ⟨_, rfl⟩
    have HFB := Aside0.mk hfb
    rw [hfb] at HE3
    clear hps hfb HKO HEV HE2 HFC
    cases fb with
    | false =>
      have HV := Aside0.mk (show ev = 7 from by rw [HE3.out, if_neg Bool.false_ne_true])
      have HVL := Aside0.mk (show el = l1 from by rw [HEL.out, HV.out, if_neg (by decide)])
      have y0 := blk_cell (blk_at HX1.out) 0
      have y1 := blk_cell (blk_at HX1.out) 1
      go_upto_region 7 with (first | (go_at_call 22; (with_reducible refine (win_Good.calls q p _ _ (good_f q p)).mono ?_); rintro e w2 ⟨rfl, hb2⟩; rw [GB.out]; have HX2 := Aside0.mk (St.below (s := blk) HX1.out hb2); have B2 := Aside0.mk (Below.trans B1.out (Below.mono hb2 (Below.size B1.out))); clear hb2; clear y0 y1) | (go_at_call 23; (with_reducible refine (find_calls id ((B2.out.block g HG.out).trans (blk_at M1.out)) (Kd.C_below (row_C M2.out) B2.out) (by have := HLN.out; omega)).mono ?_); rintro e w3 ⟨rfl, hb3⟩; rw [FV.out]; have HX3 := Aside0.mk (St.below (s := blk) HX2.out hb3); have B3 := Aside0.mk (Below.trans B2.out (Below.mono hb3 (Below.size B2.out))); clear hb3; have z9 := blk_cell ((B3.out.block g HG.out).trans (blk_at M1.out)) 1) | (go_at_call 27; (with_reducible refine (admit_pairs.calls (l1.length + 1) (some ⟨gl, 0, none⟩) k1 l1 (prs l1) _ (Kd.C_below (row_C M2.out) B3.out) (row_le M2.out) HPF.out).mono ?_); rintro e w4 ⟨v4, rfl, r4, b4⟩; obtain ⟨c4, h4, t4⟩ := row_got (w0 := W) c1 1 r4 b4 (Below.size B3.out); obtain ⟨g4, k4, rfl, -⟩ := Kd.R_form r4 (by rw [prs_len]; exact hk0); have HP4 := Aside0.mk (show (row 24 k24).M w4 W.heap.size (fun k => c4 k = 1) (prs l1) (.slice (some ⟨g4, 0, none⟩) (prs l1).length k4) from h4); have HX4 := Aside0.mk (t4.keep _ (blk) 3 _ _ (by decide) HX3.out); have B4 := Aside0.mk (t4.far B3.out); clear r4 b4 h4 t4 z9))
      have y0 := blk_cell (blk_at HX4.out) 0
      have y1 := blk_cell (blk_at HX4.out) 1
      obtain ⟨⟨u0, z0⟩, f0⟩ := p_set_at HP4.out (j := k) (f := 0) (by rw [prs_len]; exact hkl) (by decide)
      obtain ⟨⟨u1, z1⟩, f1⟩ := p_set_at HP4.out (j := k) (f := 1) (by rw [prs_len]; exact hkl) (by decide)
      rw [Nat.add_zero] at z0 f0
      have bk2 : (0 ≤ (k : Int) ∧ (k : Int) < ((prs l1).length : Int)) := by rw [prs_len]; omega
      go_upto_region 8 with (fail)
      clear bk2 z0 z1 f0 f1 y0 y1
      obtain ⟨c5, h5, t5⟩ := pair_C24 q p HP4.out (j := k) (by rw [prs_len]; exact hkl) (Below.size B4.out)
      rw [HPS.out] at h5
      rw [HPL.out] at h5 ⊢
      generalize (w4.setCell ⟨g4, k * 2, none⟩ (.int .i64 q)).setCell ⟨g4, k * 2 + 1, none⟩ (.int .i64 p) = w5 at h5 t5 ⊢
      have HP5 := Aside0.mk (show (row 24 k24).M w5 W.heap.size (fun k => c5 k = 1) ps (.slice (some ⟨g4, 0, none⟩) ps.length k4) from h5)
      have HX5 := Aside0.mk (t5.keep _ (blk) 3 _ _ (by decide) HX4.out)
      have B5 := Aside0.mk (t5.far B4.out)
      clear h5 t5
      go_wp2_with (first | (go_at_call 26; (with_reducible refine (fits_calls (w0 := W) (c := c5) (j := 1) (m := m) (sv1 := .slice (some ⟨gl, 0, none⟩) l1.length k1) (A2 := A2) (k2 := k2) (l2 := l2) (ps := ps) now (blk_at M1.out) (row_C M3.out) (by have := HLN.out; omega) B5.out HP5.out (by have := HLN.out; have := HPN.out; omega) HM.out HOK.out).mono ?_); rintro e w6 ⟨rfl, c6, t6⟩; rw [HFB.out]; have HX6 := Aside0.mk (t6.keep _ blk 3 _ _ (by decide) HX5.out); have B6 := Aside0.mk (t6.far B5.out); clear t6))
      go_ret
      exact ⟨by rw [HV.out]; rfl, c, by rw [HVL.out]; exact BK.below ⟨_, _, _, _, M1.out, M2.out, M3.out⟩ B6.out, (TurnedL.refl c _ w0 W).below B6.out⟩
    | true =>
      have HV := Aside0.mk (show ev = 0 from by rw [HE3.out, if_pos rfl])
      obtain ⟨ls, hls⟩ : ∃ ls, l1.set k ⟨(l1.getD k z4).f0, ⟨q, p⟩, (l1.getD k z4).f2⟩ = ls := ⟨_, rfl⟩
      have HLE := Aside0.mk hls
      have HLL := Aside0.mk (show l1.length = ls.length from by rw [← hls, List.length_set])
      have HVL := Aside0.mk (show el = ls from by rw [HEL.out, HV.out, if_pos rfl, hls])
      clear hls
      have y0 := blk_cell (blk_at HX1.out) 0
      have y1 := blk_cell (blk_at HX1.out) 1
      go_upto_region 7 with (first | (go_at_call 22; (with_reducible refine (win_Good.calls q p _ _ (good_f q p)).mono ?_); rintro e w2 ⟨rfl, hb2⟩; rw [GB.out]; have HX2 := Aside0.mk (St.below (s := blk) HX1.out hb2); have B2 := Aside0.mk (Below.trans B1.out (Below.mono hb2 (Below.size B1.out))); clear hb2; clear y0 y1) | (go_at_call 23; (with_reducible refine (find_calls id ((B2.out.block g HG.out).trans (blk_at M1.out)) (Kd.C_below (row_C M2.out) B2.out) (by have := HLN.out; omega)).mono ?_); rintro e w3 ⟨rfl, hb3⟩; rw [FV.out]; have HX3 := Aside0.mk (St.below (s := blk) HX2.out hb3); have B3 := Aside0.mk (Below.trans B2.out (Below.mono hb3 (Below.size B2.out))); clear hb3; have z9 := blk_cell ((B3.out.block g HG.out).trans (blk_at M1.out)) 1) | (go_at_call 27; (with_reducible refine (admit_pairs.calls (l1.length + 1) (some ⟨gl, 0, none⟩) k1 l1 (prs l1) _ (Kd.C_below (row_C M2.out) B3.out) (row_le M2.out) HPF.out).mono ?_); rintro e w4 ⟨v4, rfl, r4, b4⟩; obtain ⟨c4, h4, t4⟩ := row_got (w0 := W) c1 1 r4 b4 (Below.size B3.out); obtain ⟨g4, k4, rfl, -⟩ := Kd.R_form r4 (by rw [prs_len]; exact hk0); have HP4 := Aside0.mk (show (row 24 k24).M w4 W.heap.size (fun k => c4 k = 1) (prs l1) (.slice (some ⟨g4, 0, none⟩) (prs l1).length k4) from h4); have HX4 := Aside0.mk (t4.keep _ (blk) 3 _ _ (by decide) HX3.out); have B4 := Aside0.mk (t4.far B3.out); clear r4 b4 h4 t4 z9))
      have y0 := blk_cell (blk_at HX4.out) 0
      have y1 := blk_cell (blk_at HX4.out) 1
      obtain ⟨⟨u0, z0⟩, f0⟩ := p_set_at HP4.out (j := k) (f := 0) (by rw [prs_len]; exact hkl) (by decide)
      obtain ⟨⟨u1, z1⟩, f1⟩ := p_set_at HP4.out (j := k) (f := 1) (by rw [prs_len]; exact hkl) (by decide)
      rw [Nat.add_zero] at z0 f0
      have bk2 : (0 ≤ (k : Int) ∧ (k : Int) < ((prs l1).length : Int)) := by rw [prs_len]; omega
      go_upto_region 8 with (fail)
      clear bk2 z0 z1 f0 f1 y0 y1
      obtain ⟨c5, h5, t5⟩ := pair_C24 q p HP4.out (j := k) (by rw [prs_len]; exact hkl) (Below.size B4.out)
      rw [HPS.out] at h5
      rw [HPL.out] at h5 ⊢
      generalize (w4.setCell ⟨g4, k * 2, none⟩ (.int .i64 q)).setCell ⟨g4, k * 2 + 1, none⟩ (.int .i64 p) = w5 at h5 t5 ⊢
      have HP5 := Aside0.mk (show (row 24 k24).M w5 W.heap.size (fun k => c5 k = 1) ps (.slice (some ⟨g4, 0, none⟩) ps.length k4) from h5)
      have HX5 := Aside0.mk (t5.keep _ (blk) 3 _ _ (by decide) HX4.out)
      have B5 := Aside0.mk (t5.far B4.out)
      clear h5 t5
      go_upto_region 10 with (first | (go_at_call 26; (with_reducible refine (fits_calls (w0 := W) (c := c5) (j := 1) (m := m) (sv1 := .slice (some ⟨gl, 0, none⟩) l1.length k1) (A2 := A2) (k2 := k2) (l2 := l2) (ps := ps) now (blk_at M1.out) (row_C M3.out) (by have := HLN.out; omega) B5.out HP5.out (by have := HLN.out; have := HPN.out; omega) HM.out HOK.out).mono ?_); rintro e w6 ⟨rfl, c6, t6⟩; rw [HFB.out]; have HX6 := Aside0.mk (t6.keep _ blk 3 _ _ (by decide) HX5.out); have B6 := Aside0.mk (t6.far B5.out); clear t6))
      have y0 := blk_cell (blk_at HX6.out) 0
      have y1 := blk_cell (blk_at HX6.out) 1
      have M16 := Aside0.mk (St.below (s := blk) M1.out B6.out)
      have M26 := Aside0.mk (St.below (s := row 37 k37) M2.out B6.out)
      have M36 := Aside0.mk (St.below (s := row 37 k37) M3.out B6.out)
      have F6 := Aside0.mk (Below.trans HB.out (Below.mono B6.out (Below.size HB.out)))
      have z9 := blk_cell (blk_at M16.out) 1
      obtain ⟨⟨u1, z1⟩, f1⟩ := e_set_at M26.out (j := k) (f := 1) hkl (by decide)
      obtain ⟨⟨u2, z2⟩, f2⟩ := e_set_at M26.out (j := k) (f := 2) hkl (by decide)
      have n0 : W.heap.size ≠ gl := by have := row_lt M2.out; omega
      have n1 : gl ≠ W.heap.size := fun e => n0 e.symm
      go_region
      go_wp2
      go_ret
      obtain ⟨c7, h7, t7⟩ := pair_C37 q p M26.out hkl (Below.size F6.out)
      generalize (w6.setCell ⟨gl, k * 4 + 1, none⟩ (.int .i64 q)).setCell ⟨gl, k * 4 + 1 + 1, none⟩ (.int .i64 p) = w7 at h7 t7 ⊢
      have T7 := ((TurnedL.refl c [i, (i + 1), (i + 2), (i + 3), (i + 4)] w0 W).below B6.out).step t7 (by simp)
      have K7 := t7.keep _ blk i _ _ (by omega) M16.out
      have O7 := t7.keep _ (row 37 k37) (i + 2) _ _ (by omega) M36.out
      rw [HLE.out] at h7
      have bd : Below w7.heap.size w7 w7.drew := below_drew (Below.refl _ _)
      exact ⟨by rw [HV.out]; rfl, c7, by rw [HVL.out]; exact BK.below (BK.mk' K7 h7 O7 HLL.out) bd, T7.below bd⟩
end Go.Proofs.Ytmjodeijafoabaa.Admit
