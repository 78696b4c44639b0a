/-
 Rows of rationals in memory; the least and the greatest of some.
-/
import Derived.Test.YthmncdhibcoiaaaGreatSqz
import Derived.Test.YthmncdhibcoiaaaGreatIvD
namespace Go.Rt
open Go Go.RowKit Go.Proofs

instance lasts_cell {p : Addr} {v : Value} : Nonempty (Lasts (fun W => World.cell? W p = some v)) := ⟨fun _ _ h hE => Ext.cell hE h⟩

/-- a rational's three cells -/
def CellsR (W : World) (b k : Nat) (x : Rat) : Prop := ∃ (s : Bool) (a : Option Addr) (n c : Nat) (d : Option Addr) (m o : Nat), W.cell? ⟨b, k, none⟩ = some (.bool s) ∧ W.cell? ⟨b, k + 1, none⟩ = some (.slice a n c) ∧ W.cell? ⟨b, k + 2, none⟩ = some (.slice d m o) ∧ Rw W (.agg #[.bool s, .slice a n c, .slice d m o]) x

theorem CellsR.ext {W W' : World} {b k : Nat} {x : Rat} (h : CellsR W b k x) (hE : Ext W W') : CellsR W' b k x :=
 let ⟨s, a, n, c, d, m, o, h1, h2, h3, h4⟩ := h; ⟨s, a, n, c, d, m, o, hE.cell h1, hE.cell h2, hE.cell h3, h4.ext hE⟩

theorem CellsR.wr {W W' : World} {b k g : Nat} {x : Rat} (h : CellsR W b k x) (hw : Wr g W W') (hg : b ≠ g) : CellsR W' b k x :=
 let ⟨s, a, n, c, d, m, o, h1, h2, h3, h4⟩ := h; ⟨s, a, n, c, d, m, o, hw.apart.cell (by simpa using hg) h1, hw.apart.cell (by simpa using hg) h2, hw.apart.cell (by simpa using hg) h3, h4.wr hw⟩

def atQ (l : List Rat) (i : Nat) : Rat := l.getD i 0

/-- a row of rationals from block b's first cell on -/
def RowR (W : World) (b : Nat) (l : List Rat) : Prop := ∀ i, i < l.length → CellsR W b (i * 3) (atQ l i)

theorem RowR.ext {W W' : World} {b : Nat} {l : List Rat} (h : RowR W b l) (hE : Ext W W') : RowR W' b l := fun i hi => (h i hi).ext hE

theorem RowR.wr {W W' : World} {b g : Nat} {l : List Rat} (h : RowR W b l) (hw : Wr g W W') (hg : b ≠ g) : RowR W' b l := fun i hi => (h i hi).wr hw hg

def minQ (l : List Rat) : Nat → Rat
 | 0 => atQ l 0
 | i + 1 => if atQ l (i + 1) < minQ l i then atQ l (i + 1) else minQ l i

def maxQ (l : List Rat) : Nat → Rat
 | 0 => atQ l 0
 | i + 1 => if maxQ l i < atQ l (i + 1) then atQ l (i + 1) else maxQ l i

theorem atQ_mem {l : List Rat} {i : Nat} (h : i < l.length) : atQ l i ∈ l := by
 unfold atQ
 rw [List.getD_eq_getElem?_getD, List.getElem?_eq_getElem h]
 exact List.getElem_mem h

theorem minQ_mem {l : List Rat} {i : Nat} (h : i < l.length) : minQ l i ∈ l := by
 induction i with
 | zero => exact atQ_mem h
 | succ i ih =>
  unfold minQ
  split
  ·exact atQ_mem h
  ·exact ih (by omega)

theorem maxQ_mem {l : List Rat} {i : Nat} (h : i < l.length) : maxQ l i ∈ l := by
 induction i with
 | zero => exact atQ_mem h
 | succ i ih =>
  unfold maxQ
  split
  ·exact atQ_mem h
  ·exact ih (by omega)

theorem cmpR_gt0 {x y : Rat} : 0 < cmpR x y ↔ y < x := by
 rw [cmpR_swap y x, ← cmpR_lt0 (x := y) (y := x)]
 omega

set_option maxRecDepth 100000 in
set_option maxHeartbeats 8000000 in
theorem Tryz.minF {b c L : Nat} {l : List Rat} {w : World} (h : RowR w b l) (hb : b < w.heap.size) (hn : 0 < l.length) (hn2 : l.length ≤ 1000) (hs : ∀ x ∈ l, SmR L x) (hL : L ≤ 1000) :
  Calls Tryz.prog 117 #[.slice (some ⟨b, 0, none⟩) l.length c, .func (.func 43) #[] #[]] w fun e w' => ∃ v', e = .returned v' ∧ Rw w' v' (minQ l (l.length - 1)) ∧ Ext w w' := by
 obtain ⟨n, hln⟩ : ∃ n, n = l.length := ⟨_, rfl⟩
 rw [← hln] at hn hn2 ⊢
 have HLN := Lib.hid hln
 have hl0 : 0 < l.length := by omega
 have HN := Lib.hid (And.intro hn hn2)
 have hn1 : ¬ (n : Int) < 1 := by omega
 have hn63 : n ≤ 1000 := hn2
 clear hln hn hn2
 obtain ⟨W0, hW0⟩ : ∃ W0, W0 = w.alloc (.cells #[.bool false, .slice none 0 0, .slice none 0 0] 27) := ⟨_, rfl⟩
 have E0 : Ext w W0 := by rw [hW0]; exact Ext.alloc1 _ _
 have p4 : Bx3 W0 w.heap.size 27 (.bool false) (.slice none 0 0) (.slice none 0 0) := by rw [hW0]; exact Bx3.new _ _ _ _ _
 obtain ⟨s0, a0, n0, c0, d0, m0, o0, k0, k1, k2, hr0⟩ := (h.ext E0) 0 hl0
 rw [Nat.zero_mul, Nat.zero_add] at k1 k2
 rw [Nat.zero_mul] at k0
 clear hl0
 go_enter Tryz.func117, Tryz.ntmps117
 go_upto_region 3 with (fail)
 rw [← hW0]
 clear hW0
 obtain ⟨W1, hW1⟩ : ∃ W1, W1 = W0.alloc (.cells #[.bool s0, .slice a0 n0 c0, .slice d0 m0 o0] 27) := ⟨_, rfl⟩
 obtain ⟨g5, hg5⟩ : ∃ g, g = W0.heap.size := ⟨_, rfl⟩
 obtain ⟨g4, hg4⟩ : ∃ g, g = w.heap.size := ⟨_, rfl⟩
 have hE : Ext W0 W1 := by rw [hW1]; exact Ext.alloc1 _ _
 have p5 : Bx3 W1 g5 27 (.bool s0) (.slice a0 n0 c0) (.slice d0 m0 o0) := by rw [hW1, hg5]; exact Bx3.new _ _ _ _ _
 have HG : Hid (g4 < g5 ∧ w.heap.size ≤ g4 ∧ b < g4) := Lib.hid ⟨by rw [hg4, hg5]; exact p4.lt, by rw [hg4]; exact Nat.le_refl _, by rw [hg4]; exact hb⟩
 rw [← hg4] at p4
 go_upto_region 4 with (fail)
 rw [← hW1, ← hg5, ← hg4]
 replace p4 := p4.ext hE; replace hr0 := hr0.ext hE; replace E0 := E0.trans hE; clear hW1 hg5 hg4 hE k0 k1 k2 hb
 go_wp2_with fail
 go_loopw [6] (fun i wr => ∃ (k : Nat) (s : Bool) (a : Option Addr) (n' c' : Nat) (d : Option Addr) (m o : Nat), i = .int .i64 ((k + 1 : Nat) : Int) ∧ k + 1 ≤ n ∧ Bx3 wr g5 27 (.bool s) (.slice a n' c') (.slice d m o) ∧ Rw wr (.agg #[.bool s, .slice a n' c', .slice d m o]) (minQ l k) ∧ Bx3 wr g4 27 (.bool false) (.slice none 0 0) (.slice none 0 0) ∧ Ext w wr) (fun i _ => n - (intOf i).toNat)
 case atStart => exact ⟨0, _, _, _, _, _, _, _, rfl, by have := HN.out.1; omega, p5, hr0, p4, E0⟩
 case round =>
  clear p5 hr0 p4 E0
  obtain ⟨k, s, a, n', c', d, m, o, rfl, hk, p5, hr, p4, E0⟩ := hrel
  obtain ⟨j, hj⟩ : ∃ j, j = k + 1 := ⟨_, rfl⟩
  rw [← hj] at hk ⊢
  have HJ := Lib.hid hj
  clear hj
  by_cases hlt : j < n
  ·have hltI : (j : Int) < (n : Int) := by omega
   have hj63 : (j : Int) < 9223372036854775807 := by omega
   obtain ⟨s1, a1, n1, c1, d1, m1, o1, k0, k1, k2, hr1⟩ := (h.ext E0) j (by have := HLN.out; omega)
   have HSM : Hid (SmR L (atQ l j) ∧ SmR L (minQ l k)) := Lib.hid ⟨hs _ (atQ_mem (by have := HLN.out; omega)), hs _ (minQ_mem (by have := HLN.out; have := HJ.out; omega))⟩
   obtain ⟨cx, hcx⟩ : ∃ c, cmpR (atQ l j) (minQ l k) = c := ⟨_, rfl⟩
   have HCC := Lib.hid hcx
   clear h hn63
   by_cases hc : atQ l j < minQ l k
   ·have HCD : Hid (decide (cx < 0) = true) := Lib.hid (decide_eq_true (by rw [← hcx]; exact cmpR_lt0.2 hc))
    have HV : Hid (minQ l j = atQ l j) := Lib.hid (by rw [HJ.out] at hc ⊢; exact if_pos hc)
    clear hcx hc
    obtain ⟨kp5_0, kp5_1, kp5_2⟩ := p5.c3
    obtain ⟨kp4_0, kp4_1, kp4_2⟩ := p4.c3
    go_upto_region 7 with (fail)
    clear kp5_0 kp5_1 kp5_2 kp4_0 kp4_1 kp4_2; have ltp5 := p5.lt; have ltp4 := p4.lt; have szw1 := Ext.size E0
    refine region_gs [.one fun v _ => v = .func (.func 43) #[] #[],
      .one fun v _ => v = .slice (some ⟨b, 0, none⟩) n c,
      .one fun v _ => v = .int .i64 (j : Int),
      .one fun v _ => v = .pointer (some ⟨b, j * 3, none⟩),
      .one fun v _ => v = .agg #[.bool s1, .slice a1 n1 c1, .slice d1 m1 o1],
      .one fun v _ => v = .agg #[.bool s, .slice a n' c', .slice d m o],
      .one fun v _ => v = .int .i64 cx,
      .one fun v _ => v = .bool true]
     (fun W => Ext w W ∧ Bx3 W g5 27 (.bool s) (.slice a n' c') (.slice d m o) ∧ Bx3 W g4 27 (.bool false) (.slice none 0 0) (.slice none 0 0) ∧ Rw W (.agg #[.bool s, .slice a n' c', .slice d m o]) (minQ l k) ∧ Rw W (.agg #[.bool s1, .slice a1 n1 c1, .slice d1 m1 o1]) (atQ l j) ∧ World.cell? W ⟨b, j * 3, none⟩ = some (.bool s1) ∧ World.cell? W ⟨b, j * 3 + 1, none⟩ = some (.slice a1 n1 c1) ∧ World.cell? W ⟨b, j * 3 + 2, none⟩ = some (.slice d1 m1 o1) ∧ wr.heap.size ≤ W.heap.size) ⟨Good.is _, Good.is _, Good.is _, Good.is _, Good.is _, Good.is _, Good.is _, Good.is _, trivial⟩
     ⟨E0, p5, p4, hr, hr1, k0, k1, k2, Nat.le_refl _⟩ (A := ?A1) ?hA1 ?howe1 ?hfin1
    case hA1 =>
     intro vs
     simp only [putAll, Act.put, sA, sZ, sS, Nat.zero_add, Nat.reduceAdd]
     exact rfl
    case howe1 =>
     clear E0 p5 p4 hr hr1 k0 k1 k2
     intro hf
     refine ⟨oE 0 [] hf rfl ?_, oE 1 [] hf rfl ?_, oE 2 [] hf rfl ?_, oE 3 [1, 2] hf rfl ?_, oE 4 [3] hf rfl ?_, oE 5 [] hf rfl ?_, oE 6 [0, 4, 5] hf rfl ?_, oE 7 [6] hf rfl ?_, trivial⟩
     all_goals intro vs W hS hp hx KO hKO
     all_goals simp only [Act.put, sA, sZ, sS] at hKO
     ·go_simp; exact hKO _ W (.refl W) rfl
     ·go_simp; exact hKO _ W (.refl W) rfl
     ·go_simp; exact hKO _ W (.refl W) rfl
     ·have e1 := isOf hp.1; have e2 := isOf hp.2.1; simp only [e1, e2] at hKO; go_simp; exact hKO _ W (.refl W) rfl
     ·have e3 := isOf hp.1; simp only [e3] at hKO; have fc0 := hS.2.2.2.2.2.1; have fc1 := hS.2.2.2.2.2.2.1; have fc2 := hS.2.2.2.2.2.2.2.1; go_simp; exact hKO _ W (.refl W) rfl
     ·have fc0 := hS.2.1.cell0; have fc1 := hS.2.1.cell1; have fc2 := hS.2.1.cell2; go_simp; exact hKO _ W (.refl W) rfl
     ·have e0 := isOf hp.1; have e4 := isOf hp.2.1; have e5 := isOf hp.2.2.1; simp only [e0, e4, e5] at hKO; go_simp
      refine (Tryz.ratCmpR (hS.2.2.2.2.1) (hS.2.2.2.1) HSM.out.1 HSM.out.2 hL HCC.out).mono ?_
      rintro e W1 ⟨rfl, hE⟩
      exact hKO _ W1 hE rfl
     ·have e6 := isOf hp.1; simp only [e6] at hKO; go_simp; exact hKO _ W (Ext.refl W) (by first | rfl | exact congrArg Value.bool HCD.out)
    intro vs W1 hS hp
    clear szw1 E0 p5 p4 hr hr1 k0 k1 k2
    obtain ⟨E0, p5, p4, hr, hr1, k0, k1, k2, sz1⟩ := hS
    obtain ⟨h1_0, h1_1, h1_2, h1_3, h1_4, h1_5, h1_6, h1_7, -⟩ := hp
    replace h1_0 : vs 0 = .func (.func 43) #[] #[] := h1_0
    replace h1_1 : vs 1 = .slice (some ⟨b, 0, none⟩) n c := h1_1
    replace h1_2 : vs 2 = .int .i64 (j : Int) := h1_2
    replace h1_3 : vs 3 = .pointer (some ⟨b, j * 3, none⟩) := h1_3
    replace h1_4 : vs 4 = .agg #[.bool s1, .slice a1 n1 c1, .slice d1 m1 o1] := h1_4
    replace h1_5 : vs 5 = .agg #[.bool s, .slice a n' c', .slice d m o] := h1_5
    replace h1_6 : vs 6 = .int .i64 cx := h1_6
    replace h1_7 : vs 7 = .bool true := h1_7
    simp only [h1_0, h1_1, h1_2, h1_3, h1_4, h1_5, h1_6, h1_7]
    clear h1_0 h1_1 h1_2 h1_3 h1_4 h1_5 h1_6 h1_7
    have hg := HG.out
    obtain ⟨kp5_0, kp5_1, kp5_2⟩ := p5.c3
    obtain ⟨kp4_0, kp4_1, kp4_2⟩ := p4.c3
    go_upto_region 8 with (fail)
    clear kp5_0 kp5_1 kp5_2 kp4_0 kp4_1 kp4_2; have fp5 := p5.form; have szw2 := Ext.size E0
    refine region_gs [.one fun v _ => v = .slice (some ⟨b, 0, none⟩) n c,
      .one fun v _ => v = .int .i64 (j : Int),
      .one fun v _ => v = .pointer (some ⟨b, j * 3, none⟩),
      .one fun v _ => v = .agg #[.bool s1, .slice a1 n1 c1, .slice d1 m1 o1],
      .own fun W => Bx3 W g5 27 (.bool s1) (.slice a1 n1 c1) (.slice d1 m1 o1)]
     (fun W => Ext w W ∧ Form W g5 27 3 ∧ Bx3 W g4 27 (.bool false) (.slice none 0 0) (.slice none 0 0) ∧ Rw W (.agg #[.bool s, .slice a n' c', .slice d m o]) (minQ l k) ∧ Rw W (.agg #[.bool s1, .slice a1 n1 c1, .slice d1 m1 o1]) (atQ l j) ∧ World.cell? W ⟨b, j * 3, none⟩ = some (.bool s1) ∧ World.cell? W ⟨b, j * 3 + 1, none⟩ = some (.slice a1 n1 c1) ∧ World.cell? W ⟨b, j * 3 + 2, none⟩ = some (.slice d1 m1 o1) ∧ W1.heap.size ≤ W.heap.size) ⟨Good.is _, Good.is _, Good.is _, Good.is _, cert_bx3, trivial⟩
     ⟨E0, fp5, p4, hr, hr1, k0, k1, k2, Nat.le_refl _⟩ (A := ?A2) ?hA2 ?howe2 ?hfin2
    case hA2 =>
     intro vs
     simp only [putAll, Act.put, sA, sZ, sS, Nat.zero_add, Nat.reduceAdd]
     exact rfl
    case howe2 =>
     clear E0 fp5 p4 hr hr1 k0 k1 k2
     intro hf
     refine ⟨oE 0 [] hf rfl ?_, oE 1 [] hf rfl ?_, oE 2 [0, 1] hf rfl ?_, oE 3 [2] hf rfl ?_, oW 4 [3] hf rfl ?_, trivial⟩
     all_goals intro vs W hS hp hx KO hKO
     all_goals simp only [Act.put, sA, sZ, sS] at hKO
     ·go_simp; exact hKO _ W (.refl W) rfl
     ·go_simp; exact hKO _ W (.refl W) rfl
     ·have e0 := isOf hp.1; have e1 := isOf hp.2.1; simp only [e0, e1] at hKO; go_simp; exact hKO _ W (.refl W) rfl
     ·have e2 := isOf hp.1; simp only [e2] at hKO; have fc0 := hS.2.2.2.2.2.1; have fc1 := hS.2.2.2.2.2.2.1; have fc2 := hS.2.2.2.2.2.2.2.1; go_simp; exact hKO _ W (.refl W) rfl
     ·have e3 := isOf hp.1; simp only [e3] at hKO
      have hf := hS.2.1
      obtain ⟨x0_0, x0_1, x0_2, hx, hno⟩ := hf.bx3
      have r0 := hx.froz0
      have t0 := hx.cell0
      have r1 := hx.froz1
      have t1 := hx.cell1
      have r2 := hx.froz2
      have t2 := hx.cell2
      have hw := Wr.set3 hx hno s1 a1 n1 c1 d1 m1 o1
      have hq := hx.set (.bool s1) (.slice a1 n1 c1) (.slice d1 m1 o1)
      have hg : g5 ≤ g5 := Nat.le_refl _
      go_simp
      exact hKO _ _ hw ⟨(Ext.wr hS.1 hw (by omega)), (hS.2.1.wr hw), (hS.2.2.1.wr hw (by omega)), (hS.2.2.2.1.wr hw), (hS.2.2.2.2.1.wr hw), (hw.apart.cell (by simp; omega) hS.2.2.2.2.2.1), (hw.apart.cell (by simp; omega) hS.2.2.2.2.2.2.1), (hw.apart.cell (by simp; omega) hS.2.2.2.2.2.2.2.1), (Nat.le_trans hS.2.2.2.2.2.2.2.2 hw.apart.size)⟩ hq
    intro vs W2 hS hp
    clear szw2 E0 fp5 p4 hr hr1 k0 k1 k2
    obtain ⟨E0, fp5, p4, hr, hr1, k0, k1, k2, sz2⟩ := hS
    obtain ⟨h2_0, h2_1, h2_2, h2_3, h2_4, -⟩ := hp
    have p2_4 : Bx3 W2 g5 27 (.bool s1) (.slice a1 n1 c1) (.slice d1 m1 o1) := h2_4
    replace h2_0 : vs 0 = .slice (some ⟨b, 0, none⟩) n c := h2_0
    replace h2_1 : vs 1 = .int .i64 (j : Int) := h2_1
    replace h2_2 : vs 2 = .pointer (some ⟨b, j * 3, none⟩) := h2_2
    replace h2_3 : vs 3 = .agg #[.bool s1, .slice a1 n1 c1, .slice d1 m1 o1] := h2_3
    simp only [h2_0, h2_1, h2_2, h2_3]
    clear h2_0 h2_1 h2_2 h2_3; clear hg; go_wp2
    go_roundw
    case rel => exact ⟨j, _, _, _, _, _, _, _, by go_num, by omega, p2_4, by rw [HV.out]; exact hr1, p4, E0⟩
    case measure => simp [intOf]; omega
   ·have HCD : Hid (decide (cx < 0) = false) := Lib.hid (decide_eq_false (by rw [← hcx]; exact fun h => hc (cmpR_lt0.1 h)))
    have HV : Hid (minQ l j = minQ l k) := Lib.hid (by rw [HJ.out] at hc ⊢; exact if_neg hc)
    clear hcx hc
    obtain ⟨kp5_0, kp5_1, kp5_2⟩ := p5.c3
    obtain ⟨kp4_0, kp4_1, kp4_2⟩ := p4.c3
    go_upto_region 7 with (fail)
    clear kp5_0 kp5_1 kp5_2 kp4_0 kp4_1 kp4_2; have ltp5 := p5.lt; have ltp4 := p4.lt; have szw3 := Ext.size E0
    refine region_gs [.one fun v _ => v = .func (.func 43) #[] #[],
      .one fun v _ => v = .slice (some ⟨b, 0, none⟩) n c,
      .one fun v _ => v = .int .i64 (j : Int),
      .one fun v _ => v = .pointer (some ⟨b, j * 3, none⟩),
      .one fun v _ => v = .agg #[.bool s1, .slice a1 n1 c1, .slice d1 m1 o1],
      .one fun v _ => v = .agg #[.bool s, .slice a n' c', .slice d m o],
      .one fun v _ => v = .int .i64 cx,
      .one fun v _ => v = .bool false]
     (fun W => Ext w W ∧ Bx3 W g5 27 (.bool s) (.slice a n' c') (.slice d m o) ∧ Bx3 W g4 27 (.bool false) (.slice none 0 0) (.slice none 0 0) ∧ Rw W (.agg #[.bool s, .slice a n' c', .slice d m o]) (minQ l k) ∧ Rw W (.agg #[.bool s1, .slice a1 n1 c1, .slice d1 m1 o1]) (atQ l j) ∧ World.cell? W ⟨b, j * 3, none⟩ = some (.bool s1) ∧ World.cell? W ⟨b, j * 3 + 1, none⟩ = some (.slice a1 n1 c1) ∧ World.cell? W ⟨b, j * 3 + 2, none⟩ = some (.slice d1 m1 o1) ∧ wr.heap.size ≤ W.heap.size) ⟨Good.is _, Good.is _, Good.is _, Good.is _, Good.is _, Good.is _, Good.is _, Good.is _, trivial⟩
     ⟨E0, p5, p4, hr, hr1, k0, k1, k2, Nat.le_refl _⟩ (A := ?A3) ?hA3 ?howe3 ?hfin3
    case hA3 =>
     intro vs
     simp only [putAll, Act.put, sA, sZ, sS, Nat.zero_add, Nat.reduceAdd]
     exact rfl
    case howe3 =>
     clear E0 p5 p4 hr hr1 k0 k1 k2
     intro hf
     refine ⟨oE 0 [] hf rfl ?_, oE 1 [] hf rfl ?_, oE 2 [] hf rfl ?_, oE 3 [1, 2] hf rfl ?_, oE 4 [3] hf rfl ?_, oE 5 [] hf rfl ?_, oE 6 [0, 4, 5] hf rfl ?_, oE 7 [6] hf rfl ?_, trivial⟩
     all_goals intro vs W hS hp hx KO hKO
     all_goals simp only [Act.put, sA, sZ, sS] at hKO
     ·go_simp; exact hKO _ W (.refl W) rfl
     ·go_simp; exact hKO _ W (.refl W) rfl
     ·go_simp; exact hKO _ W (.refl W) rfl
     ·have e1 := isOf hp.1; have e2 := isOf hp.2.1; simp only [e1, e2] at hKO; go_simp; exact hKO _ W (.refl W) rfl
     ·have e3 := isOf hp.1; simp only [e3] at hKO; have fc0 := hS.2.2.2.2.2.1; have fc1 := hS.2.2.2.2.2.2.1; have fc2 := hS.2.2.2.2.2.2.2.1; go_simp; exact hKO _ W (.refl W) rfl
     ·have fc0 := hS.2.1.cell0; have fc1 := hS.2.1.cell1; have fc2 := hS.2.1.cell2; go_simp; exact hKO _ W (.refl W) rfl
     ·have e0 := isOf hp.1; have e4 := isOf hp.2.1; have e5 := isOf hp.2.2.1; simp only [e0, e4, e5] at hKO; go_simp
      refine (Tryz.ratCmpR (hS.2.2.2.2.1) (hS.2.2.2.1) HSM.out.1 HSM.out.2 hL HCC.out).mono ?_
      rintro e W1 ⟨rfl, hE⟩
      exact hKO _ W1 hE rfl
     ·have e6 := isOf hp.1; simp only [e6] at hKO; go_simp; exact hKO _ W (Ext.refl W) (by first | rfl | exact congrArg Value.bool HCD.out)
    intro vs W3 hS hp
    clear szw3 E0 p5 p4 hr hr1 k0 k1 k2
    obtain ⟨E0, p5, p4, hr, hr1, k0, k1, k2, sz3⟩ := hS
    obtain ⟨h3_0, h3_1, h3_2, h3_3, h3_4, h3_5, h3_6, h3_7, -⟩ := hp
    replace h3_0 : vs 0 = .func (.func 43) #[] #[] := h3_0
    replace h3_1 : vs 1 = .slice (some ⟨b, 0, none⟩) n c := h3_1
    replace h3_2 : vs 2 = .int .i64 (j : Int) := h3_2
    replace h3_3 : vs 3 = .pointer (some ⟨b, j * 3, none⟩) := h3_3
    replace h3_4 : vs 4 = .agg #[.bool s1, .slice a1 n1 c1, .slice d1 m1 o1] := h3_4
    replace h3_5 : vs 5 = .agg #[.bool s, .slice a n' c', .slice d m o] := h3_5
    replace h3_6 : vs 6 = .int .i64 cx := h3_6
    replace h3_7 : vs 7 = .bool false := h3_7
    simp only [h3_0, h3_1, h3_2, h3_3, h3_4, h3_5, h3_6, h3_7]
    clear h3_0 h3_1 h3_2 h3_3 h3_4 h3_5 h3_6 h3_7; go_wp2
    go_roundw
    case rel => exact ⟨j, _, _, _, _, _, _, _, by go_num, by omega, p5, by rw [HV.out]; exact hr, p4, E0⟩
    case measure => simp [intOf]; omega
  ·have hge : ¬ (j : Int) < (n : Int) := by omega
   have HE : Hid (k = n - 1) := Lib.hid (by have := HJ.out; omega)
   clear h
   have hg := HG.out
   obtain ⟨kp5_0, kp5_1, kp5_2⟩ := p5.c3
   obtain ⟨kp4_0, kp4_1, kp4_2⟩ := p4.c3
   go_upto_region 9 with (fail)
   clear kp5_0 kp5_1 kp5_2 kp4_0 kp4_1 kp4_2; have fp4 := p4.form; have ltp5 := p5.lt; have ltfp4 := fp4.lt; have szw4 := Ext.size E0
   refine region_gs [.one fun v _ => v = .agg #[.bool s, .slice a n' c', .slice d m o],
     .own fun W => Bx3 W g4 27 (.bool s) (.slice a n' c') (.slice d m o)]
    (fun W => Ext w W ∧ Bx3 W g5 27 (.bool s) (.slice a n' c') (.slice d m o) ∧ Form W g4 27 3 ∧ Rw W (.agg #[.bool s, .slice a n' c', .slice d m o]) (minQ l k) ∧ wr.heap.size ≤ W.heap.size) ⟨Good.is _, cert_bx3, trivial⟩
    ⟨E0, p5, fp4, hr, Nat.le_refl _⟩ (A := ?A4) ?hA4 ?howe4 ?hfin4
   case hA4 =>
    intro vs
    simp only [putAll, Act.put, sA, sZ, sS]
    exact rfl
   case howe4 =>
    clear E0 p5 fp4 hr
    intro hf
    refine ⟨oE 0 [] hf rfl ?_, oW 1 [0] hf rfl ?_, trivial⟩
    all_goals intro vs W hS hp hx KO hKO
    all_goals simp only [Act.put, sA, sZ, sS] at hKO
    ·have fc0 := hS.2.1.cell0; have fc1 := hS.2.1.cell1; have fc2 := hS.2.1.cell2; go_simp; exact hKO _ W (.refl W) rfl
    ·have e0 := isOf hp.1; simp only [e0] at hKO
     have hf := hS.2.2.1
     obtain ⟨x0_0, x0_1, x0_2, hx, hno⟩ := hf.bx3
     have r0 := hx.froz0
     have t0 := hx.cell0
     have r1 := hx.froz1
     have t1 := hx.cell1
     have r2 := hx.froz2
     have t2 := hx.cell2
     have hw := Wr.set3 hx hno s a n' c' d m o
     have hq := hx.set (.bool s) (.slice a n' c') (.slice d m o)
     have hg : g4 ≤ g4 := Nat.le_refl _
     go_simp
     exact hKO _ _ hw ⟨(Ext.wr hS.1 hw (by omega)), (hS.2.1.wr hw (by omega)), (hS.2.2.1.wr hw), (hS.2.2.2.1.wr hw), (Nat.le_trans hS.2.2.2.2 hw.apart.size)⟩ hq
   intro vs W4 hS hp
   clear szw4 E0 p5 fp4 hr
   obtain ⟨E0, p5, fp4, hr, sz4⟩ := hS
   obtain ⟨h4_0, h4_1, -⟩ := hp
   have p4_1 : Bx3 W4 g4 27 (.bool s) (.slice a n' c') (.slice d m o) := h4_1
   replace h4_0 : vs 0 = .agg #[.bool s, .slice a n' c', .slice d m o] := h4_0
   simp only [h4_0]
   clear h4_0; clear hg
   obtain ⟨kp5_0, kp5_1, kp5_2⟩ := p5.c3
   obtain ⟨kp4_1_0, kp4_1_1, kp4_1_2⟩ := p4_1.c3
   go_wp2
   exact bodyPost_ret (v := .agg #[.bool s, .slice a n' c', .slice d m o]) (by simp [results, Tryz.results117, go_sem, kp4_1_0, kp4_1_1, kp4_1_2]) rfl ⟨_, rfl, by rw [← HE.out]; exact hr, E0⟩

set_option maxRecDepth 100000 in
set_option maxHeartbeats 8000000 in
theorem Tryz.maxF {b c L : Nat} {l : List Rat} {w : World} (h : RowR w b l) (hb : b < w.heap.size) (hn : 0 < l.length) (hn2 : l.length ≤ 1000) (hs : ∀ x ∈ l, SmR L x) (hL : L ≤ 1000) :
  Calls Tryz.prog 118 #[.slice (some ⟨b, 0, none⟩) l.length c, .func (.func 43) #[] #[]] w fun e w' => ∃ v', e = .returned v' ∧ Rw w' v' (maxQ l (l.length - 1)) ∧ Ext w w' := by
 obtain ⟨n, hln⟩ : ∃ n, n = l.length := ⟨_, rfl⟩
 rw [← hln] at hn hn2 ⊢
 have HLN := Lib.hid hln
 have hl0 : 0 < l.length := by omega
 have HN := Lib.hid (And.intro hn hn2)
 have hn1 : ¬ (n : Int) < 1 := by omega
 have hn63 : n ≤ 1000 := hn2
 clear hln hn hn2
 obtain ⟨W0, hW0⟩ : ∃ W0, W0 = w.alloc (.cells #[.bool false, .slice none 0 0, .slice none 0 0] 27) := ⟨_, rfl⟩
 have E0 : Ext w W0 := by rw [hW0]; exact Ext.alloc1 _ _
 have p4 : Bx3 W0 w.heap.size 27 (.bool false) (.slice none 0 0) (.slice none 0 0) := by rw [hW0]; exact Bx3.new _ _ _ _ _
 obtain ⟨s0, a0, n0, c0, d0, m0, o0, k0, k1, k2, hr0⟩ := (h.ext E0) 0 hl0
 rw [Nat.zero_mul, Nat.zero_add] at k1 k2
 rw [Nat.zero_mul] at k0
 clear hl0
 go_enter Tryz.func118, Tryz.ntmps118
 go_upto_region 3 with (fail)
 rw [← hW0]
 clear hW0
 obtain ⟨W1, hW1⟩ : ∃ W1, W1 = W0.alloc (.cells #[.bool s0, .slice a0 n0 c0, .slice d0 m0 o0] 27) := ⟨_, rfl⟩
 obtain ⟨g5, hg5⟩ : ∃ g, g = W0.heap.size := ⟨_, rfl⟩
 obtain ⟨g4, hg4⟩ : ∃ g, g = w.heap.size := ⟨_, rfl⟩
 have hE : Ext W0 W1 := by rw [hW1]; exact Ext.alloc1 _ _
 have p5 : Bx3 W1 g5 27 (.bool s0) (.slice a0 n0 c0) (.slice d0 m0 o0) := by rw [hW1, hg5]; exact Bx3.new _ _ _ _ _
 have HG : Hid (g4 < g5 ∧ w.heap.size ≤ g4 ∧ b < g4) := Lib.hid ⟨by rw [hg4, hg5]; exact p4.lt, by rw [hg4]; exact Nat.le_refl _, by rw [hg4]; exact hb⟩
 rw [← hg4] at p4
 go_upto_region 4 with (fail)
 rw [← hW1, ← hg5, ← hg4]
 replace p4 := p4.ext hE; replace hr0 := hr0.ext hE; replace E0 := E0.trans hE; clear hW1 hg5 hg4 hE k0 k1 k2 hb
 go_wp2_with fail
 go_loopw [6] (fun i wr => ∃ (k : Nat) (s : Bool) (a : Option Addr) (n' c' : Nat) (d : Option Addr) (m o : Nat), i = .int .i64 ((k + 1 : Nat) : Int) ∧ k + 1 ≤ n ∧ Bx3 wr g5 27 (.bool s) (.slice a n' c') (.slice d m o) ∧ Rw wr (.agg #[.bool s, .slice a n' c', .slice d m o]) (maxQ l k) ∧ Bx3 wr g4 27 (.bool false) (.slice none 0 0) (.slice none 0 0) ∧ Ext w wr) (fun i _ => n - (intOf i).toNat)
 case atStart => exact ⟨0, _, _, _, _, _, _, _, rfl, by have := HN.out.1; omega, p5, hr0, p4, E0⟩
 case round =>
  clear p5 hr0 p4 E0
  obtain ⟨k, s, a, n', c', d, m, o, rfl, hk, p5, hr, p4, E0⟩ := hrel
  obtain ⟨j, hj⟩ : ∃ j, j = k + 1 := ⟨_, rfl⟩
  rw [← hj] at hk ⊢
  have HJ := Lib.hid hj
  clear hj
  by_cases hlt : j < n
  ·have hltI : (j : Int) < (n : Int) := by omega
   have hj63 : (j : Int) < 9223372036854775807 := by omega
   obtain ⟨s1, a1, n1, c1, d1, m1, o1, k0, k1, k2, hr1⟩ := (h.ext E0) j (by have := HLN.out; omega)
   have HSM : Hid (SmR L (atQ l j) ∧ SmR L (maxQ l k)) := Lib.hid ⟨hs _ (atQ_mem (by have := HLN.out; omega)), hs _ (maxQ_mem (by have := HLN.out; have := HJ.out; omega))⟩
   obtain ⟨cx, hcx⟩ : ∃ c, cmpR (atQ l j) (maxQ l k) = c := ⟨_, rfl⟩
   have HCC := Lib.hid hcx
   clear h hn63
   by_cases hc : maxQ l k < atQ l j
   ·have HCD : Hid (decide (0 < cx) = true) := Lib.hid (decide_eq_true (by rw [← hcx]; exact cmpR_gt0.2 hc))
    have HV : Hid (maxQ l j = atQ l j) := Lib.hid (by rw [HJ.out] at hc ⊢; exact if_pos hc)
    clear hcx hc
    obtain ⟨kp5_0, kp5_1, kp5_2⟩ := p5.c3
    obtain ⟨kp4_0, kp4_1, kp4_2⟩ := p4.c3
    go_upto_region 7 with (fail)
    clear kp5_0 kp5_1 kp5_2 kp4_0 kp4_1 kp4_2; have ltp5 := p5.lt; have ltp4 := p4.lt; have szw5 := Ext.size E0
    refine region_gs [.one fun v _ => v = .func (.func 43) #[] #[],
      .one fun v _ => v = .slice (some ⟨b, 0, none⟩) n c,
      .one fun v _ => v = .int .i64 (j : Int),
      .one fun v _ => v = .pointer (some ⟨b, j * 3, none⟩),
      .one fun v _ => v = .agg #[.bool s1, .slice a1 n1 c1, .slice d1 m1 o1],
      .one fun v _ => v = .agg #[.bool s, .slice a n' c', .slice d m o],
      .one fun v _ => v = .int .i64 cx,
      .one fun v _ => v = .bool true]
     (fun W => Ext w W ∧ Bx3 W g5 27 (.bool s) (.slice a n' c') (.slice d m o) ∧ Bx3 W g4 27 (.bool false) (.slice none 0 0) (.slice none 0 0) ∧ Rw W (.agg #[.bool s, .slice a n' c', .slice d m o]) (maxQ l k) ∧ Rw W (.agg #[.bool s1, .slice a1 n1 c1, .slice d1 m1 o1]) (atQ l j) ∧ World.cell? W ⟨b, j * 3, none⟩ = some (.bool s1) ∧ World.cell? W ⟨b, j * 3 + 1, none⟩ = some (.slice a1 n1 c1) ∧ World.cell? W ⟨b, j * 3 + 2, none⟩ = some (.slice d1 m1 o1) ∧ wr.heap.size ≤ W.heap.size) ⟨Good.is _, Good.is _, Good.is _, Good.is _, Good.is _, Good.is _, Good.is _, Good.is _, trivial⟩
     ⟨E0, p5, p4, hr, hr1, k0, k1, k2, Nat.le_refl _⟩ (A := ?A5) ?hA5 ?howe5 ?hfin5
    case hA5 =>
     intro vs
     simp only [putAll, Act.put, sA, sZ, sS, Nat.zero_add, Nat.reduceAdd]
     exact rfl
    case howe5 =>
     clear E0 p5 p4 hr hr1 k0 k1 k2
     intro hf
     refine ⟨oE 0 [] hf rfl ?_, oE 1 [] hf rfl ?_, oE 2 [] hf rfl ?_, oE 3 [1, 2] hf rfl ?_, oE 4 [3] hf rfl ?_, oE 5 [] hf rfl ?_, oE 6 [0, 4, 5] hf rfl ?_, oE 7 [6] hf rfl ?_, trivial⟩
     all_goals intro vs W hS hp hx KO hKO
     all_goals simp only [Act.put, sA, sZ, sS] at hKO
     ·go_simp; exact hKO _ W (.refl W) rfl
     ·go_simp; exact hKO _ W (.refl W) rfl
     ·go_simp; exact hKO _ W (.refl W) rfl
     ·have e1 := isOf hp.1; have e2 := isOf hp.2.1; simp only [e1, e2] at hKO; go_simp; exact hKO _ W (.refl W) rfl
     ·have e3 := isOf hp.1; simp only [e3] at hKO; have fc0 := hS.2.2.2.2.2.1; have fc1 := hS.2.2.2.2.2.2.1; have fc2 := hS.2.2.2.2.2.2.2.1; go_simp; exact hKO _ W (.refl W) rfl
     ·have fc0 := hS.2.1.cell0; have fc1 := hS.2.1.cell1; have fc2 := hS.2.1.cell2; go_simp; exact hKO _ W (.refl W) rfl
     ·have e0 := isOf hp.1; have e4 := isOf hp.2.1; have e5 := isOf hp.2.2.1; simp only [e0, e4, e5] at hKO; go_simp
      refine (Tryz.ratCmpR (hS.2.2.2.2.1) (hS.2.2.2.1) HSM.out.1 HSM.out.2 hL HCC.out).mono ?_
      rintro e W1 ⟨rfl, hE⟩
      exact hKO _ W1 hE rfl
     ·have e6 := isOf hp.1; simp only [e6] at hKO; go_simp; exact hKO _ W (Ext.refl W) (by first | rfl | exact congrArg Value.bool HCD.out)
    intro vs W5 hS hp
    clear szw5 E0 p5 p4 hr hr1 k0 k1 k2
    obtain ⟨E0, p5, p4, hr, hr1, k0, k1, k2, sz5⟩ := hS
    obtain ⟨h5_0, h5_1, h5_2, h5_3, h5_4, h5_5, h5_6, h5_7, -⟩ := hp
    replace h5_0 : vs 0 = .func (.func 43) #[] #[] := h5_0
    replace h5_1 : vs 1 = .slice (some ⟨b, 0, none⟩) n c := h5_1
    replace h5_2 : vs 2 = .int .i64 (j : Int) := h5_2
    replace h5_3 : vs 3 = .pointer (some ⟨b, j * 3, none⟩) := h5_3
    replace h5_4 : vs 4 = .agg #[.bool s1, .slice a1 n1 c1, .slice d1 m1 o1] := h5_4
    replace h5_5 : vs 5 = .agg #[.bool s, .slice a n' c', .slice d m o] := h5_5
    replace h5_6 : vs 6 = .int .i64 cx := h5_6
    replace h5_7 : vs 7 = .bool true := h5_7
    simp only [h5_0, h5_1, h5_2, h5_3, h5_4, h5_5, h5_6, h5_7]
    clear h5_0 h5_1 h5_2 h5_3 h5_4 h5_5 h5_6 h5_7
    have hg := HG.out
    obtain ⟨kp5_0, kp5_1, kp5_2⟩ := p5.c3
    obtain ⟨kp4_0, kp4_1, kp4_2⟩ := p4.c3
    go_upto_region 8 with (fail)
    clear kp5_0 kp5_1 kp5_2 kp4_0 kp4_1 kp4_2; have fp5 := p5.form; have szw6 := Ext.size E0
    refine region_gs [.one fun v _ => v = .slice (some ⟨b, 0, none⟩) n c,
      .one fun v _ => v = .int .i64 (j : Int),
      .one fun v _ => v = .pointer (some ⟨b, j * 3, none⟩),
      .one fun v _ => v = .agg #[.bool s1, .slice a1 n1 c1, .slice d1 m1 o1],
      .own fun W => Bx3 W g5 27 (.bool s1) (.slice a1 n1 c1) (.slice d1 m1 o1)]
     (fun W => Ext w W ∧ Form W g5 27 3 ∧ Bx3 W g4 27 (.bool false) (.slice none 0 0) (.slice none 0 0) ∧ Rw W (.agg #[.bool s, .slice a n' c', .slice d m o]) (maxQ l k) ∧ Rw W (.agg #[.bool s1, .slice a1 n1 c1, .slice d1 m1 o1]) (atQ l j) ∧ World.cell? W ⟨b, j * 3, none⟩ = some (.bool s1) ∧ World.cell? W ⟨b, j * 3 + 1, none⟩ = some (.slice a1 n1 c1) ∧ World.cell? W ⟨b, j * 3 + 2, none⟩ = some (.slice d1 m1 o1) ∧ W5.heap.size ≤ W.heap.size) ⟨Good.is _, Good.is _, Good.is _, Good.is _, cert_bx3, trivial⟩
     ⟨E0, fp5, p4, hr, hr1, k0, k1, k2, Nat.le_refl _⟩ (A := ?A6) ?hA6 ?howe6 ?hfin6
    case hA6 =>
     intro vs
     simp only [putAll, Act.put, sA, sZ, sS, Nat.zero_add, Nat.reduceAdd]
     exact rfl
    case howe6 =>
     clear E0 fp5 p4 hr hr1 k0 k1 k2
     intro hf
     refine ⟨oE 0 [] hf rfl ?_, oE 1 [] hf rfl ?_, oE 2 [0, 1] hf rfl ?_, oE 3 [2] hf rfl ?_, oW 4 [3] hf rfl ?_, trivial⟩
     all_goals intro vs W hS hp hx KO hKO
     all_goals simp only [Act.put, sA, sZ, sS] at hKO
     ·go_simp; exact hKO _ W (.refl W) rfl
     ·go_simp; exact hKO _ W (.refl W) rfl
     ·have e0 := isOf hp.1; have e1 := isOf hp.2.1; simp only [e0, e1] at hKO; go_simp; exact hKO _ W (.refl W) rfl
     ·have e2 := isOf hp.1; simp only [e2] at hKO; have fc0 := hS.2.2.2.2.2.1; have fc1 := hS.2.2.2.2.2.2.1; have fc2 := hS.2.2.2.2.2.2.2.1; go_simp; exact hKO _ W (.refl W) rfl
     ·have e3 := isOf hp.1; simp only [e3] at hKO
      have hf := hS.2.1
      obtain ⟨x0_0, x0_1, x0_2, hx, hno⟩ := hf.bx3
      have r0 := hx.froz0
      have t0 := hx.cell0
      have r1 := hx.froz1
      have t1 := hx.cell1
      have r2 := hx.froz2
      have t2 := hx.cell2
      have hw := Wr.set3 hx hno s1 a1 n1 c1 d1 m1 o1
      have hq := hx.set (.bool s1) (.slice a1 n1 c1) (.slice d1 m1 o1)
      have hg : g5 ≤ g5 := Nat.le_refl _
      go_simp
      exact hKO _ _ hw ⟨(Ext.wr hS.1 hw (by omega)), (hS.2.1.wr hw), (hS.2.2.1.wr hw (by omega)), (hS.2.2.2.1.wr hw), (hS.2.2.2.2.1.wr hw), (hw.apart.cell (by simp; omega) hS.2.2.2.2.2.1), (hw.apart.cell (by simp; omega) hS.2.2.2.2.2.2.1), (hw.apart.cell (by simp; omega) hS.2.2.2.2.2.2.2.1), (Nat.le_trans hS.2.2.2.2.2.2.2.2 hw.apart.size)⟩ hq
    intro vs W6 hS hp
    clear szw6 E0 fp5 p4 hr hr1 k0 k1 k2
    obtain ⟨E0, fp5, p4, hr, hr1, k0, k1, k2, sz6⟩ := hS
    obtain ⟨h6_0, h6_1, h6_2, h6_3, h6_4, -⟩ := hp
    have p6_4 : Bx3 W6 g5 27 (.bool s1) (.slice a1 n1 c1) (.slice d1 m1 o1) := h6_4
    replace h6_0 : vs 0 = .slice (some ⟨b, 0, none⟩) n c := h6_0
    replace h6_1 : vs 1 = .int .i64 (j : Int) := h6_1
    replace h6_2 : vs 2 = .pointer (some ⟨b, j * 3, none⟩) := h6_2
    replace h6_3 : vs 3 = .agg #[.bool s1, .slice a1 n1 c1, .slice d1 m1 o1] := h6_3
    simp only [h6_0, h6_1, h6_2, h6_3]
    clear h6_0 h6_1 h6_2 h6_3; clear hg; go_wp2
    go_roundw
    case rel => exact ⟨j, _, _, _, _, _, _, _, by go_num, by omega, p6_4, by rw [HV.out]; exact hr1, p4, E0⟩
    case measure => simp [intOf]; omega
   ·have HCD : Hid (decide (0 < cx) = false) := Lib.hid (decide_eq_false (by rw [← hcx]; exact fun h => hc (cmpR_gt0.1 h)))
    have HV : Hid (maxQ l j = maxQ l k) := Lib.hid (by rw [HJ.out] at hc ⊢; exact if_neg hc)
    clear hcx hc
    obtain ⟨kp5_0, kp5_1, kp5_2⟩ := p5.c3
    obtain ⟨kp4_0, kp4_1, kp4_2⟩ := p4.c3
    go_upto_region 7 with (fail)
    clear kp5_0 kp5_1 kp5_2 kp4_0 kp4_1 kp4_2; have ltp5 := p5.lt; have ltp4 := p4.lt; have szw7 := Ext.size E0
    refine region_gs [.one fun v _ => v = .func (.func 43) #[] #[],
      .one fun v _ => v = .slice (some ⟨b, 0, none⟩) n c,
      .one fun v _ => v = .int .i64 (j : Int),
      .one fun v _ => v = .pointer (some ⟨b, j * 3, none⟩),
      .one fun v _ => v = .agg #[.bool s1, .slice a1 n1 c1, .slice d1 m1 o1],
      .one fun v _ => v = .agg #[.bool s, .slice a n' c', .slice d m o],
      .one fun v _ => v = .int .i64 cx,
      .one fun v _ => v = .bool false]
     (fun W => Ext w W ∧ Bx3 W g5 27 (.bool s) (.slice a n' c') (.slice d m o) ∧ Bx3 W g4 27 (.bool false) (.slice none 0 0) (.slice none 0 0) ∧ Rw W (.agg #[.bool s, .slice a n' c', .slice d m o]) (maxQ l k) ∧ Rw W (.agg #[.bool s1, .slice a1 n1 c1, .slice d1 m1 o1]) (atQ l j) ∧ World.cell? W ⟨b, j * 3, none⟩ = some (.bool s1) ∧ World.cell? W ⟨b, j * 3 + 1, none⟩ = some (.slice a1 n1 c1) ∧ World.cell? W ⟨b, j * 3 + 2, none⟩ = some (.slice d1 m1 o1) ∧ wr.heap.size ≤ W.heap.size) ⟨Good.is _, Good.is _, Good.is _, Good.is _, Good.is _, Good.is _, Good.is _, Good.is _, trivial⟩
     ⟨E0, p5, p4, hr, hr1, k0, k1, k2, Nat.le_refl _⟩ (A := ?A7) ?hA7 ?howe7 ?hfin7
    case hA7 =>
     intro vs
     simp only [putAll, Act.put, sA, sZ, sS, Nat.zero_add, Nat.reduceAdd]
     exact rfl
    case howe7 =>
     clear E0 p5 p4 hr hr1 k0 k1 k2
     intro hf
     refine ⟨oE 0 [] hf rfl ?_, oE 1 [] hf rfl ?_, oE 2 [] hf rfl ?_, oE 3 [1, 2] hf rfl ?_, oE 4 [3] hf rfl ?_, oE 5 [] hf rfl ?_, oE 6 [0, 4, 5] hf rfl ?_, oE 7 [6] hf rfl ?_, trivial⟩
     all_goals intro vs W hS hp hx KO hKO
     all_goals simp only [Act.put, sA, sZ, sS] at hKO
     ·go_simp; exact hKO _ W (.refl W) rfl
     ·go_simp; exact hKO _ W (.refl W) rfl
     ·go_simp; exact hKO _ W (.refl W) rfl
     ·have e1 := isOf hp.1; have e2 := isOf hp.2.1; simp only [e1, e2] at hKO; go_simp; exact hKO _ W (.refl W) rfl
     ·have e3 := isOf hp.1; simp only [e3] at hKO; have fc0 := hS.2.2.2.2.2.1; have fc1 := hS.2.2.2.2.2.2.1; have fc2 := hS.2.2.2.2.2.2.2.1; go_simp; exact hKO _ W (.refl W) rfl
     ·have fc0 := hS.2.1.cell0; have fc1 := hS.2.1.cell1; have fc2 := hS.2.1.cell2; go_simp; exact hKO _ W (.refl W) rfl
     ·have e0 := isOf hp.1; have e4 := isOf hp.2.1; have e5 := isOf hp.2.2.1; simp only [e0, e4, e5] at hKO; go_simp
      refine (Tryz.ratCmpR (hS.2.2.2.2.1) (hS.2.2.2.1) HSM.out.1 HSM.out.2 hL HCC.out).mono ?_
      rintro e W1 ⟨rfl, hE⟩
      exact hKO _ W1 hE rfl
     ·have e6 := isOf hp.1; simp only [e6] at hKO; go_simp; exact hKO _ W (Ext.refl W) (by first | rfl | exact congrArg Value.bool HCD.out)
    intro vs W7 hS hp
    clear szw7 E0 p5 p4 hr hr1 k0 k1 k2
    obtain ⟨E0, p5, p4, hr, hr1, k0, k1, k2, sz7⟩ := hS
    obtain ⟨h7_0, h7_1, h7_2, h7_3, h7_4, h7_5, h7_6, h7_7, -⟩ := hp
    replace h7_0 : vs 0 = .func (.func 43) #[] #[] := h7_0
    replace h7_1 : vs 1 = .slice (some ⟨b, 0, none⟩) n c := h7_1
    replace h7_2 : vs 2 = .int .i64 (j : Int) := h7_2
    replace h7_3 : vs 3 = .pointer (some ⟨b, j * 3, none⟩) := h7_3
    replace h7_4 : vs 4 = .agg #[.bool s1, .slice a1 n1 c1, .slice d1 m1 o1] := h7_4
    replace h7_5 : vs 5 = .agg #[.bool s, .slice a n' c', .slice d m o] := h7_5
    replace h7_6 : vs 6 = .int .i64 cx := h7_6
    replace h7_7 : vs 7 = .bool false := h7_7
    simp only [h7_0, h7_1, h7_2, h7_3, h7_4, h7_5, h7_6, h7_7]
    clear h7_0 h7_1 h7_2 h7_3 h7_4 h7_5 h7_6 h7_7; go_wp2
    go_roundw
    case rel => exact ⟨j, _, _, _, _, _, _, _, by go_num, by omega, p5, by rw [HV.out]; exact hr, p4, E0⟩
    case measure => simp [intOf]; omega
  ·have hge : ¬ (j : Int) < (n : Int) := by omega
   have HE : Hid (k = n - 1) := Lib.hid (by have := HJ.out; omega)
   clear h
   have hg := HG.out
   obtain ⟨kp5_0, kp5_1, kp5_2⟩ := p5.c3
   obtain ⟨kp4_0, kp4_1, kp4_2⟩ := p4.c3
   go_upto_region 9 with (fail)
   clear kp5_0 kp5_1 kp5_2 kp4_0 kp4_1 kp4_2; have fp4 := p4.form; have ltp5 := p5.lt; have ltfp4 := fp4.lt; have szw8 := Ext.size E0
   refine region_gs [.one fun v _ => v = .agg #[.bool s, .slice a n' c', .slice d m o],
     .own fun W => Bx3 W g4 27 (.bool s) (.slice a n' c') (.slice d m o)]
    (fun W => Ext w W ∧ Bx3 W g5 27 (.bool s) (.slice a n' c') (.slice d m o) ∧ Form W g4 27 3 ∧ Rw W (.agg #[.bool s, .slice a n' c', .slice d m o]) (maxQ l k) ∧ wr.heap.size ≤ W.heap.size) ⟨Good.is _, cert_bx3, trivial⟩
    ⟨E0, p5, fp4, hr, Nat.le_refl _⟩ (A := ?A8) ?hA8 ?howe8 ?hfin8
   case hA8 =>
    intro vs
    simp only [putAll, Act.put, sA, sZ, sS]
    exact rfl
   case howe8 =>
    clear E0 p5 fp4 hr
    intro hf
    refine ⟨oE 0 [] hf rfl ?_, oW 1 [0] hf rfl ?_, trivial⟩
    all_goals intro vs W hS hp hx KO hKO
    all_goals simp only [Act.put, sA, sZ, sS] at hKO
    ·have fc0 := hS.2.1.cell0; have fc1 := hS.2.1.cell1; have fc2 := hS.2.1.cell2; go_simp; exact hKO _ W (.refl W) rfl
    ·have e0 := isOf hp.1; simp only [e0] at hKO
     have hf := hS.2.2.1
     obtain ⟨x0_0, x0_1, x0_2, hx, hno⟩ := hf.bx3
     have r0 := hx.froz0
     have t0 := hx.cell0
     have r1 := hx.froz1
     have t1 := hx.cell1
     have r2 := hx.froz2
     have t2 := hx.cell2
     have hw := Wr.set3 hx hno s a n' c' d m o
     have hq := hx.set (.bool s) (.slice a n' c') (.slice d m o)
     have hg : g4 ≤ g4 := Nat.le_refl _
     go_simp
     exact hKO _ _ hw ⟨(Ext.wr hS.1 hw (by omega)), (hS.2.1.wr hw (by omega)), (hS.2.2.1.wr hw), (hS.2.2.2.1.wr hw), (Nat.le_trans hS.2.2.2.2 hw.apart.size)⟩ hq
   intro vs W8 hS hp
   clear szw8 E0 p5 fp4 hr
   obtain ⟨E0, p5, fp4, hr, sz8⟩ := hS
   obtain ⟨h8_0, h8_1, -⟩ := hp
   have p8_1 : Bx3 W8 g4 27 (.bool s) (.slice a n' c') (.slice d m o) := h8_1
   replace h8_0 : vs 0 = .agg #[.bool s, .slice a n' c', .slice d m o] := h8_0
   simp only [h8_0]
   clear h8_0; clear hg
   obtain ⟨kp5_0, kp5_1, kp5_2⟩ := p5.c3
   obtain ⟨kp8_1_0, kp8_1_1, kp8_1_2⟩ := p8_1.c3
   go_wp2
   exact bodyPost_ret (v := .agg #[.bool s, .slice a n' c', .slice d m o]) (by simp [results, Tryz.results118, go_sem, kp8_1_0, kp8_1_1, kp8_1_2]) rfl ⟨_, rfl, by rw [← HE.out]; exact hr, E0⟩

end Go.Rt
