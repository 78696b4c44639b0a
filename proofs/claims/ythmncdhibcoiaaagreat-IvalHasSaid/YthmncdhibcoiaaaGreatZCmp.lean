/-
 The program's comparisons; quotients by nought.
-/
import Derived.Test.YthmncdhibcoiaaaGreatSqz
import Derived.Test.YthmncdhibcoiaaaGreatRight

namespace Go.Rt

open Go.RowKit Go.Proofs

theorem cmpI_swap {x y : Int} (h1 : x < 0) (h2 : y < 0) : cmpI (y.natAbs : Nat) (x.natAbs : Nat) = cmpI x y := by
 unfold cmpI
 by_cases ha : x < y
 ·rw [if_pos ha, if_pos (by omega)]
 ·rw [if_neg ha, if_neg (by omega)]
  by_cases hc : y < x
  ·rw [if_pos hc, if_pos (by omega)]
  ·rw [if_neg hc, if_neg (by omega)]

set_option maxRecDepth 100000 in
set_option maxHeartbeats 400000 in
theorem Tryz.zedCmp {v1 v2 : Value} {x y : Int} {w : World} (h1 : Zw w v1 x) (h2 : Zw w v2 y) :
  Calls Tryz.prog 83 #[v1, v2] w fun e w' => e = .returned (.int .i64 (cmpI x y)) ∧ Ext w w' := by
 obtain ⟨b1, a1, n1, c1, rfl, q1⟩ : ∃ b a n c, v1 = .agg #[.bool b, .slice a n c] ∧ True := let ⟨b, a, n, c, e, _⟩ := h1; ⟨b, a, n, c, e, trivial⟩
 clear q1
 obtain ⟨b2, a2, n2, c2, rfl, q2⟩ : ∃ b a n c, v2 = .agg #[.bool b, .slice a n c] ∧ True := let ⟨b, a, n, c, e, _⟩ := h2; ⟨b, a, n, c, e, trivial⟩
 clear q2
 have hb1 := h1.neg
 have hb2 := h2.neg
 have g1 := h1.num
 have g2 := h2.num
 clear h1 h2
 cases b1
 ·cases b2
  ·have s1 := of_decide_eq_false hb1.out.symm
   have s2 := of_decide_eq_false hb2.out.symm
   have HR : Hid (cmpI (x.natAbs : Nat) (y.natAbs : Nat) = cmpI x y) := Lib.hid (by rw [show ((x.natAbs : Nat) : Int) = x by omega, show ((y.natAbs : Nat) : Int) = y by omega])
   clear s1 s2 hb1 hb2
   obtain ⟨W0, hW0⟩ : ∃ W0, W0 = ((w.alloc (.cells #[.bool false, .slice a1 n1 c1] 25)).alloc (.cells #[.bool false, .slice a2 n2 c2] 25)) := ⟨_, rfl⟩
   have E0 : Ext w W0 := by rw [hW0]; exact ((Ext.alloc1 w (.cells #[.bool false, .slice a1 n1 c1] 25)).alloc (.cells #[.bool false, .slice a2 n2 c2] 25))
   replace g1 : Nw W0 (.slice a1 n1 c1) x.natAbs := g1.ext E0
   replace g2 : Nw W0 (.slice a2 n2 c2) y.natAbs := g2.ext E0
   have p2 : Bx2 W0 w.heap.size 25 (.bool false) (.slice a1 n1 c1) := by rw [hW0]; exact (Bx2.new w 25 (.bool false) (.slice a1 n1 c1)).ext (Ext.alloc1 (w.alloc (.cells #[.bool false, .slice a1 n1 c1] 25)) (.cells #[.bool false, .slice a2 n2 c2] 25))
   have p3 : Bx2 W0 (w.heap.size + 1) 25 (.bool false) (.slice a2 n2 c2) := by rw [hW0]; simpa using (Bx2.new (w.alloc (.cells #[.bool false, .slice a1 n1 c1] 25)) 25 (.bool false) (.slice a2 n2 c2))
   go_enter Tryz.func83, Tryz.ntmps83
   obtain ⟨kp2_0, kp2_1⟩ := p2.c2
   obtain ⟨kp3_0, kp3_1⟩ := p3.c2
   go_wp2_with fail
   rw [← hW0]
   clear hW0; clear kp2_0 kp2_1 kp3_0 kp3_1
   refine (Tryz.natCmp g1 g2).mono ?_
   rintro e Wc ⟨rfl, hE⟩
   rw [HR.out]
   replace E0 : Ext w Wc := (Ext.trans E0 hE)
   replace g1 : Nw Wc (.slice a1 n1 c1) x.natAbs := (g1.ext hE)
   replace g2 : Nw Wc (.slice a2 n2 c2) y.natAbs := (g2.ext hE)
   replace p2 : Bx2 Wc w.heap.size 25 (.bool false) (.slice a1 n1 c1) := (p2.ext hE)
   replace p3 : Bx2 Wc (w.heap.size + 1) 25 (.bool false) (.slice a2 n2 c2) := (p3.ext hE)
   clear hE
   obtain ⟨kp2_0, kp2_1⟩ := p2.c2
   obtain ⟨kp3_0, kp3_1⟩ := p3.c2
   go_wp2; go_ret
   exact ⟨rfl, E0⟩
  ·have s1 := of_decide_eq_false hb1.out.symm
   have s2 := of_decide_eq_true hb2.out.symm
   have HR : Hid (1 = cmpI x y) := Lib.hid (by rw [cmpI_gt (by omega)])
   clear s1 s2 hb1 hb2
   obtain ⟨W0, hW0⟩ : ∃ W0, W0 = ((w.alloc (.cells #[.bool false, .slice a1 n1 c1] 25)).alloc (.cells #[.bool true, .slice a2 n2 c2] 25)) := ⟨_, rfl⟩
   have E0 : Ext w W0 := by rw [hW0]; exact ((Ext.alloc1 w (.cells #[.bool false, .slice a1 n1 c1] 25)).alloc (.cells #[.bool true, .slice a2 n2 c2] 25))
   replace g1 : Nw W0 (.slice a1 n1 c1) x.natAbs := g1.ext E0
   replace g2 : Nw W0 (.slice a2 n2 c2) y.natAbs := g2.ext E0
   have p2 : Bx2 W0 w.heap.size 25 (.bool false) (.slice a1 n1 c1) := by rw [hW0]; exact (Bx2.new w 25 (.bool false) (.slice a1 n1 c1)).ext (Ext.alloc1 (w.alloc (.cells #[.bool false, .slice a1 n1 c1] 25)) (.cells #[.bool true, .slice a2 n2 c2] 25))
   have p3 : Bx2 W0 (w.heap.size + 1) 25 (.bool true) (.slice a2 n2 c2) := by rw [hW0]; simpa using (Bx2.new (w.alloc (.cells #[.bool false, .slice a1 n1 c1] 25)) 25 (.bool true) (.slice a2 n2 c2))
   go_enter Tryz.func83, Tryz.ntmps83
   obtain ⟨kp2_0, kp2_1⟩ := p2.c2
   obtain ⟨kp3_0, kp3_1⟩ := p3.c2
   go_wp2; go_ret
   exact ⟨ret_i HR.out, by rw [← hW0]; exact E0⟩
 ·cases b2
  ·have s1 := of_decide_eq_true hb1.out.symm
   have s2 := of_decide_eq_false hb2.out.symm
   have HR : Hid (-1 = cmpI x y) := Lib.hid (by rw [cmpI_lt (by omega)])
   clear s1 s2 hb1 hb2
   obtain ⟨W0, hW0⟩ : ∃ W0, W0 = ((w.alloc (.cells #[.bool true, .slice a1 n1 c1] 25)).alloc (.cells #[.bool false, .slice a2 n2 c2] 25)) := ⟨_, rfl⟩
   have E0 : Ext w W0 := by rw [hW0]; exact ((Ext.alloc1 w (.cells #[.bool true, .slice a1 n1 c1] 25)).alloc (.cells #[.bool false, .slice a2 n2 c2] 25))
   replace g1 : Nw W0 (.slice a1 n1 c1) x.natAbs := g1.ext E0
   replace g2 : Nw W0 (.slice a2 n2 c2) y.natAbs := g2.ext E0
   have p2 : Bx2 W0 w.heap.size 25 (.bool true) (.slice a1 n1 c1) := by rw [hW0]; exact (Bx2.new w 25 (.bool true) (.slice a1 n1 c1)).ext (Ext.alloc1 (w.alloc (.cells #[.bool true, .slice a1 n1 c1] 25)) (.cells #[.bool false, .slice a2 n2 c2] 25))
   have p3 : Bx2 W0 (w.heap.size + 1) 25 (.bool false) (.slice a2 n2 c2) := by rw [hW0]; simpa using (Bx2.new (w.alloc (.cells #[.bool true, .slice a1 n1 c1] 25)) 25 (.bool false) (.slice a2 n2 c2))
   go_enter Tryz.func83, Tryz.ntmps83
   obtain ⟨kp2_0, kp2_1⟩ := p2.c2
   obtain ⟨kp3_0, kp3_1⟩ := p3.c2
   go_wp2; go_ret
   exact ⟨ret_i HR.out, by rw [← hW0]; exact E0⟩
  ·have s1 := of_decide_eq_true hb1.out.symm
   have s2 := of_decide_eq_true hb2.out.symm
   have HR : Hid (cmpI (y.natAbs : Nat) (x.natAbs : Nat) = cmpI x y) := Lib.hid (cmpI_swap s1 s2)
   clear s1 s2 hb1 hb2
   have G1 := g1
   have G2 := g2
   obtain ⟨W0, hW0⟩ : ∃ W0, W0 = ((w.alloc (.cells #[.bool true, .slice a1 n1 c1] 25)).alloc (.cells #[.bool true, .slice a2 n2 c2] 25)) := ⟨_, rfl⟩
   have E0 : Ext w W0 := by rw [hW0]; exact ((Ext.alloc1 w (.cells #[.bool true, .slice a1 n1 c1] 25)).alloc (.cells #[.bool true, .slice a2 n2 c2] 25))
   replace g1 : Nw W0 (.slice a1 n1 c1) x.natAbs := g1.ext E0
   replace g2 : Nw W0 (.slice a2 n2 c2) y.natAbs := g2.ext E0
   have p2 : Bx2 W0 w.heap.size 25 (.bool true) (.slice a1 n1 c1) := by rw [hW0]; exact (Bx2.new w 25 (.bool true) (.slice a1 n1 c1)).ext (Ext.alloc1 (w.alloc (.cells #[.bool true, .slice a1 n1 c1] 25)) (.cells #[.bool true, .slice a2 n2 c2] 25))
   have p3 : Bx2 W0 (w.heap.size + 1) 25 (.bool true) (.slice a2 n2 c2) := by rw [hW0]; simpa using (Bx2.new (w.alloc (.cells #[.bool true, .slice a1 n1 c1] 25)) 25 (.bool true) (.slice a2 n2 c2))
   go_enter Tryz.func83, Tryz.ntmps83
   obtain ⟨kp2_0, kp2_1⟩ := p2.c2
   have zp2_0 := p2.froz0
   have zp2_1 := p2.froz1
   obtain ⟨kp3_0, kp3_1⟩ := p3.c2
   have zp3_0 := p3.froz0
   have zp3_1 := p3.froz1
   go_wp2_with fail
   refine (Tryz.natCmp (G2.ext ((Ext.alloc1 _ _).alloc _)) (G1.ext ((Ext.alloc1 _ _).alloc _))).mono ?_
   rintro e W1 ⟨rfl, hE⟩
   rw [HR.out]; replace E0 := ((Ext.alloc1 w _).alloc _).trans hE; go_wp2; go_ret
   exact ⟨rfl, E0⟩

set_option maxRecDepth 100000 in
set_option maxHeartbeats 400000 in
theorem Tryz.ratCmp {v1 v2 : Value} {x y : Rat} {L : Nat} {w : World} (h1 : Rw w v1 x) (h2 : Rw w v2 y) (s1 : SmR L x) (s2 : SmR L y) (hL : L + L ≤ 10000000) :
  Calls Tryz.prog 43 #[v1, v2] w fun e w' => e = .returned (.int .i64 (if x < y then -1 else if y < x then 1 else 0)) ∧ Ext w w' := by
 rw [← cmpI_mul]
 obtain ⟨b1, a1, n1, c1, d1, m1, o1, rfl, q1⟩ : ∃ b a n c d m o, v1 = .agg #[.bool b, .slice a n c, .slice d m o] ∧ True := let ⟨b, a, n, c, d, m, o, e, _⟩ := h1; ⟨b, a, n, c, d, m, o, e, trivial⟩
 clear q1
 obtain ⟨b2, a2, n2, c2, d2, m2, o2, rfl, q2⟩ : ∃ b a n c d m o, v2 = .agg #[.bool b, .slice a n c, .slice d m o] ∧ True := let ⟨b, a, n, c, d, m, o, e, _⟩ := h2; ⟨b, a, n, c, d, m, o, e, trivial⟩
 clear q2
 obtain ⟨X, hX⟩ : ∃ X, X = x.num * (y.den : Int) := ⟨_, rfl⟩
 obtain ⟨Y, hY⟩ : ∃ Y, Y = y.num * (x.den : Int) := ⟨_, rfl⟩
 rw [← hX, ← hY]
 have HX := Lib.hid hX
 have HY := Lib.hid hY
 clear hX hY
 obtain ⟨W0, hW0⟩ : ∃ W0, W0 = ((w.alloc (.cells #[.bool b1, .slice a1 n1 c1, .slice d1 m1 o1] 27)).alloc (.cells #[.bool b2, .slice a2 n2 c2, .slice d2 m2 o2] 27)) := ⟨_, rfl⟩
 have E0 : Ext w W0 := by rw [hW0]; exact ((Ext.alloc1 w (.cells #[.bool b1, .slice a1 n1 c1, .slice d1 m1 o1] 27)).alloc (.cells #[.bool b2, .slice a2 n2 c2, .slice d2 m2 o2] 27))
 replace h1 : Rw W0 (.agg #[.bool b1, .slice a1 n1 c1, .slice d1 m1 o1]) x := h1.ext E0
 replace h2 : Rw W0 (.agg #[.bool b2, .slice a2 n2 c2, .slice d2 m2 o2]) y := h2.ext E0
 have p2 : Bx3 W0 w.heap.size 27 (.bool b1) (.slice a1 n1 c1) (.slice d1 m1 o1) := by rw [hW0]; exact (Bx3.new w 27 (.bool b1) (.slice a1 n1 c1) (.slice d1 m1 o1)).ext (Ext.alloc1 (w.alloc (.cells #[.bool b1, .slice a1 n1 c1, .slice d1 m1 o1] 27)) (.cells #[.bool b2, .slice a2 n2 c2, .slice d2 m2 o2] 27))
 have p3 : Bx3 W0 (w.heap.size + 1) 27 (.bool b2) (.slice a2 n2 c2) (.slice d2 m2 o2) := by rw [hW0]; simpa using (Bx3.new (w.alloc (.cells #[.bool b1, .slice a1 n1 c1, .slice d1 m1 o1] 27)) 27 (.bool b2) (.slice a2 n2 c2) (.slice d2 m2 o2))
 go_enter Tryz.func43, Tryz.ntmps43
 obtain ⟨kp2_0, kp2_1, kp2_2⟩ := p2.c3
 obtain ⟨kp3_0, kp3_1, kp3_2⟩ := p3.c3
 go_upto_region 1 with (fail)
 rw [← hW0]
 clear hW0; clear kp2_0 kp2_1 kp2_2 kp3_0 kp3_1 kp3_2; have ltp2 := p2.lt; have ltp3 := p3.lt; have szw1 := Ext.size E0
 refine region_gs [.one fun v _ => v = .pointer (some ⟨w.heap.size, 0, none⟩),
   .one fun v _ => v = .agg #[.bool b1, .slice a1 n1 c1],
   .one fun v _ => v = .pointer (some ⟨w.heap.size + 1, 2, none⟩),
   .one fun v _ => v = .slice d2 m2 o2,
   .one fun v W => Zw W v X,
   .one fun v _ => v = .pointer (some ⟨w.heap.size + 1, 0, none⟩),
   .one fun v _ => v = .agg #[.bool b2, .slice a2 n2 c2],
   .one fun v _ => v = .pointer (some ⟨w.heap.size, 2, none⟩),
   .one fun v _ => v = .slice d1 m1 o1,
   .one fun v W => Zw W v Y,
   .one fun v _ => v = .int .i64 (cmpI X Y),
   .one fun v _ => v = .int .i64 (cmpI X Y)]
  (fun W => Ext w W ∧ Rw W (.agg #[.bool b1, .slice a1 n1 c1, .slice d1 m1 o1]) x ∧ Rw W (.agg #[.bool b2, .slice a2 n2 c2, .slice d2 m2 o2]) y ∧ Bx3 W w.heap.size 27 (.bool b1) (.slice a1 n1 c1) (.slice d1 m1 o1) ∧ Bx3 W (w.heap.size + 1) 27 (.bool b2) (.slice a2 n2 c2) (.slice d2 m2 o2) ∧ W0.heap.size ≤ W.heap.size) ⟨Good.is _, Good.is _, Good.is _, Good.is _, Good.zed _, Good.is _, Good.is _, Good.is _, Good.is _, Good.zed _, Good.is _, Good.is _, trivial⟩
  ⟨E0, h1, h2, p2, p3, Nat.le_refl _⟩ (A := ?A1) ?hA1 ?howe1 ?hfin1
 case hA1 =>
  intro vs
  simp only [putAll, Act.put, sA, sZ, sS, Nat.zero_add, Nat.reduceAdd]
  exact rfl
 case howe1 =>
  clear E0 h1 h2 p2 p3
  intro hf
  refine ⟨oE 0 [] hf rfl ?_, oE 1 [0] hf rfl ?_, oE 2 [] hf rfl ?_, oE 3 [2] hf rfl ?_, oE 4 [1, 3] hf rfl ?_, oE 5 [] hf rfl ?_, oE 6 [5] hf rfl ?_, oE 7 [] hf rfl ?_, oE 8 [7] hf rfl ?_, oE 9 [6, 8] hf rfl ?_, oE 10 [4, 9] hf rfl ?_, oE 11 [10] hf rfl ?_, trivial⟩
  all_goals intro vs W hS hp hx KO hKO
  all_goals simp only [Act.put, sA, sZ, sS] at hKO
  ·go_simp; exact hKO _ W (.refl W) rfl
  ·have e0 := isOf hp.1; simp only [e0] at hKO; have fc0 := hS.2.2.2.1.cell0; have fc1 := hS.2.2.2.1.cell1; go_simp; exact hKO _ W (.refl W) rfl
  ·go_simp; exact hKO _ W (.refl W) rfl
  ·have e2 := isOf hp.1; simp only [e2] at hKO; have fc2 := hS.2.2.2.2.1.cell2; go_simp; exact hKO _ W (.refl W) rfl
  ·have e1 := isOf hp.1; have e3 := isOf hp.2.1; simp only [e1, e3] at hKO; go_simp
   refine (Tryz.ratTimes (hS.2.1.top) (hS.2.2.1.den) s1.1 s2.2 hL).mono ?_
   rintro e W1 ⟨v, rfl, hv, hE⟩
   rw [← HX.out] at hv
   exact hKO _ W1 hE hv
  ·go_simp; exact hKO _ W (.refl W) rfl
  ·have e5 := isOf hp.1; simp only [e5] at hKO; have fc0 := hS.2.2.2.2.1.cell0; have fc1 := hS.2.2.2.2.1.cell1; go_simp; exact hKO _ W (.refl W) rfl
  ·go_simp; exact hKO _ W (.refl W) rfl
  ·have e7 := isOf hp.1; simp only [e7] at hKO; have fc2 := hS.2.2.2.1.cell2; go_simp; exact hKO _ W (.refl W) rfl
  ·have e6 := isOf hp.1; have e8 := isOf hp.2.1; simp only [e6, e8] at hKO; go_simp
   refine (Tryz.ratTimes (hS.2.2.1.top) (hS.2.1.den) s2.1 s1.2 hL).mono ?_
   rintro e W1 ⟨v, rfl, hv, hE⟩
   rw [← HY.out] at hv
   exact hKO _ W1 hE hv
  ·have q4 := hp.1; have q9 := hp.2.1; go_simp
   refine (Tryz.zedCmp q4 q9).mono ?_
   rintro e W1 ⟨rfl, hE⟩
   exact hKO _ W1 hE rfl
  ·have e10 := isOf hp.1; simp only [e10] at hKO; go_simp; exact hKO _ W (.refl W) rfl
 intro vs W1 hS hp
 clear szw1 E0 h1 h2 p2 p3
 obtain ⟨E0, h1, h2, p2, p3, sz1⟩ := hS
 obtain ⟨h1_0, h1_1, h1_2, h1_3, h1_4, h1_5, h1_6, h1_7, h1_8, h1_9, h1_10, h1_11, -⟩ := hp
 replace h1_0 : vs 0 = .pointer (some ⟨w.heap.size, 0, none⟩) := h1_0
 replace h1_1 : vs 1 = .agg #[.bool b1, .slice a1 n1 c1] := h1_1
 replace h1_2 : vs 2 = .pointer (some ⟨w.heap.size + 1, 2, none⟩) := h1_2
 replace h1_3 : vs 3 = .slice d2 m2 o2 := h1_3
 replace h1_5 : vs 5 = .pointer (some ⟨w.heap.size + 1, 0, none⟩) := h1_5
 replace h1_6 : vs 6 = .agg #[.bool b2, .slice a2 n2 c2] := h1_6
 replace h1_7 : vs 7 = .pointer (some ⟨w.heap.size, 2, none⟩) := h1_7
 replace h1_8 : vs 8 = .slice d1 m1 o1 := h1_8
 replace h1_10 : vs 10 = .int .i64 (cmpI X Y) := h1_10
 replace h1_11 : vs 11 = .int .i64 (cmpI X Y) := h1_11
 simp only [h1_0, h1_1, h1_2, h1_3, h1_5, h1_6, h1_7, h1_8, h1_10, h1_11]
 replace h1_4 : Zw W1 (vs 4) X := h1_4
 generalize vs 4 = u1_4 at h1_4 ⊢
 replace h1_9 : Zw W1 (vs 9) Y := h1_9
 generalize vs 9 = u1_9 at h1_9 ⊢
 clear h1_0 h1_1 h1_2 h1_3 h1_5 h1_6 h1_7 h1_8 h1_10 h1_11; go_wp2; go_ret
 exact ⟨rfl, E0⟩

set_option maxRecDepth 100000 in
set_option maxHeartbeats 400000 in
theorem Tryz.refRDiv0 {v1 v2 : Value} {x : Rat} {L : Nat} {w : World} (h1 : Rw w v1 x) (h2 : Rw w v2 0) (_s1 : SmR L x) (_hL : L ≤ 100000) :
  Calls Tryz.prog 38 #[v1, v2] w fun e w' => e = .returned (.tuple #[.agg #[.bool false, .slice none 0 0, .slice none 0 0], .int .i64 4]) ∧ Ext w w' := by
 obtain ⟨b1, a1, n1, c1, d1, m1, o1, rfl, q1⟩ : ∃ b a n c d m o, v1 = .agg #[.bool b, .slice a n c, .slice d m o] ∧ True := let ⟨b, a, n, c, d, m, o, e, _⟩ := h1; ⟨b, a, n, c, d, m, o, e, trivial⟩
 clear q1
 obtain ⟨b2, a2, n2, c2, d2, m2, o2, rfl, q2⟩ : ∃ b a n c d m o, v2 = .agg #[.bool b, .slice a n c, .slice d m o] ∧ True := let ⟨b, a, n, c, d, m, o, e, _⟩ := h2; ⟨b, a, n, c, d, m, o, e, trivial⟩
 clear q2
 have hyz := h2.top.num.len
 obtain ⟨_, _, _, er, hz0, -⟩ := hyz
 cases er
 have hm2 : ((n2 : Int) == 0) = true := by simp [hz0.2 rfl]
 clear hz0
 obtain ⟨W0, hW0⟩ : ∃ W0, W0 = (((w.alloc (.cells #[.bool b1, .slice a1 n1 c1, .slice d1 m1 o1] 27)).alloc (.cells #[.bool b2, .slice a2 n2 c2, .slice d2 m2 o2] 27)).alloc (.cells #[.bool false, .slice none 0 0, .slice none 0 0] 27)) := ⟨_, rfl⟩
 have E0 : Ext w W0 := by rw [hW0]; exact (((Ext.alloc1 w (.cells #[.bool b1, .slice a1 n1 c1, .slice d1 m1 o1] 27)).alloc (.cells #[.bool b2, .slice a2 n2 c2, .slice d2 m2 o2] 27)).alloc (.cells #[.bool false, .slice none 0 0, .slice none 0 0] 27))
 replace h1 : Rw W0 (.agg #[.bool b1, .slice a1 n1 c1, .slice d1 m1 o1]) x := h1.ext E0
 replace h2 : Rw W0 (.agg #[.bool b2, .slice a2 n2 c2, .slice d2 m2 o2]) 0 := h2.ext E0
 have p2 : Bx3 W0 w.heap.size 27 (.bool b1) (.slice a1 n1 c1) (.slice d1 m1 o1) := by rw [hW0]; exact (Bx3.new w 27 (.bool b1) (.slice a1 n1 c1) (.slice d1 m1 o1)).ext ((Ext.alloc1 (w.alloc (.cells #[.bool b1, .slice a1 n1 c1, .slice d1 m1 o1] 27)) (.cells #[.bool b2, .slice a2 n2 c2, .slice d2 m2 o2] 27)).alloc (.cells #[.bool false, .slice none 0 0, .slice none 0 0] 27))
 have p3 : Bx3 W0 (w.heap.size + 1) 27 (.bool b2) (.slice a2 n2 c2) (.slice d2 m2 o2) := by rw [hW0]; simpa using (Bx3.new (w.alloc (.cells #[.bool b1, .slice a1 n1 c1, .slice d1 m1 o1] 27)) 27 (.bool b2) (.slice a2 n2 c2) (.slice d2 m2 o2)).ext (Ext.alloc1 ((w.alloc (.cells #[.bool b1, .slice a1 n1 c1, .slice d1 m1 o1] 27)).alloc (.cells #[.bool b2, .slice a2 n2 c2, .slice d2 m2 o2] 27)) (.cells #[.bool false, .slice none 0 0, .slice none 0 0] 27))
 have p4 : Bx3 W0 (w.heap.size + 1 + 1) 27 (.bool false) (.slice none 0 0) (.slice none 0 0) := by rw [hW0]; simpa using (Bx3.new ((w.alloc (.cells #[.bool b1, .slice a1 n1 c1, .slice d1 m1 o1] 27)).alloc (.cells #[.bool b2, .slice a2 n2 c2, .slice d2 m2 o2] 27)) 27 (.bool false) (.slice none 0 0) (.slice none 0 0))
 go_enter Tryz.func38, Tryz.ntmps38
 obtain ⟨kp2_0, kp2_1, kp2_2⟩ := p2.c3
 obtain ⟨kp3_0, kp3_1, kp3_2⟩ := p3.c3
 obtain ⟨kp4_0, kp4_1, kp4_2⟩ := p4.c3
 go_upto_region 2 with (fail)
 rw [← hW0]
 clear hW0; clear kp2_0 kp2_1 kp2_2 kp3_0 kp3_1 kp3_2 kp4_0 kp4_1 kp4_2; have fp4 := p4.form; have ltp2 := p2.lt; have ltp3 := p3.lt; have ltfp4 := fp4.lt; have szw2 := Ext.size E0
 refine region_gs [.one fun v _ => v = .agg #[.bool false, .slice none 0 0, .slice none 0 0],
   .own fun W => Bx3 W (w.heap.size + 1 + 1) 27 (.bool false) (.slice none 0 0) (.slice none 0 0),
   .one fun v _ => v = .int .i64 4]
  (fun W => Ext w W ∧ Rw W (.agg #[.bool b1, .slice a1 n1 c1, .slice d1 m1 o1]) x ∧ Rw W (.agg #[.bool b2, .slice a2 n2 c2, .slice d2 m2 o2]) 0 ∧ Bx3 W w.heap.size 27 (.bool b1) (.slice a1 n1 c1) (.slice d1 m1 o1) ∧ Bx3 W (w.heap.size + 1) 27 (.bool b2) (.slice a2 n2 c2) (.slice d2 m2 o2) ∧ Form W (w.heap.size + 1 + 1) 27 3 ∧ W0.heap.size ≤ W.heap.size) ⟨Good.is _, cert_bx3, Good.is _, trivial⟩
  ⟨E0, h1, h2, p2, p3, fp4, Nat.le_refl _⟩ (A := ?A2) ?hA2 ?howe2 ?hfin2
 case hA2 =>
  intro vs
  simp only [putAll, Act.put, sA, sZ, sS, Nat.zero_add, Nat.reduceAdd]
  exact rfl
 case howe2 =>
  clear E0 h1 h2 p2 p3 fp4
  intro hf
  refine ⟨oE 0 [] hf rfl ?_, oW 1 [0] hf rfl ?_, oE 2 [] hf rfl ?_, trivial⟩
  all_goals intro vs W hS hp hx KO hKO
  all_goals simp only [Act.put, sA, sZ, sS] at hKO
  ·go_simp; exact hKO _ W (.refl W) rfl
  ·have e0 := isOf hp.1; simp only [e0] at hKO
   have hf := hS.2.2.2.2.2.1
   obtain ⟨x0, y0, z0, hx, hno⟩ := hf.bx3
   have r0 := hx.froz0
   have t0 := hx.cell0
   have r1 := hx.froz1
   have t1 := hx.cell1
   have r2 := hx.froz2
   have t2 := hx.cell2
   have hw := Wr.set3 hx hno false none 0 0 none 0 0
   have hq := hx.set (.bool false) (.slice none 0 0) (.slice none 0 0)
   have hg : (w.heap.size + 1 + 1) ≤ (w.heap.size + 1 + 1) := Nat.le_refl _
   go_simp
   exact hKO _ _ hw ⟨(Ext.wr hS.1 hw (by omega)), (hS.2.1.wr hw), (hS.2.2.1.wr hw), (hS.2.2.2.1.wr hw (by omega)), (hS.2.2.2.2.1.wr hw (by omega)), (hS.2.2.2.2.2.1.wr hw), (Nat.le_trans hS.2.2.2.2.2.2 hw.apart.size)⟩ hq
  ·go_simp; exact hKO _ W (.refl W) rfl
 intro vs W2 hS hp
 clear szw2 E0 h1 h2 p2 p3 fp4
 obtain ⟨E0, h1, h2, p2, p3, fp4, sz2⟩ := hS
 obtain ⟨h2_0, h2_1, h2_2, -⟩ := hp
 have p2_1 : Bx3 W2 (w.heap.size + 1 + 1) 27 (.bool false) (.slice none 0 0) (.slice none 0 0) := h2_1
 replace h2_0 : vs 0 = .agg #[.bool false, .slice none 0 0, .slice none 0 0] := h2_0
 replace h2_2 : vs 2 = .int .i64 4 := h2_2
 simp only [h2_0, h2_2]
 clear h2_0 h2_2
 obtain ⟨kp2_0, kp2_1, kp2_2⟩ := p2.c3
 obtain ⟨kp3_0, kp3_1, kp3_2⟩ := p3.c3
 obtain ⟨kp2_1_0, kp2_1_1, kp2_1_2⟩ := p2_1.c3
 go_wp2
 exact bodyPost_ret (v := .tuple #[.agg #[.bool false, .slice none 0 0, .slice none 0 0], .int .i64 4]) (by simp [results, Tryz.results38, go_sem, kp2_1_0, kp2_1_1, kp2_1_2]) rfl ⟨rfl, E0⟩

end Go.Rt
