/-
 The program's fractions: times, Add, Sub, Mul, Div, Of.
-/
import Derived.Test.YthmncdhibcoiaaaGreatGM

namespace Go.Rt

open Go.RowKit Go.Proofs

theorem Zw.opp {W : World} {a : Option Addr} {n c N : Nat} (h : Nw W (.slice a n c) N) : Zw W (.agg #[.bool false, .slice a n c]) (N : Int) := Zw.ofN h

set_option maxRecDepth 100000 in
set_option maxHeartbeats 400000 in
theorem Tryz.ratTimes {v1 v2 : Value} {z : Int} {N L1 L2 : Nat} {w : World} (h1 : Zw w v1 z) (h2 : Nw w v2 N) (s1 : Sm L1 z.natAbs) (s2 : Sm L2 N) (hL : L1 + L2 ≤ 10000000) :
  Calls Tryz.prog 84 #[v1, v2] w fun e w' => ∃ v', e = .returned v' ∧ Zw w' v' (z * (N : Int)) ∧ Ext w w' := by
 obtain ⟨b1, a1, n1, c1, rfl, q1⟩ : ∃ b a n c, v1 = .agg #[.bool b, .slice a n c] ∧ True := let ⟨b, a, n, c, e, _⟩ := h1; ⟨b, a, n, c, e, trivial⟩
 clear q1
 obtain ⟨a2, n2, c2, e2⟩ := h2.slice
 subst e2
 have hz := Zw.opp h2
 have SN : Sm L2 ((N : Nat) : Int).natAbs := by rw [Int.natAbs_natCast]; exact s2
 obtain ⟨W0, hW0⟩ : ∃ W0, W0 = ((w.alloc (.cells #[.bool b1, .slice a1 n1 c1] 25)).alloc (.cells #[.bool false, .slice none 0 0] 25)) := ⟨_, rfl⟩
 have E0 : Ext w W0 := by rw [hW0]; exact ((Ext.alloc1 w (.cells #[.bool b1, .slice a1 n1 c1] 25)).alloc (.cells #[.bool false, .slice none 0 0] 25))
 replace h1 : Zw W0 (.agg #[.bool b1, .slice a1 n1 c1]) z := h1.ext E0
 replace h2 : Nw W0 (.slice a2 n2 c2) N := h2.ext E0
 replace hz : Zw W0 (.agg #[.bool false, .slice a2 n2 c2]) (((N : Nat) : Int)) := hz.ext E0
 have p2 : Bx2 W0 w.heap.size 25 (.bool b1) (.slice a1 n1 c1) := by rw [hW0]; exact (Bx2.new w 25 (.bool b1) (.slice a1 n1 c1)).ext (Ext.alloc1 (w.alloc (.cells #[.bool b1, .slice a1 n1 c1] 25)) (.cells #[.bool false, .slice none 0 0] 25))
 have p4 : Bx2 W0 (w.heap.size + 1) 25 (.bool false) (.slice none 0 0) := by rw [hW0]; simpa using (Bx2.new (w.alloc (.cells #[.bool b1, .slice a1 n1 c1] 25)) 25 (.bool false) (.slice none 0 0))
 go_enter Tryz.func84, Tryz.ntmps84
 have kp2_0 := p2.cell0
 have kp2_1 := p2.cell1
 have kp4_0 := p4.cell0
 have kp4_1 := p4.cell1
 go_upto_region 1 with (fail)
 rw [← hW0]
 clear hW0
 clear kp2_0 kp2_1 kp4_0 kp4_1
 have fp4 := p4.form
 have ltp2 := p2.lt
 have ltfp4 := fp4.lt
 have szw9 := Ext.size E0
 refine region_go [.one fun v _ => v = .agg #[.bool b1, .slice a1 n1 c1],
   .one fun v _ => v = .slice a2 n2 c2,
   .one fun v _ => v = .agg #[.bool false, .slice a2 n2 c2],
   .one fun v W => Zw W v (z * ((N : Nat) : Int)),
   .two 3 (fun r _ W => At2 (w.heap.size + 1) 25 r W)]
  (fun W => Ext w W ∧ Zw W (.agg #[.bool b1, .slice a1 n1 c1]) z ∧ Nw W (.slice a2 n2 c2) N ∧ Zw W (.agg #[.bool false, .slice a2 n2 c2]) (((N : Nat) : Int)) ∧ Bx2 W w.heap.size 25 (.bool b1) (.slice a1 n1 c1) ∧ Form W (w.heap.size + 1) 25 2 ∧ W0.heap.size ≤ W.heap.size) ⟨Good.is _, Good.is _, Good.is _, Good.zed _, cert_at2, trivial⟩
  (fun W W1 hS hE => ⟨(Ext.trans hS.1 hE), (hS.2.1.ext hE), (hS.2.2.1.ext hE), (hS.2.2.2.1.ext hE), (hS.2.2.2.2.1.ext hE), (hS.2.2.2.2.2.1.ext hE), (Nat.le_trans hS.2.2.2.2.2.2 (Ext.size hE))⟩) ⟨E0, h1, h2, hz, p2, fp4, Nat.le_refl _⟩ (by kernel_rfl) (by kernel_rfl) (by kernel_rfl) (by kernel_rfl) (A := ?A9) ?hA9 ?howe9 ?hfin9
 case hA9 =>
  intro vs
  simp only [putAll, Act.put, List.setIfInBounds_toArray, List.set_cons_zero, List.set_cons_succ, Nat.zero_add, Nat.reduceAdd]
  exact rfl
 case howe9 =>
  clear E0 h1 h2 hz p2 fp4
  intro hf
  refine ⟨owesE 0 [] hf rfl (by kernel_rfl) ?_, owesE 1 [] hf rfl (by kernel_rfl) ?_, owesE 2 [1] hf rfl (by kernel_rfl) ?_, owesE 3 [0, 2] hf rfl (by kernel_rfl) ?_, owesW 4 [3] hf rfl (by kernel_rfl) (by kernel_rfl) ?_, trivial⟩
  all_goals intro vs W hS hp hx KO hKO
  all_goals simp only [Act.put, List.setIfInBounds_toArray, List.set_cons_zero, List.set_cons_succ] at hKO
  ·have fc0 := hS.2.2.2.2.1.cell0
   have fc1 := hS.2.2.2.2.1.cell1
   go_simp
   exact hKO _ W (Ext.refl W) rfl
  ·go_simp
   exact hKO _ W (Ext.refl W) rfl
  ·have e1 := isOf hp.1
   simp only [e1] at hKO
   go_simp
   exact hKO _ W (Ext.refl W) rfl
  ·have e0 := isOf hp.1
   have e2 := isOf hp.2.1
   simp only [e0, e2] at hKO
   go_simp
   refine (Tryz.zedMul (hS.2.1) (hS.2.2.2.1) s1 SN hL).mono ?_
   rintro e W1 ⟨v, rfl, hv, hE⟩
   exact hKO _ W1 hE hv
  ·have q3 := hp.1
   have hf := hS.2.2.2.2.2.1
   obtain ⟨x0, y0, hx, hno⟩ := hf.bx2
   have qr := q3
   obtain ⟨b3, a3, n3, c3, er, -, -⟩ := qr
   replace er : vs 3 = _ := er
   have r0 := hx.froz0
   have t0 := hx.cell0
   have r1 := hx.froz1
   have t1 := hx.cell1
   have hw := Wr.set2 hx hno b3 a3 n3 c3
   have hq := hx.set (.bool b3) (.slice a3 n3 c3)
   have hg : (w.heap.size + 1) ≤ (w.heap.size + 1) := Nat.le_refl _
   simp only [er] at hKO
   go_simp
   exact hKO _ _ hw ⟨(Ext.wr hS.1 hw (by omega)), (hS.2.1.wr hw), (hS.2.2.1.wr hw), (hS.2.2.2.1.wr hw), (hS.2.2.2.2.1.wr hw (by omega)), (hS.2.2.2.2.2.1.wr hw), (Nat.le_trans hS.2.2.2.2.2.2 hw.apart.size)⟩ ⟨b3, a3, n3, c3, er, hq⟩
 intro vs W9 hS hp
 clear szw9 E0 h1 h2 hz p2 fp4
 obtain ⟨E0, h1, h2, hz, p2, fp4, sz9⟩ := hS
 obtain ⟨h9_0, h9_1, h9_2, h9_3, h9_4, -⟩ := hp
 obtain ⟨b9_4, a9_4, n9_4, c9_4, er9_4, p9_4⟩ := h9_4
 replace er9_4 : vs 3 = _ := er9_4
 replace h9_3 := (show Zw W9 (vs 3) (z * ((N : Nat) : Int)) from h9_3)
 rw [er9_4] at h9_3
 replace h9_0 : vs 0 = .agg #[.bool b1, .slice a1 n1 c1] := h9_0
 replace h9_1 : vs 1 = .slice a2 n2 c2 := h9_1
 replace h9_2 : vs 2 = .agg #[.bool false, .slice a2 n2 c2] := h9_2
 simp only [er9_4, h9_0, h9_1, h9_2]
 clear er9_4 h9_0 h9_1 h9_2
 have kp2_0 := p2.cell0
 have kp2_1 := p2.cell1
 have kp9_4_0 := p9_4.cell0
 have kp9_4_1 := p9_4.cell1
 go_wp2
 exact bodyPost_ret (v := .agg #[.bool b9_4, .slice a9_4 n9_4 c9_4]) (by simp [results, Tryz.results84, go_sem, kp9_4_0, kp9_4_1]) rfl ⟨_, rfl, h9_3, E0⟩

set_option maxRecDepth 100000 in
set_option maxHeartbeats 400000 in
theorem Tryz.ratJoinA {v1 v2 : Value} {x y : Rat} {L : Nat} {w : World} (h1 : Rw w v1 x) (h2 : Rw w v2 y) (s1 : SmR L x) (s2 : SmR L y) (hL : L ≤ 100000) :
  Calls Tryz.prog 120 #[.agg #[.func (.func 119) #[] #[]], v1, v2] w fun e w' => ∃ v', e = .returned v' ∧ Rw w' v' (x + y) ∧ Ext w w' := by
 obtain ⟨b1, a1, n1, c1, d1, m1, o1, rfl, q1⟩ : ∃ b a n c d m o, v1 = .agg #[.bool b, .slice a n c, .slice d m o] ∧ True := let ⟨b, a, n, c, d, m, o, e, _⟩ := h1; ⟨b, a, n, c, d, m, o, e, trivial⟩
 clear q1
 obtain ⟨b2, a2, n2, c2, d2, m2, o2, rfl, q2⟩ : ∃ b a n c d m o, v2 = .agg #[.bool b, .slice a n c, .slice d m o] ∧ True := let ⟨b, a, n, c, d, m, o, e, _⟩ := h2; ⟨b, a, n, c, d, m, o, e, trivial⟩
 clear q2
 obtain ⟨X, hX⟩ : ∃ X, X = x.num * (y.den : Int) := ⟨_, rfl⟩
 obtain ⟨Y, hY⟩ : ∃ Y, Y = y.num * (x.den : Int) := ⟨_, rfl⟩
 obtain ⟨D, hD⟩ : ∃ D, D = x.den * y.den := ⟨_, rfl⟩
 have HX := Lib.hid hX
 have HY := Lib.hid hY
 have HD := Lib.hid hD
 have SX : Hid (Sm (L + L) X.natAbs) := Lib.hid (by rw [hX, Int.natAbs_mul]; exact s1.1.mul s2.2)
 have SY : Hid (Sm (L + L) Y.natAbs) := Lib.hid (by rw [hY, Int.natAbs_mul]; exact s2.1.mul s1.2)
 have SYN : Hid (Sm (L + L) (Y).natAbs) := Lib.hid (by exact SY.out)
 have SXY : Hid (Sm (L + L + 1) (X + Y).natAbs) := Lib.hid ((SX.out.add SYN.out).le (by omega))
 have SD : Hid (Sm (L + L + 1) D) := Lib.hid (by rw [hD]; exact (s1.2.mul s2.2).mono (by omega))
 have HD0 : Hid (D ≠ 0) := Lib.hid (by rw [hD]; exact Nat.mul_ne_zero x.den_nz y.den_nz)
 have HR : Hid (mkRat (X + Y) D = x + y) := Lib.hid (by rw [hX, hY, hD]; exact Rat.add_mk x y)
 rw [← HR.out]
 clear hX hY hD
 obtain ⟨W0, hW0⟩ : ∃ W0, W0 = ((((w.alloc (.cells #[.func (.func 119) #[] #[]] 109)).alloc (.cells #[.bool b1, .slice a1 n1 c1, .slice d1 m1 o1] 27)).alloc (.cells #[.bool b2, .slice a2 n2 c2, .slice d2 m2 o2] 27)).alloc (.cells #[.bool false, .slice none 0 0, .slice none 0 0] 27)) := ⟨_, rfl⟩
 have E0 : Ext w W0 := by rw [hW0]; exact ((((Ext.alloc1 w (.cells #[.func (.func 119) #[] #[]] 109)).alloc (.cells #[.bool b1, .slice a1 n1 c1, .slice d1 m1 o1] 27)).alloc (.cells #[.bool b2, .slice a2 n2 c2, .slice d2 m2 o2] 27)).alloc (.cells #[.bool false, .slice none 0 0, .slice none 0 0] 27))
 replace h1 : Rw W0 (.agg #[.bool b1, .slice a1 n1 c1, .slice d1 m1 o1]) x := h1.ext E0
 replace h2 : Rw W0 (.agg #[.bool b2, .slice a2 n2 c2, .slice d2 m2 o2]) y := h2.ext E0
 have p3 : Bx1 W0 w.heap.size 109 (.func (.func 119) #[] #[]) := by rw [hW0]; exact (Bx1.new w 109 (.func (.func 119) #[] #[])).ext (((Ext.alloc1 (w.alloc (.cells #[.func (.func 119) #[] #[]] 109)) (.cells #[.bool b1, .slice a1 n1 c1, .slice d1 m1 o1] 27)).alloc (.cells #[.bool b2, .slice a2 n2 c2, .slice d2 m2 o2] 27)).alloc (.cells #[.bool false, .slice none 0 0, .slice none 0 0] 27))
 have p4 : Bx3 W0 (w.heap.size + 1) 27 (.bool b1) (.slice a1 n1 c1) (.slice d1 m1 o1) := by rw [hW0]; simpa using (Bx3.new (w.alloc (.cells #[.func (.func 119) #[] #[]] 109)) 27 (.bool b1) (.slice a1 n1 c1) (.slice d1 m1 o1)).ext ((Ext.alloc1 ((w.alloc (.cells #[.func (.func 119) #[] #[]] 109)).alloc (.cells #[.bool b1, .slice a1 n1 c1, .slice d1 m1 o1] 27)) (.cells #[.bool b2, .slice a2 n2 c2, .slice d2 m2 o2] 27)).alloc (.cells #[.bool false, .slice none 0 0, .slice none 0 0] 27))
 have p5 : Bx3 W0 (w.heap.size + 1 + 1) 27 (.bool b2) (.slice a2 n2 c2) (.slice d2 m2 o2) := by rw [hW0]; simpa using (Bx3.new ((w.alloc (.cells #[.func (.func 119) #[] #[]] 109)).alloc (.cells #[.bool b1, .slice a1 n1 c1, .slice d1 m1 o1] 27)) 27 (.bool b2) (.slice a2 n2 c2) (.slice d2 m2 o2)).ext (Ext.alloc1 (((w.alloc (.cells #[.func (.func 119) #[] #[]] 109)).alloc (.cells #[.bool b1, .slice a1 n1 c1, .slice d1 m1 o1] 27)).alloc (.cells #[.bool b2, .slice a2 n2 c2, .slice d2 m2 o2] 27)) (.cells #[.bool false, .slice none 0 0, .slice none 0 0] 27))
 have p6 : Bx3 W0 (w.heap.size + 1 + 1 + 1) 27 (.bool false) (.slice none 0 0) (.slice none 0 0) := by rw [hW0]; simpa using (Bx3.new (((w.alloc (.cells #[.func (.func 119) #[] #[]] 109)).alloc (.cells #[.bool b1, .slice a1 n1 c1, .slice d1 m1 o1] 27)).alloc (.cells #[.bool b2, .slice a2 n2 c2, .slice d2 m2 o2] 27)) 27 (.bool false) (.slice none 0 0) (.slice none 0 0))
 go_enter Tryz.func120, Tryz.ntmps120
 have kp3_0 := p3.cell0
 have kp4_0 := p4.cell0
 have kp4_1 := p4.cell1
 have kp4_2 := p4.cell2
 have kp5_0 := p5.cell0
 have kp5_1 := p5.cell1
 have kp5_2 := p5.cell2
 have kp6_0 := p6.cell0
 have kp6_1 := p6.cell1
 have kp6_2 := p6.cell2
 go_upto_region 1 with (fail)
 rw [← hW0]
 clear hW0
 clear kp3_0 kp4_0 kp4_1 kp4_2 kp5_0 kp5_1 kp5_2 kp6_0 kp6_1 kp6_2
 have ltp3 := p3.lt
 have ltp4 := p4.lt
 have ltp5 := p5.lt
 have ltp6 := p6.lt
 have szw11 := Ext.size E0
 refine region_go [.one fun v _ => v = .pointer (some ⟨w.heap.size, 0, none⟩),
   .one fun v _ => v = .func (.func 119) #[] #[],
   .one fun v _ => v = .pointer (some ⟨w.heap.size + 1, 0, none⟩),
   .one fun v _ => v = .agg #[.bool b1, .slice a1 n1 c1],
   .one fun v _ => v = .pointer (some ⟨w.heap.size + 1 + 1, 2, none⟩),
   .one fun v _ => v = .slice d2 m2 o2,
   .one fun v W => Zw W v X,
   .one fun v _ => v = .pointer (some ⟨w.heap.size + 1 + 1, 0, none⟩),
   .one fun v _ => v = .agg #[.bool b2, .slice a2 n2 c2],
   .one fun v _ => v = .pointer (some ⟨w.heap.size + 1, 2, none⟩),
   .one fun v _ => v = .slice d1 m1 o1,
   .one fun v W => Zw W v Y,
   .one fun v W => Zw W v (X + Y),
   .one fun v _ => v = .pointer (some ⟨w.heap.size + 1, 2, none⟩),
   .one fun v _ => v = .slice d1 m1 o1,
   .one fun v _ => v = .pointer (some ⟨w.heap.size + 1 + 1, 2, none⟩),
   .one fun v _ => v = .slice d2 m2 o2,
   .one fun v W => Nw W v D,
   .one fun v W => ∃ v', v = .tuple #[v', .int .i64 0] ∧ (fun v W => Rw W v (mkRat (X + Y) D)) v' W,
   .one fun v W => ∃ v', v = .tuple #[v', .int .i64 0] ∧ (fun v W => Rw W v (mkRat (X + Y) D)) v' W,
   .one fun v W => Rw W v (mkRat (X + Y) D),
   .one fun v _ => v = .int .i64 0,
   .one fun v W => ∃ g, v = .pointer (some ⟨g, 0, none⟩) ∧ W0.heap.size ≤ g ∧ Form W g 27 3,
   .three 22 20 (fun p r _ W => Put3 W0.heap.size 27 p r W),
   .one fun v _ => v = .int .i64 0]
  (fun W => Ext w W ∧ Rw W (.agg #[.bool b1, .slice a1 n1 c1, .slice d1 m1 o1]) x ∧ Rw W (.agg #[.bool b2, .slice a2 n2 c2, .slice d2 m2 o2]) y ∧ Bx1 W w.heap.size 109 (.func (.func 119) #[] #[]) ∧ Bx3 W (w.heap.size + 1) 27 (.bool b1) (.slice a1 n1 c1) (.slice d1 m1 o1) ∧ Bx3 W (w.heap.size + 1 + 1) 27 (.bool b2) (.slice a2 n2 c2) (.slice d2 m2 o2) ∧ Bx3 W (w.heap.size + 1 + 1 + 1) 27 (.bool false) (.slice none 0 0) (.slice none 0 0) ∧ W0.heap.size ≤ W.heap.size) ⟨Good.is _, Good.is _, Good.is _, Good.is _, Good.is _, Good.is _, Good.zed _, Good.is _, Good.is _, Good.is _, Good.is _, Good.zed _, Good.zed _, Good.is _, Good.is _, Good.is _, Good.is _, Good.num _, (Good.rat _).tup _, (Good.rat _).tup _, Good.rat _, Good.is _, Good.box _ _ _, cert_put3, Good.is _, trivial⟩
  (fun W W1 hS hE => ⟨(Ext.trans hS.1 hE), (hS.2.1.ext hE), (hS.2.2.1.ext hE), (hS.2.2.2.1.ext hE), (hS.2.2.2.2.1.ext hE), (hS.2.2.2.2.2.1.ext hE), (hS.2.2.2.2.2.2.1.ext hE), (Nat.le_trans hS.2.2.2.2.2.2.2 (Ext.size hE))⟩) ⟨E0, h1, h2, p3, p4, p5, p6, Nat.le_refl _⟩ (by kernel_rfl) (by kernel_rfl) (by kernel_rfl) (by kernel_rfl) (A := ?A11) ?hA11 ?howe11 ?hfin11
 case hA11 =>
  intro vs
  simp only [putAll, Act.put, List.setIfInBounds_toArray, List.set_cons_zero, List.set_cons_succ, Nat.zero_add, Nat.reduceAdd]
  exact rfl
 case howe11 =>
  clear E0 h1 h2 p3 p4 p5 p6
  intro hf
  refine ⟨owesE 0 [] hf rfl (by kernel_rfl) ?_, owesE 1 [0] hf rfl (by kernel_rfl) ?_, owesE 2 [] hf rfl (by kernel_rfl) ?_, owesE 3 [2] hf rfl (by kernel_rfl) ?_, owesE 4 [] hf rfl (by kernel_rfl) ?_, owesE 5 [4] hf rfl (by kernel_rfl) ?_, owesE 6 [3, 5] hf rfl (by kernel_rfl) ?_, owesE 7 [] hf rfl (by kernel_rfl) ?_, owesE 8 [7] hf rfl (by kernel_rfl) ?_, owesE 9 [] hf rfl (by kernel_rfl) ?_, owesE 10 [9] hf rfl (by kernel_rfl) ?_, owesE 11 [8, 10] hf rfl (by kernel_rfl) ?_, owesE 12 [1, 6, 11] hf rfl (by kernel_rfl) ?_, owesE 13 [] hf rfl (by kernel_rfl) ?_, owesE 14 [13] hf rfl (by kernel_rfl) ?_, owesE 15 [] hf rfl (by kernel_rfl) ?_, owesE 16 [15] hf rfl (by kernel_rfl) ?_, owesE 17 [14, 16] hf rfl (by kernel_rfl) ?_, owesE 18 [12, 17] hf rfl (by kernel_rfl) ?_, owesE 19 [18] hf rfl (by kernel_rfl) ?_, owesE 20 [19] hf rfl (by kernel_rfl) ?_, owesE 21 [19] hf rfl (by kernel_rfl) ?_, owesE 22 [] hf rfl (by kernel_rfl) ?_, owesW 23 [22, 20] hf rfl (by kernel_rfl) (by kernel_rfl) ?_, owesE 24 [21] hf rfl (by kernel_rfl) ?_, trivial⟩
  all_goals intro vs W hS hp hx KO hKO
  all_goals simp only [Act.put, List.setIfInBounds_toArray, List.set_cons_zero, List.set_cons_succ] at hKO
  ·go_simp
   exact hKO _ W (Ext.refl W) rfl
  ·have e0 := isOf hp.1
   simp only [e0] at hKO
   have fc0 := hS.2.2.2.1.cell0
   go_simp
   exact hKO _ W (Ext.refl W) rfl
  ·go_simp
   exact hKO _ W (Ext.refl W) rfl
  ·have e2 := isOf hp.1
   simp only [e2] at hKO
   have fc0 := hS.2.2.2.2.1.cell0
   have fc1 := hS.2.2.2.2.1.cell1
   go_simp
   exact hKO _ W (Ext.refl W) rfl
  ·go_simp
   exact hKO _ W (Ext.refl W) rfl
  ·have e4 := isOf hp.1
   simp only [e4] at hKO
   have fc2 := hS.2.2.2.2.2.1.cell2
   go_simp
   exact hKO _ W (Ext.refl W) rfl
  ·have e3 := isOf hp.1
   have e5 := isOf hp.2.1
   simp only [e3, e5] at hKO
   go_simp
   refine (Tryz.ratTimes (hS.2.1.top) (hS.2.2.1.den) s1.1 s2.2 (by omega)).mono ?_
   rintro e W1 ⟨v, rfl, hv, hE⟩
   rw [← HX.out] at hv
   exact hKO _ W1 hE hv
  ·go_simp
   exact hKO _ W (Ext.refl W) rfl
  ·have e7 := isOf hp.1
   simp only [e7] at hKO
   have fc0 := hS.2.2.2.2.2.1.cell0
   have fc1 := hS.2.2.2.2.2.1.cell1
   go_simp
   exact hKO _ W (Ext.refl W) rfl
  ·go_simp
   exact hKO _ W (Ext.refl W) rfl
  ·have e9 := isOf hp.1
   simp only [e9] at hKO
   have fc2 := hS.2.2.2.2.1.cell2
   go_simp
   exact hKO _ W (Ext.refl W) rfl
  ·have e8 := isOf hp.1
   have e10 := isOf hp.2.1
   simp only [e8, e10] at hKO
   go_simp
   refine (Tryz.ratTimes (hS.2.2.1.top) (hS.2.1.den) s2.1 s1.2 (by omega)).mono ?_
   rintro e W1 ⟨v, rfl, hv, hE⟩
   rw [← HY.out] at hv
   exact hKO _ W1 hE hv
  ·have e1 := isOf hp.1
   have q6 := hp.2.1
   have q11 := hp.2.2.1
   simp only [e1] at hKO
   go_simp
   refine (Tryz.zedAdd q6 q11 SX.out SY.out (by omega)).mono ?_
   rintro e W1 ⟨v, rfl, hv, hE⟩
   exact hKO _ W1 hE hv
  ·go_simp
   exact hKO _ W (Ext.refl W) rfl
  ·have e13 := isOf hp.1
   simp only [e13] at hKO
   have fc2 := hS.2.2.2.2.1.cell2
   go_simp
   exact hKO _ W (Ext.refl W) rfl
  ·go_simp
   exact hKO _ W (Ext.refl W) rfl
  ·have e15 := isOf hp.1
   simp only [e15] at hKO
   have fc2 := hS.2.2.2.2.2.1.cell2
   go_simp
   exact hKO _ W (Ext.refl W) rfl
  ·have e14 := isOf hp.1
   have e16 := isOf hp.2.1
   simp only [e14, e16] at hKO
   go_simp
   refine (Tryz.natMul (hS.2.1.den) (hS.2.2.1.den) s1.2 s2.2 (by omega)).mono ?_
   rintro e W1 ⟨v, rfl, hv, hE, -⟩
   rw [← HD.out] at hv
   exact hKO _ W1 hE hv
  ·have q12 := hp.1
   have q17 := hp.2.1
   go_simp
   refine (Tryz.ratMake q12 q17 SXY.out SD.out (by omega) HD0.out).mono ?_
   rintro e W1 ⟨v, rfl, hv, hE⟩
   exact hKO _ W1 hE ⟨_, rfl, hv⟩
  ·have q18 := hp.1
   obtain ⟨u, ev, hu⟩ := q18
   replace ev : vs 18 = _ := ev
   simp only [ev] at hKO
   go_simp
   exact hKO _ W (Ext.refl W) ⟨u, rfl, hu⟩
  ·have q19 := hp.1
   obtain ⟨u, ev, hu⟩ := q19
   replace ev : vs 19 = _ := ev
   simp only [ev] at hKO
   go_simp
   exact hKO _ W (Ext.refl W) hu
  ·have q19 := hp.1
   obtain ⟨u, ev, hu⟩ := q19
   replace ev : vs 19 = _ := ev
   simp only [ev] at hKO
   go_simp
   exact hKO _ W (Ext.refl W) rfl
  ·have hn := Bx3.new W 27 (.bool false) (.slice none 0 0) (.slice none 0 0)
   have hE := Ext.alloc1 W (.cells #[.bool false, .slice none 0 0, .slice none 0 0] 27)
   have hsz := hS.2.2.2.2.2.2.2
   go_simp
   exact hKO _ _ hE ⟨_, rfl, hsz, hn.form⟩
  ·have q22 := hp.1
   have q20 := hp.2.1
   obtain ⟨g, ev, hg, hf⟩ := q22
   replace ev : vs 22 = _ := ev
   obtain ⟨x0, y0, z0, hx, hno⟩ := hf.bx3
   have qr := q20
   obtain ⟨b3, a3, n3, c3, d3, m3, o3, er, -, -, -⟩ := qr
   replace er : vs 20 = _ := er
   have r0 := hx.froz0
   have t0 := hx.cell0
   have r1 := hx.froz1
   have t1 := hx.cell1
   have r2 := hx.froz2
   have t2 := hx.cell2
   have hw := Wr.set3 hx hno b3 a3 n3 c3 d3 m3 o3
   have hq := hx.set (.bool b3) (.slice a3 n3 c3) (.slice d3 m3 o3)
   simp only [ev, er] at hKO
   go_simp
   exact hKO _ _ hw ⟨(Ext.wr hS.1 hw (by omega)), (hS.2.1.wr hw), (hS.2.2.1.wr hw), (hS.2.2.2.1.wr hw (by omega)), (hS.2.2.2.2.1.wr hw (by omega)), (hS.2.2.2.2.2.1.wr hw (by omega)), (hS.2.2.2.2.2.2.1.wr hw (by omega)), (Nat.le_trans hS.2.2.2.2.2.2.2 hw.apart.size)⟩ ⟨g, b3, a3, n3, c3, d3, m3, o3, ev, er, hg, hq⟩
  ·have e21 := isOf hp.1
   simp only [e21] at hKO
   go_simp
   exact hKO _ W (Ext.refl W) rfl
 intro vs W11 hS hp
 clear szw11 E0 h1 h2 p3 p4 p5 p6
 obtain ⟨E0, h1, h2, p3, p4, p5, p6, sz11⟩ := hS
 obtain ⟨h11_0, h11_1, h11_2, h11_3, h11_4, h11_5, h11_6, h11_7, h11_8, h11_9, h11_10, h11_11, h11_12, h11_13, h11_14, h11_15, h11_16, h11_17, h11_18, h11_19, h11_20, h11_21, h11_22, h11_23, h11_24, -⟩ := hp
 obtain ⟨g11_23, b11_23, a11_23, n11_23, c11_23, d11_23, m11_23, o11_23, ev11_23, er11_23, hg11_23, p11_23⟩ := h11_23
 replace ev11_23 : vs 22 = _ := ev11_23
 replace er11_23 : vs 20 = _ := er11_23
 replace h11_20 := (show Rw W11 (vs 20) (mkRat (X + Y) D) from h11_20)
 rw [er11_23] at h11_20
 replace h11_0 : vs 0 = .pointer (some ⟨w.heap.size, 0, none⟩) := h11_0
 replace h11_1 : vs 1 = .func (.func 119) #[] #[] := h11_1
 replace h11_2 : vs 2 = .pointer (some ⟨w.heap.size + 1, 0, none⟩) := h11_2
 replace h11_3 : vs 3 = .agg #[.bool b1, .slice a1 n1 c1] := h11_3
 replace h11_4 : vs 4 = .pointer (some ⟨w.heap.size + 1 + 1, 2, none⟩) := h11_4
 replace h11_5 : vs 5 = .slice d2 m2 o2 := h11_5
 replace h11_7 : vs 7 = .pointer (some ⟨w.heap.size + 1 + 1, 0, none⟩) := h11_7
 replace h11_8 : vs 8 = .agg #[.bool b2, .slice a2 n2 c2] := h11_8
 replace h11_9 : vs 9 = .pointer (some ⟨w.heap.size + 1, 2, none⟩) := h11_9
 replace h11_10 : vs 10 = .slice d1 m1 o1 := h11_10
 replace h11_13 : vs 13 = .pointer (some ⟨w.heap.size + 1, 2, none⟩) := h11_13
 replace h11_14 : vs 14 = .slice d1 m1 o1 := h11_14
 replace h11_15 : vs 15 = .pointer (some ⟨w.heap.size + 1 + 1, 2, none⟩) := h11_15
 replace h11_16 : vs 16 = .slice d2 m2 o2 := h11_16
 replace h11_21 : vs 21 = .int .i64 0 := h11_21
 replace h11_24 : vs 24 = .int .i64 0 := h11_24
 simp only [ev11_23, er11_23, h11_0, h11_1, h11_2, h11_3, h11_4, h11_5, h11_7, h11_8, h11_9, h11_10, h11_13, h11_14, h11_15, h11_16, h11_21, h11_24]
 replace h11_6 : Zw W11 (vs 6) X := h11_6
 generalize vs 6 = u11_6 at h11_6 ⊢
 replace h11_11 : Zw W11 (vs 11) Y := h11_11
 generalize vs 11 = u11_11 at h11_11 ⊢
 replace h11_12 : Zw W11 (vs 12) (X + Y) := h11_12
 generalize vs 12 = u11_12 at h11_12 ⊢
 replace h11_17 : Nw W11 (vs 17) D := h11_17
 generalize vs 17 = u11_17 at h11_17 ⊢
 clear ev11_23 er11_23 h11_0 h11_1 h11_2 h11_3 h11_4 h11_5 h11_7 h11_8 h11_9 h11_10 h11_13 h11_14 h11_15 h11_16 h11_21 h11_24 h11_18 h11_19 h11_22
 have kp3_0 := p3.cell0
 have kp4_0 := p4.cell0
 have kp4_1 := p4.cell1
 have kp4_2 := p4.cell2
 have kp5_0 := p5.cell0
 have kp5_1 := p5.cell1
 have kp5_2 := p5.cell2
 have kp6_0 := p6.cell0
 have kp6_1 := p6.cell1
 have kp6_2 := p6.cell2
 have kp11_23_0 := p11_23.cell0
 have kp11_23_1 := p11_23.cell1
 have kp11_23_2 := p11_23.cell2
 go_upto_region 2 with (fail)
 clear kp3_0 kp4_0 kp4_1 kp4_2 kp5_0 kp5_1 kp5_2 kp6_0 kp6_1 kp6_2 kp11_23_0 kp11_23_1 kp11_23_2
 have fp6 := p6.form
 have ltp11_23 := p11_23.lt
 have szw12 := Ext.size E0
 refine region_go [.one fun v _ => v = .agg #[.bool b11_23, .slice a11_23 n11_23 c11_23, .slice d11_23 m11_23 o11_23],
   .own fun W => Bx3 W (w.heap.size + 1 + 1 + 1) 27 (.bool b11_23) (.slice a11_23 n11_23 c11_23) (.slice d11_23 m11_23 o11_23)]
  (fun W => Ext w W ∧ Rw W (.agg #[.bool b1, .slice a1 n1 c1, .slice d1 m1 o1]) x ∧ Rw W (.agg #[.bool b2, .slice a2 n2 c2, .slice d2 m2 o2]) y ∧ Bx1 W w.heap.size 109 (.func (.func 119) #[] #[]) ∧ Bx3 W (w.heap.size + 1) 27 (.bool b1) (.slice a1 n1 c1) (.slice d1 m1 o1) ∧ Bx3 W (w.heap.size + 1 + 1) 27 (.bool b2) (.slice a2 n2 c2) (.slice d2 m2 o2) ∧ Form W (w.heap.size + 1 + 1 + 1) 27 3 ∧ Rw W (.agg #[.bool b11_23, .slice a11_23 n11_23 c11_23, .slice d11_23 m11_23 o11_23]) (mkRat (X + Y) D) ∧ Bx3 W g11_23 27 (.bool b11_23) (.slice a11_23 n11_23 c11_23) (.slice d11_23 m11_23 o11_23) ∧ Zw W u11_6 X ∧ Zw W u11_11 Y ∧ Zw W u11_12 (X + Y) ∧ Nw W u11_17 D ∧ W11.heap.size ≤ W.heap.size) ⟨Good.is _, cert_bx3, trivial⟩
  (fun W W1 hS hE => ⟨(Ext.trans hS.1 hE), (hS.2.1.ext hE), (hS.2.2.1.ext hE), (hS.2.2.2.1.ext hE), (hS.2.2.2.2.1.ext hE), (hS.2.2.2.2.2.1.ext hE), (hS.2.2.2.2.2.2.1.ext hE), (hS.2.2.2.2.2.2.2.1.ext hE), (hS.2.2.2.2.2.2.2.2.1.ext hE), (hS.2.2.2.2.2.2.2.2.2.1.ext hE), (hS.2.2.2.2.2.2.2.2.2.2.1.ext hE), (hS.2.2.2.2.2.2.2.2.2.2.2.1.ext hE), (hS.2.2.2.2.2.2.2.2.2.2.2.2.1.ext hE), (Nat.le_trans hS.2.2.2.2.2.2.2.2.2.2.2.2.2 (Ext.size hE))⟩) ⟨E0, h1, h2, p3, p4, p5, fp6, h11_20, p11_23, h11_6, h11_11, h11_12, h11_17, Nat.le_refl _⟩ (by kernel_rfl) (by kernel_rfl) (by kernel_rfl) (by kernel_rfl) (A := ?A12) ?hA12 ?howe12 ?hfin12
 case hA12 =>
  intro vs
  simp only [putAll, Act.put, List.setIfInBounds_toArray, List.set_cons_zero, List.set_cons_succ]
  exact rfl
 case howe12 =>
  clear E0 h1 h2 p3 p4 p5 fp6 h11_20 p11_23 h11_6 h11_11 h11_12 h11_17
  intro hf
  refine ⟨owesE 0 [] hf rfl (by kernel_rfl) ?_, owesW 1 [0] hf rfl (by kernel_rfl) (by kernel_rfl) ?_, trivial⟩
  all_goals intro vs W hS hp hx KO hKO
  all_goals simp only [Act.put, List.setIfInBounds_toArray, List.set_cons_zero, List.set_cons_succ] at hKO
  ·have fc0 := hS.2.2.2.2.2.2.2.2.1.cell0
   have fc1 := hS.2.2.2.2.2.2.2.2.1.cell1
   have fc2 := hS.2.2.2.2.2.2.2.2.1.cell2
   go_simp
   exact hKO _ W (Ext.refl W) rfl
  ·have e0 := isOf hp.1
   simp only [e0] at hKO
   have hf := hS.2.2.2.2.2.2.1
   obtain ⟨x0, y0, z0, hx, hno⟩ := hf.bx3
   have r0 := hx.froz0
   have t0 := hx.cell0
   have r1 := hx.froz1
   have t1 := hx.cell1
   have r2 := hx.froz2
   have t2 := hx.cell2
   have hw := Wr.set3 hx hno b11_23 a11_23 n11_23 c11_23 d11_23 m11_23 o11_23
   have hq := hx.set (.bool b11_23) (.slice a11_23 n11_23 c11_23) (.slice d11_23 m11_23 o11_23)
   have hg : (w.heap.size + 1 + 1 + 1) ≤ (w.heap.size + 1 + 1 + 1) := Nat.le_refl _
   go_simp
   exact hKO _ _ hw ⟨(Ext.wr hS.1 hw (by omega)), (hS.2.1.wr hw), (hS.2.2.1.wr hw), (hS.2.2.2.1.wr hw (by omega)), (hS.2.2.2.2.1.wr hw (by omega)), (hS.2.2.2.2.2.1.wr hw (by omega)), (hS.2.2.2.2.2.2.1.wr hw), (hS.2.2.2.2.2.2.2.1.wr hw), (hS.2.2.2.2.2.2.2.2.1.wr hw (by omega)), (hS.2.2.2.2.2.2.2.2.2.1.wr hw), (hS.2.2.2.2.2.2.2.2.2.2.1.wr hw), (hS.2.2.2.2.2.2.2.2.2.2.2.1.wr hw), (hS.2.2.2.2.2.2.2.2.2.2.2.2.1.wr hw), (Nat.le_trans hS.2.2.2.2.2.2.2.2.2.2.2.2.2 hw.apart.size)⟩ hq
 intro vs W12 hS hp
 clear szw12 E0 h1 h2 p3 p4 p5 fp6 h11_20 p11_23 h11_6 h11_11 h11_12 h11_17
 obtain ⟨E0, h1, h2, p3, p4, p5, fp6, h11_20, p11_23, h11_6, h11_11, h11_12, h11_17, sz12⟩ := hS
 obtain ⟨h12_0, h12_1, -⟩ := hp
 have p12_1 : Bx3 W12 (w.heap.size + 1 + 1 + 1) 27 (.bool b11_23) (.slice a11_23 n11_23 c11_23) (.slice d11_23 m11_23 o11_23) := h12_1
 replace h12_0 : vs 0 = .agg #[.bool b11_23, .slice a11_23 n11_23 c11_23, .slice d11_23 m11_23 o11_23] := h12_0
 simp only [h12_0]
 clear h12_0
 have kp3_0 := p3.cell0
 have kp4_0 := p4.cell0
 have kp4_1 := p4.cell1
 have kp4_2 := p4.cell2
 have kp5_0 := p5.cell0
 have kp5_1 := p5.cell1
 have kp5_2 := p5.cell2
 have kp11_23_0 := p11_23.cell0
 have kp11_23_1 := p11_23.cell1
 have kp11_23_2 := p11_23.cell2
 have kp12_1_0 := p12_1.cell0
 have kp12_1_1 := p12_1.cell1
 have kp12_1_2 := p12_1.cell2
 go_wp2
 exact bodyPost_ret (v := .agg #[.bool b11_23, .slice a11_23 n11_23 c11_23, .slice d11_23 m11_23 o11_23]) (by simp [results, Tryz.results120, go_sem, kp12_1_0, kp12_1_1, kp12_1_2]) rfl ⟨_, rfl, h11_20, E0⟩

set_option maxRecDepth 100000 in
set_option maxHeartbeats 400000 in
theorem Tryz.ratAdd {v1 v2 : Value} {x y : Rat} {L : Nat} {w : World} (h1 : Rw w v1 x) (h2 : Rw w v2 y) (s1 : SmR L x) (s2 : SmR L y) (hL : L ≤ 100000) :
  Calls Tryz.prog 67 #[v1, v2] w fun e w' => ∃ v', e = .returned v' ∧ Rw w' v' (x + y) ∧ Ext w w' := by
 obtain ⟨b1, a1, n1, c1, d1, m1, o1, rfl, q1⟩ : ∃ b a n c d m o, v1 = .agg #[.bool b, .slice a n c, .slice d m o] ∧ True := let ⟨b, a, n, c, d, m, o, e, _⟩ := h1; ⟨b, a, n, c, d, m, o, e, trivial⟩
 clear q1
 obtain ⟨b2, a2, n2, c2, d2, m2, o2, rfl, q2⟩ : ∃ b a n c d m o, v2 = .agg #[.bool b, .slice a n c, .slice d m o] ∧ True := let ⟨b, a, n, c, d, m, o, e, _⟩ := h2; ⟨b, a, n, c, d, m, o, e, trivial⟩
 clear q2
 obtain ⟨W0, hW0⟩ : ∃ W0, W0 = (((w.alloc (.cells #[.bool b1, .slice a1 n1 c1, .slice d1 m1 o1] 27)).alloc (.cells #[.bool b2, .slice a2 n2 c2, .slice d2 m2 o2] 27)).alloc (.cells #[.bool false, .slice none 0 0, .slice none 0 0] 27)) := ⟨_, rfl⟩
 have E0 : Ext w W0 := by rw [hW0]; exact (((Ext.alloc1 w (.cells #[.bool b1, .slice a1 n1 c1, .slice d1 m1 o1] 27)).alloc (.cells #[.bool b2, .slice a2 n2 c2, .slice d2 m2 o2] 27)).alloc (.cells #[.bool false, .slice none 0 0, .slice none 0 0] 27))
 replace h1 : Rw W0 (.agg #[.bool b1, .slice a1 n1 c1, .slice d1 m1 o1]) x := h1.ext E0
 replace h2 : Rw W0 (.agg #[.bool b2, .slice a2 n2 c2, .slice d2 m2 o2]) y := h2.ext E0
 have p2 : Bx3 W0 w.heap.size 27 (.bool b1) (.slice a1 n1 c1) (.slice d1 m1 o1) := by rw [hW0]; exact (Bx3.new w 27 (.bool b1) (.slice a1 n1 c1) (.slice d1 m1 o1)).ext ((Ext.alloc1 (w.alloc (.cells #[.bool b1, .slice a1 n1 c1, .slice d1 m1 o1] 27)) (.cells #[.bool b2, .slice a2 n2 c2, .slice d2 m2 o2] 27)).alloc (.cells #[.bool false, .slice none 0 0, .slice none 0 0] 27))
 have p3 : Bx3 W0 (w.heap.size + 1) 27 (.bool b2) (.slice a2 n2 c2) (.slice d2 m2 o2) := by rw [hW0]; simpa using (Bx3.new (w.alloc (.cells #[.bool b1, .slice a1 n1 c1, .slice d1 m1 o1] 27)) 27 (.bool b2) (.slice a2 n2 c2) (.slice d2 m2 o2)).ext (Ext.alloc1 ((w.alloc (.cells #[.bool b1, .slice a1 n1 c1, .slice d1 m1 o1] 27)).alloc (.cells #[.bool b2, .slice a2 n2 c2, .slice d2 m2 o2] 27)) (.cells #[.bool false, .slice none 0 0, .slice none 0 0] 27))
 have p4 : Bx3 W0 (w.heap.size + 1 + 1) 27 (.bool false) (.slice none 0 0) (.slice none 0 0) := by rw [hW0]; simpa using (Bx3.new ((w.alloc (.cells #[.bool b1, .slice a1 n1 c1, .slice d1 m1 o1] 27)).alloc (.cells #[.bool b2, .slice a2 n2 c2, .slice d2 m2 o2] 27)) 27 (.bool false) (.slice none 0 0) (.slice none 0 0))
 go_enter Tryz.func67, Tryz.ntmps67
 have kp2_0 := p2.cell0
 have kp2_1 := p2.cell1
 have kp2_2 := p2.cell2
 have kp3_0 := p3.cell0
 have kp3_1 := p3.cell1
 have kp3_2 := p3.cell2
 have kp4_0 := p4.cell0
 have kp4_1 := p4.cell1
 have kp4_2 := p4.cell2
 go_upto_region 1 with (fail)
 rw [← hW0]
 clear hW0
 clear kp2_0 kp2_1 kp2_2 kp3_0 kp3_1 kp3_2 kp4_0 kp4_1 kp4_2
 have fp4 := p4.form
 have ltp2 := p2.lt
 have ltp3 := p3.lt
 have ltfp4 := fp4.lt
 have szw15 := Ext.size E0
 refine region_go [.one fun v _ => v = .agg #[.func (.func 119) #[] #[]],
   .one fun v _ => v = .agg #[.bool b1, .slice a1 n1 c1, .slice d1 m1 o1],
   .one fun v _ => v = .agg #[.bool b2, .slice a2 n2 c2, .slice d2 m2 o2],
   .one fun v W => Rw W v (x + y),
   .two 3 (fun r _ W => At3 (w.heap.size + 1 + 1) 27 r W)]
  (fun W => Ext w W ∧ Rw W (.agg #[.bool b1, .slice a1 n1 c1, .slice d1 m1 o1]) x ∧ Rw W (.agg #[.bool b2, .slice a2 n2 c2, .slice d2 m2 o2]) y ∧ Bx3 W w.heap.size 27 (.bool b1) (.slice a1 n1 c1) (.slice d1 m1 o1) ∧ Bx3 W (w.heap.size + 1) 27 (.bool b2) (.slice a2 n2 c2) (.slice d2 m2 o2) ∧ Form W (w.heap.size + 1 + 1) 27 3 ∧ W0.heap.size ≤ W.heap.size) ⟨Good.is _, Good.is _, Good.is _, Good.rat _, cert_at3, trivial⟩
  (fun W W1 hS hE => ⟨(Ext.trans hS.1 hE), (hS.2.1.ext hE), (hS.2.2.1.ext hE), (hS.2.2.2.1.ext hE), (hS.2.2.2.2.1.ext hE), (hS.2.2.2.2.2.1.ext hE), (Nat.le_trans hS.2.2.2.2.2.2 (Ext.size hE))⟩) ⟨E0, h1, h2, p2, p3, fp4, Nat.le_refl _⟩ (by kernel_rfl) (by kernel_rfl) (by kernel_rfl) (by kernel_rfl) (A := ?A15) ?hA15 ?howe15 ?hfin15
 case hA15 =>
  intro vs
  simp only [putAll, Act.put, List.setIfInBounds_toArray, List.set_cons_zero, List.set_cons_succ, Nat.zero_add, Nat.reduceAdd]
  exact rfl
 case howe15 =>
  clear E0 h1 h2 p2 p3 fp4
  intro hf
  refine ⟨owesE 0 [] hf rfl (by kernel_rfl) ?_, owesE 1 [] hf rfl (by kernel_rfl) ?_, owesE 2 [] hf rfl (by kernel_rfl) ?_, owesE 3 [0, 1, 2] hf rfl (by kernel_rfl) ?_, owesW 4 [3] hf rfl (by kernel_rfl) (by kernel_rfl) ?_, trivial⟩
  all_goals intro vs W hS hp hx KO hKO
  all_goals simp only [Act.put, List.setIfInBounds_toArray, List.set_cons_zero, List.set_cons_succ] at hKO
  ·go_simp
   exact hKO _ W (Ext.refl W) rfl
  ·have fc0 := hS.2.2.2.1.cell0
   have fc1 := hS.2.2.2.1.cell1
   have fc2 := hS.2.2.2.1.cell2
   go_simp
   exact hKO _ W (Ext.refl W) rfl
  ·have fc0 := hS.2.2.2.2.1.cell0
   have fc1 := hS.2.2.2.2.1.cell1
   have fc2 := hS.2.2.2.2.1.cell2
   go_simp
   exact hKO _ W (Ext.refl W) rfl
  ·have e0 := isOf hp.1
   have e1 := isOf hp.2.1
   have e2 := isOf hp.2.2.1
   simp only [e0, e1, e2] at hKO
   go_simp
   refine (Tryz.ratJoinA (hS.2.1) (hS.2.2.1) s1 s2 hL).mono ?_
   rintro e W1 ⟨v, rfl, hv, hE⟩
   exact hKO _ W1 hE hv
  ·have q3 := hp.1
   have hf := hS.2.2.2.2.2.1
   obtain ⟨x0, y0, z0, hx, hno⟩ := hf.bx3
   have qr := q3
   obtain ⟨b3, a3, n3, c3, d3, m3, o3, er, -, -, -⟩ := qr
   replace er : vs 3 = _ := er
   have r0 := hx.froz0
   have t0 := hx.cell0
   have r1 := hx.froz1
   have t1 := hx.cell1
   have r2 := hx.froz2
   have t2 := hx.cell2
   have hw := Wr.set3 hx hno b3 a3 n3 c3 d3 m3 o3
   have hq := hx.set (.bool b3) (.slice a3 n3 c3) (.slice d3 m3 o3)
   have hg : (w.heap.size + 1 + 1) ≤ (w.heap.size + 1 + 1) := Nat.le_refl _
   simp only [er] at hKO
   go_simp
   exact hKO _ _ hw ⟨(Ext.wr hS.1 hw (by omega)), (hS.2.1.wr hw), (hS.2.2.1.wr hw), (hS.2.2.2.1.wr hw (by omega)), (hS.2.2.2.2.1.wr hw (by omega)), (hS.2.2.2.2.2.1.wr hw), (Nat.le_trans hS.2.2.2.2.2.2 hw.apart.size)⟩ ⟨b3, a3, n3, c3, d3, m3, o3, er, hq⟩
 intro vs W15 hS hp
 clear szw15 E0 h1 h2 p2 p3 fp4
 obtain ⟨E0, h1, h2, p2, p3, fp4, sz15⟩ := hS
 obtain ⟨h15_0, h15_1, h15_2, h15_3, h15_4, -⟩ := hp
 obtain ⟨b15_4, a15_4, n15_4, c15_4, d15_4, m15_4, o15_4, er15_4, p15_4⟩ := h15_4
 replace er15_4 : vs 3 = _ := er15_4
 replace h15_3 := (show Rw W15 (vs 3) (x + y) from h15_3)
 rw [er15_4] at h15_3
 replace h15_0 : vs 0 = .agg #[.func (.func 119) #[] #[]] := h15_0
 replace h15_1 : vs 1 = .agg #[.bool b1, .slice a1 n1 c1, .slice d1 m1 o1] := h15_1
 replace h15_2 : vs 2 = .agg #[.bool b2, .slice a2 n2 c2, .slice d2 m2 o2] := h15_2
 simp only [er15_4, h15_0, h15_1, h15_2]
 clear er15_4 h15_0 h15_1 h15_2
 have kp2_0 := p2.cell0
 have kp2_1 := p2.cell1
 have kp2_2 := p2.cell2
 have kp3_0 := p3.cell0
 have kp3_1 := p3.cell1
 have kp3_2 := p3.cell2
 have kp15_4_0 := p15_4.cell0
 have kp15_4_1 := p15_4.cell1
 have kp15_4_2 := p15_4.cell2
 go_wp2
 exact bodyPost_ret (v := .agg #[.bool b15_4, .slice a15_4 n15_4 c15_4, .slice d15_4 m15_4 o15_4]) (by simp [results, Tryz.results67, go_sem, kp15_4_0, kp15_4_1, kp15_4_2]) rfl ⟨_, rfl, h15_3, E0⟩

set_option maxRecDepth 100000 in
set_option maxHeartbeats 400000 in
theorem Tryz.ratMul {v1 v2 : Value} {x y : Rat} {L : Nat} {w : World} (h1 : Rw w v1 x) (h2 : Rw w v2 y) (s1 : SmR L x) (s2 : SmR L y) (hL : L ≤ 100000) :
  Calls Tryz.prog 68 #[v1, v2] w fun e w' => ∃ v', e = .returned v' ∧ Rw w' v' (x * y) ∧ Ext w w' := by
 obtain ⟨b1, a1, n1, c1, d1, m1, o1, rfl, q1⟩ : ∃ b a n c d m o, v1 = .agg #[.bool b, .slice a n c, .slice d m o] ∧ True := let ⟨b, a, n, c, d, m, o, e, _⟩ := h1; ⟨b, a, n, c, d, m, o, e, trivial⟩
 clear q1
 obtain ⟨b2, a2, n2, c2, d2, m2, o2, rfl, q2⟩ : ∃ b a n c d m o, v2 = .agg #[.bool b, .slice a n c, .slice d m o] ∧ True := let ⟨b, a, n, c, d, m, o, e, _⟩ := h2; ⟨b, a, n, c, d, m, o, e, trivial⟩
 clear q2
 obtain ⟨X, hX⟩ : ∃ X, X = x.num * y.num := ⟨_, rfl⟩
 obtain ⟨D, hD⟩ : ∃ D, D = x.den * y.den := ⟨_, rfl⟩
 have HX := Lib.hid hX
 have HD := Lib.hid hD
 have SX : Hid (Sm (L + L) X.natAbs) := Lib.hid (by rw [hX, Int.natAbs_mul]; exact s1.1.mul s2.1)
 have SD : Hid (Sm (L + L) D) := Lib.hid (by rw [hD]; exact s1.2.mul s2.2)
 have HD0 : Hid (D ≠ 0) := Lib.hid (by rw [hD]; exact Nat.mul_ne_zero x.den_nz y.den_nz)
 have HR : Hid (mkRat X D = x * y) := Lib.hid (by rw [hX, hD]; exact Rat.mul_mk x y)
 rw [← HR.out]
 clear hX hD
 obtain ⟨W0, hW0⟩ : ∃ W0, W0 = (((w.alloc (.cells #[.bool b1, .slice a1 n1 c1, .slice d1 m1 o1] 27)).alloc (.cells #[.bool b2, .slice a2 n2 c2, .slice d2 m2 o2] 27)).alloc (.cells #[.bool false, .slice none 0 0, .slice none 0 0] 27)) := ⟨_, rfl⟩
 have E0 : Ext w W0 := by rw [hW0]; exact (((Ext.alloc1 w (.cells #[.bool b1, .slice a1 n1 c1, .slice d1 m1 o1] 27)).alloc (.cells #[.bool b2, .slice a2 n2 c2, .slice d2 m2 o2] 27)).alloc (.cells #[.bool false, .slice none 0 0, .slice none 0 0] 27))
 replace h1 : Rw W0 (.agg #[.bool b1, .slice a1 n1 c1, .slice d1 m1 o1]) x := h1.ext E0
 replace h2 : Rw W0 (.agg #[.bool b2, .slice a2 n2 c2, .slice d2 m2 o2]) y := h2.ext E0
 have p2 : Bx3 W0 w.heap.size 27 (.bool b1) (.slice a1 n1 c1) (.slice d1 m1 o1) := by rw [hW0]; exact (Bx3.new w 27 (.bool b1) (.slice a1 n1 c1) (.slice d1 m1 o1)).ext ((Ext.alloc1 (w.alloc (.cells #[.bool b1, .slice a1 n1 c1, .slice d1 m1 o1] 27)) (.cells #[.bool b2, .slice a2 n2 c2, .slice d2 m2 o2] 27)).alloc (.cells #[.bool false, .slice none 0 0, .slice none 0 0] 27))
 have p3 : Bx3 W0 (w.heap.size + 1) 27 (.bool b2) (.slice a2 n2 c2) (.slice d2 m2 o2) := by rw [hW0]; simpa using (Bx3.new (w.alloc (.cells #[.bool b1, .slice a1 n1 c1, .slice d1 m1 o1] 27)) 27 (.bool b2) (.slice a2 n2 c2) (.slice d2 m2 o2)).ext (Ext.alloc1 ((w.alloc (.cells #[.bool b1, .slice a1 n1 c1, .slice d1 m1 o1] 27)).alloc (.cells #[.bool b2, .slice a2 n2 c2, .slice d2 m2 o2] 27)) (.cells #[.bool false, .slice none 0 0, .slice none 0 0] 27))
 have p4 : Bx3 W0 (w.heap.size + 1 + 1) 27 (.bool false) (.slice none 0 0) (.slice none 0 0) := by rw [hW0]; simpa using (Bx3.new ((w.alloc (.cells #[.bool b1, .slice a1 n1 c1, .slice d1 m1 o1] 27)).alloc (.cells #[.bool b2, .slice a2 n2 c2, .slice d2 m2 o2] 27)) 27 (.bool false) (.slice none 0 0) (.slice none 0 0))
 go_enter Tryz.func68, Tryz.ntmps68
 have kp2_0 := p2.cell0
 have kp2_1 := p2.cell1
 have kp2_2 := p2.cell2
 have kp3_0 := p3.cell0
 have kp3_1 := p3.cell1
 have kp3_2 := p3.cell2
 have kp4_0 := p4.cell0
 have kp4_1 := p4.cell1
 have kp4_2 := p4.cell2
 go_upto_region 1 with (fail)
 rw [← hW0]
 clear hW0
 clear kp2_0 kp2_1 kp2_2 kp3_0 kp3_1 kp3_2 kp4_0 kp4_1 kp4_2
 have ltp2 := p2.lt
 have ltp3 := p3.lt
 have ltp4 := p4.lt
 have szw17 := Ext.size E0
 refine region_go [.one fun v _ => v = .pointer (some ⟨w.heap.size, 0, none⟩),
   .one fun v _ => v = .agg #[.bool b1, .slice a1 n1 c1],
   .one fun v _ => v = .pointer (some ⟨w.heap.size + 1, 0, none⟩),
   .one fun v _ => v = .agg #[.bool b2, .slice a2 n2 c2],
   .one fun v W => Zw W v X,
   .one fun v _ => v = .pointer (some ⟨w.heap.size, 2, none⟩),
   .one fun v _ => v = .slice d1 m1 o1,
   .one fun v _ => v = .pointer (some ⟨w.heap.size + 1, 2, none⟩),
   .one fun v _ => v = .slice d2 m2 o2,
   .one fun v W => Nw W v D,
   .one fun v W => ∃ v', v = .tuple #[v', .int .i64 0] ∧ (fun v W => Rw W v (mkRat X D)) v' W,
   .one fun v W => ∃ v', v = .tuple #[v', .int .i64 0] ∧ (fun v W => Rw W v (mkRat X D)) v' W,
   .one fun v W => Rw W v (mkRat X D),
   .one fun v _ => v = .int .i64 0,
   .one fun v W => ∃ g, v = .pointer (some ⟨g, 0, none⟩) ∧ W0.heap.size ≤ g ∧ Form W g 27 3,
   .three 14 12 (fun p r _ W => Put3 W0.heap.size 27 p r W),
   .one fun v _ => v = .int .i64 0]
  (fun W => Ext w W ∧ Rw W (.agg #[.bool b1, .slice a1 n1 c1, .slice d1 m1 o1]) x ∧ Rw W (.agg #[.bool b2, .slice a2 n2 c2, .slice d2 m2 o2]) y ∧ Bx3 W w.heap.size 27 (.bool b1) (.slice a1 n1 c1) (.slice d1 m1 o1) ∧ Bx3 W (w.heap.size + 1) 27 (.bool b2) (.slice a2 n2 c2) (.slice d2 m2 o2) ∧ Bx3 W (w.heap.size + 1 + 1) 27 (.bool false) (.slice none 0 0) (.slice none 0 0) ∧ W0.heap.size ≤ W.heap.size) ⟨Good.is _, Good.is _, Good.is _, Good.is _, Good.zed _, Good.is _, Good.is _, Good.is _, Good.is _, Good.num _, (Good.rat _).tup _, (Good.rat _).tup _, Good.rat _, Good.is _, Good.box _ _ _, cert_put3, Good.is _, trivial⟩
  (fun W W1 hS hE => ⟨(Ext.trans hS.1 hE), (hS.2.1.ext hE), (hS.2.2.1.ext hE), (hS.2.2.2.1.ext hE), (hS.2.2.2.2.1.ext hE), (hS.2.2.2.2.2.1.ext hE), (Nat.le_trans hS.2.2.2.2.2.2 (Ext.size hE))⟩) ⟨E0, h1, h2, p2, p3, p4, Nat.le_refl _⟩ (by kernel_rfl) (by kernel_rfl) (by kernel_rfl) (by kernel_rfl) (A := ?A17) ?hA17 ?howe17 ?hfin17
 case hA17 =>
  intro vs
  simp only [putAll, Act.put, List.setIfInBounds_toArray, List.set_cons_zero, List.set_cons_succ, Nat.zero_add, Nat.reduceAdd]
  exact rfl
 case howe17 =>
  clear E0 h1 h2 p2 p3 p4
  intro hf
  refine ⟨owesE 0 [] hf rfl (by kernel_rfl) ?_, owesE 1 [0] hf rfl (by kernel_rfl) ?_, owesE 2 [] hf rfl (by kernel_rfl) ?_, owesE 3 [2] hf rfl (by kernel_rfl) ?_, owesE 4 [1, 3] hf rfl (by kernel_rfl) ?_, owesE 5 [] hf rfl (by kernel_rfl) ?_, owesE 6 [5] hf rfl (by kernel_rfl) ?_, owesE 7 [] hf rfl (by kernel_rfl) ?_, owesE 8 [7] hf rfl (by kernel_rfl) ?_, owesE 9 [6, 8] hf rfl (by kernel_rfl) ?_, owesE 10 [4, 9] hf rfl (by kernel_rfl) ?_, owesE 11 [10] hf rfl (by kernel_rfl) ?_, owesE 12 [11] hf rfl (by kernel_rfl) ?_, owesE 13 [11] hf rfl (by kernel_rfl) ?_, owesE 14 [] hf rfl (by kernel_rfl) ?_, owesW 15 [14, 12] hf rfl (by kernel_rfl) (by kernel_rfl) ?_, owesE 16 [13] hf rfl (by kernel_rfl) ?_, trivial⟩
  all_goals intro vs W hS hp hx KO hKO
  all_goals simp only [Act.put, List.setIfInBounds_toArray, List.set_cons_zero, List.set_cons_succ] at hKO
  ·go_simp
   exact hKO _ W (Ext.refl W) rfl
  ·have e0 := isOf hp.1
   simp only [e0] at hKO
   have fc0 := hS.2.2.2.1.cell0
   have fc1 := hS.2.2.2.1.cell1
   go_simp
   exact hKO _ W (Ext.refl W) rfl
  ·go_simp
   exact hKO _ W (Ext.refl W) rfl
  ·have e2 := isOf hp.1
   simp only [e2] at hKO
   have fc0 := hS.2.2.2.2.1.cell0
   have fc1 := hS.2.2.2.2.1.cell1
   go_simp
   exact hKO _ W (Ext.refl W) rfl
  ·have e1 := isOf hp.1
   have e3 := isOf hp.2.1
   simp only [e1, e3] at hKO
   go_simp
   refine (Tryz.zedMul (hS.2.1.top) (hS.2.2.1.top) s1.1 s2.1 (by omega)).mono ?_
   rintro e W1 ⟨v, rfl, hv, hE⟩
   rw [← HX.out] at hv
   exact hKO _ W1 hE hv
  ·go_simp
   exact hKO _ W (Ext.refl W) rfl
  ·have e5 := isOf hp.1
   simp only [e5] at hKO
   have fc2 := hS.2.2.2.1.cell2
   go_simp
   exact hKO _ W (Ext.refl W) rfl
  ·go_simp
   exact hKO _ W (Ext.refl W) rfl
  ·have e7 := isOf hp.1
   simp only [e7] at hKO
   have fc2 := hS.2.2.2.2.1.cell2
   go_simp
   exact hKO _ W (Ext.refl W) rfl
  ·have e6 := isOf hp.1
   have e8 := isOf hp.2.1
   simp only [e6, e8] at hKO
   go_simp
   refine (Tryz.natMul (hS.2.1.den) (hS.2.2.1.den) s1.2 s2.2 (by omega)).mono ?_
   rintro e W1 ⟨v, rfl, hv, hE, -⟩
   rw [← HD.out] at hv
   exact hKO _ W1 hE hv
  ·have q4 := hp.1
   have q9 := hp.2.1
   go_simp
   refine (Tryz.ratMake q4 q9 SX.out SD.out (by omega) HD0.out).mono ?_
   rintro e W1 ⟨v, rfl, hv, hE⟩
   exact hKO _ W1 hE ⟨_, rfl, hv⟩
  ·have q10 := hp.1
   obtain ⟨u, ev, hu⟩ := q10
   replace ev : vs 10 = _ := ev
   simp only [ev] at hKO
   go_simp
   exact hKO _ W (Ext.refl W) ⟨u, rfl, hu⟩
  ·have q11 := hp.1
   obtain ⟨u, ev, hu⟩ := q11
   replace ev : vs 11 = _ := ev
   simp only [ev] at hKO
   go_simp
   exact hKO _ W (Ext.refl W) hu
  ·have q11 := hp.1
   obtain ⟨u, ev, hu⟩ := q11
   replace ev : vs 11 = _ := ev
   simp only [ev] at hKO
   go_simp
   exact hKO _ W (Ext.refl W) rfl
  ·have hn := Bx3.new W 27 (.bool false) (.slice none 0 0) (.slice none 0 0)
   have hE := Ext.alloc1 W (.cells #[.bool false, .slice none 0 0, .slice none 0 0] 27)
   have hsz := hS.2.2.2.2.2.2
   go_simp
   exact hKO _ _ hE ⟨_, rfl, hsz, hn.form⟩
  ·have q14 := hp.1
   have q12 := hp.2.1
   obtain ⟨g, ev, hg, hf⟩ := q14
   replace ev : vs 14 = _ := ev
   obtain ⟨x0, y0, z0, hx, hno⟩ := hf.bx3
   have qr := q12
   obtain ⟨b3, a3, n3, c3, d3, m3, o3, er, -, -, -⟩ := qr
   replace er : vs 12 = _ := er
   have r0 := hx.froz0
   have t0 := hx.cell0
   have r1 := hx.froz1
   have t1 := hx.cell1
   have r2 := hx.froz2
   have t2 := hx.cell2
   have hw := Wr.set3 hx hno b3 a3 n3 c3 d3 m3 o3
   have hq := hx.set (.bool b3) (.slice a3 n3 c3) (.slice d3 m3 o3)
   simp only [ev, er] at hKO
   go_simp
   exact hKO _ _ hw ⟨(Ext.wr hS.1 hw (by omega)), (hS.2.1.wr hw), (hS.2.2.1.wr hw), (hS.2.2.2.1.wr hw (by omega)), (hS.2.2.2.2.1.wr hw (by omega)), (hS.2.2.2.2.2.1.wr hw (by omega)), (Nat.le_trans hS.2.2.2.2.2.2 hw.apart.size)⟩ ⟨g, b3, a3, n3, c3, d3, m3, o3, ev, er, hg, hq⟩
  ·have e13 := isOf hp.1
   simp only [e13] at hKO
   go_simp
   exact hKO _ W (Ext.refl W) rfl
 intro vs W17 hS hp
 clear szw17 E0 h1 h2 p2 p3 p4
 obtain ⟨E0, h1, h2, p2, p3, p4, sz17⟩ := hS
 obtain ⟨h17_0, h17_1, h17_2, h17_3, h17_4, h17_5, h17_6, h17_7, h17_8, h17_9, h17_10, h17_11, h17_12, h17_13, h17_14, h17_15, h17_16, -⟩ := hp
 obtain ⟨g17_15, b17_15, a17_15, n17_15, c17_15, d17_15, m17_15, o17_15, ev17_15, er17_15, hg17_15, p17_15⟩ := h17_15
 replace ev17_15 : vs 14 = _ := ev17_15
 replace er17_15 : vs 12 = _ := er17_15
 replace h17_12 := (show Rw W17 (vs 12) (mkRat X D) from h17_12)
 rw [er17_15] at h17_12
 replace h17_0 : vs 0 = .pointer (some ⟨w.heap.size, 0, none⟩) := h17_0
 replace h17_1 : vs 1 = .agg #[.bool b1, .slice a1 n1 c1] := h17_1
 replace h17_2 : vs 2 = .pointer (some ⟨w.heap.size + 1, 0, none⟩) := h17_2
 replace h17_3 : vs 3 = .agg #[.bool b2, .slice a2 n2 c2] := h17_3
 replace h17_5 : vs 5 = .pointer (some ⟨w.heap.size, 2, none⟩) := h17_5
 replace h17_6 : vs 6 = .slice d1 m1 o1 := h17_6
 replace h17_7 : vs 7 = .pointer (some ⟨w.heap.size + 1, 2, none⟩) := h17_7
 replace h17_8 : vs 8 = .slice d2 m2 o2 := h17_8
 replace h17_13 : vs 13 = .int .i64 0 := h17_13
 replace h17_16 : vs 16 = .int .i64 0 := h17_16
 simp only [ev17_15, er17_15, h17_0, h17_1, h17_2, h17_3, h17_5, h17_6, h17_7, h17_8, h17_13, h17_16]
 replace h17_4 : Zw W17 (vs 4) X := h17_4
 generalize vs 4 = u17_4 at h17_4 ⊢
 replace h17_9 : Nw W17 (vs 9) D := h17_9
 generalize vs 9 = u17_9 at h17_9 ⊢
 clear ev17_15 er17_15 h17_0 h17_1 h17_2 h17_3 h17_5 h17_6 h17_7 h17_8 h17_13 h17_16 h17_10 h17_11 h17_14
 have kp2_0 := p2.cell0
 have kp2_1 := p2.cell1
 have kp2_2 := p2.cell2
 have kp3_0 := p3.cell0
 have kp3_1 := p3.cell1
 have kp3_2 := p3.cell2
 have kp4_0 := p4.cell0
 have kp4_1 := p4.cell1
 have kp4_2 := p4.cell2
 have kp17_15_0 := p17_15.cell0
 have kp17_15_1 := p17_15.cell1
 have kp17_15_2 := p17_15.cell2
 go_upto_region 2 with (fail)
 clear kp2_0 kp2_1 kp2_2 kp3_0 kp3_1 kp3_2 kp4_0 kp4_1 kp4_2 kp17_15_0 kp17_15_1 kp17_15_2
 have fp4 := p4.form
 have ltp17_15 := p17_15.lt
 have szw18 := Ext.size E0
 refine region_go [.one fun v _ => v = .agg #[.bool b17_15, .slice a17_15 n17_15 c17_15, .slice d17_15 m17_15 o17_15],
   .own fun W => Bx3 W (w.heap.size + 1 + 1) 27 (.bool b17_15) (.slice a17_15 n17_15 c17_15) (.slice d17_15 m17_15 o17_15)]
  (fun W => Ext w W ∧ Rw W (.agg #[.bool b1, .slice a1 n1 c1, .slice d1 m1 o1]) x ∧ Rw W (.agg #[.bool b2, .slice a2 n2 c2, .slice d2 m2 o2]) y ∧ Bx3 W w.heap.size 27 (.bool b1) (.slice a1 n1 c1) (.slice d1 m1 o1) ∧ Bx3 W (w.heap.size + 1) 27 (.bool b2) (.slice a2 n2 c2) (.slice d2 m2 o2) ∧ Form W (w.heap.size + 1 + 1) 27 3 ∧ Rw W (.agg #[.bool b17_15, .slice a17_15 n17_15 c17_15, .slice d17_15 m17_15 o17_15]) (mkRat X D) ∧ Bx3 W g17_15 27 (.bool b17_15) (.slice a17_15 n17_15 c17_15) (.slice d17_15 m17_15 o17_15) ∧ Zw W u17_4 X ∧ Nw W u17_9 D ∧ W17.heap.size ≤ W.heap.size) ⟨Good.is _, cert_bx3, trivial⟩
  (fun W W1 hS hE => ⟨(Ext.trans hS.1 hE), (hS.2.1.ext hE), (hS.2.2.1.ext hE), (hS.2.2.2.1.ext hE), (hS.2.2.2.2.1.ext hE), (hS.2.2.2.2.2.1.ext hE), (hS.2.2.2.2.2.2.1.ext hE), (hS.2.2.2.2.2.2.2.1.ext hE), (hS.2.2.2.2.2.2.2.2.1.ext hE), (hS.2.2.2.2.2.2.2.2.2.1.ext hE), (Nat.le_trans hS.2.2.2.2.2.2.2.2.2.2 (Ext.size hE))⟩) ⟨E0, h1, h2, p2, p3, fp4, h17_12, p17_15, h17_4, h17_9, Nat.le_refl _⟩ (by kernel_rfl) (by kernel_rfl) (by kernel_rfl) (by kernel_rfl) (A := ?A18) ?hA18 ?howe18 ?hfin18
 case hA18 =>
  intro vs
  simp only [putAll, Act.put, List.setIfInBounds_toArray, List.set_cons_zero, List.set_cons_succ]
  exact rfl
 case howe18 =>
  clear E0 h1 h2 p2 p3 fp4 h17_12 p17_15 h17_4 h17_9
  intro hf
  refine ⟨owesE 0 [] hf rfl (by kernel_rfl) ?_, owesW 1 [0] hf rfl (by kernel_rfl) (by kernel_rfl) ?_, trivial⟩
  all_goals intro vs W hS hp hx KO hKO
  all_goals simp only [Act.put, List.setIfInBounds_toArray, List.set_cons_zero, List.set_cons_succ] at hKO
  ·have fc0 := hS.2.2.2.2.2.2.2.1.cell0
   have fc1 := hS.2.2.2.2.2.2.2.1.cell1
   have fc2 := hS.2.2.2.2.2.2.2.1.cell2
   go_simp
   exact hKO _ W (Ext.refl W) rfl
  ·have e0 := isOf hp.1
   simp only [e0] at hKO
   have hf := hS.2.2.2.2.2.1
   obtain ⟨x0, y0, z0, hx, hno⟩ := hf.bx3
   have r0 := hx.froz0
   have t0 := hx.cell0
   have r1 := hx.froz1
   have t1 := hx.cell1
   have r2 := hx.froz2
   have t2 := hx.cell2
   have hw := Wr.set3 hx hno b17_15 a17_15 n17_15 c17_15 d17_15 m17_15 o17_15
   have hq := hx.set (.bool b17_15) (.slice a17_15 n17_15 c17_15) (.slice d17_15 m17_15 o17_15)
   have hg : (w.heap.size + 1 + 1) ≤ (w.heap.size + 1 + 1) := Nat.le_refl _
   go_simp
   exact hKO _ _ hw ⟨(Ext.wr hS.1 hw (by omega)), (hS.2.1.wr hw), (hS.2.2.1.wr hw), (hS.2.2.2.1.wr hw (by omega)), (hS.2.2.2.2.1.wr hw (by omega)), (hS.2.2.2.2.2.1.wr hw), (hS.2.2.2.2.2.2.1.wr hw), (hS.2.2.2.2.2.2.2.1.wr hw (by omega)), (hS.2.2.2.2.2.2.2.2.1.wr hw), (hS.2.2.2.2.2.2.2.2.2.1.wr hw), (Nat.le_trans hS.2.2.2.2.2.2.2.2.2.2 hw.apart.size)⟩ hq
 intro vs W18 hS hp
 clear szw18 E0 h1 h2 p2 p3 fp4 h17_12 p17_15 h17_4 h17_9
 obtain ⟨E0, h1, h2, p2, p3, fp4, h17_12, p17_15, h17_4, h17_9, sz18⟩ := hS
 obtain ⟨h18_0, h18_1, -⟩ := hp
 have p18_1 : Bx3 W18 (w.heap.size + 1 + 1) 27 (.bool b17_15) (.slice a17_15 n17_15 c17_15) (.slice d17_15 m17_15 o17_15) := h18_1
 replace h18_0 : vs 0 = .agg #[.bool b17_15, .slice a17_15 n17_15 c17_15, .slice d17_15 m17_15 o17_15] := h18_0
 simp only [h18_0]
 clear h18_0
 have kp2_0 := p2.cell0
 have kp2_1 := p2.cell1
 have kp2_2 := p2.cell2
 have kp3_0 := p3.cell0
 have kp3_1 := p3.cell1
 have kp3_2 := p3.cell2
 have kp17_15_0 := p17_15.cell0
 have kp17_15_1 := p17_15.cell1
 have kp17_15_2 := p17_15.cell2
 have kp18_1_0 := p18_1.cell0
 have kp18_1_1 := p18_1.cell1
 have kp18_1_2 := p18_1.cell2
 go_wp2
 exact bodyPost_ret (v := .agg #[.bool b17_15, .slice a17_15 n17_15 c17_15, .slice d17_15 m17_15 o17_15]) (by simp [results, Tryz.results68, go_sem, kp18_1_0, kp18_1_1, kp18_1_2]) rfl ⟨_, rfl, h17_12, E0⟩

set_option maxRecDepth 100000 in
set_option maxHeartbeats 400000 in
theorem Tryz.ratDiv {v1 v2 : Value} {x y : Rat} {L : Nat} {w : World} (h1 : Rw w v1 x) (h2 : Rw w v2 y) (s1 : SmR L x) (s2 : SmR L y) (hL : L ≤ 100000) (hy : y ≠ 0) :
  Calls Tryz.prog 65 #[v1, v2] w fun e w' => ∃ v', e = .returned (.tuple #[v', .int .i64 0]) ∧ Rw w' v' (x / y) ∧ Ext w w' := by
 obtain ⟨b1, a1, n1, c1, d1, m1, o1, rfl, q1⟩ : ∃ b a n c d m o, v1 = .agg #[.bool b, .slice a n c, .slice d m o] ∧ True := let ⟨b, a, n, c, d, m, o, e, _⟩ := h1; ⟨b, a, n, c, d, m, o, e, trivial⟩
 clear q1
 obtain ⟨b2, a2, n2, c2, d2, m2, o2, rfl, q2⟩ : ∃ b a n c d m o, v2 = .agg #[.bool b, .slice a n c, .slice d m o] ∧ True := let ⟨b, a, n, c, d, m, o, e, _⟩ := h2; ⟨b, a, n, c, d, m, o, e, trivial⟩
 clear q2
 obtain ⟨Z, hZ⟩ : ∃ Z, Z = (if y.num < 0 then -(y.den : Int) else (y.den : Int)) := ⟨_, rfl⟩
 obtain ⟨X, hX⟩ : ∃ X, X = x.num * Z := ⟨_, rfl⟩
 obtain ⟨D, hD⟩ : ∃ D, D = x.den * y.num.natAbs := ⟨_, rfl⟩
 have hyn : y.num ≠ 0 := fun e => hy (Rat.num_eq_zero.1 e)
 have hyz := h2.top.num.len
 obtain ⟨_, _, _, er, hz0, -⟩ := hyz
 cases er
 have hm2 : ((n2 : Int) == 0) = false := beq_eq_false_iff_ne.2 (by have := mt hz0.1 (by omega); omega)
 have HX := Lib.hid hX
 have HD := Lib.hid hD
 have sZ : Sm L Z.natAbs := by rw [hZ]; split; rw [Int.natAbs_neg]; exact s2.2; exact s2.2
 have SX : Hid (Sm (L + L) X.natAbs) := Lib.hid (by rw [hX, Int.natAbs_mul]; exact s1.1.mul sZ)
 have SZ := Lib.hid sZ
 have SD : Hid (Sm (L + L) D) := Lib.hid (by rw [hD]; exact s1.2.mul s2.1)
 have HD0 : Hid (D ≠ 0) := Lib.hid (by rw [hD]; exact Nat.mul_ne_zero x.den_nz (by omega))
 have HR : Hid (mkRat X D = x / y) := Lib.hid (by rw [hX, hZ, hD]; exact Rat.div_mk x y hy)
 rw [← HR.out]
 have hz : Zw w (.agg #[.bool b2, .slice d2 m2 o2]) Z := by rw [hZ]; exact zw_side h2.top.neg h2.den
 clear hX hD hZ hz0 hyn hy sZ
 obtain ⟨W0, hW0⟩ : ∃ W0, W0 = (((w.alloc (.cells #[.bool b1, .slice a1 n1 c1, .slice d1 m1 o1] 27)).alloc (.cells #[.bool b2, .slice a2 n2 c2, .slice d2 m2 o2] 27)).alloc (.cells #[.bool false, .slice none 0 0, .slice none 0 0] 27)) := ⟨_, rfl⟩
 have E0 : Ext w W0 := by rw [hW0]; exact (((Ext.alloc1 w (.cells #[.bool b1, .slice a1 n1 c1, .slice d1 m1 o1] 27)).alloc (.cells #[.bool b2, .slice a2 n2 c2, .slice d2 m2 o2] 27)).alloc (.cells #[.bool false, .slice none 0 0, .slice none 0 0] 27))
 replace h1 : Rw W0 (.agg #[.bool b1, .slice a1 n1 c1, .slice d1 m1 o1]) x := h1.ext E0
 replace h2 : Rw W0 (.agg #[.bool b2, .slice a2 n2 c2, .slice d2 m2 o2]) y := h2.ext E0
 replace hz : Zw W0 (.agg #[.bool b2, .slice d2 m2 o2]) Z := hz.ext E0
 have p2 : Bx3 W0 w.heap.size 27 (.bool b1) (.slice a1 n1 c1) (.slice d1 m1 o1) := by rw [hW0]; exact (Bx3.new w 27 (.bool b1) (.slice a1 n1 c1) (.slice d1 m1 o1)).ext ((Ext.alloc1 (w.alloc (.cells #[.bool b1, .slice a1 n1 c1, .slice d1 m1 o1] 27)) (.cells #[.bool b2, .slice a2 n2 c2, .slice d2 m2 o2] 27)).alloc (.cells #[.bool false, .slice none 0 0, .slice none 0 0] 27))
 have p3 : Bx3 W0 (w.heap.size + 1) 27 (.bool b2) (.slice a2 n2 c2) (.slice d2 m2 o2) := by rw [hW0]; simpa using (Bx3.new (w.alloc (.cells #[.bool b1, .slice a1 n1 c1, .slice d1 m1 o1] 27)) 27 (.bool b2) (.slice a2 n2 c2) (.slice d2 m2 o2)).ext (Ext.alloc1 ((w.alloc (.cells #[.bool b1, .slice a1 n1 c1, .slice d1 m1 o1] 27)).alloc (.cells #[.bool b2, .slice a2 n2 c2, .slice d2 m2 o2] 27)) (.cells #[.bool false, .slice none 0 0, .slice none 0 0] 27))
 have p4 : Bx3 W0 (w.heap.size + 1 + 1) 27 (.bool false) (.slice none 0 0) (.slice none 0 0) := by rw [hW0]; simpa using (Bx3.new ((w.alloc (.cells #[.bool b1, .slice a1 n1 c1, .slice d1 m1 o1] 27)).alloc (.cells #[.bool b2, .slice a2 n2 c2, .slice d2 m2 o2] 27)) 27 (.bool false) (.slice none 0 0) (.slice none 0 0))
 go_enter Tryz.func65, Tryz.ntmps65
 have kp2_0 := p2.cell0
 have kp2_1 := p2.cell1
 have kp2_2 := p2.cell2
 have kp3_0 := p3.cell0
 have kp3_1 := p3.cell1
 have kp3_2 := p3.cell2
 have kp4_0 := p4.cell0
 have kp4_1 := p4.cell1
 have kp4_2 := p4.cell2
 go_upto_region 1 with (fail)
 rw [← hW0]
 clear hW0
 clear kp2_0 kp2_1 kp2_2 kp3_0 kp3_1 kp3_2 kp4_0 kp4_1 kp4_2
 have fp4 := p4.form
 have ltp2 := p2.lt
 have ltp3 := p3.lt
 have ltfp4 := fp4.lt
 have szw19 := Ext.size E0
 refine region_go [.one fun v _ => v = .pointer (some ⟨w.heap.size, 0, none⟩),
   .one fun v _ => v = .agg #[.bool b1, .slice a1 n1 c1],
   .one fun v _ => v = .pointer (some ⟨w.heap.size + 1, 0, none⟩),
   .one fun v _ => v = .pointer (some ⟨w.heap.size + 1, 0, none⟩),
   .one fun v _ => v = .bool b2,
   .one fun v _ => v = .pointer (some ⟨w.heap.size + 1, 2, none⟩),
   .one fun v _ => v = .slice d2 m2 o2,
   .one fun v _ => v = .agg #[.bool b2, .slice d2 m2 o2],
   .one fun v W => Zw W v X,
   .one fun v _ => v = .pointer (some ⟨w.heap.size, 2, none⟩),
   .one fun v _ => v = .slice d1 m1 o1,
   .one fun v _ => v = .pointer (some ⟨w.heap.size + 1, 0, none⟩),
   .one fun v _ => v = .pointer (some ⟨w.heap.size + 1, 1, none⟩),
   .one fun v _ => v = .slice a2 n2 c2,
   .one fun v W => Nw W v D,
   .one fun v W => ∃ v', v = .tuple #[v', .int .i64 0] ∧ (fun v W => Rw W v (mkRat X D)) v' W,
   .one fun v W => Rw W v (mkRat X D),
   .one fun v _ => v = .int .i64 0,
   .two 16 (fun r _ W => At3 (w.heap.size + 1 + 1) 27 r W),
   .one fun v _ => v = .int .i64 0]
  (fun W => Ext w W ∧ Rw W (.agg #[.bool b1, .slice a1 n1 c1, .slice d1 m1 o1]) x ∧ Rw W (.agg #[.bool b2, .slice a2 n2 c2, .slice d2 m2 o2]) y ∧ Zw W (.agg #[.bool b2, .slice d2 m2 o2]) Z ∧ Bx3 W w.heap.size 27 (.bool b1) (.slice a1 n1 c1) (.slice d1 m1 o1) ∧ Bx3 W (w.heap.size + 1) 27 (.bool b2) (.slice a2 n2 c2) (.slice d2 m2 o2) ∧ Form W (w.heap.size + 1 + 1) 27 3 ∧ W0.heap.size ≤ W.heap.size) ⟨Good.is _, Good.is _, Good.is _, Good.is _, Good.is _, Good.is _, Good.is _, Good.is _, Good.zed _, Good.is _, Good.is _, Good.is _, Good.is _, Good.is _, Good.num _, (Good.rat _).tup _, Good.rat _, Good.is _, cert_at3, Good.is _, trivial⟩
  (fun W W1 hS hE => ⟨(Ext.trans hS.1 hE), (hS.2.1.ext hE), (hS.2.2.1.ext hE), (hS.2.2.2.1.ext hE), (hS.2.2.2.2.1.ext hE), (hS.2.2.2.2.2.1.ext hE), (hS.2.2.2.2.2.2.1.ext hE), (Nat.le_trans hS.2.2.2.2.2.2.2 (Ext.size hE))⟩) ⟨E0, h1, h2, hz, p2, p3, fp4, Nat.le_refl _⟩ (by kernel_rfl) (by kernel_rfl) (by kernel_rfl) (by kernel_rfl) (A := ?A19) ?hA19 ?howe19 ?hfin19
 case hA19 =>
  intro vs
  simp only [putAll, Act.put, List.setIfInBounds_toArray, List.set_cons_zero, List.set_cons_succ, Nat.zero_add, Nat.reduceAdd]
  exact rfl
 case howe19 =>
  clear E0 h1 h2 hz p2 p3 fp4
  intro hf
  refine ⟨owesE 0 [] hf rfl (by kernel_rfl) ?_, owesE 1 [0] hf rfl (by kernel_rfl) ?_, owesE 2 [] hf rfl (by kernel_rfl) ?_, owesE 3 [2] hf rfl (by kernel_rfl) ?_, owesE 4 [3] hf rfl (by kernel_rfl) ?_, owesE 5 [] hf rfl (by kernel_rfl) ?_, owesE 6 [5] hf rfl (by kernel_rfl) ?_, owesE 7 [4, 6] hf rfl (by kernel_rfl) ?_, owesE 8 [1, 7] hf rfl (by kernel_rfl) ?_, owesE 9 [] hf rfl (by kernel_rfl) ?_, owesE 10 [9] hf rfl (by kernel_rfl) ?_, owesE 11 [] hf rfl (by kernel_rfl) ?_, owesE 12 [11] hf rfl (by kernel_rfl) ?_, owesE 13 [12] hf rfl (by kernel_rfl) ?_, owesE 14 [10, 13] hf rfl (by kernel_rfl) ?_, owesE 15 [8, 14] hf rfl (by kernel_rfl) ?_, owesE 16 [15] hf rfl (by kernel_rfl) ?_, owesE 17 [15] hf rfl (by kernel_rfl) ?_, owesW 18 [16] hf rfl (by kernel_rfl) (by kernel_rfl) ?_, owesE 19 [17] hf rfl (by kernel_rfl) ?_, trivial⟩
  all_goals intro vs W hS hp hx KO hKO
  all_goals simp only [Act.put, List.setIfInBounds_toArray, List.set_cons_zero, List.set_cons_succ] at hKO
  ·go_simp
   exact hKO _ W (Ext.refl W) rfl
  ·have e0 := isOf hp.1
   simp only [e0] at hKO
   have fc0 := hS.2.2.2.2.1.cell0
   have fc1 := hS.2.2.2.2.1.cell1
   go_simp
   exact hKO _ W (Ext.refl W) rfl
  ·go_simp
   exact hKO _ W (Ext.refl W) rfl
  ·have e2 := isOf hp.1
   simp only [e2] at hKO
   go_simp
   exact hKO _ W (Ext.refl W) rfl
  ·have e3 := isOf hp.1
   simp only [e3] at hKO
   have fc0 := hS.2.2.2.2.2.1.cell0
   go_simp
   exact hKO _ W (Ext.refl W) rfl
  ·go_simp
   exact hKO _ W (Ext.refl W) rfl
  ·have e5 := isOf hp.1
   simp only [e5] at hKO
   have fc2 := hS.2.2.2.2.2.1.cell2
   go_simp
   exact hKO _ W (Ext.refl W) rfl
  ·have e4 := isOf hp.1
   have e6 := isOf hp.2.1
   simp only [e4, e6] at hKO
   go_simp
   exact hKO _ W (Ext.refl W) rfl
  ·have e1 := isOf hp.1
   have e7 := isOf hp.2.1
   simp only [e1, e7] at hKO
   go_simp
   refine (Tryz.zedMul (hS.2.1.top) (hS.2.2.2.1) s1.1 SZ.out (by omega)).mono ?_
   rintro e W1 ⟨v, rfl, hv, hE⟩
   rw [← HX.out] at hv
   exact hKO _ W1 hE hv
  ·go_simp
   exact hKO _ W (Ext.refl W) rfl
  ·have e9 := isOf hp.1
   simp only [e9] at hKO
   have fc2 := hS.2.2.2.2.1.cell2
   go_simp
   exact hKO _ W (Ext.refl W) rfl
  ·go_simp
   exact hKO _ W (Ext.refl W) rfl
  ·have e11 := isOf hp.1
   simp only [e11] at hKO
   go_simp
   exact hKO _ W (Ext.refl W) rfl
  ·have e12 := isOf hp.1
   simp only [e12] at hKO
   have fc1 := hS.2.2.2.2.2.1.cell1
   go_simp
   exact hKO _ W (Ext.refl W) rfl
  ·have e10 := isOf hp.1
   have e13 := isOf hp.2.1
   simp only [e10, e13] at hKO
   go_simp
   refine (Tryz.natMul (hS.2.1.den) (hS.2.2.1.top.num) s1.2 s2.1 (by omega)).mono ?_
   rintro e W1 ⟨v, rfl, hv, hE, -⟩
   rw [← HD.out] at hv
   exact hKO _ W1 hE hv
  ·have q8 := hp.1
   have q14 := hp.2.1
   go_simp
   refine (Tryz.ratMake q8 q14 SX.out SD.out (by omega) HD0.out).mono ?_
   rintro e W1 ⟨v, rfl, hv, hE⟩
   exact hKO _ W1 hE ⟨_, rfl, hv⟩
  ·have q15 := hp.1
   obtain ⟨u, ev, hu⟩ := q15
   replace ev : vs 15 = _ := ev
   simp only [ev] at hKO
   go_simp
   exact hKO _ W (Ext.refl W) hu
  ·have q15 := hp.1
   obtain ⟨u, ev, hu⟩ := q15
   replace ev : vs 15 = _ := ev
   simp only [ev] at hKO
   go_simp
   exact hKO _ W (Ext.refl W) rfl
  ·have q16 := hp.1
   have hf := hS.2.2.2.2.2.2.1
   obtain ⟨x0, y0, z0, hx, hno⟩ := hf.bx3
   have qr := q16
   obtain ⟨b3, a3, n3, c3, d3, m3, o3, er, -, -, -⟩ := qr
   replace er : vs 16 = _ := er
   have r0 := hx.froz0
   have t0 := hx.cell0
   have r1 := hx.froz1
   have t1 := hx.cell1
   have r2 := hx.froz2
   have t2 := hx.cell2
   have hw := Wr.set3 hx hno b3 a3 n3 c3 d3 m3 o3
   have hq := hx.set (.bool b3) (.slice a3 n3 c3) (.slice d3 m3 o3)
   have hg : (w.heap.size + 1 + 1) ≤ (w.heap.size + 1 + 1) := Nat.le_refl _
   simp only [er] at hKO
   go_simp
   exact hKO _ _ hw ⟨(Ext.wr hS.1 hw (by omega)), (hS.2.1.wr hw), (hS.2.2.1.wr hw), (hS.2.2.2.1.wr hw), (hS.2.2.2.2.1.wr hw (by omega)), (hS.2.2.2.2.2.1.wr hw (by omega)), (hS.2.2.2.2.2.2.1.wr hw), (Nat.le_trans hS.2.2.2.2.2.2.2 hw.apart.size)⟩ ⟨b3, a3, n3, c3, d3, m3, o3, er, hq⟩
  ·have e17 := isOf hp.1
   simp only [e17] at hKO
   go_simp
   exact hKO _ W (Ext.refl W) rfl
 intro vs W19 hS hp
 clear szw19 E0 h1 h2 hz p2 p3 fp4
 obtain ⟨E0, h1, h2, hz, p2, p3, fp4, sz19⟩ := hS
 obtain ⟨h19_0, h19_1, h19_2, h19_3, h19_4, h19_5, h19_6, h19_7, h19_8, h19_9, h19_10, h19_11, h19_12, h19_13, h19_14, h19_15, h19_16, h19_17, h19_18, h19_19, -⟩ := hp
 obtain ⟨b19_18, a19_18, n19_18, c19_18, d19_18, m19_18, o19_18, er19_18, p19_18⟩ := h19_18
 replace er19_18 : vs 16 = _ := er19_18
 replace h19_16 := (show Rw W19 (vs 16) (mkRat X D) from h19_16)
 rw [er19_18] at h19_16
 replace h19_0 : vs 0 = .pointer (some ⟨w.heap.size, 0, none⟩) := h19_0
 replace h19_1 : vs 1 = .agg #[.bool b1, .slice a1 n1 c1] := h19_1
 replace h19_2 : vs 2 = .pointer (some ⟨w.heap.size + 1, 0, none⟩) := h19_2
 replace h19_3 : vs 3 = .pointer (some ⟨w.heap.size + 1, 0, none⟩) := h19_3
 replace h19_4 : vs 4 = .bool b2 := h19_4
 replace h19_5 : vs 5 = .pointer (some ⟨w.heap.size + 1, 2, none⟩) := h19_5
 replace h19_6 : vs 6 = .slice d2 m2 o2 := h19_6
 replace h19_7 : vs 7 = .agg #[.bool b2, .slice d2 m2 o2] := h19_7
 replace h19_9 : vs 9 = .pointer (some ⟨w.heap.size, 2, none⟩) := h19_9
 replace h19_10 : vs 10 = .slice d1 m1 o1 := h19_10
 replace h19_11 : vs 11 = .pointer (some ⟨w.heap.size + 1, 0, none⟩) := h19_11
 replace h19_12 : vs 12 = .pointer (some ⟨w.heap.size + 1, 1, none⟩) := h19_12
 replace h19_13 : vs 13 = .slice a2 n2 c2 := h19_13
 replace h19_17 : vs 17 = .int .i64 0 := h19_17
 replace h19_19 : vs 19 = .int .i64 0 := h19_19
 simp only [er19_18, h19_0, h19_1, h19_2, h19_3, h19_4, h19_5, h19_6, h19_7, h19_9, h19_10, h19_11, h19_12, h19_13, h19_17, h19_19]
 replace h19_8 : Zw W19 (vs 8) X := h19_8
 generalize vs 8 = u19_8 at h19_8 ⊢
 replace h19_14 : Nw W19 (vs 14) D := h19_14
 generalize vs 14 = u19_14 at h19_14 ⊢
 clear er19_18 h19_0 h19_1 h19_2 h19_3 h19_4 h19_5 h19_6 h19_7 h19_9 h19_10 h19_11 h19_12 h19_13 h19_17 h19_19 h19_15
 have kp2_0 := p2.cell0
 have kp2_1 := p2.cell1
 have kp2_2 := p2.cell2
 have kp3_0 := p3.cell0
 have kp3_1 := p3.cell1
 have kp3_2 := p3.cell2
 have kp19_18_0 := p19_18.cell0
 have kp19_18_1 := p19_18.cell1
 have kp19_18_2 := p19_18.cell2
 go_wp2
 exact bodyPost_ret (v := .tuple #[.agg #[.bool b19_18, .slice a19_18 n19_18 c19_18, .slice d19_18 m19_18 o19_18], .int .i64 0]) (by simp [results, Tryz.results65, go_sem, kp19_18_0, kp19_18_1, kp19_18_2]) rfl ⟨_, rfl, h19_16, E0⟩

set_option maxRecDepth 100000 in
set_option maxHeartbeats 400000 in
theorem Tryz.ratOf (n : Int) (w : World) (h1 : -9223372036854775808 ≤ n) (h2 : n < 9223372036854775808) :
  Calls Tryz.prog 64 #[.int .i64 n] w fun e w' => ∃ v', e = .returned v' ∧ Rw w' v' (n : Rat) ∧ Ext w w' := by
 have H1 := Lib.hid h1
 have H2 := Lib.hid h2
 have B1 : Hid (1 < B64) := Lib.hid (by rw [B64_eq]; omega)
 clear h1 h2
 obtain ⟨W0, hW0⟩ : ∃ W0, W0 = (w.alloc (.cells #[.bool false, .slice none 0 0, .slice none 0 0] 27)) := ⟨_, rfl⟩
 have E0 : Ext w W0 := by rw [hW0]; exact (Ext.alloc1 w (.cells #[.bool false, .slice none 0 0, .slice none 0 0] 27))
 have p2 : Bx3 W0 w.heap.size 27 (.bool false) (.slice none 0 0) (.slice none 0 0) := by rw [hW0]; exact (Bx3.new w 27 (.bool false) (.slice none 0 0) (.slice none 0 0))
 go_enter Tryz.func64, Tryz.ntmps64
 have kp2_0 := p2.cell0
 have kp2_1 := p2.cell1
 have kp2_2 := p2.cell2
 go_upto_region 1 with (fail)
 rw [← hW0]
 clear hW0
 clear kp2_0 kp2_1 kp2_2
 have fp2 := p2.form
 have ltfp2 := fp2.lt
 have szw20 := Ext.size E0
 refine region_go [.one fun v _ => v = .int .i64 n,
   .one fun v W => Zw W v n,
   .one fun v W => Nw W v 1,
   .one fun v W => Rw W v ((n : Rat)),
   .two 3 (fun r _ W => At3 w.heap.size 27 r W)]
  (fun W => Ext w W ∧ Form W w.heap.size 27 3 ∧ W0.heap.size ≤ W.heap.size) ⟨Good.is _, Good.zed _, Good.num _, Good.rat _, cert_at3, trivial⟩
  (fun W W1 hS hE => ⟨(Ext.trans hS.1 hE), (hS.2.1.ext hE), (Nat.le_trans hS.2.2 (Ext.size hE))⟩) ⟨E0, fp2, Nat.le_refl _⟩ (by kernel_rfl) (by kernel_rfl) (by kernel_rfl) (by kernel_rfl) (A := ?A20) ?hA20 ?howe20 ?hfin20
 case hA20 =>
  intro vs
  simp only [putAll, Act.put, List.setIfInBounds_toArray, List.set_cons_zero, List.set_cons_succ, Nat.zero_add, Nat.reduceAdd]
  exact rfl
 case howe20 =>
  clear E0 fp2
  intro hf
  refine ⟨owesE 0 [] hf rfl (by kernel_rfl) ?_, owesE 1 [0] hf rfl (by kernel_rfl) ?_, owesE 2 [] hf rfl (by kernel_rfl) ?_, owesE 3 [1, 2] hf rfl (by kernel_rfl) ?_, owesW 4 [3] hf rfl (by kernel_rfl) (by kernel_rfl) ?_, trivial⟩
  all_goals intro vs W hS hp hx KO hKO
  all_goals simp only [Act.put, List.setIfInBounds_toArray, List.set_cons_zero, List.set_cons_succ] at hKO
  ·go_simp
   exact hKO _ W (Ext.refl W) rfl
  ·have e0 := isOf hp.1
   simp only [e0] at hKO
   go_simp
   refine (Tryz.zedOf n _ H1.out H2.out).mono ?_
   rintro e W1 ⟨v, rfl, hv, hE⟩
   exact hKO _ W1 hE hv
  ·go_simp
   refine (Tryz.natOf 1 _ B1.out).mono ?_
   rintro e W1 ⟨v, rfl, hv, hE, -⟩
   exact hKO _ W1 hE hv
  ·have q1 := hp.1
   have q2 := hp.2.1
   obtain ⟨b1, a1, n1, c1, ev1, hb1, hn1⟩ := q1
   replace ev1 : vs 1 = _ := ev1
   have ev2 := q2
   obtain ⟨a2, n2, c2, ev2⟩ := Nw.slice (show Nw W (vs 2) 1 from q2)
   replace q2 : Nw W (vs 2) 1 := q2
   rw [ev2] at q2
   replace ev2 : vs 2 = _ := ev2
   simp only [ev1, ev2] at hKO
   go_simp
   exact hKO _ W (Ext.refl W) ⟨b1, a1, n1, c1, a2, n2, c2, rfl, hb1, hn1, q2⟩
  ·have q3 := hp.1
   have hf := hS.2.1
   obtain ⟨x0, y0, z0, hx, hno⟩ := hf.bx3
   have qr := q3
   obtain ⟨b3, a3, n3, c3, d3, m3, o3, er, -, -, -⟩ := qr
   replace er : vs 3 = _ := er
   have r0 := hx.froz0
   have t0 := hx.cell0
   have r1 := hx.froz1
   have t1 := hx.cell1
   have r2 := hx.froz2
   have t2 := hx.cell2
   have hw := Wr.set3 hx hno b3 a3 n3 c3 d3 m3 o3
   have hq := hx.set (.bool b3) (.slice a3 n3 c3) (.slice d3 m3 o3)
   have hg : w.heap.size ≤ w.heap.size := Nat.le_refl _
   simp only [er] at hKO
   go_simp
   exact hKO _ _ hw ⟨(Ext.wr hS.1 hw (by omega)), (hS.2.1.wr hw), (Nat.le_trans hS.2.2 hw.apart.size)⟩ ⟨b3, a3, n3, c3, d3, m3, o3, er, hq⟩
 intro vs W20 hS hp
 clear szw20 E0 fp2
 obtain ⟨E0, fp2, sz20⟩ := hS
 obtain ⟨h20_0, h20_1, h20_2, h20_3, h20_4, -⟩ := hp
 obtain ⟨b20_4, a20_4, n20_4, c20_4, d20_4, m20_4, o20_4, er20_4, p20_4⟩ := h20_4
 replace er20_4 : vs 3 = _ := er20_4
 replace h20_3 := (show Rw W20 (vs 3) ((n : Rat)) from h20_3)
 rw [er20_4] at h20_3
 replace h20_0 : vs 0 = .int .i64 n := h20_0
 simp only [er20_4, h20_0]
 replace h20_1 : Zw W20 (vs 1) n := h20_1
 generalize vs 1 = u20_1 at h20_1 ⊢
 replace h20_2 : Nw W20 (vs 2) 1 := h20_2
 generalize vs 2 = u20_2 at h20_2 ⊢
 clear er20_4 h20_0
 have kp20_4_0 := p20_4.cell0
 have kp20_4_1 := p20_4.cell1
 have kp20_4_2 := p20_4.cell2
 go_wp2
 exact bodyPost_ret (v := .agg #[.bool b20_4, .slice a20_4 n20_4 c20_4, .slice d20_4 m20_4 o20_4]) (by simp [results, Tryz.results64, go_sem, kp20_4_0, kp20_4_1, kp20_4_2]) rfl ⟨_, rfl, h20_3, E0⟩

end Go.Rt
