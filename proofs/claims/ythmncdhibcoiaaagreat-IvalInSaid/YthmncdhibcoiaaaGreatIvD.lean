/-
 Intervals: rounded outward; roots, by definition; what is refused.
-/
import Derived.Test.YthmncdhibcoiaaaGreatSqz
import Derived.Test.YthmncdhibcoiaaaGreatIvC

namespace Go.Rt

open Go Go.RowKit Go.Proofs

noncomputable def outS (p : Rat × Rat) (K : Nat) : Rat × Rat := (((p.1 * P2 K).floor : Rat) / P2 K, ((p.2 * P2 K).ceil : Rat) / P2 K)

theorem cmpR_lt0 {x y : Rat} : cmpR x y < 0 ↔ x < y := by
 unfold cmpR
 split
 ·rename_i h; exact ⟨fun _ => h, fun _ => by omega⟩
 ·rename_i h
  split
  ·exact ⟨fun h1 => absurd h1 (by omega), fun h1 => absurd h1 h⟩
  ·exact ⟨fun h1 => absurd h1 (by omega), fun h1 => absurd h1 h⟩

theorem P2_gt (K : Nat) : 0 < P2 K := by unfold P2; exact_mod_cast Nat.pow_pos (by omega)

theorem ceil_sm {L : Nat} {x : Rat} (h : SmR L x) (K : Nat) : Sm (L + (K / 64 + 2)) (x * P2 K).ceil.natAbs := by
 rw [ceil_eq, Int.natAbs_neg]
 exact Sm.floor h.neg K

set_option maxRecDepth 100000 in
set_option maxHeartbeats 8000000 in
theorem Tryz.ivOut {v1 : Value} {p : Rat × Rat} {L : Nat} {w : World} (h1 : Sw w v1 p) (s1 : SmS L p) (hL : L ≤ 60) (K : Nat) (hK : K ≤ 1000) :
  Calls Tryz.prog 35 #[v1, .int .i64 (K : Int)] w fun e w' => ∃ v', e = .returned (.tuple #[v', .int .i64 0]) ∧ Sw w' v' (outS p K) ∧ Ext w w' := by
 obtain ⟨b1, a1, n1, c1, d1, m1, o1, bb1, aa1, nn1, cc1, dd1, mm1, oo1, rfl, q1⟩ : ∃ b1 a1 n1 c1 d1 m1 o1 bb1 aa1 nn1 cc1 dd1 mm1 oo1, v1 = .agg #[.bool b1, .slice a1 n1 c1, .slice d1 m1 o1, .bool bb1, .slice aa1 nn1 cc1, .slice dd1 mm1 oo1] ∧ True := let ⟨b1, a1, n1, c1, d1, m1, o1, bb1, aa1, nn1, cc1, dd1, mm1, oo1, e, _⟩ := h1; ⟨b1, a1, n1, c1, d1, m1, o1, bb1, aa1, nn1, cc1, dd1, mm1, oo1, e, trivial⟩
 clear q1
 have HK := Lib.hid hK
 have HG : Hid (gridB (K : Int) = true) := Lib.hid (decide_eq_true ⟨by omega, by omega⟩)
 have hk0 : ¬ (K : Int) < 0 := by omega
 have hk1 : ¬ (K : Int) > 1000 := by omega
 have SF : Hid (Sm 100 (p.1 * P2 K).floor.natAbs ∧ Sm 100 (p.2 * P2 K).ceil.natAbs) := Lib.hid ⟨(Sm.floor s1.lo K).mono (by omega), (ceil_sm s1.hi K).mono (by omega)⟩
 clear hK
 obtain ⟨W0, hW0⟩ : ∃ W0, W0 = ((w.alloc (.cells #[.bool b1, .slice a1 n1 c1, .slice d1 m1 o1, .bool bb1, .slice aa1 nn1 cc1, .slice dd1 mm1 oo1] 29)).alloc (.cells #[.bool false, .slice none 0 0, .slice none 0 0, .bool false, .slice none 0 0, .slice none 0 0] 29)) := ⟨_, rfl⟩
 have E0 : Ext w W0 := by rw [hW0]; exact ((Ext.alloc1 w (.cells #[.bool b1, .slice a1 n1 c1, .slice d1 m1 o1, .bool bb1, .slice aa1 nn1 cc1, .slice dd1 mm1 oo1] 29)).alloc (.cells #[.bool false, .slice none 0 0, .slice none 0 0, .bool false, .slice none 0 0, .slice none 0 0] 29))
 replace h1 : Sw W0 (.agg #[.bool b1, .slice a1 n1 c1, .slice d1 m1 o1, .bool bb1, .slice aa1 nn1 cc1, .slice dd1 mm1 oo1]) p := h1.ext E0
 have p2 : Bx6 W0 w.heap.size 29 (.bool b1) (.slice a1 n1 c1) (.slice d1 m1 o1) (.bool bb1) (.slice aa1 nn1 cc1) (.slice dd1 mm1 oo1) := by rw [hW0]; exact (Bx6.new w 29 (.bool b1) (.slice a1 n1 c1) (.slice d1 m1 o1) (.bool bb1) (.slice aa1 nn1 cc1) (.slice dd1 mm1 oo1)).ext (Ext.alloc1 (w.alloc (.cells #[.bool b1, .slice a1 n1 c1, .slice d1 m1 o1, .bool bb1, .slice aa1 nn1 cc1, .slice dd1 mm1 oo1] 29)) (.cells #[.bool false, .slice none 0 0, .slice none 0 0, .bool false, .slice none 0 0, .slice none 0 0] 29))
 have p4 : Bx6 W0 (w.heap.size + 1) 29 (.bool false) (.slice none 0 0) (.slice none 0 0) (.bool false) (.slice none 0 0) (.slice none 0 0) := by rw [hW0]; simpa using (Bx6.new (w.alloc (.cells #[.bool b1, .slice a1 n1 c1, .slice d1 m1 o1, .bool bb1, .slice aa1 nn1 cc1, .slice dd1 mm1 oo1] 29)) 29 (.bool false) (.slice none 0 0) (.slice none 0 0) (.bool false) (.slice none 0 0) (.slice none 0 0))
 go_enter Tryz.func35, Tryz.ntmps35
 obtain ⟨kp2_0, kp2_1, kp2_2, kp2_3, kp2_4, kp2_5⟩ := p2.c6
 obtain ⟨kp4_0, kp4_1, kp4_2, kp4_3, kp4_4, kp4_5⟩ := p4.c6
 go_wp2_with fail
 rw [← hW0]
 clear hW0; clear kp2_0 kp2_1 kp2_2 kp2_3 kp2_4 kp2_5 kp4_0 kp4_1 kp4_2 kp4_3 kp4_4 kp4_5
 refine (Tryz.ivGrid _ _).mono ?_
 rintro e W ⟨rfl, rfl⟩
 rw [HG.out]
 obtain ⟨kp2_0, kp2_1, kp2_2, kp2_3, kp2_4, kp2_5⟩ := p2.c6
 obtain ⟨kp4_0, kp4_1, kp4_2, kp4_3, kp4_4, kp4_5⟩ := p4.c6
 go_upto_region 3 with (fail)
 clear kp2_0 kp2_1 kp2_2 kp2_3 kp2_4 kp2_5 kp4_0 kp4_1 kp4_2 kp4_3 kp4_4 kp4_5; have ltp2 := p2.lt; have ltp4 := p4.lt; have szw1 := Ext.size E0
 refine region_gs [.one fun v _ => v = .pointer (some ⟨w.heap.size, 0, none⟩),
   .one fun v _ => v = .agg #[.bool b1, .slice a1 n1 c1, .slice d1 m1 o1],
   .one fun v _ => v = .int .i64 (K : Int),
   .one fun v W => ∃ v', v = .tuple #[v', .int .i64 0] ∧ (fun v W => Zw W v ((p.1 * P2 K).floor)) v' W,
   .one fun v W => ∃ v', v = .tuple #[v', .int .i64 0] ∧ (fun v W => Zw W v ((p.1 * P2 K).floor)) v' W,
   .one fun v W => Zw W v ((p.1 * P2 K).floor),
   .one fun v _ => v = .int .i64 0,
   .one fun v W => ∃ g, v = .pointer (some ⟨g, 0, none⟩) ∧ W0.heap.size ≤ g ∧ Form W g 25 2,
   .three 7 5 (fun p r _ W => Put2 W0.heap.size 25 p r W),
   .one fun v _ => v = .int .i64 0]
  (fun W => Ext w W ∧ Sw W (.agg #[.bool b1, .slice a1 n1 c1, .slice d1 m1 o1, .bool bb1, .slice aa1 nn1 cc1, .slice dd1 mm1 oo1]) p ∧ Bx6 W w.heap.size 29 (.bool b1) (.slice a1 n1 c1) (.slice d1 m1 o1) (.bool bb1) (.slice aa1 nn1 cc1) (.slice dd1 mm1 oo1) ∧ Bx6 W (w.heap.size + 1) 29 (.bool false) (.slice none 0 0) (.slice none 0 0) (.bool false) (.slice none 0 0) (.slice none 0 0) ∧ W0.heap.size ≤ W.heap.size) ⟨Good.is _, Good.is _, Good.is _, (Good.zed _).tup _, (Good.zed _).tup _, Good.zed _, Good.is _, Good.box _ _ _, cert_put2, Good.is _, trivial⟩
  ⟨E0, h1, p2, p4, Nat.le_refl _⟩ (A := ?A1) ?hA1 ?howe1 ?hfin1
 case hA1 =>
  intro vs
  simp only [putAll, Act.put, sA, sZ, sS, Nat.zero_add, Nat.reduceAdd]
  exact rfl
 case howe1 =>
  clear E0 h1 p2 p4
  intro hf
  refine ⟨oE 0 [] hf rfl ?_, oE 1 [0] hf rfl ?_, oE 2 [] hf rfl ?_, oE 3 [1, 2] hf rfl ?_, oE 4 [3] hf rfl ?_, oE 5 [4] hf rfl ?_, oE 6 [4] hf rfl ?_, oE 7 [] hf rfl ?_, oW 8 [7, 5] hf rfl ?_, oE 9 [6] hf rfl ?_, trivial⟩
  all_goals intro vs W hS hp hx KO hKO
  all_goals simp only [Act.put, sA, sZ, sS] at hKO
  ·go_simp; exact hKO _ W (.refl W) rfl
  ·have e0 := isOf hp.1; simp only [e0] at hKO; have fc0 := hS.2.2.1.cell0; have fc1 := hS.2.2.1.cell1; have fc2 := hS.2.2.1.cell2; go_simp; exact hKO _ W (.refl W) rfl
  ·go_simp; exact hKO _ W (.refl W) rfl
  ·have e1 := isOf hp.1; have e2 := isOf hp.2.1; simp only [e1, e2] at hKO; go_simp
   refine (Tryz.dyadFloor (hS.2.1.lo) s1.lo (by omega) K (by have := HK.out; omega)).mono ?_
   rintro e W1 ⟨v, rfl, hv, hE⟩
   exact hKO _ W1 hE ⟨_, rfl, hv⟩
  ·have q3 := hp.1
   obtain ⟨u, ev, hu⟩ := q3
   replace ev : vs 3 = _ := ev; simp only [ev] at hKO; go_simp; exact hKO _ W (Ext.refl W) ⟨u, rfl, hu⟩
  ·have q4 := hp.1
   obtain ⟨u, ev, hu⟩ := q4
   replace ev : vs 4 = _ := ev; simp only [ev] at hKO; go_simp; exact hKO _ W (Ext.refl W) hu
  ·have q4 := hp.1
   obtain ⟨u, ev, hu⟩ := q4
   replace ev : vs 4 = _ := ev; simp only [ev] at hKO; go_simp; exact hKO _ W (.refl W) rfl
  ·have hn := Bx2.new W 25 (.bool false) (.slice none 0 0)
   have hE := Ext.alloc1 W (.cells #[.bool false, .slice none 0 0] 25)
   have hsz := hS.2.2.2.2
   go_simp
   exact hKO _ _ hE ⟨_, rfl, hsz, hn.form⟩
  ·have q7 := hp.1; have q5 := hp.2.1
   obtain ⟨g, ev, hg, hf⟩ := q7
   replace ev : vs 7 = _ := ev
   obtain ⟨x0_0, x0_1, hx, hno⟩ := hf.bx2
   have qr := q5
   obtain ⟨b3, a3, n3, c3, er, -, -⟩ := qr
   replace er : vs 5 = _ := er
   have r0 := hx.froz0
   have t0 := hx.cell0
   have r1 := hx.froz1
   have t1 := hx.cell1
   have hw := Wr.set2 hx hno b3 a3 n3 c3
   have hq := hx.set (.bool b3) (.slice a3 n3 c3)
   simp only [ev, er] at hKO; go_simp
   exact hKO _ _ hw ⟨(Ext.wr hS.1 hw (by omega)), (hS.2.1.wr hw), (hS.2.2.1.wr hw (by omega)), (hS.2.2.2.1.wr hw (by omega)), (Nat.le_trans hS.2.2.2.2 hw.apart.size)⟩ ⟨g, b3, a3, n3, c3, ev, er, hg, hq⟩
  ·have e6 := isOf hp.1; simp only [e6] at hKO; go_simp; exact hKO _ W (.refl W) rfl
 intro vs W1 hS hp
 clear szw1 E0 h1 p2 p4
 obtain ⟨E0, h1, p2, p4, sz1⟩ := hS
 obtain ⟨h1_0, h1_1, h1_2, h1_3, h1_4, h1_5, h1_6, h1_7, h1_8, h1_9, -⟩ := hp
 obtain ⟨g1_8, b1_8, a1_8, n1_8, c1_8, ev1_8, er1_8, hg1_8, p1_8⟩ := h1_8
 replace ev1_8 : vs 7 = _ := ev1_8; replace er1_8 : vs 5 = _ := er1_8; replace h1_5 := (show Zw W1 (vs 5) ((p.1 * P2 K).floor) from h1_5)
 rw [er1_8] at h1_5
 replace h1_0 : vs 0 = .pointer (some ⟨w.heap.size, 0, none⟩) := h1_0
 replace h1_1 : vs 1 = .agg #[.bool b1, .slice a1 n1 c1, .slice d1 m1 o1] := h1_1
 replace h1_2 : vs 2 = .int .i64 (K : Int) := h1_2
 replace h1_6 : vs 6 = .int .i64 0 := h1_6
 replace h1_9 : vs 9 = .int .i64 0 := h1_9
 simp only [ev1_8, er1_8, h1_0, h1_1, h1_2, h1_6, h1_9]
 clear ev1_8 er1_8 h1_0 h1_1 h1_2 h1_6 h1_9 h1_3 h1_4 h1_7
 obtain ⟨kp2_0, kp2_1, kp2_2, kp2_3, kp2_4, kp2_5⟩ := p2.c6
 obtain ⟨kp4_0, kp4_1, kp4_2, kp4_3, kp4_4, kp4_5⟩ := p4.c6
 obtain ⟨kp1_8_0, kp1_8_1⟩ := p1_8.c2
 go_upto_region 4 with (fail)
 clear kp2_0 kp2_1 kp2_2 kp2_3 kp2_4 kp2_5 kp4_0 kp4_1 kp4_2 kp4_3 kp4_4 kp4_5 kp1_8_0 kp1_8_1; have ltp1_8 := p1_8.lt; have szw2 := Ext.size E0
 refine region_gs [.one fun v _ => v = .pointer (some ⟨w.heap.size, 3, none⟩),
   .one fun v _ => v = .agg #[.bool bb1, .slice aa1 nn1 cc1, .slice dd1 mm1 oo1],
   .one fun v _ => v = .int .i64 (K : Int),
   .one fun v W => ∃ v', v = .tuple #[v', .int .i64 0] ∧ (fun v W => Zw W v ((p.2 * P2 K).ceil)) v' W,
   .one fun v W => ∃ v', v = .tuple #[v', .int .i64 0] ∧ (fun v W => Zw W v ((p.2 * P2 K).ceil)) v' W,
   .one fun v W => Zw W v ((p.2 * P2 K).ceil),
   .one fun v _ => v = .int .i64 0,
   .one fun v W => ∃ g, v = .pointer (some ⟨g, 0, none⟩) ∧ W1.heap.size ≤ g ∧ Form W g 25 2,
   .three 7 5 (fun p r _ W => Put2 W1.heap.size 25 p r W),
   .one fun v _ => v = .int .i64 0]
  (fun W => Ext w W ∧ Sw W (.agg #[.bool b1, .slice a1 n1 c1, .slice d1 m1 o1, .bool bb1, .slice aa1 nn1 cc1, .slice dd1 mm1 oo1]) p ∧ Bx6 W w.heap.size 29 (.bool b1) (.slice a1 n1 c1) (.slice d1 m1 o1) (.bool bb1) (.slice aa1 nn1 cc1) (.slice dd1 mm1 oo1) ∧ Bx6 W (w.heap.size + 1) 29 (.bool false) (.slice none 0 0) (.slice none 0 0) (.bool false) (.slice none 0 0) (.slice none 0 0) ∧ Zw W (.agg #[.bool b1_8, .slice a1_8 n1_8 c1_8]) ((p.1 * P2 K).floor) ∧ Bx2 W g1_8 25 (.bool b1_8) (.slice a1_8 n1_8 c1_8) ∧ W1.heap.size ≤ W.heap.size) ⟨Good.is _, Good.is _, Good.is _, (Good.zed _).tup _, (Good.zed _).tup _, Good.zed _, Good.is _, Good.box _ _ _, cert_put2, Good.is _, trivial⟩
  ⟨E0, h1, p2, p4, h1_5, p1_8, Nat.le_refl _⟩ (A := ?A2) ?hA2 ?howe2 ?hfin2
 case hA2 =>
  intro vs
  simp only [putAll, Act.put, sA, sZ, sS, Nat.zero_add, Nat.reduceAdd]
  exact rfl
 case howe2 =>
  clear E0 h1 p2 p4 h1_5 p1_8
  intro hf
  refine ⟨oE 0 [] hf rfl ?_, oE 1 [0] hf rfl ?_, oE 2 [] hf rfl ?_, oE 3 [1, 2] hf rfl ?_, oE 4 [3] hf rfl ?_, oE 5 [4] hf rfl ?_, oE 6 [4] hf rfl ?_, oE 7 [] hf rfl ?_, oW 8 [7, 5] hf rfl ?_, oE 9 [6] hf rfl ?_, trivial⟩
  all_goals intro vs W hS hp hx KO hKO
  all_goals simp only [Act.put, sA, sZ, sS] at hKO
  ·go_simp; exact hKO _ W (.refl W) rfl
  ·have e0 := isOf hp.1; simp only [e0] at hKO; have fc3 := hS.2.2.1.cell3; have fc4 := hS.2.2.1.cell4; have fc5 := hS.2.2.1.cell5; go_simp; exact hKO _ W (.refl W) rfl
  ·go_simp; exact hKO _ W (.refl W) rfl
  ·have e1 := isOf hp.1; have e2 := isOf hp.2.1; simp only [e1, e2] at hKO; go_simp
   refine (Tryz.dyadCeil (hS.2.1.hi) s1.hi (by omega) K (by have := HK.out; omega)).mono ?_
   rintro e W1 ⟨v, rfl, hv, hE⟩
   exact hKO _ W1 hE ⟨_, rfl, hv⟩
  ·have q3 := hp.1
   obtain ⟨u, ev, hu⟩ := q3
   replace ev : vs 3 = _ := ev; simp only [ev] at hKO; go_simp; exact hKO _ W (Ext.refl W) ⟨u, rfl, hu⟩
  ·have q4 := hp.1
   obtain ⟨u, ev, hu⟩ := q4
   replace ev : vs 4 = _ := ev; simp only [ev] at hKO; go_simp; exact hKO _ W (Ext.refl W) hu
  ·have q4 := hp.1
   obtain ⟨u, ev, hu⟩ := q4
   replace ev : vs 4 = _ := ev; simp only [ev] at hKO; go_simp; exact hKO _ W (.refl W) rfl
  ·have hn := Bx2.new W 25 (.bool false) (.slice none 0 0)
   have hE := Ext.alloc1 W (.cells #[.bool false, .slice none 0 0] 25)
   have hsz := hS.2.2.2.2.2.2
   go_simp
   exact hKO _ _ hE ⟨_, rfl, hsz, hn.form⟩
  ·have q7 := hp.1; have q5 := hp.2.1
   obtain ⟨g, ev, hg, hf⟩ := q7
   replace ev : vs 7 = _ := ev
   obtain ⟨x0_0, x0_1, hx, hno⟩ := hf.bx2
   have qr := q5
   obtain ⟨b3, a3, n3, c3, er, -, -⟩ := qr
   replace er : vs 5 = _ := er
   have r0 := hx.froz0
   have t0 := hx.cell0
   have r1 := hx.froz1
   have t1 := hx.cell1
   have hw := Wr.set2 hx hno b3 a3 n3 c3
   have hq := hx.set (.bool b3) (.slice a3 n3 c3)
   simp only [ev, er] at hKO; go_simp
   exact hKO _ _ hw ⟨(Ext.wr hS.1 hw (by omega)), (hS.2.1.wr hw), (hS.2.2.1.wr hw (by omega)), (hS.2.2.2.1.wr hw (by omega)), (hS.2.2.2.2.1.wr hw), (hS.2.2.2.2.2.1.wr hw (by omega)), (Nat.le_trans hS.2.2.2.2.2.2 hw.apart.size)⟩ ⟨g, b3, a3, n3, c3, ev, er, hg, hq⟩
  ·have e6 := isOf hp.1; simp only [e6] at hKO; go_simp; exact hKO _ W (.refl W) rfl
 intro vs W2 hS hp
 clear szw2 E0 h1 p2 p4 h1_5 p1_8
 obtain ⟨E0, h1, p2, p4, h1_5, p1_8, sz2⟩ := hS
 obtain ⟨h2_0, h2_1, h2_2, h2_3, h2_4, h2_5, h2_6, h2_7, h2_8, h2_9, -⟩ := hp
 obtain ⟨g2_8, b2_8, a2_8, n2_8, c2_8, ev2_8, er2_8, hg2_8, p2_8⟩ := h2_8
 replace ev2_8 : vs 7 = _ := ev2_8; replace er2_8 : vs 5 = _ := er2_8; replace h2_5 := (show Zw W2 (vs 5) ((p.2 * P2 K).ceil) from h2_5)
 rw [er2_8] at h2_5
 replace h2_0 : vs 0 = .pointer (some ⟨w.heap.size, 3, none⟩) := h2_0
 replace h2_1 : vs 1 = .agg #[.bool bb1, .slice aa1 nn1 cc1, .slice dd1 mm1 oo1] := h2_1
 replace h2_2 : vs 2 = .int .i64 (K : Int) := h2_2
 replace h2_6 : vs 6 = .int .i64 0 := h2_6
 replace h2_9 : vs 9 = .int .i64 0 := h2_9
 simp only [ev2_8, er2_8, h2_0, h2_1, h2_2, h2_6, h2_9]
 clear ev2_8 er2_8 h2_0 h2_1 h2_2 h2_6 h2_9 h2_3 h2_4 h2_7
 obtain ⟨kp2_0, kp2_1, kp2_2, kp2_3, kp2_4, kp2_5⟩ := p2.c6
 obtain ⟨kp4_0, kp4_1, kp4_2, kp4_3, kp4_4, kp4_5⟩ := p4.c6
 obtain ⟨kp1_8_0, kp1_8_1⟩ := p1_8.c2
 obtain ⟨kp2_8_0, kp2_8_1⟩ := p2_8.c2
 go_upto_region 5 with (fail)
 clear kp2_0 kp2_1 kp2_2 kp2_3 kp2_4 kp2_5 kp4_0 kp4_1 kp4_2 kp4_3 kp4_4 kp4_5 kp1_8_0 kp1_8_1 kp2_8_0 kp2_8_1; have fp4 := p4.form; have ltp2_8 := p2_8.lt; have szw3 := Ext.size E0
 refine region_gs [.one fun v _ => v = .agg #[.bool b1_8, .slice a1_8 n1_8 c1_8],
   .one fun v _ => v = .agg #[.bool b2_8, .slice a2_8 n2_8 c2_8],
   .one fun v _ => v = .int .i64 (K : Int),
   .one fun v W => Sw W v ((((p.1 * P2 K).floor : Rat) / P2 K, ((p.2 * P2 K).ceil : Rat) / P2 K)),
   .two 3 (fun r _ W => At6 (w.heap.size + 1) 29 r W),
   .one fun v _ => v = .int .i64 0]
  (fun W => Ext w W ∧ Sw W (.agg #[.bool b1, .slice a1 n1 c1, .slice d1 m1 o1, .bool bb1, .slice aa1 nn1 cc1, .slice dd1 mm1 oo1]) p ∧ Bx6 W w.heap.size 29 (.bool b1) (.slice a1 n1 c1) (.slice d1 m1 o1) (.bool bb1) (.slice aa1 nn1 cc1) (.slice dd1 mm1 oo1) ∧ Form W (w.heap.size + 1) 29 6 ∧ Zw W (.agg #[.bool b1_8, .slice a1_8 n1_8 c1_8]) ((p.1 * P2 K).floor) ∧ Bx2 W g1_8 25 (.bool b1_8) (.slice a1_8 n1_8 c1_8) ∧ Zw W (.agg #[.bool b2_8, .slice a2_8 n2_8 c2_8]) ((p.2 * P2 K).ceil) ∧ Bx2 W g2_8 25 (.bool b2_8) (.slice a2_8 n2_8 c2_8) ∧ W2.heap.size ≤ W.heap.size) ⟨Good.is _, Good.is _, Good.is _, Good.span _, cert_at6, Good.is _, trivial⟩
  ⟨E0, h1, p2, fp4, h1_5, p1_8, h2_5, p2_8, Nat.le_refl _⟩ (A := ?A3) ?hA3 ?howe3 ?hfin3
 case hA3 =>
  intro vs
  simp only [putAll, Act.put, sA, sZ, sS, Nat.zero_add, Nat.reduceAdd]
  exact rfl
 case howe3 =>
  clear E0 h1 p2 fp4 h1_5 p1_8 h2_5 p2_8
  intro hf
  refine ⟨oE 0 [] hf rfl ?_, oE 1 [] hf rfl ?_, oE 2 [] hf rfl ?_, oE 3 [0, 1, 2] hf rfl ?_, oW 4 [3] hf rfl ?_, oE 5 [] hf rfl ?_, trivial⟩
  all_goals intro vs W hS hp hx KO hKO
  all_goals simp only [Act.put, sA, sZ, sS] at hKO
  ·have fc0 := hS.2.2.2.2.2.1.cell0; have fc1 := hS.2.2.2.2.2.1.cell1; go_simp; exact hKO _ W (.refl W) rfl
  ·have fc0 := hS.2.2.2.2.2.2.2.1.cell0; have fc1 := hS.2.2.2.2.2.2.2.1.cell1; go_simp; exact hKO _ W (.refl W) rfl
  ·go_simp; exact hKO _ W (.refl W) rfl
  ·have e0 := isOf hp.1; have e1 := isOf hp.2.1; have e2 := isOf hp.2.2.1; simp only [e0, e1, e2] at hKO; go_simp
   refine (Tryz.ivBetween (hS.2.2.2.2.1) (hS.2.2.2.2.2.2.1) SF.out.1 SF.out.2 (by omega) K (by have := HK.out; omega)).mono ?_
   rintro e W1 ⟨v, rfl, hv, hE⟩
   exact hKO _ W1 hE hv
  ·have q3 := hp.1
   have hf := hS.2.2.2.1
   obtain ⟨x0_0, x0_1, x0_2, x0_3, x0_4, x0_5, hx, hno⟩ := hf.bx6
   have qr := q3
   obtain ⟨b3, a3, n3, c3, d3, m3, o3, bb3, aa3, nn3, cc3, dd3, mm3, oo3, er, -, -⟩ := qr
   replace er : vs 3 = _ := er
   have r0 := hx.froz0
   have t0 := hx.cell0
   have r1 := hx.froz1
   have t1 := hx.cell1
   have r2 := hx.froz2
   have t2 := hx.cell2
   have r3 := hx.froz3
   have t3 := hx.cell3
   have r4 := hx.froz4
   have t4 := hx.cell4
   have r5 := hx.froz5
   have t5 := hx.cell5
   have hw := Wr.set6 hx hno b3 a3 n3 c3 d3 m3 o3 bb3 aa3 nn3 cc3 dd3 mm3 oo3
   have hq := hx.set (.bool b3) (.slice a3 n3 c3) (.slice d3 m3 o3) (.bool bb3) (.slice aa3 nn3 cc3) (.slice dd3 mm3 oo3)
   have hg : (w.heap.size + 1) ≤ (w.heap.size + 1) := Nat.le_refl _
   simp only [er] at hKO; go_simp
   exact hKO _ _ hw ⟨(Ext.wr hS.1 hw (by omega)), (hS.2.1.wr hw), (hS.2.2.1.wr hw (by omega)), (hS.2.2.2.1.wr hw), (hS.2.2.2.2.1.wr hw), (hS.2.2.2.2.2.1.wr hw (by omega)), (hS.2.2.2.2.2.2.1.wr hw), (hS.2.2.2.2.2.2.2.1.wr hw (by omega)), (Nat.le_trans hS.2.2.2.2.2.2.2.2 hw.apart.size)⟩ ⟨b3, a3, n3, c3, d3, m3, o3, bb3, aa3, nn3, cc3, dd3, mm3, oo3, er, hq⟩
  ·go_simp; exact hKO _ W (.refl W) rfl
 intro vs W3 hS hp
 clear szw3 E0 h1 p2 fp4 h1_5 p1_8 h2_5 p2_8
 obtain ⟨E0, h1, p2, fp4, h1_5, p1_8, h2_5, p2_8, sz3⟩ := hS
 obtain ⟨h3_0, h3_1, h3_2, h3_3, h3_4, h3_5, -⟩ := hp
 obtain ⟨b3_4, a3_4, n3_4, c3_4, d3_4, m3_4, o3_4, bb3_4, aa3_4, nn3_4, cc3_4, dd3_4, mm3_4, oo3_4, er3_4, p3_4⟩ := h3_4
 replace er3_4 : vs 3 = _ := er3_4; replace h3_3 := (show Sw W3 (vs 3) ((((p.1 * P2 K).floor : Rat) / P2 K, ((p.2 * P2 K).ceil : Rat) / P2 K)) from h3_3)
 rw [er3_4] at h3_3
 replace h3_0 : vs 0 = .agg #[.bool b1_8, .slice a1_8 n1_8 c1_8] := h3_0
 replace h3_1 : vs 1 = .agg #[.bool b2_8, .slice a2_8 n2_8 c2_8] := h3_1
 replace h3_2 : vs 2 = .int .i64 (K : Int) := h3_2
 replace h3_5 : vs 5 = .int .i64 0 := h3_5
 simp only [er3_4, h3_0, h3_1, h3_2, h3_5]
 clear er3_4 h3_0 h3_1 h3_2 h3_5
 obtain ⟨kp2_0, kp2_1, kp2_2, kp2_3, kp2_4, kp2_5⟩ := p2.c6
 obtain ⟨kp1_8_0, kp1_8_1⟩ := p1_8.c2
 obtain ⟨kp2_8_0, kp2_8_1⟩ := p2_8.c2
 obtain ⟨kp3_4_0, kp3_4_1, kp3_4_2, kp3_4_3, kp3_4_4, kp3_4_5⟩ := p3_4.c6
 go_wp2
 exact bodyPost_ret (v := .tuple #[.agg #[.bool b3_4, .slice a3_4 n3_4 c3_4, .slice d3_4 m3_4 o3_4, .bool bb3_4, .slice aa3_4 nn3_4 cc3_4, .slice dd3_4 mm3_4 oo3_4], .int .i64 0]) (by simp [results, Tryz.results35, go_sem, kp3_4_0, kp3_4_1, kp3_4_2, kp3_4_3, kp3_4_4, kp3_4_5]) rfl ⟨_, rfl, h3_3, E0⟩

end Go.Rt
