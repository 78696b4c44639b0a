/-
 Intervals: which are right, whatever they hold; the live question of chapter 7.
-/
import Derived.Test.YthmncdhibcoiaaaGreatSqz
import Derived.Test.YthmncdhibcoiaaaGreatIvB

namespace Go.Rt

open Go Go.RowKit Go.Proofs

theorem sq2 : sqS (((2 : Int) : Rat), ((2 : Int) : Rat)) 1 = (((1 : Int) : Rat), mkRat 3 (2 : Int).natAbs) := by
 have h8 : (((2 : Int) : Rat)).num.natAbs * 2 ^ (2 * 1) / (((2 : Int) : Rat)).den = 8 := by decide +kernel
 have h80 : (((2 : Int) : Rat)).num.natAbs * 2 ^ (2 * 1) % (((2 : Int) : Rat)).den = 0 := by decide +kernel
 have r2 : rt 8 2 = 2 := rt_eq (by omega) ⟨by decide, by decide⟩
 have e1 : sqLo ((2 : Int) : Rat) 1 = 2 := by
  unfold sqLo rootV
  rw [h8, if_pos (by omega)]
  exact r2
 have e2 : sqHi ((2 : Int) : Rat) 1 = 3 := by
  unfold sqHi
  rw [h8, if_pos h80, rootU_in (by omega)]
  show rtUp 8 2 = 3
  unfold rtUp
  rw [r2, if_neg (by decide)]
 show (((sqLo ((2 : Int) : Rat) 1 : Int) : Rat) / P2 1, ((sqHi ((2 : Int) : Rat) 1 : Int) : Rat) / P2 1) = _
 rw [e1, e2]
 decide +kernel

set_option maxRecDepth 100000 in
set_option maxHeartbeats 8000000 in
theorem Tryz.alive07 (w : World) : Calls Tryz.prog 11 #[] w fun e w' => e = .returned (.bool true) ∧ Ext w w' := by
 have S2 : Hid (SmR 2 ((2 : Int) : Rat)) := Lib.hid ((SmR.int (by decide)).mono (by omega))
 have SM : Hid (SmR 2 ((-2 : Int) : Rat)) := Lib.hid ((SmR.int (by decide)).mono (by omega))
 have S1 : Hid (SmR 2 (((1 : Int) : Rat))) := Lib.hid ((SmR.int (by decide)).mono (by omega))
 have S3 : Hid (SmR 2 (mkRat 3 (2 : Int).natAbs)) := Lib.hid ((SmR.mk (L := 1) (Sm.small (by decide)) (Sm.small (by decide)) (by decide)).mono (by omega))
 have SA : Hid (SmR 6 (((2 : Int) : Rat) + ((-2 : Int) : Rat))) := Lib.hid ((S2.out.add SM.out).mono (by omega))
 have HH : Hid (hasS (((2 : Int) : Rat) + ((-2 : Int) : Rat), ((2 : Int) : Rat) + ((-2 : Int) : Rat)) 0 = true) := Lib.hid (by decide +kernel)
 have HR : Hid (decide ((((1 : Int) : Rat), mkRat 3 (2 : Int).natAbs).1 ≤ (((1 : Int) : Rat), mkRat 3 (2 : Int).natAbs).2) = true) := Lib.hid (by decide +kernel)
 have HS : Hid (hasS (((1 : Int) : Rat), mkRat 3 (2 : Int).natAbs) ((1 : Int) : Rat) = true) := Lib.hid (by decide +kernel)
 have HI : Hid (inS (((1 : Int) : Rat), mkRat 3 (2 : Int).natAbs) (((1 : Int) : Rat), mkRat 3 (2 : Int).natAbs) = true) := Lib.hid (by decide +kernel)
 have HJ : Hid (inS (((1 : Int) : Rat), mkRat 3 (2 : Int).natAbs) (((2 : Int) : Rat), ((2 : Int) : Rat)) = false) := Lib.hid (by decide +kernel)
 have HP : Hid (0 ≤ (((2 : Int) : Rat), ((2 : Int) : Rat)).1) := Lib.hid (by decide +kernel)
 obtain ⟨W0, hW0⟩ : ∃ W0, W0 = w := ⟨_, rfl⟩
 have E0 : Ext w W0 := by rw [hW0]; exact Ext.refl w
 go_enter Tryz.func11, Tryz.ntmps11
 go_upto_region 1 with (fail)
 rw [← hW0]
 clear hW0; have szw1 := Ext.size E0
 refine region_gs [.one fun v W => Rw W v (((2 : Int) : Rat)),
   .one fun v W => Sw W v ((((2 : Int) : Rat), ((2 : Int) : Rat))),
   .one fun v W => ∃ g, v = .pointer (some ⟨g, 0, none⟩) ∧ W0.heap.size ≤ g ∧ Form W g 29 6,
   .three 2 1 (fun p r _ W => Put6 W0.heap.size 29 p r W)]
  (fun W => Ext w W ∧ W0.heap.size ≤ W.heap.size) ⟨Good.rat _, Good.span _, Good.box _ _ _, cert_put6, trivial⟩
  ⟨E0, Nat.le_refl _⟩ (A := ?A1) ?hA1 ?howe1 ?hfin1
 case hA1 =>
  intro vs
  simp only [putAll, Act.put, sA, sZ, sS, Nat.zero_add, Nat.reduceAdd]
  exact rfl
 case howe1 =>
  clear E0
  intro hf
  refine ⟨oE 0 [] hf rfl ?_, oE 1 [0] hf rfl ?_, oE 2 [] hf rfl ?_, oW 3 [2, 1] hf rfl ?_, trivial⟩
  all_goals intro vs W hS hp hx KO hKO
  all_goals simp only [Act.put, sA, sZ, sS] at hKO
  ·go_simp
   refine (Tryz.refROf 2 _ (by omega) (by omega)).mono ?_
   rintro e W1 ⟨v, rfl, hv, hE⟩
   exact hKO _ W1 hE hv
  ·have q0 := hp.1; go_simp
   refine (Tryz.ivOf q0).mono ?_
   rintro e W1 ⟨v, rfl, hv, hE⟩
   exact hKO _ W1 hE hv
  ·have hn := Bx6.new W 29 (.bool false) (.slice none 0 0) (.slice none 0 0) (.bool false) (.slice none 0 0) (.slice none 0 0)
   have hE := Ext.alloc1 W (.cells #[.bool false, .slice none 0 0, .slice none 0 0, .bool false, .slice none 0 0, .slice none 0 0] 29)
   have hsz := hS.2
   go_simp
   exact hKO _ _ hE ⟨_, rfl, hsz, hn.form⟩
  ·have q2 := hp.1; have q1 := hp.2.1
   obtain ⟨g, ev, hg, hf⟩ := q2
   replace ev : vs 2 = _ := ev
   obtain ⟨x0_0, x0_1, x0_2, x0_3, x0_4, x0_5, hx, hno⟩ := hf.bx6
   have qr := q1
   obtain ⟨b3, a3, n3, c3, d3, m3, o3, bb3, aa3, nn3, cc3, dd3, mm3, oo3, er, -, -⟩ := qr
   replace er : vs 1 = _ := er
   have r0 := hx.froz0
   have t0 := hx.cell0
   have r1 := hx.froz1
   have t1 := hx.cell1
   have r2 := hx.froz2
   have t2 := hx.cell2
   have r3 := hx.froz3
   have t3 := hx.cell3
   have r4 := hx.froz4
   have t4 := hx.cell4
   have r5 := hx.froz5
   have t5 := hx.cell5
   have hw := Wr.set6 hx hno b3 a3 n3 c3 d3 m3 o3 bb3 aa3 nn3 cc3 dd3 mm3 oo3
   have hq := hx.set (.bool b3) (.slice a3 n3 c3) (.slice d3 m3 o3) (.bool bb3) (.slice aa3 nn3 cc3) (.slice dd3 mm3 oo3)
   simp only [ev, er] at hKO; go_simp
   exact hKO _ _ hw ⟨(Ext.wr hS.1 hw (by omega)), (Nat.le_trans hS.2 hw.apart.size)⟩ ⟨g, b3, a3, n3, c3, d3, m3, o3, bb3, aa3, nn3, cc3, dd3, mm3, oo3, ev, er, hg, hq⟩
 intro vs W1 hS hp
 clear szw1 E0
 obtain ⟨E0, sz1⟩ := hS
 obtain ⟨h1_0, h1_1, h1_2, h1_3, -⟩ := hp
 obtain ⟨g1_3, b1_3, a1_3, n1_3, c1_3, d1_3, m1_3, o1_3, bb1_3, aa1_3, nn1_3, cc1_3, dd1_3, mm1_3, oo1_3, ev1_3, er1_3, hg1_3, p1_3⟩ := h1_3
 replace ev1_3 : vs 2 = _ := ev1_3; replace er1_3 : vs 1 = _ := er1_3; replace h1_1 := (show Sw W1 (vs 1) ((((2 : Int) : Rat), ((2 : Int) : Rat))) from h1_1)
 rw [er1_3] at h1_1
 simp only [ev1_3, er1_3]
 replace h1_0 : Rw W1 (vs 0) (((2 : Int) : Rat)) := h1_0
 generalize vs 0 = u1_0 at h1_0 ⊢
 clear ev1_3 er1_3 h1_2
 obtain ⟨kp1_3_0, kp1_3_1, kp1_3_2, kp1_3_3, kp1_3_4, kp1_3_5⟩ := p1_3.c6
 go_upto_region 2 with (fail)
 clear kp1_3_0 kp1_3_1 kp1_3_2 kp1_3_3 kp1_3_4 kp1_3_5; have ltp1_3 := p1_3.lt; have szw2 := Ext.size E0
 refine region_gs [.one fun v _ => v = .agg #[.bool b1_3, .slice a1_3 n1_3 c1_3, .slice d1_3 m1_3 o1_3, .bool bb1_3, .slice aa1_3 nn1_3 cc1_3, .slice dd1_3 mm1_3 oo1_3],
   .one fun v W => ∃ v', v = .tuple #[v', .int .i64 0] ∧ (fun v W => Sw W v ((((1 : Int) : Rat), mkRat 3 (2 : Int).natAbs))) v' W,
   .one fun v W => ∃ v', v = .tuple #[v', .int .i64 0] ∧ (fun v W => Sw W v ((((1 : Int) : Rat), mkRat 3 (2 : Int).natAbs))) v' W,
   .one fun v W => Sw W v ((((1 : Int) : Rat), mkRat 3 (2 : Int).natAbs)),
   .one fun v _ => v = .int .i64 0,
   .one fun v W => ∃ g, v = .pointer (some ⟨g, 0, none⟩) ∧ W1.heap.size ≤ g ∧ Form W g 29 6,
   .three 5 3 (fun p r _ W => Put6 W1.heap.size 29 p r W),
   .one fun v _ => v = .int .i64 0]
  (fun W => Ext w W ∧ Sw W (.agg #[.bool b1_3, .slice a1_3 n1_3 c1_3, .slice d1_3 m1_3 o1_3, .bool bb1_3, .slice aa1_3 nn1_3 cc1_3, .slice dd1_3 mm1_3 oo1_3]) ((((2 : Int) : Rat), ((2 : Int) : Rat))) ∧ Bx6 W g1_3 29 (.bool b1_3) (.slice a1_3 n1_3 c1_3) (.slice d1_3 m1_3 o1_3) (.bool bb1_3) (.slice aa1_3 nn1_3 cc1_3) (.slice dd1_3 mm1_3 oo1_3) ∧ Rw W u1_0 (((2 : Int) : Rat)) ∧ W1.heap.size ≤ W.heap.size) ⟨Good.is _, (Good.span _).tup _, (Good.span _).tup _, Good.span _, Good.is _, Good.box _ _ _, cert_put6, Good.is _, trivial⟩
  ⟨E0, h1_1, p1_3, h1_0, Nat.le_refl _⟩ (A := ?A2) ?hA2 ?howe2 ?hfin2
 case hA2 =>
  intro vs
  simp only [putAll, Act.put, sA, sZ, sS, Nat.zero_add, Nat.reduceAdd]
  exact rfl
 case howe2 =>
  clear E0 h1_1 p1_3 h1_0
  intro hf
  refine ⟨oE 0 [] hf rfl ?_, oE 1 [0] hf rfl ?_, oE 2 [1] hf rfl ?_, oE 3 [2] hf rfl ?_, oE 4 [2] hf rfl ?_, oE 5 [] hf rfl ?_, oW 6 [5, 3] hf rfl ?_, oE 7 [4] hf rfl ?_, trivial⟩
  all_goals intro vs W hS hp hx KO hKO
  all_goals simp only [Act.put, sA, sZ, sS] at hKO
  ·have fc0 := hS.2.2.1.cell0; have fc1 := hS.2.2.1.cell1; have fc2 := hS.2.2.1.cell2; have fc3 := hS.2.2.1.cell3; have fc4 := hS.2.2.1.cell4; have fc5 := hS.2.2.1.cell5; go_simp; exact hKO _ W (.refl W) rfl
  ·have e0 := isOf hp.1; simp only [e0] at hKO; go_simp
   refine (Tryz.ivSqrt (hS.2.1) ⟨S2.out, S2.out⟩ (by omega) HP.out 1 (by omega)).mono ?_
   rintro e W1 ⟨v, rfl, hv, hE⟩
   rw [sq2] at hv
   exact hKO _ W1 hE ⟨_, rfl, hv⟩
  ·have q1 := hp.1
   obtain ⟨u, ev, hu⟩ := q1
   replace ev : vs 1 = _ := ev; simp only [ev] at hKO; go_simp; exact hKO _ W (Ext.refl W) ⟨u, rfl, hu⟩
  ·have q2 := hp.1
   obtain ⟨u, ev, hu⟩ := q2
   replace ev : vs 2 = _ := ev; simp only [ev] at hKO; go_simp; exact hKO _ W (Ext.refl W) hu
  ·have q2 := hp.1
   obtain ⟨u, ev, hu⟩ := q2
   replace ev : vs 2 = _ := ev; simp only [ev] at hKO; go_simp; exact hKO _ W (.refl W) rfl
  ·have hn := Bx6.new W 29 (.bool false) (.slice none 0 0) (.slice none 0 0) (.bool false) (.slice none 0 0) (.slice none 0 0)
   have hE := Ext.alloc1 W (.cells #[.bool false, .slice none 0 0, .slice none 0 0, .bool false, .slice none 0 0, .slice none 0 0] 29)
   have hsz := hS.2.2.2.2
   go_simp
   exact hKO _ _ hE ⟨_, rfl, hsz, hn.form⟩
  ·have q5 := hp.1; have q3 := hp.2.1
   obtain ⟨g, ev, hg, hf⟩ := q5
   replace ev : vs 5 = _ := ev
   obtain ⟨x0_0, x0_1, x0_2, x0_3, x0_4, x0_5, hx, hno⟩ := hf.bx6
   have qr := q3
   obtain ⟨b3, a3, n3, c3, d3, m3, o3, bb3, aa3, nn3, cc3, dd3, mm3, oo3, er, -, -⟩ := qr
   replace er : vs 3 = _ := er
   have r0 := hx.froz0
   have t0 := hx.cell0
   have r1 := hx.froz1
   have t1 := hx.cell1
   have r2 := hx.froz2
   have t2 := hx.cell2
   have r3 := hx.froz3
   have t3 := hx.cell3
   have r4 := hx.froz4
   have t4 := hx.cell4
   have r5 := hx.froz5
   have t5 := hx.cell5
   have hw := Wr.set6 hx hno b3 a3 n3 c3 d3 m3 o3 bb3 aa3 nn3 cc3 dd3 mm3 oo3
   have hq := hx.set (.bool b3) (.slice a3 n3 c3) (.slice d3 m3 o3) (.bool bb3) (.slice aa3 nn3 cc3) (.slice dd3 mm3 oo3)
   simp only [ev, er] at hKO; go_simp
   exact hKO _ _ hw ⟨(Ext.wr hS.1 hw (by omega)), (hS.2.1.wr hw), (hS.2.2.1.wr hw (by omega)), (hS.2.2.2.1.wr hw), (Nat.le_trans hS.2.2.2.2 hw.apart.size)⟩ ⟨g, b3, a3, n3, c3, d3, m3, o3, bb3, aa3, nn3, cc3, dd3, mm3, oo3, ev, er, hg, hq⟩
  ·have e4 := isOf hp.1; simp only [e4] at hKO; go_simp; exact hKO _ W (.refl W) rfl
 intro vs W2 hS hp
 clear szw2 E0 h1_1 p1_3 h1_0
 obtain ⟨E0, h1_1, p1_3, h1_0, sz2⟩ := hS
 obtain ⟨h2_0, h2_1, h2_2, h2_3, h2_4, h2_5, h2_6, h2_7, -⟩ := hp
 obtain ⟨g2_6, b2_6, a2_6, n2_6, c2_6, d2_6, m2_6, o2_6, bb2_6, aa2_6, nn2_6, cc2_6, dd2_6, mm2_6, oo2_6, ev2_6, er2_6, hg2_6, p2_6⟩ := h2_6
 replace ev2_6 : vs 5 = _ := ev2_6; replace er2_6 : vs 3 = _ := er2_6; replace h2_3 := (show Sw W2 (vs 3) ((((1 : Int) : Rat), mkRat 3 (2 : Int).natAbs)) from h2_3)
 rw [er2_6] at h2_3
 replace h2_0 : vs 0 = .agg #[.bool b1_3, .slice a1_3 n1_3 c1_3, .slice d1_3 m1_3 o1_3, .bool bb1_3, .slice aa1_3 nn1_3 cc1_3, .slice dd1_3 mm1_3 oo1_3] := h2_0
 replace h2_4 : vs 4 = .int .i64 0 := h2_4
 replace h2_7 : vs 7 = .int .i64 0 := h2_7
 simp only [ev2_6, er2_6, h2_0, h2_4, h2_7]
 clear ev2_6 er2_6 h2_0 h2_4 h2_7 h2_1 h2_2 h2_5
 obtain ⟨kp1_3_0, kp1_3_1, kp1_3_2, kp1_3_3, kp1_3_4, kp1_3_5⟩ := p1_3.c6
 obtain ⟨kp2_6_0, kp2_6_1, kp2_6_2, kp2_6_3, kp2_6_4, kp2_6_5⟩ := p2_6.c6
 go_upto_region 3 with (fail)
 clear kp1_3_0 kp1_3_1 kp1_3_2 kp1_3_3 kp1_3_4 kp1_3_5 kp2_6_0 kp2_6_1 kp2_6_2 kp2_6_3 kp2_6_4 kp2_6_5; have ltp2_6 := p2_6.lt; have szw3 := Ext.size E0
 refine region_gs [.one fun v _ => v = .agg #[.bool b1_3, .slice a1_3 n1_3 c1_3, .slice d1_3 m1_3 o1_3, .bool bb1_3, .slice aa1_3 nn1_3 cc1_3, .slice dd1_3 mm1_3 oo1_3],
   .one fun v _ => v = .agg #[.bool b1_3, .slice a1_3 n1_3 c1_3, .slice d1_3 m1_3 o1_3, .bool bb1_3, .slice aa1_3 nn1_3 cc1_3, .slice dd1_3 mm1_3 oo1_3],
   .one fun v W => Rw W v (((-2 : Int) : Rat)),
   .one fun v W => Sw W v ((((-2 : Int) : Rat), ((-2 : Int) : Rat))),
   .one fun v W => Sw W v ((((2 : Int) : Rat) + ((-2 : Int) : Rat), ((2 : Int) : Rat) + ((-2 : Int) : Rat))),
   .one fun v _ => v = .tuple #[.agg #[.bool false, .slice none 0 0, .slice none 0 0, .bool false, .slice none 0 0, .slice none 0 0], .int .i64 4],
   .one fun v _ => v = .tuple #[.agg #[.bool false, .slice none 0 0, .slice none 0 0, .bool false, .slice none 0 0, .slice none 0 0], .int .i64 4],
   .one fun v _ => v = .agg #[.bool false, .slice none 0 0, .slice none 0 0, .bool false, .slice none 0 0, .slice none 0 0],
   .one fun v _ => v = .int .i64 4,
   .one fun v W => ∃ g, v = .pointer (some ⟨g, 0, none⟩) ∧ W2.heap.size ≤ g ∧ Form W g 29 6,
   .two 9 (fun p _ W => New6 W2.heap.size 29 (.bool false) (.slice none 0 0) (.slice none 0 0) (.bool false) (.slice none 0 0) (.slice none 0 0) p W),
   .one fun v _ => v = .int .i64 4]
  (fun W => Ext w W ∧ Sw W (.agg #[.bool b1_3, .slice a1_3 n1_3 c1_3, .slice d1_3 m1_3 o1_3, .bool bb1_3, .slice aa1_3 nn1_3 cc1_3, .slice dd1_3 mm1_3 oo1_3]) ((((2 : Int) : Rat), ((2 : Int) : Rat))) ∧ Bx6 W g1_3 29 (.bool b1_3) (.slice a1_3 n1_3 c1_3) (.slice d1_3 m1_3 o1_3) (.bool bb1_3) (.slice aa1_3 nn1_3 cc1_3) (.slice dd1_3 mm1_3 oo1_3) ∧ Rw W u1_0 (((2 : Int) : Rat)) ∧ Sw W (.agg #[.bool b2_6, .slice a2_6 n2_6 c2_6, .slice d2_6 m2_6 o2_6, .bool bb2_6, .slice aa2_6 nn2_6 cc2_6, .slice dd2_6 mm2_6 oo2_6]) ((((1 : Int) : Rat), mkRat 3 (2 : Int).natAbs)) ∧ Bx6 W g2_6 29 (.bool b2_6) (.slice a2_6 n2_6 c2_6) (.slice d2_6 m2_6 o2_6) (.bool bb2_6) (.slice aa2_6 nn2_6 cc2_6) (.slice dd2_6 mm2_6 oo2_6) ∧ W2.heap.size ≤ W.heap.size) ⟨Good.is _, Good.is _, Good.rat _, Good.span _, Good.span _, Good.is _, Good.is _, Good.is _, Good.is _, Good.box _ _ _, cert_new6, Good.is _, trivial⟩
  ⟨E0, h1_1, p1_3, h1_0, h2_3, p2_6, Nat.le_refl _⟩ (A := ?A3) ?hA3 ?howe3 ?hfin3
 case hA3 =>
  intro vs
  simp only [putAll, Act.put, sA, sZ, sS, Nat.zero_add, Nat.reduceAdd]
  exact rfl
 case howe3 =>
  clear E0 h1_1 p1_3 h1_0 h2_3 p2_6
  intro hf
  refine ⟨oE 0 [] hf rfl ?_, oE 1 [] hf rfl ?_, oE 2 [] hf rfl ?_, oE 3 [2] hf rfl ?_, oE 4 [1, 3] hf rfl ?_, oE 5 [0, 4] hf rfl ?_, oE 6 [5] hf rfl ?_, oE 7 [6] hf rfl ?_, oE 8 [6] hf rfl ?_, oE 9 [] hf rfl ?_, oW 10 [9, 7] hf rfl ?_, oE 11 [8] hf rfl ?_, trivial⟩
  all_goals intro vs W hS hp hx KO hKO
  all_goals simp only [Act.put, sA, sZ, sS] at hKO
  ·have fc0 := hS.2.2.1.cell0; have fc1 := hS.2.2.1.cell1; have fc2 := hS.2.2.1.cell2; have fc3 := hS.2.2.1.cell3; have fc4 := hS.2.2.1.cell4; have fc5 := hS.2.2.1.cell5; go_simp; exact hKO _ W (.refl W) rfl
  ·have fc0 := hS.2.2.1.cell0; have fc1 := hS.2.2.1.cell1; have fc2 := hS.2.2.1.cell2; have fc3 := hS.2.2.1.cell3; have fc4 := hS.2.2.1.cell4; have fc5 := hS.2.2.1.cell5; go_simp; exact hKO _ W (.refl W) rfl
  ·go_simp
   refine (Tryz.refROf (-2) _ (by omega) (by omega)).mono ?_
   rintro e W1 ⟨v, rfl, hv, hE⟩
   exact hKO _ W1 hE hv
  ·have q2 := hp.1; go_simp
   refine (Tryz.ivOf q2).mono ?_
   rintro e W1 ⟨v, rfl, hv, hE⟩
   exact hKO _ W1 hE hv
  ·have e1 := isOf hp.1; have q3 := hp.2.1; simp only [e1] at hKO; go_simp
   refine (Tryz.ivAdd (hS.2.1) q3 ⟨S2.out, S2.out⟩ ⟨SM.out, SM.out⟩ (by omega)).mono ?_
   rintro e W1 ⟨v, rfl, hv, hE⟩
   exact hKO _ W1 hE hv
  ·have e0 := isOf hp.1; have q4 := hp.2.1; simp only [e0] at hKO; go_simp
   refine (Tryz.ivDiv0 (hS.2.1) q4 ⟨SA.out, SA.out⟩ (by omega) (by omega) HH.out).mono ?_
   rintro e W1 ⟨rfl, hE⟩
   exact hKO _ W1 hE rfl
  ·have e5 := isOf hp.1; simp only [e5] at hKO; go_simp; exact hKO _ W (.refl W) rfl
  ·have e6 := isOf hp.1; simp only [e6] at hKO; go_simp; exact hKO _ W (.refl W) rfl
  ·have e6 := isOf hp.1; simp only [e6] at hKO; go_simp; exact hKO _ W (.refl W) rfl
  ·have hn := Bx6.new W 29 (.bool false) (.slice none 0 0) (.slice none 0 0) (.bool false) (.slice none 0 0) (.slice none 0 0)
   have hE := Ext.alloc1 W (.cells #[.bool false, .slice none 0 0, .slice none 0 0, .bool false, .slice none 0 0, .slice none 0 0] 29)
   have hsz := hS.2.2.2.2.2.2
   go_simp
   exact hKO _ _ hE ⟨_, rfl, hsz, hn.form⟩
  ·have q9 := hp.1; have e7 := isOf hp.2.1; simp only [e7] at hKO
   obtain ⟨g, ev, hg, hf⟩ := q9
   replace ev : vs 9 = _ := ev
   obtain ⟨x0_0, x0_1, x0_2, x0_3, x0_4, x0_5, hx, hno⟩ := hf.bx6
   have r0 := hx.froz0
   have t0 := hx.cell0
   have r1 := hx.froz1
   have t1 := hx.cell1
   have r2 := hx.froz2
   have t2 := hx.cell2
   have r3 := hx.froz3
   have t3 := hx.cell3
   have r4 := hx.froz4
   have t4 := hx.cell4
   have r5 := hx.froz5
   have t5 := hx.cell5
   have hw := Wr.set6 hx hno false none 0 0 none 0 0 false none 0 0 none 0 0
   have hq := hx.set (.bool false) (.slice none 0 0) (.slice none 0 0) (.bool false) (.slice none 0 0) (.slice none 0 0)
   simp only [ev] at hKO; go_simp
   exact hKO _ _ hw ⟨(Ext.wr hS.1 hw (by omega)), (hS.2.1.wr hw), (hS.2.2.1.wr hw (by omega)), (hS.2.2.2.1.wr hw), (hS.2.2.2.2.1.wr hw), (hS.2.2.2.2.2.1.wr hw (by omega)), (Nat.le_trans hS.2.2.2.2.2.2 hw.apart.size)⟩ ⟨g, ev, hg, hq⟩
  ·have e8 := isOf hp.1; simp only [e8] at hKO; go_simp; exact hKO _ W (.refl W) rfl
 intro vs W3 hS hp
 clear szw3 E0 h1_1 p1_3 h1_0 h2_3 p2_6
 obtain ⟨E0, h1_1, p1_3, h1_0, h2_3, p2_6, sz3⟩ := hS
 obtain ⟨h3_0, h3_1, h3_2, h3_3, h3_4, h3_5, h3_6, h3_7, h3_8, h3_9, h3_10, h3_11, -⟩ := hp
 obtain ⟨g3_10, ev3_10, hg3_10, p3_10⟩ := h3_10
 replace ev3_10 : vs 9 = _ := ev3_10
 replace h3_0 : vs 0 = .agg #[.bool b1_3, .slice a1_3 n1_3 c1_3, .slice d1_3 m1_3 o1_3, .bool bb1_3, .slice aa1_3 nn1_3 cc1_3, .slice dd1_3 mm1_3 oo1_3] := h3_0
 replace h3_1 : vs 1 = .agg #[.bool b1_3, .slice a1_3 n1_3 c1_3, .slice d1_3 m1_3 o1_3, .bool bb1_3, .slice aa1_3 nn1_3 cc1_3, .slice dd1_3 mm1_3 oo1_3] := h3_1
 replace h3_5 : vs 5 = .tuple #[.agg #[.bool false, .slice none 0 0, .slice none 0 0, .bool false, .slice none 0 0, .slice none 0 0], .int .i64 4] := h3_5
 replace h3_6 : vs 6 = .tuple #[.agg #[.bool false, .slice none 0 0, .slice none 0 0, .bool false, .slice none 0 0, .slice none 0 0], .int .i64 4] := h3_6
 replace h3_7 : vs 7 = .agg #[.bool false, .slice none 0 0, .slice none 0 0, .bool false, .slice none 0 0, .slice none 0 0] := h3_7
 replace h3_8 : vs 8 = .int .i64 4 := h3_8
 replace h3_11 : vs 11 = .int .i64 4 := h3_11
 simp only [ev3_10, h3_0, h3_1, h3_5, h3_6, h3_7, h3_8, h3_11]
 replace h3_2 : Rw W3 (vs 2) (((-2 : Int) : Rat)) := h3_2
 generalize vs 2 = u3_2 at h3_2 ⊢
 replace h3_3 : Sw W3 (vs 3) ((((-2 : Int) : Rat), ((-2 : Int) : Rat))) := h3_3
 generalize vs 3 = u3_3 at h3_3 ⊢
 replace h3_4 : Sw W3 (vs 4) ((((2 : Int) : Rat) + ((-2 : Int) : Rat), ((2 : Int) : Rat) + ((-2 : Int) : Rat))) := h3_4
 generalize vs 4 = u3_4 at h3_4 ⊢
 clear ev3_10 h3_0 h3_1 h3_5 h3_6 h3_7 h3_8 h3_11 h3_9
 obtain ⟨kp1_3_0, kp1_3_1, kp1_3_2, kp1_3_3, kp1_3_4, kp1_3_5⟩ := p1_3.c6
 obtain ⟨kp2_6_0, kp2_6_1, kp2_6_2, kp2_6_3, kp2_6_4, kp2_6_5⟩ := p2_6.c6
 obtain ⟨kp3_10_0, kp3_10_1, kp3_10_2, kp3_10_3, kp3_10_4, kp3_10_5⟩ := p3_10.c6
 go_upto_region 4 with (fail)
 clear kp1_3_0 kp1_3_1 kp1_3_2 kp1_3_3 kp1_3_4 kp1_3_5 kp2_6_0 kp2_6_1 kp2_6_2 kp2_6_3 kp2_6_4 kp2_6_5 kp3_10_0 kp3_10_1 kp3_10_2 kp3_10_3 kp3_10_4 kp3_10_5; have ltp3_10 := p3_10.lt; have szw4 := Ext.size E0
 refine region_gs [.one fun v W => Rw W v (((1 : Int) : Rat)),
   .one fun v W => Rw W v (mkRat 3 (2 : Int).natAbs),
   .one fun v W => Sw W v ((((1 : Int) : Rat), mkRat 3 (2 : Int).natAbs)),
   .one fun v W => ∃ g, v = .pointer (some ⟨g, 0, none⟩) ∧ W3.heap.size ≤ g ∧ Form W g 29 6,
   .three 3 2 (fun p r _ W => Put6 W3.heap.size 29 p r W)]
  (fun W => Ext w W ∧ Sw W (.agg #[.bool b1_3, .slice a1_3 n1_3 c1_3, .slice d1_3 m1_3 o1_3, .bool bb1_3, .slice aa1_3 nn1_3 cc1_3, .slice dd1_3 mm1_3 oo1_3]) ((((2 : Int) : Rat), ((2 : Int) : Rat))) ∧ Bx6 W g1_3 29 (.bool b1_3) (.slice a1_3 n1_3 c1_3) (.slice d1_3 m1_3 o1_3) (.bool bb1_3) (.slice aa1_3 nn1_3 cc1_3) (.slice dd1_3 mm1_3 oo1_3) ∧ Rw W u1_0 (((2 : Int) : Rat)) ∧ Sw W (.agg #[.bool b2_6, .slice a2_6 n2_6 c2_6, .slice d2_6 m2_6 o2_6, .bool bb2_6, .slice aa2_6 nn2_6 cc2_6, .slice dd2_6 mm2_6 oo2_6]) ((((1 : Int) : Rat), mkRat 3 (2 : Int).natAbs)) ∧ Bx6 W g2_6 29 (.bool b2_6) (.slice a2_6 n2_6 c2_6) (.slice d2_6 m2_6 o2_6) (.bool bb2_6) (.slice aa2_6 nn2_6 cc2_6) (.slice dd2_6 mm2_6 oo2_6) ∧ Bx6 W g3_10 29 (.bool false) (.slice none 0 0) (.slice none 0 0) (.bool false) (.slice none 0 0) (.slice none 0 0) ∧ Rw W u3_2 (((-2 : Int) : Rat)) ∧ Sw W u3_3 ((((-2 : Int) : Rat), ((-2 : Int) : Rat))) ∧ Sw W u3_4 ((((2 : Int) : Rat) + ((-2 : Int) : Rat), ((2 : Int) : Rat) + ((-2 : Int) : Rat))) ∧ W3.heap.size ≤ W.heap.size) ⟨Good.rat _, Good.rat _, Good.span _, Good.box _ _ _, cert_put6, trivial⟩
  ⟨E0, h1_1, p1_3, h1_0, h2_3, p2_6, p3_10, h3_2, h3_3, h3_4, Nat.le_refl _⟩ (A := ?A4) ?hA4 ?howe4 ?hfin4
 case hA4 =>
  intro vs
  simp only [putAll, Act.put, sA, sZ, sS, Nat.zero_add, Nat.reduceAdd]
  exact rfl
 case howe4 =>
  clear E0 h1_1 p1_3 h1_0 h2_3 p2_6 p3_10 h3_2 h3_3 h3_4
  intro hf
  refine ⟨oE 0 [] hf rfl ?_, oE 1 [] hf rfl ?_, oE 2 [0, 1] hf rfl ?_, oE 3 [] hf rfl ?_, oW 4 [3, 2] hf rfl ?_, trivial⟩
  all_goals intro vs W hS hp hx KO hKO
  all_goals simp only [Act.put, sA, sZ, sS] at hKO
  ·go_simp
   refine (Tryz.refROf 1 _ (by omega) (by omega)).mono ?_
   rintro e W1 ⟨v, rfl, hv, hE⟩
   exact hKO _ W1 hE hv
  ·go_simp
   refine (Tryz.refRFrac 3 2 _ (by omega) (by omega) (by omega) (by omega)).mono ?_
   rintro e W1 ⟨v, rfl, hv, hE⟩
   exact hKO _ W1 hE hv
  ·have q0 := hp.1; have q1 := hp.2.1
   have qr := q0
   obtain ⟨b0, a0, n0, c0, d0, m0, o0, ev0, -, -, -⟩ := qr
   replace q0 : Rw W (vs 0) (((1 : Int) : Rat)) := q0
   rw [ev0] at q0
   replace ev0 : vs 0 = _ := ev0
   have qr := q1
   obtain ⟨b1, a1, n1, c1, d1, m1, o1, ev1, -, -, -⟩ := qr
   replace q1 : Rw W (vs 1) (mkRat 3 (2 : Int).natAbs) := q1
   rw [ev1] at q1
   replace ev1 : vs 1 = _ := ev1; simp only [ev0, ev1] at hKO; go_simp; exact hKO _ W (Ext.refl W) (Sw.mk q0 q1)
  ·have hn := Bx6.new W 29 (.bool false) (.slice none 0 0) (.slice none 0 0) (.bool false) (.slice none 0 0) (.slice none 0 0)
   have hE := Ext.alloc1 W (.cells #[.bool false, .slice none 0 0, .slice none 0 0, .bool false, .slice none 0 0, .slice none 0 0] 29)
   have hsz := hS.2.2.2.2.2.2.2.2.2.2
   go_simp
   exact hKO _ _ hE ⟨_, rfl, hsz, hn.form⟩
  ·have q3 := hp.1; have q2 := hp.2.1
   obtain ⟨g, ev, hg, hf⟩ := q3
   replace ev : vs 3 = _ := ev
   obtain ⟨x0_0, x0_1, x0_2, x0_3, x0_4, x0_5, hx, hno⟩ := hf.bx6
   have qr := q2
   obtain ⟨b3, a3, n3, c3, d3, m3, o3, bb3, aa3, nn3, cc3, dd3, mm3, oo3, er, -, -⟩ := qr
   replace er : vs 2 = _ := er
   have r0 := hx.froz0
   have t0 := hx.cell0
   have r1 := hx.froz1
   have t1 := hx.cell1
   have r2 := hx.froz2
   have t2 := hx.cell2
   have r3 := hx.froz3
   have t3 := hx.cell3
   have r4 := hx.froz4
   have t4 := hx.cell4
   have r5 := hx.froz5
   have t5 := hx.cell5
   have hw := Wr.set6 hx hno b3 a3 n3 c3 d3 m3 o3 bb3 aa3 nn3 cc3 dd3 mm3 oo3
   have hq := hx.set (.bool b3) (.slice a3 n3 c3) (.slice d3 m3 o3) (.bool bb3) (.slice aa3 nn3 cc3) (.slice dd3 mm3 oo3)
   simp only [ev, er] at hKO; go_simp
   exact hKO _ _ hw ⟨(Ext.wr hS.1 hw (by omega)), (hS.2.1.wr hw), (hS.2.2.1.wr hw (by omega)), (hS.2.2.2.1.wr hw), (hS.2.2.2.2.1.wr hw), (hS.2.2.2.2.2.1.wr hw (by omega)), (hS.2.2.2.2.2.2.1.wr hw (by omega)), (hS.2.2.2.2.2.2.2.1.wr hw), (hS.2.2.2.2.2.2.2.2.1.wr hw), (hS.2.2.2.2.2.2.2.2.2.1.wr hw), (Nat.le_trans hS.2.2.2.2.2.2.2.2.2.2 hw.apart.size)⟩ ⟨g, b3, a3, n3, c3, d3, m3, o3, bb3, aa3, nn3, cc3, dd3, mm3, oo3, ev, er, hg, hq⟩
 intro vs W4 hS hp
 clear szw4 E0 h1_1 p1_3 h1_0 h2_3 p2_6 p3_10 h3_2 h3_3 h3_4
 obtain ⟨E0, h1_1, p1_3, h1_0, h2_3, p2_6, p3_10, h3_2, h3_3, h3_4, sz4⟩ := hS
 obtain ⟨h4_0, h4_1, h4_2, h4_3, h4_4, -⟩ := hp
 obtain ⟨g4_4, b4_4, a4_4, n4_4, c4_4, d4_4, m4_4, o4_4, bb4_4, aa4_4, nn4_4, cc4_4, dd4_4, mm4_4, oo4_4, ev4_4, er4_4, hg4_4, p4_4⟩ := h4_4
 replace ev4_4 : vs 3 = _ := ev4_4; replace er4_4 : vs 2 = _ := er4_4; replace h4_2 := (show Sw W4 (vs 2) ((((1 : Int) : Rat), mkRat 3 (2 : Int).natAbs)) from h4_2)
 rw [er4_4] at h4_2
 simp only [ev4_4, er4_4]
 replace h4_0 : Rw W4 (vs 0) (((1 : Int) : Rat)) := h4_0
 generalize vs 0 = u4_0 at h4_0 ⊢
 replace h4_1 : Rw W4 (vs 1) (mkRat 3 (2 : Int).natAbs) := h4_1
 generalize vs 1 = u4_1 at h4_1 ⊢
 clear ev4_4 er4_4 h4_3
 obtain ⟨kp1_3_0, kp1_3_1, kp1_3_2, kp1_3_3, kp1_3_4, kp1_3_5⟩ := p1_3.c6
 obtain ⟨kp2_6_0, kp2_6_1, kp2_6_2, kp2_6_3, kp2_6_4, kp2_6_5⟩ := p2_6.c6
 obtain ⟨kp3_10_0, kp3_10_1, kp3_10_2, kp3_10_3, kp3_10_4, kp3_10_5⟩ := p3_10.c6
 obtain ⟨kp4_4_0, kp4_4_1, kp4_4_2, kp4_4_3, kp4_4_4, kp4_4_5⟩ := p4_4.c6
 go_upto_region 5 with (fail)
 clear kp1_3_0 kp1_3_1 kp1_3_2 kp1_3_3 kp1_3_4 kp1_3_5 kp2_6_0 kp2_6_1 kp2_6_2 kp2_6_3 kp2_6_4 kp2_6_5 kp3_10_0 kp3_10_1 kp3_10_2 kp3_10_3 kp3_10_4 kp3_10_5 kp4_4_0 kp4_4_1 kp4_4_2 kp4_4_3 kp4_4_4 kp4_4_5; have ltp4_4 := p4_4.lt; have szw5 := Ext.size E0
 refine region_gs [.one fun v _ => v = .int .i64 0,
   .one fun v _ => v = .bool true,
   .one fun v _ => v = .bool true,
   .one fun v _ => v = .int .i64 4,
   .one fun v _ => v = .bool true,
   .one fun v _ => v = .bool true,
   .one fun v _ => v = .bool true,
   .one fun v _ => v = .agg #[.bool b2_6, .slice a2_6 n2_6 c2_6, .slice d2_6 m2_6 o2_6, .bool bb2_6, .slice aa2_6 nn2_6 cc2_6, .slice dd2_6 mm2_6 oo2_6],
   .one fun v _ => v = .agg #[.bool b4_4, .slice a4_4 n4_4 c4_4, .slice d4_4 m4_4 o4_4, .bool bb4_4, .slice aa4_4 nn4_4 cc4_4, .slice dd4_4 mm4_4 oo4_4],
   .one fun v _ => v = .bool true,
   .one fun v _ => v = .bool true,
   .one fun v _ => v = .bool true,
   .one fun v _ => v = .agg #[.bool b2_6, .slice a2_6 n2_6 c2_6, .slice d2_6 m2_6 o2_6, .bool bb2_6, .slice aa2_6 nn2_6 cc2_6, .slice dd2_6 mm2_6 oo2_6],
   .one fun v _ => v = .bool true,
   .one fun v _ => v = .bool true,
   .one fun v _ => v = .bool true,
   .one fun v _ => v = .agg #[.bool b2_6, .slice a2_6 n2_6 c2_6, .slice d2_6 m2_6 o2_6, .bool bb2_6, .slice aa2_6 nn2_6 cc2_6, .slice dd2_6 mm2_6 oo2_6],
   .one fun v W => Rw W v (((1 : Int) : Rat)),
   .one fun v _ => v = .bool true,
   .one fun v _ => v = .bool true,
   .one fun v _ => v = .bool true,
   .one fun v _ => v = .agg #[.bool b2_6, .slice a2_6 n2_6 c2_6, .slice d2_6 m2_6 o2_6, .bool bb2_6, .slice aa2_6 nn2_6 cc2_6, .slice dd2_6 mm2_6 oo2_6],
   .one fun v _ => v = .agg #[.bool b2_6, .slice a2_6 n2_6 c2_6, .slice d2_6 m2_6 o2_6, .bool bb2_6, .slice aa2_6 nn2_6 cc2_6, .slice dd2_6 mm2_6 oo2_6],
   .one fun v _ => v = .bool true,
   .one fun v _ => v = .bool true,
   .one fun v _ => v = .bool true,
   .one fun v _ => v = .agg #[.bool b2_6, .slice a2_6 n2_6 c2_6, .slice d2_6 m2_6 o2_6, .bool bb2_6, .slice aa2_6 nn2_6 cc2_6, .slice dd2_6 mm2_6 oo2_6],
   .one fun v _ => v = .agg #[.bool b1_3, .slice a1_3 n1_3 c1_3, .slice d1_3 m1_3 o1_3, .bool bb1_3, .slice aa1_3 nn1_3 cc1_3, .slice dd1_3 mm1_3 oo1_3],
   .one fun v _ => v = .bool false,
   .one fun v _ => v = .bool true,
   .one fun v _ => v = .bool true,
   .one fun v _ => v = .bool true]
  (fun W => Ext w W ∧ Sw W (.agg #[.bool b1_3, .slice a1_3 n1_3 c1_3, .slice d1_3 m1_3 o1_3, .bool bb1_3, .slice aa1_3 nn1_3 cc1_3, .slice dd1_3 mm1_3 oo1_3]) ((((2 : Int) : Rat), ((2 : Int) : Rat))) ∧ Bx6 W g1_3 29 (.bool b1_3) (.slice a1_3 n1_3 c1_3) (.slice d1_3 m1_3 o1_3) (.bool bb1_3) (.slice aa1_3 nn1_3 cc1_3) (.slice dd1_3 mm1_3 oo1_3) ∧ Rw W u1_0 (((2 : Int) : Rat)) ∧ Sw W (.agg #[.bool b2_6, .slice a2_6 n2_6 c2_6, .slice d2_6 m2_6 o2_6, .bool bb2_6, .slice aa2_6 nn2_6 cc2_6, .slice dd2_6 mm2_6 oo2_6]) ((((1 : Int) : Rat), mkRat 3 (2 : Int).natAbs)) ∧ Bx6 W g2_6 29 (.bool b2_6) (.slice a2_6 n2_6 c2_6) (.slice d2_6 m2_6 o2_6) (.bool bb2_6) (.slice aa2_6 nn2_6 cc2_6) (.slice dd2_6 mm2_6 oo2_6) ∧ Bx6 W g3_10 29 (.bool false) (.slice none 0 0) (.slice none 0 0) (.bool false) (.slice none 0 0) (.slice none 0 0) ∧ Rw W u3_2 (((-2 : Int) : Rat)) ∧ Sw W u3_3 ((((-2 : Int) : Rat), ((-2 : Int) : Rat))) ∧ Sw W u3_4 ((((2 : Int) : Rat) + ((-2 : Int) : Rat), ((2 : Int) : Rat) + ((-2 : Int) : Rat))) ∧ Sw W (.agg #[.bool b4_4, .slice a4_4 n4_4 c4_4, .slice d4_4 m4_4 o4_4, .bool bb4_4, .slice aa4_4 nn4_4 cc4_4, .slice dd4_4 mm4_4 oo4_4]) ((((1 : Int) : Rat), mkRat 3 (2 : Int).natAbs)) ∧ Bx6 W g4_4 29 (.bool b4_4) (.slice a4_4 n4_4 c4_4) (.slice d4_4 m4_4 o4_4) (.bool bb4_4) (.slice aa4_4 nn4_4 cc4_4) (.slice dd4_4 mm4_4 oo4_4) ∧ Rw W u4_0 (((1 : Int) : Rat)) ∧ Rw W u4_1 (mkRat 3 (2 : Int).natAbs) ∧ W4.heap.size ≤ W.heap.size) ⟨Good.is _, Good.is _, Good.is _, Good.is _, Good.is _, Good.is _, Good.is _, Good.is _, Good.is _, Good.is _, Good.is _, Good.is _, Good.is _, Good.is _, Good.is _, Good.is _, Good.is _, Good.rat _, Good.is _, Good.is _, Good.is _, Good.is _, Good.is _, Good.is _, Good.is _, Good.is _, Good.is _, Good.is _, Good.is _, Good.is _, Good.is _, Good.is _, trivial⟩
  ⟨E0, h1_1, p1_3, h1_0, h2_3, p2_6, p3_10, h3_2, h3_3, h3_4, h4_2, p4_4, h4_0, h4_1, Nat.le_refl _⟩ (A := ?A5) ?hA5 ?howe5 ?hfin5
 case hA5 =>
  intro vs
  simp only [putAll, Act.put, sA, sZ, sS, Nat.zero_add, Nat.reduceAdd]
  exact rfl
 case howe5 =>
  clear E0 h1_1 p1_3 h1_0 h2_3 p2_6 p3_10 h3_2 h3_3 h3_4 h4_2 p4_4 h4_0 h4_1
  intro hf
  refine ⟨oE 0 [] hf rfl ?_, oE 1 [0] hf rfl ?_, oE 2 [1] hf rfl ?_, oE 3 [2] hf rfl ?_, oE 4 [2, 3] hf rfl ?_, oE 5 [2, 4] hf rfl ?_, oE 6 [5] hf rfl ?_, oE 7 [6] hf rfl ?_, oE 8 [6] hf rfl ?_, oE 9 [6, 7, 8] hf rfl ?_, oE 10 [6, 9] hf rfl ?_, oE 11 [10] hf rfl ?_, oE 12 [11] hf rfl ?_, oE 13 [11, 12] hf rfl ?_, oE 14 [11, 13] hf rfl ?_, oE 15 [14] hf rfl ?_, oE 16 [15] hf rfl ?_, oE 17 [15] hf rfl ?_, oE 18 [15, 16, 17] hf rfl ?_, oE 19 [15, 18] hf rfl ?_, oE 20 [19] hf rfl ?_, oE 21 [20] hf rfl ?_, oE 22 [20] hf rfl ?_, oE 23 [20, 21, 22] hf rfl ?_, oE 24 [20, 23] hf rfl ?_, oE 25 [24] hf rfl ?_, oE 26 [25] hf rfl ?_, oE 27 [25] hf rfl ?_, oE 28 [25, 26, 27] hf rfl ?_, oE 29 [25, 28] hf rfl ?_, oE 30 [25, 29] hf rfl ?_, oE 31 [30] hf rfl ?_, trivial⟩
  all_goals intro vs W hS hp hx KO hKO
  all_goals simp only [Act.put, sA, sZ, sS] at hKO
  ·go_simp; exact hKO _ W (.refl W) rfl
  ·have e0 := isOf hp.1; simp only [e0] at hKO; go_simp; exact hKO _ W (.refl W) rfl
  ·have e1 := isOf hp.1; simp only [e1] at hKO; go_simp; exact hKO _ W (.refl W) rfl
  ·have e2 := isOf hp.1; simp only [e2] at hKO; go_simp; exact hKO _ W (.refl W) rfl
  ·have e2 := isOf hp.1; have e3 := isOf hp.2.1; simp only [e2, e3] at hKO; go_simp; exact hKO _ W (.refl W) rfl
  ·have e2 := isOf hp.1; have e4 := isOf hp.2.1; simp only [e2, e4] at hKO; go_simp; exact hKO _ W (.refl W) rfl
  ·have e5 := isOf hp.1; simp only [e5] at hKO; go_simp; exact hKO _ W (.refl W) rfl
  ·have e6 := isOf hp.1; simp only [e6] at hKO; have fc0 := hS.2.2.2.2.2.1.cell0; have fc1 := hS.2.2.2.2.2.1.cell1; have fc2 := hS.2.2.2.2.2.1.cell2; have fc3 := hS.2.2.2.2.2.1.cell3; have fc4 := hS.2.2.2.2.2.1.cell4; have fc5 := hS.2.2.2.2.2.1.cell5; go_simp; exact hKO _ W (.refl W) rfl
  ·have e6 := isOf hp.1; simp only [e6] at hKO; have fc0 := hS.2.2.2.2.2.2.2.2.2.2.2.1.cell0; have fc1 := hS.2.2.2.2.2.2.2.2.2.2.2.1.cell1; have fc2 := hS.2.2.2.2.2.2.2.2.2.2.2.1.cell2; have fc3 := hS.2.2.2.2.2.2.2.2.2.2.2.1.cell3; have fc4 := hS.2.2.2.2.2.2.2.2.2.2.2.1.cell4; have fc5 := hS.2.2.2.2.2.2.2.2.2.2.2.1.cell5; go_simp; exact hKO _ W (.refl W) rfl
  ·have e6 := isOf hp.1; have e7 := isOf hp.2.1; have e8 := isOf hp.2.2.1; simp only [e6, e7, e8] at hKO; go_simp
   refine (Tryz.rsSameT (hS.2.2.2.2.1) (hS.2.2.2.2.2.2.2.2.2.2.1) rfl).mono ?_
   rintro e W1 ⟨rfl, hE⟩
   exact hKO _ W1 hE rfl
  ·have e6 := isOf hp.1; have e9 := isOf hp.2.1; simp only [e6, e9] at hKO; go_simp; exact hKO _ W (.refl W) rfl
  ·have e10 := isOf hp.1; simp only [e10] at hKO; go_simp; exact hKO _ W (.refl W) rfl
  ·have e11 := isOf hp.1; simp only [e11] at hKO; have fc0 := hS.2.2.2.2.2.1.cell0; have fc1 := hS.2.2.2.2.2.1.cell1; have fc2 := hS.2.2.2.2.2.1.cell2; have fc3 := hS.2.2.2.2.2.1.cell3; have fc4 := hS.2.2.2.2.2.1.cell4; have fc5 := hS.2.2.2.2.2.1.cell5; go_simp; exact hKO _ W (.refl W) rfl
  ·have e11 := isOf hp.1; have e12 := isOf hp.2.1; simp only [e11, e12] at hKO; go_simp
   refine (Tryz.ivRight (hS.2.2.2.2.1) ⟨S1.out, S3.out⟩ (by omega)).mono ?_
   rintro e W1 ⟨rfl, hE⟩
   rw [HR.out]
   exact hKO _ W1 hE rfl
  ·have e11 := isOf hp.1; have e13 := isOf hp.2.1; simp only [e11, e13] at hKO; go_simp; exact hKO _ W (.refl W) rfl
  ·have e14 := isOf hp.1; simp only [e14] at hKO; go_simp; exact hKO _ W (.refl W) rfl
  ·have e15 := isOf hp.1; simp only [e15] at hKO; have fc0 := hS.2.2.2.2.2.1.cell0; have fc1 := hS.2.2.2.2.2.1.cell1; have fc2 := hS.2.2.2.2.2.1.cell2; have fc3 := hS.2.2.2.2.2.1.cell3; have fc4 := hS.2.2.2.2.2.1.cell4; have fc5 := hS.2.2.2.2.2.1.cell5; go_simp; exact hKO _ W (.refl W) rfl
  ·have e15 := isOf hp.1; simp only [e15] at hKO; go_simp
   refine (Tryz.refROf 1 _ (by omega) (by omega)).mono ?_
   rintro e W1 ⟨v, rfl, hv, hE⟩
   exact hKO _ W1 hE hv
  ·have e15 := isOf hp.1; have e16 := isOf hp.2.1; have q17 := hp.2.2.1; simp only [e15, e16] at hKO; go_simp
   refine (Tryz.ivHas (hS.2.2.2.2.1) q17 ⟨S1.out, S3.out⟩ S1.out (by omega)).mono ?_
   rintro e W1 ⟨rfl, hE⟩
   rw [HS.out]
   exact hKO _ W1 hE rfl
  ·have e15 := isOf hp.1; have e18 := isOf hp.2.1; simp only [e15, e18] at hKO; go_simp; exact hKO _ W (.refl W) rfl
  ·have e19 := isOf hp.1; simp only [e19] at hKO; go_simp; exact hKO _ W (.refl W) rfl
  ·have e20 := isOf hp.1; simp only [e20] at hKO; have fc0 := hS.2.2.2.2.2.1.cell0; have fc1 := hS.2.2.2.2.2.1.cell1; have fc2 := hS.2.2.2.2.2.1.cell2; have fc3 := hS.2.2.2.2.2.1.cell3; have fc4 := hS.2.2.2.2.2.1.cell4; have fc5 := hS.2.2.2.2.2.1.cell5; go_simp; exact hKO _ W (.refl W) rfl
  ·have e20 := isOf hp.1; simp only [e20] at hKO; have fc0 := hS.2.2.2.2.2.1.cell0; have fc1 := hS.2.2.2.2.2.1.cell1; have fc2 := hS.2.2.2.2.2.1.cell2; have fc3 := hS.2.2.2.2.2.1.cell3; have fc4 := hS.2.2.2.2.2.1.cell4; have fc5 := hS.2.2.2.2.2.1.cell5; go_simp; exact hKO _ W (.refl W) rfl
  ·have e20 := isOf hp.1; have e21 := isOf hp.2.1; have e22 := isOf hp.2.2.1; simp only [e20, e21, e22] at hKO; go_simp
   refine (Tryz.ivIn (hS.2.2.2.2.1) (hS.2.2.2.2.1) ⟨S1.out, S3.out⟩ ⟨S1.out, S3.out⟩ (by omega)).mono ?_
   rintro e W1 ⟨rfl, hE⟩
   rw [HI.out]
   exact hKO _ W1 hE rfl
  ·have e20 := isOf hp.1; have e23 := isOf hp.2.1; simp only [e20, e23] at hKO; go_simp; exact hKO _ W (.refl W) rfl
  ·have e24 := isOf hp.1; simp only [e24] at hKO; go_simp; exact hKO _ W (.refl W) rfl
  ·have e25 := isOf hp.1; simp only [e25] at hKO; have fc0 := hS.2.2.2.2.2.1.cell0; have fc1 := hS.2.2.2.2.2.1.cell1; have fc2 := hS.2.2.2.2.2.1.cell2; have fc3 := hS.2.2.2.2.2.1.cell3; have fc4 := hS.2.2.2.2.2.1.cell4; have fc5 := hS.2.2.2.2.2.1.cell5; go_simp; exact hKO _ W (.refl W) rfl
  ·have e25 := isOf hp.1; simp only [e25] at hKO; have fc0 := hS.2.2.1.cell0; have fc1 := hS.2.2.1.cell1; have fc2 := hS.2.2.1.cell2; have fc3 := hS.2.2.1.cell3; have fc4 := hS.2.2.1.cell4; have fc5 := hS.2.2.1.cell5; go_simp; exact hKO _ W (.refl W) rfl
  ·have e25 := isOf hp.1; have e26 := isOf hp.2.1; have e27 := isOf hp.2.2.1; simp only [e25, e26, e27] at hKO; go_simp
   refine (Tryz.ivIn (hS.2.2.2.2.1) (hS.2.1) ⟨S1.out, S3.out⟩ ⟨S2.out, S2.out⟩ (by omega)).mono ?_
   rintro e W1 ⟨rfl, hE⟩
   rw [HJ.out]
   exact hKO _ W1 hE rfl
  ·have e25 := isOf hp.1; have e28 := isOf hp.2.1; simp only [e25, e28] at hKO; go_simp; exact hKO _ W (.refl W) rfl
  ·have e25 := isOf hp.1; have e29 := isOf hp.2.1; simp only [e25, e29] at hKO; go_simp; exact hKO _ W (.refl W) rfl
  ·have e30 := isOf hp.1; simp only [e30] at hKO; go_simp; exact hKO _ W (.refl W) rfl
 intro vs W5 hS hp
 clear szw5 E0 h1_1 p1_3 h1_0 h2_3 p2_6 p3_10 h3_2 h3_3 h3_4 h4_2 p4_4 h4_0 h4_1
 obtain ⟨E0, h1_1, p1_3, h1_0, h2_3, p2_6, p3_10, h3_2, h3_3, h3_4, h4_2, p4_4, h4_0, h4_1, sz5⟩ := hS
 obtain ⟨h5_0, h5_1, h5_2, h5_3, h5_4, h5_5, h5_6, h5_7, h5_8, h5_9, h5_10, h5_11, h5_12, h5_13, h5_14, h5_15, h5_16, h5_17, h5_18, h5_19, h5_20, h5_21, h5_22, h5_23, h5_24, h5_25, h5_26, h5_27, h5_28, h5_29, h5_30, h5_31, -⟩ := hp
 replace h5_0 : vs 0 = .int .i64 0 := h5_0
 replace h5_1 : vs 1 = .bool true := h5_1
 replace h5_2 : vs 2 = .bool true := h5_2
 replace h5_3 : vs 3 = .int .i64 4 := h5_3
 replace h5_4 : vs 4 = .bool true := h5_4
 replace h5_5 : vs 5 = .bool true := h5_5
 replace h5_6 : vs 6 = .bool true := h5_6
 replace h5_7 : vs 7 = .agg #[.bool b2_6, .slice a2_6 n2_6 c2_6, .slice d2_6 m2_6 o2_6, .bool bb2_6, .slice aa2_6 nn2_6 cc2_6, .slice dd2_6 mm2_6 oo2_6] := h5_7
 replace h5_8 : vs 8 = .agg #[.bool b4_4, .slice a4_4 n4_4 c4_4, .slice d4_4 m4_4 o4_4, .bool bb4_4, .slice aa4_4 nn4_4 cc4_4, .slice dd4_4 mm4_4 oo4_4] := h5_8
 replace h5_9 : vs 9 = .bool true := h5_9
 replace h5_10 : vs 10 = .bool true := h5_10
 replace h5_11 : vs 11 = .bool true := h5_11
 replace h5_12 : vs 12 = .agg #[.bool b2_6, .slice a2_6 n2_6 c2_6, .slice d2_6 m2_6 o2_6, .bool bb2_6, .slice aa2_6 nn2_6 cc2_6, .slice dd2_6 mm2_6 oo2_6] := h5_12
 replace h5_13 : vs 13 = .bool true := h5_13
 replace h5_14 : vs 14 = .bool true := h5_14
 replace h5_15 : vs 15 = .bool true := h5_15
 replace h5_16 : vs 16 = .agg #[.bool b2_6, .slice a2_6 n2_6 c2_6, .slice d2_6 m2_6 o2_6, .bool bb2_6, .slice aa2_6 nn2_6 cc2_6, .slice dd2_6 mm2_6 oo2_6] := h5_16
 replace h5_18 : vs 18 = .bool true := h5_18
 replace h5_19 : vs 19 = .bool true := h5_19
 replace h5_20 : vs 20 = .bool true := h5_20
 replace h5_21 : vs 21 = .agg #[.bool b2_6, .slice a2_6 n2_6 c2_6, .slice d2_6 m2_6 o2_6, .bool bb2_6, .slice aa2_6 nn2_6 cc2_6, .slice dd2_6 mm2_6 oo2_6] := h5_21
 replace h5_22 : vs 22 = .agg #[.bool b2_6, .slice a2_6 n2_6 c2_6, .slice d2_6 m2_6 o2_6, .bool bb2_6, .slice aa2_6 nn2_6 cc2_6, .slice dd2_6 mm2_6 oo2_6] := h5_22
 replace h5_23 : vs 23 = .bool true := h5_23
 replace h5_24 : vs 24 = .bool true := h5_24
 replace h5_25 : vs 25 = .bool true := h5_25
 replace h5_26 : vs 26 = .agg #[.bool b2_6, .slice a2_6 n2_6 c2_6, .slice d2_6 m2_6 o2_6, .bool bb2_6, .slice aa2_6 nn2_6 cc2_6, .slice dd2_6 mm2_6 oo2_6] := h5_26
 replace h5_27 : vs 27 = .agg #[.bool b1_3, .slice a1_3 n1_3 c1_3, .slice d1_3 m1_3 o1_3, .bool bb1_3, .slice aa1_3 nn1_3 cc1_3, .slice dd1_3 mm1_3 oo1_3] := h5_27
 replace h5_28 : vs 28 = .bool false := h5_28
 replace h5_29 : vs 29 = .bool true := h5_29
 replace h5_30 : vs 30 = .bool true := h5_30
 replace h5_31 : vs 31 = .bool true := h5_31
 simp only [h5_0, h5_1, h5_2, h5_3, h5_4, h5_5, h5_6, h5_7, h5_8, h5_9, h5_10, h5_11, h5_12, h5_13, h5_14, h5_15, h5_16, h5_18, h5_19, h5_20, h5_21, h5_22, h5_23, h5_24, h5_25, h5_26, h5_27, h5_28, h5_29, h5_30, h5_31]
 replace h5_17 : Rw W5 (vs 17) (((1 : Int) : Rat)) := h5_17
 generalize vs 17 = u5_17 at h5_17 ⊢
 clear h5_0 h5_1 h5_2 h5_3 h5_4 h5_5 h5_6 h5_7 h5_8 h5_9 h5_10 h5_11 h5_12 h5_13 h5_14 h5_15 h5_16 h5_18 h5_19 h5_20 h5_21 h5_22 h5_23 h5_24 h5_25 h5_26 h5_27 h5_28 h5_29 h5_30 h5_31; clear h1_1 p1_3 h1_0 h2_3 p2_6 p3_10 h3_2 h3_3 h3_4 h4_2 p4_4 h4_0 h4_1 h5_17; go_wp2; go_ret
 exact ⟨rfl, E0⟩

end Go.Rt
