/-
 Chapter 7: all sums, products and quotients of two intervals are as the document says.
-/
import Derived.Test.YthmncdhibcoiaaaGreatSqz
import Derived.Test.YthmncdhibcoiaaaGreatIvK
import Derived.Test.YthmncdhibcoiaaaGreatLaw07b
namespace Go.Rt
open Go Go.RowKit Go.Proofs

set_option maxRecDepth 100000 in
set_option maxHeartbeats 8000000 in
theorem Tryz.lawIvalReckons {b1 : Bool} {a1 : Option Addr} {n1 c1 : Nat} {d1 : Option Addr} {m1 o1 : Nat} {bb1 : Bool} {aa1 : Option Addr} {nn1 cc1 : Nat} {dd1 : Option Addr} {mm1 oo1 : Nat} {xs1 ys1 us1 zs1 : List Nat} {b2 : Bool} {a2 : Option Addr} {n2 c2 : Nat} {d2 : Option Addr} {m2 o2 : Nat} {bb2 : Bool} {aa2 : Option Addr} {nn2 cc2 : Nat} {dd2 : Option Addr} {mm2 oo2 : Nat} {xs2 ys2 us2 zs2 : List Nat} {w : World} (x11 : Nt w (.slice a1 n1 c1) xs1) (x12 : Nt w (.slice d1 m1 o1) ys1) (x13 : Nt w (.slice aa1 nn1 cc1) us1) (x14 : Nt w (.slice dd1 mm1 oo1) zs1) (x21 : Nt w (.slice a2 n2 c2) xs2) (x22 : Nt w (.slice d2 m2 o2) ys2) (x23 : Nt w (.slice aa2 nn2 cc2) us2) (x24 : Nt w (.slice dd2 mm2 oo2) zs2) :
  Calls Tryz.prog 5 #[.agg #[.bool b1, .slice a1 n1 c1, .slice d1 m1 o1, .bool bb1, .slice aa1 nn1 cc1, .slice dd1 mm1 oo1], .agg #[.bool b2, .slice a2 n2 c2, .slice d2 m2 o2, .bool bb2, .slice aa2 nn2 cc2, .slice dd2 mm2 oo2]] w fun e w' => e = .returned (.bool true) ∧ Ext w w' := by
 obtain ⟨W0, hW0⟩ : ∃ W0, W0 = ((w.alloc (.cells #[.bool b1, .slice a1 n1 c1, .slice d1 m1 o1, .bool bb1, .slice aa1 nn1 cc1, .slice dd1 mm1 oo1] 29)).alloc (.cells #[.bool b2, .slice a2 n2 c2, .slice d2 m2 o2, .bool bb2, .slice aa2 nn2 cc2, .slice dd2 mm2 oo2] 29)) := ⟨_, rfl⟩
 have E0 : Ext w W0 := by rw [hW0]; exact ((Ext.alloc1 w (.cells #[.bool b1, .slice a1 n1 c1, .slice d1 m1 o1, .bool bb1, .slice aa1 nn1 cc1, .slice dd1 mm1 oo1] 29)).alloc (.cells #[.bool b2, .slice a2 n2 c2, .slice d2 m2 o2, .bool bb2, .slice aa2 nn2 cc2, .slice dd2 mm2 oo2] 29))
 replace x11 : Nt W0 (.slice a1 n1 c1) xs1 := x11.ext E0
 replace x12 : Nt W0 (.slice d1 m1 o1) ys1 := x12.ext E0
 replace x13 : Nt W0 (.slice aa1 nn1 cc1) us1 := x13.ext E0
 replace x14 : Nt W0 (.slice dd1 mm1 oo1) zs1 := x14.ext E0
 replace x21 : Nt W0 (.slice a2 n2 c2) xs2 := x21.ext E0
 replace x22 : Nt W0 (.slice d2 m2 o2) ys2 := x22.ext E0
 replace x23 : Nt W0 (.slice aa2 nn2 cc2) us2 := x23.ext E0
 replace x24 : Nt W0 (.slice dd2 mm2 oo2) zs2 := x24.ext E0
 have p2 : Bx6 W0 w.heap.size 29 (.bool b1) (.slice a1 n1 c1) (.slice d1 m1 o1) (.bool bb1) (.slice aa1 nn1 cc1) (.slice dd1 mm1 oo1) := by rw [hW0]; exact (Bx6.new w 29 (.bool b1) (.slice a1 n1 c1) (.slice d1 m1 o1) (.bool bb1) (.slice aa1 nn1 cc1) (.slice dd1 mm1 oo1)).ext (Ext.alloc1 (w.alloc (.cells #[.bool b1, .slice a1 n1 c1, .slice d1 m1 o1, .bool bb1, .slice aa1 nn1 cc1, .slice dd1 mm1 oo1] 29)) (.cells #[.bool b2, .slice a2 n2 c2, .slice d2 m2 o2, .bool bb2, .slice aa2 nn2 cc2, .slice dd2 mm2 oo2] 29))
 have p3 : Bx6 W0 (w.heap.size + 1) 29 (.bool b2) (.slice a2 n2 c2) (.slice d2 m2 o2) (.bool bb2) (.slice aa2 nn2 cc2) (.slice dd2 mm2 oo2) := by rw [hW0]; simpa using (Bx6.new (w.alloc (.cells #[.bool b1, .slice a1 n1 c1, .slice d1 m1 o1, .bool bb1, .slice aa1 nn1 cc1, .slice dd1 mm1 oo1] 29)) 29 (.bool b2) (.slice a2 n2 c2) (.slice d2 m2 o2) (.bool bb2) (.slice aa2 nn2 cc2) (.slice dd2 mm2 oo2))
 go_enter Tryz.func5, Tryz.ntmps5
 obtain ⟨kp2_0, kp2_1, kp2_2, kp2_3, kp2_4, kp2_5⟩ := p2.c6
 obtain ⟨kp3_0, kp3_1, kp3_2, kp3_3, kp3_4, kp3_5⟩ := p3.c6
 go_wp2_with fail
 rw [← hW0]
 clear hW0; clear kp2_0 kp2_1 kp2_2 kp2_3 kp2_4 kp2_5 kp3_0 kp3_1 kp3_2 kp3_3 kp3_4 kp3_5
 refine (Tryz.rsFew x11 x12 x13 x14 3 (by omega)).mono ?_
 rintro e WfB1 ⟨B1, rfl, hB1, hE⟩
 replace hB1 : B1 = true → ∃ p, Sw WfB1 (.agg #[.bool b1, .slice a1 n1 c1, .slice d1 m1 o1, .bool bb1, .slice aa1 nn1 cc1, .slice dd1 mm1 oo1]) p ∧ SmS 3 p ∧ p.1 ≤ p.2 := fun e => let ⟨p, k1, k2⟩ := hB1 e; ⟨p, k1.ext hE, k2⟩
 replace E0 := (Ext.trans E0 hE)
 replace x11 := (x11.ext hE)
 replace x12 := (x12.ext hE)
 replace x13 := (x13.ext hE)
 replace x14 := (x14.ext hE)
 replace x21 := (x21.ext hE)
 replace x22 := (x22.ext hE)
 replace x23 := (x23.ext hE)
 replace x24 := (x24.ext hE)
 replace p2 := (p2.ext hE); replace p3 := (p3.ext hE); clear hE
 cases B1
 ·clear hB1
  obtain ⟨kp2_0, kp2_1, kp2_2, kp2_3, kp2_4, kp2_5⟩ := p2.c6
  obtain ⟨kp3_0, kp3_1, kp3_2, kp3_3, kp3_4, kp3_5⟩ := p3.c6
  go_wp2_with fail
  clear kp2_0 kp2_1 kp2_2 kp2_3 kp2_4 kp2_5 kp3_0 kp3_1 kp3_2 kp3_3 kp3_4 kp3_5
  refine (Tryz.alive07 _).mono ?_
  rintro e Wv ⟨rfl, hE⟩
  replace E0 := (Ext.trans E0 hE)
  replace x11 := (x11.ext hE)
  replace x12 := (x12.ext hE)
  replace x13 := (x13.ext hE)
  replace x14 := (x14.ext hE)
  replace x21 := (x21.ext hE)
  replace x22 := (x22.ext hE)
  replace x23 := (x23.ext hE)
  replace x24 := (x24.ext hE)
  replace p2 := (p2.ext hE); replace p3 := (p3.ext hE); clear hE
  obtain ⟨kp2_0, kp2_1, kp2_2, kp2_3, kp2_4, kp2_5⟩ := p2.c6
  obtain ⟨kp3_0, kp3_1, kp3_2, kp3_3, kp3_4, kp3_5⟩ := p3.c6
  clear x11 x12 x13 x14 x21 x22 x23 x24; go_wp2; go_ret
  exact ⟨rfl, E0⟩
 ·obtain ⟨p, hsp, sp, -⟩ := hB1 rfl
  have SP := Lib.hid sp
  clear sp hB1
  obtain ⟨kp2_0, kp2_1, kp2_2, kp2_3, kp2_4, kp2_5⟩ := p2.c6
  obtain ⟨kp3_0, kp3_1, kp3_2, kp3_3, kp3_4, kp3_5⟩ := p3.c6
  go_wp2_with fail
  clear kp2_0 kp2_1 kp2_2 kp2_3 kp2_4 kp2_5 kp3_0 kp3_1 kp3_2 kp3_3 kp3_4 kp3_5
  refine (Tryz.rsFew x21 x22 x23 x24 3 (by omega)).mono ?_
  rintro e WfB2 ⟨B2, rfl, hB2, hE⟩
  replace hB2 : B2 = true → ∃ p, Sw WfB2 (.agg #[.bool b2, .slice a2 n2 c2, .slice d2 m2 o2, .bool bb2, .slice aa2 nn2 cc2, .slice dd2 mm2 oo2]) p ∧ SmS 3 p ∧ p.1 ≤ p.2 := fun e => let ⟨p, k1, k2⟩ := hB2 e; ⟨p, k1.ext hE, k2⟩
  replace E0 := (Ext.trans E0 hE)
  replace x11 := (x11.ext hE)
  replace x12 := (x12.ext hE)
  replace x13 := (x13.ext hE)
  replace x14 := (x14.ext hE)
  replace x21 := (x21.ext hE)
  replace x22 := (x22.ext hE)
  replace x23 := (x23.ext hE)
  replace x24 := (x24.ext hE)
  replace p2 := (p2.ext hE); replace p3 := (p3.ext hE); replace hsp := (hsp.ext hE); clear hE
  cases B2
  ·clear hB2
   obtain ⟨kp2_0, kp2_1, kp2_2, kp2_3, kp2_4, kp2_5⟩ := p2.c6
   obtain ⟨kp3_0, kp3_1, kp3_2, kp3_3, kp3_4, kp3_5⟩ := p3.c6
   go_wp2_with fail
   clear kp2_0 kp2_1 kp2_2 kp2_3 kp2_4 kp2_5 kp3_0 kp3_1 kp3_2 kp3_3 kp3_4 kp3_5
   refine (Tryz.alive07 _).mono ?_
   rintro e Wv ⟨rfl, hE⟩
   replace E0 := (Ext.trans E0 hE)
   replace x11 := (x11.ext hE)
   replace x12 := (x12.ext hE)
   replace x13 := (x13.ext hE)
   replace x14 := (x14.ext hE)
   replace x21 := (x21.ext hE)
   replace x22 := (x22.ext hE)
   replace x23 := (x23.ext hE)
   replace x24 := (x24.ext hE)
   replace p2 := (p2.ext hE); replace p3 := (p3.ext hE); replace hsp := (hsp.ext hE); clear hE
   obtain ⟨kp2_0, kp2_1, kp2_2, kp2_3, kp2_4, kp2_5⟩ := p2.c6
   obtain ⟨kp3_0, kp3_1, kp3_2, kp3_3, kp3_4, kp3_5⟩ := p3.c6
   clear x11 x12 x13 x14 x21 x22 x23 x24 hsp; go_wp2; go_ret
   exact ⟨rfl, E0⟩
  ·obtain ⟨q, hsq, sq, hle⟩ := hB2 rfl
   have SQ := Lib.hid sq
   have HLE := Lib.hid hle
   clear sq hB2 hle; clear x11 x12 x13 x14 x21 x22 x23 x24
   cases hh : hasS q 0
   ·have HH := Lib.hid hh
    have HDQ : Hid (q.1 ≠ 0 ∧ q.2 ≠ 0) := Lib.hid ⟨no_ends hh ⟨Rat.le_refl, HLE.out⟩, no_ends hh ⟨HLE.out, Rat.le_refl⟩⟩
    have HM : Hid (divS p q = mulS p (1 / q.2, 1 / q.1)) := Lib.hid (divS_mul p q).symm
    clear hh
    obtain ⟨kp2_0, kp2_1, kp2_2, kp2_3, kp2_4, kp2_5⟩ := p2.c6
    obtain ⟨kp3_0, kp3_1, kp3_2, kp3_3, kp3_4, kp3_5⟩ := p3.c6
    go_upto_region 3 with (fail)
    clear kp2_0 kp2_1 kp2_2 kp2_3 kp2_4 kp2_5 kp3_0 kp3_1 kp3_2 kp3_3 kp3_4 kp3_5; have ltp2 := p2.lt; have ltp3 := p3.lt; have szw1 := Ext.size E0
    refine region_gs [.one fun v _ => v = .agg #[.bool b1, .slice a1 n1 c1, .slice d1 m1 o1, .bool bb1, .slice aa1 nn1 cc1, .slice dd1 mm1 oo1],
      .one fun v _ => v = .agg #[.bool b2, .slice a2 n2 c2, .slice d2 m2 o2, .bool bb2, .slice aa2 nn2 cc2, .slice dd2 mm2 oo2],
      .one fun v W => ∃ v', v = .tuple #[v', .int .i64 0] ∧ (fun v W => Sw W v (divS p q)) v' W,
      .one fun v W => ∃ v', v = .tuple #[v', .int .i64 0] ∧ (fun v W => Sw W v (divS p q)) v' W,
      .one fun v W => Sw W v (divS p q),
      .one fun v _ => v = .int .i64 0,
      .one fun v W => ∃ g, v = .pointer (some ⟨g, 0, none⟩) ∧ WfB2.heap.size ≤ g ∧ Form W g 29 6,
      .three 6 4 (fun p r _ W => Put6 WfB2.heap.size 29 p r W),
      .one fun v _ => v = .int .i64 0]
     (fun W => Ext w W ∧ Bx6 W w.heap.size 29 (.bool b1) (.slice a1 n1 c1) (.slice d1 m1 o1) (.bool bb1) (.slice aa1 nn1 cc1) (.slice dd1 mm1 oo1) ∧ Bx6 W (w.heap.size + 1) 29 (.bool b2) (.slice a2 n2 c2) (.slice d2 m2 o2) (.bool bb2) (.slice aa2 nn2 cc2) (.slice dd2 mm2 oo2) ∧ Sw W (.agg #[.bool b1, .slice a1 n1 c1, .slice d1 m1 o1, .bool bb1, .slice aa1 nn1 cc1, .slice dd1 mm1 oo1]) p ∧ Sw W (.agg #[.bool b2, .slice a2 n2 c2, .slice d2 m2 o2, .bool bb2, .slice aa2 nn2 cc2, .slice dd2 mm2 oo2]) q ∧ WfB2.heap.size ≤ W.heap.size) ⟨Good.is _, Good.is _, (Good.span _).tup _, (Good.span _).tup _, Good.span _, Good.is _, Good.box _ _ _, cert_put6, Good.is _, trivial⟩
     ⟨E0, p2, p3, hsp, hsq, Nat.le_refl _⟩ (A := ?A1) ?hA1 ?howe1 ?hfin1
    case hA1 =>
     intro vs
     simp only [putAll, Act.put, sA, sZ, sS, Nat.zero_add, Nat.reduceAdd]
     exact rfl
    case howe1 =>
     clear E0 p2 p3 hsp hsq
     intro hf
     refine ⟨oE 0 [] hf rfl ?_, oE 1 [] hf rfl ?_, oE 2 [0, 1] hf rfl ?_, oE 3 [2] hf rfl ?_, oE 4 [3] hf rfl ?_, oE 5 [3] hf rfl ?_, oE 6 [] hf rfl ?_, oW 7 [6, 4] hf rfl ?_, oE 8 [5] hf rfl ?_, trivial⟩
     all_goals intro vs W hS hp hx KO hKO
     all_goals simp only [Act.put, sA, sZ, sS] at hKO
     ·have fc0 := hS.2.1.cell0; have fc1 := hS.2.1.cell1; have fc2 := hS.2.1.cell2; have fc3 := hS.2.1.cell3; have fc4 := hS.2.1.cell4; have fc5 := hS.2.1.cell5; go_simp; exact hKO _ W (.refl W) rfl
     ·have fc0 := hS.2.2.1.cell0; have fc1 := hS.2.2.1.cell1; have fc2 := hS.2.2.1.cell2; have fc3 := hS.2.2.1.cell3; have fc4 := hS.2.2.1.cell4; have fc5 := hS.2.2.1.cell5; go_simp; exact hKO _ W (.refl W) rfl
     ·have e0 := isOf hp.1; have e1 := isOf hp.2.1; simp only [e0, e1] at hKO; go_simp
      refine (Tryz.ivDiv (hS.2.2.2.1) (hS.2.2.2.2.1) SP.out SQ.out (by omega) (by omega) HH.out HDQ.out).mono ?_
      rintro e W1 ⟨v, rfl, hv, hE⟩
      exact hKO _ W1 hE ⟨_, rfl, hv⟩
     ·have q2 := hp.1
      obtain ⟨u, ev, hu⟩ := q2
      replace ev : vs 2 = _ := ev; simp only [ev] at hKO; go_simp; exact hKO _ W (Ext.refl W) ⟨u, rfl, hu⟩
     ·have q3 := hp.1
      obtain ⟨u, ev, hu⟩ := q3
      replace ev : vs 3 = _ := ev; simp only [ev] at hKO; go_simp; exact hKO _ W (Ext.refl W) hu
     ·have q3 := hp.1
      obtain ⟨u, ev, hu⟩ := q3
      replace ev : vs 3 = _ := ev; simp only [ev] at hKO; go_simp; exact hKO _ W (.refl W) rfl
     ·have hn := Bx6.new W 29 (.bool false) (.slice none 0 0) (.slice none 0 0) (.bool false) (.slice none 0 0) (.slice none 0 0)
      have hE := Ext.alloc1 W (.cells #[.bool false, .slice none 0 0, .slice none 0 0, .bool false, .slice none 0 0, .slice none 0 0] 29)
      have hsz := hS.2.2.2.2.2
      go_simp
      exact hKO _ _ hE ⟨_, rfl, hsz, hn.form⟩
     ·have q6 := hp.1; have q4 := hp.2.1
      obtain ⟨g, ev, hg, hf⟩ := q6
      replace ev : vs 6 = _ := ev
      obtain ⟨x0_0, x0_1, x0_2, x0_3, x0_4, x0_5, hx, hno⟩ := hf.bx6
      have qr := q4
      obtain ⟨b3, a3, n3, c3, d3, m3, o3, bb3, aa3, nn3, cc3, dd3, mm3, oo3, er, -, -⟩ := qr
      replace er : vs 4 = _ := er
      have r0 := hx.froz0
      have t0 := hx.cell0
      have r1 := hx.froz1
      have t1 := hx.cell1
      have r2 := hx.froz2
      have t2 := hx.cell2
      have r3 := hx.froz3
      have t3 := hx.cell3
      have r4 := hx.froz4
      have t4 := hx.cell4
      have r5 := hx.froz5
      have t5 := hx.cell5
      have hw := Wr.set6 hx hno b3 a3 n3 c3 d3 m3 o3 bb3 aa3 nn3 cc3 dd3 mm3 oo3
      have hq := hx.set (.bool b3) (.slice a3 n3 c3) (.slice d3 m3 o3) (.bool bb3) (.slice aa3 nn3 cc3) (.slice dd3 mm3 oo3)
      simp only [ev, er] at hKO; go_simp
      exact hKO _ _ hw ⟨(Ext.wr hS.1 hw (by omega)), (hS.2.1.wr hw (by omega)), (hS.2.2.1.wr hw (by omega)), (hS.2.2.2.1.wr hw), (hS.2.2.2.2.1.wr hw), (Nat.le_trans hS.2.2.2.2.2 hw.apart.size)⟩ ⟨g, b3, a3, n3, c3, d3, m3, o3, bb3, aa3, nn3, cc3, dd3, mm3, oo3, ev, er, hg, hq⟩
     ·have e5 := isOf hp.1; simp only [e5] at hKO; go_simp; exact hKO _ W (.refl W) rfl
    intro vs W1 hS hp
    clear szw1 E0 p2 p3 hsp hsq
    obtain ⟨E0, p2, p3, hsp, hsq, sz1⟩ := hS
    obtain ⟨h1_0, h1_1, h1_2, h1_3, h1_4, h1_5, h1_6, h1_7, h1_8, -⟩ := hp
    obtain ⟨g1_7, b1_7, a1_7, n1_7, c1_7, d1_7, m1_7, o1_7, bb1_7, aa1_7, nn1_7, cc1_7, dd1_7, mm1_7, oo1_7, ev1_7, er1_7, hg1_7, p1_7⟩ := h1_7
    replace ev1_7 : vs 6 = _ := ev1_7; replace er1_7 : vs 4 = _ := er1_7; replace h1_4 := (show Sw W1 (vs 4) (divS p q) from h1_4)
    rw [er1_7] at h1_4
    replace h1_0 : vs 0 = .agg #[.bool b1, .slice a1 n1 c1, .slice d1 m1 o1, .bool bb1, .slice aa1 nn1 cc1, .slice dd1 mm1 oo1] := h1_0
    replace h1_1 : vs 1 = .agg #[.bool b2, .slice a2 n2 c2, .slice d2 m2 o2, .bool bb2, .slice aa2 nn2 cc2, .slice dd2 mm2 oo2] := h1_1
    replace h1_5 : vs 5 = .int .i64 0 := h1_5
    replace h1_8 : vs 8 = .int .i64 0 := h1_8
    simp only [ev1_7, er1_7, h1_0, h1_1, h1_5, h1_8]
    clear ev1_7 er1_7 h1_0 h1_1 h1_5 h1_8 h1_2 h1_3 h1_6
    obtain ⟨kp2_0, kp2_1, kp2_2, kp2_3, kp2_4, kp2_5⟩ := p2.c6
    obtain ⟨kp3_0, kp3_1, kp3_2, kp3_3, kp3_4, kp3_5⟩ := p3.c6
    obtain ⟨kp1_7_0, kp1_7_1, kp1_7_2, kp1_7_3, kp1_7_4, kp1_7_5⟩ := p1_7.c6
    go_upto_region 4 with (fail)
    clear kp2_0 kp2_1 kp2_2 kp2_3 kp2_4 kp2_5 kp3_0 kp3_1 kp3_2 kp3_3 kp3_4 kp3_5 kp1_7_0 kp1_7_1 kp1_7_2 kp1_7_3 kp1_7_4 kp1_7_5; have ltp1_7 := p1_7.lt; have szw2 := Ext.size E0
    refine region_gs [.one fun v _ => v = .agg #[.bool b1, .slice a1 n1 c1, .slice d1 m1 o1, .bool bb1, .slice aa1 nn1 cc1, .slice dd1 mm1 oo1],
      .one fun v _ => v = .agg #[.bool b2, .slice a2 n2 c2, .slice d2 m2 o2, .bool bb2, .slice aa2 nn2 cc2, .slice dd2 mm2 oo2],
      .one fun v W => ∃ v', v = .tuple #[v', .int .i64 0] ∧ (fun v W => Sw W v (mulS p (1 / q.2, 1 / q.1))) v' W,
      .one fun v W => ∃ v', v = .tuple #[v', .int .i64 0] ∧ (fun v W => Sw W v (mulS p (1 / q.2, 1 / q.1))) v' W,
      .one fun v W => Sw W v (mulS p (1 / q.2, 1 / q.1)),
      .one fun v _ => v = .int .i64 0,
      .one fun v W => ∃ g, v = .pointer (some ⟨g, 0, none⟩) ∧ W1.heap.size ≤ g ∧ Form W g 29 6,
      .three 6 4 (fun p r _ W => Put6 W1.heap.size 29 p r W),
      .one fun v _ => v = .int .i64 0]
     (fun W => Ext w W ∧ Bx6 W w.heap.size 29 (.bool b1) (.slice a1 n1 c1) (.slice d1 m1 o1) (.bool bb1) (.slice aa1 nn1 cc1) (.slice dd1 mm1 oo1) ∧ Bx6 W (w.heap.size + 1) 29 (.bool b2) (.slice a2 n2 c2) (.slice d2 m2 o2) (.bool bb2) (.slice aa2 nn2 cc2) (.slice dd2 mm2 oo2) ∧ Sw W (.agg #[.bool b1, .slice a1 n1 c1, .slice d1 m1 o1, .bool bb1, .slice aa1 nn1 cc1, .slice dd1 mm1 oo1]) p ∧ Sw W (.agg #[.bool b2, .slice a2 n2 c2, .slice d2 m2 o2, .bool bb2, .slice aa2 nn2 cc2, .slice dd2 mm2 oo2]) q ∧ Sw W (.agg #[.bool b1_7, .slice a1_7 n1_7 c1_7, .slice d1_7 m1_7 o1_7, .bool bb1_7, .slice aa1_7 nn1_7 cc1_7, .slice dd1_7 mm1_7 oo1_7]) (divS p q) ∧ Bx6 W g1_7 29 (.bool b1_7) (.slice a1_7 n1_7 c1_7) (.slice d1_7 m1_7 o1_7) (.bool bb1_7) (.slice aa1_7 nn1_7 cc1_7) (.slice dd1_7 mm1_7 oo1_7) ∧ W1.heap.size ≤ W.heap.size) ⟨Good.is _, Good.is _, (Good.span _).tup _, (Good.span _).tup _, Good.span _, Good.is _, Good.box _ _ _, cert_put6, Good.is _, trivial⟩
     ⟨E0, p2, p3, hsp, hsq, h1_4, p1_7, Nat.le_refl _⟩ (A := ?A2) ?hA2 ?howe2 ?hfin2
    case hA2 =>
     intro vs
     simp only [putAll, Act.put, sA, sZ, sS, Nat.zero_add, Nat.reduceAdd]
     exact rfl
    case howe2 =>
     clear E0 p2 p3 hsp hsq h1_4 p1_7
     intro hf
     refine ⟨oE 0 [] hf rfl ?_, oE 1 [] hf rfl ?_, oE 2 [0, 1] hf rfl ?_, oE 3 [2] hf rfl ?_, oE 4 [3] hf rfl ?_, oE 5 [3] hf rfl ?_, oE 6 [] hf rfl ?_, oW 7 [6, 4] hf rfl ?_, oE 8 [5] hf rfl ?_, trivial⟩
     all_goals intro vs W hS hp hx KO hKO
     all_goals simp only [Act.put, sA, sZ, sS] at hKO
     ·have fc0 := hS.2.1.cell0; have fc1 := hS.2.1.cell1; have fc2 := hS.2.1.cell2; have fc3 := hS.2.1.cell3; have fc4 := hS.2.1.cell4; have fc5 := hS.2.1.cell5; go_simp; exact hKO _ W (.refl W) rfl
     ·have fc0 := hS.2.2.1.cell0; have fc1 := hS.2.2.1.cell1; have fc2 := hS.2.2.1.cell2; have fc3 := hS.2.2.1.cell3; have fc4 := hS.2.2.1.cell4; have fc5 := hS.2.2.1.cell5; go_simp; exact hKO _ W (.refl W) rfl
     ·have e0 := isOf hp.1; have e1 := isOf hp.2.1; simp only [e0, e1] at hKO; go_simp
      refine (Tryz.rsDiv (hS.2.2.2.1) (hS.2.2.2.2.1) SP.out SQ.out (by omega) (by omega) HH.out HDQ.out).mono ?_
      rintro e W1 ⟨v, rfl, hv, hE⟩
      exact hKO _ W1 hE ⟨_, rfl, hv⟩
     ·have q2 := hp.1
      obtain ⟨u, ev, hu⟩ := q2
      replace ev : vs 2 = _ := ev; simp only [ev] at hKO; go_simp; exact hKO _ W (Ext.refl W) ⟨u, rfl, hu⟩
     ·have q3 := hp.1
      obtain ⟨u, ev, hu⟩ := q3
      replace ev : vs 3 = _ := ev; simp only [ev] at hKO; go_simp; exact hKO _ W (Ext.refl W) hu
     ·have q3 := hp.1
      obtain ⟨u, ev, hu⟩ := q3
      replace ev : vs 3 = _ := ev; simp only [ev] at hKO; go_simp; exact hKO _ W (.refl W) rfl
     ·have hn := Bx6.new W 29 (.bool false) (.slice none 0 0) (.slice none 0 0) (.bool false) (.slice none 0 0) (.slice none 0 0)
      have hE := Ext.alloc1 W (.cells #[.bool false, .slice none 0 0, .slice none 0 0, .bool false, .slice none 0 0, .slice none 0 0] 29)
      have hsz := hS.2.2.2.2.2.2.2
      go_simp
      exact hKO _ _ hE ⟨_, rfl, hsz, hn.form⟩
     ·have q6 := hp.1; have q4 := hp.2.1
      obtain ⟨g, ev, hg, hf⟩ := q6
      replace ev : vs 6 = _ := ev
      obtain ⟨x0_0, x0_1, x0_2, x0_3, x0_4, x0_5, hx, hno⟩ := hf.bx6
      have qr := q4
      obtain ⟨b3, a3, n3, c3, d3, m3, o3, bb3, aa3, nn3, cc3, dd3, mm3, oo3, er, -, -⟩ := qr
      replace er : vs 4 = _ := er
      have r0 := hx.froz0
      have t0 := hx.cell0
      have r1 := hx.froz1
      have t1 := hx.cell1
      have r2 := hx.froz2
      have t2 := hx.cell2
      have r3 := hx.froz3
      have t3 := hx.cell3
      have r4 := hx.froz4
      have t4 := hx.cell4
      have r5 := hx.froz5
      have t5 := hx.cell5
      have hw := Wr.set6 hx hno b3 a3 n3 c3 d3 m3 o3 bb3 aa3 nn3 cc3 dd3 mm3 oo3
      have hq := hx.set (.bool b3) (.slice a3 n3 c3) (.slice d3 m3 o3) (.bool bb3) (.slice aa3 nn3 cc3) (.slice dd3 mm3 oo3)
      simp only [ev, er] at hKO; go_simp
      exact hKO _ _ hw ⟨(Ext.wr hS.1 hw (by omega)), (hS.2.1.wr hw (by omega)), (hS.2.2.1.wr hw (by omega)), (hS.2.2.2.1.wr hw), (hS.2.2.2.2.1.wr hw), (hS.2.2.2.2.2.1.wr hw), (hS.2.2.2.2.2.2.1.wr hw (by omega)), (Nat.le_trans hS.2.2.2.2.2.2.2 hw.apart.size)⟩ ⟨g, b3, a3, n3, c3, d3, m3, o3, bb3, aa3, nn3, cc3, dd3, mm3, oo3, ev, er, hg, hq⟩
     ·have e5 := isOf hp.1; simp only [e5] at hKO; go_simp; exact hKO _ W (.refl W) rfl
    intro vs W2 hS hp
    clear szw2 E0 p2 p3 hsp hsq h1_4 p1_7
    obtain ⟨E0, p2, p3, hsp, hsq, h1_4, p1_7, sz2⟩ := hS
    obtain ⟨h2_0, h2_1, h2_2, h2_3, h2_4, h2_5, h2_6, h2_7, h2_8, -⟩ := hp
    obtain ⟨g2_7, b2_7, a2_7, n2_7, c2_7, d2_7, m2_7, o2_7, bb2_7, aa2_7, nn2_7, cc2_7, dd2_7, mm2_7, oo2_7, ev2_7, er2_7, hg2_7, p2_7⟩ := h2_7
    replace ev2_7 : vs 6 = _ := ev2_7; replace er2_7 : vs 4 = _ := er2_7; replace h2_4 := (show Sw W2 (vs 4) (mulS p (1 / q.2, 1 / q.1)) from h2_4)
    rw [er2_7] at h2_4
    replace h2_0 : vs 0 = .agg #[.bool b1, .slice a1 n1 c1, .slice d1 m1 o1, .bool bb1, .slice aa1 nn1 cc1, .slice dd1 mm1 oo1] := h2_0
    replace h2_1 : vs 1 = .agg #[.bool b2, .slice a2 n2 c2, .slice d2 m2 o2, .bool bb2, .slice aa2 nn2 cc2, .slice dd2 mm2 oo2] := h2_1
    replace h2_5 : vs 5 = .int .i64 0 := h2_5
    replace h2_8 : vs 8 = .int .i64 0 := h2_8
    simp only [ev2_7, er2_7, h2_0, h2_1, h2_5, h2_8]
    clear ev2_7 er2_7 h2_0 h2_1 h2_5 h2_8 h2_2 h2_3 h2_6
    obtain ⟨kp2_0, kp2_1, kp2_2, kp2_3, kp2_4, kp2_5⟩ := p2.c6
    obtain ⟨kp3_0, kp3_1, kp3_2, kp3_3, kp3_4, kp3_5⟩ := p3.c6
    obtain ⟨kp1_7_0, kp1_7_1, kp1_7_2, kp1_7_3, kp1_7_4, kp1_7_5⟩ := p1_7.c6
    obtain ⟨kp2_7_0, kp2_7_1, kp2_7_2, kp2_7_3, kp2_7_4, kp2_7_5⟩ := p2_7.c6
    go_upto_region 5 with (fail)
    clear kp2_0 kp2_1 kp2_2 kp2_3 kp2_4 kp2_5 kp3_0 kp3_1 kp3_2 kp3_3 kp3_4 kp3_5 kp1_7_0 kp1_7_1 kp1_7_2 kp1_7_3 kp1_7_4 kp1_7_5 kp2_7_0 kp2_7_1 kp2_7_2 kp2_7_3 kp2_7_4 kp2_7_5; have ltp2_7 := p2_7.lt; have szw3 := Ext.size E0
    refine region_gs [.one fun v _ => v = .bool true,
      .one fun v _ => v = .bool true,
      .one fun v _ => v = .agg #[.bool b1, .slice a1 n1 c1, .slice d1 m1 o1, .bool bb1, .slice aa1 nn1 cc1, .slice dd1 mm1 oo1],
      .one fun v _ => v = .agg #[.bool b2, .slice a2 n2 c2, .slice d2 m2 o2, .bool bb2, .slice aa2 nn2 cc2, .slice dd2 mm2 oo2],
      .one fun v W => Sw W v ((p.1 + q.1, p.2 + q.2)),
      .one fun v _ => v = .agg #[.bool b1, .slice a1 n1 c1, .slice d1 m1 o1, .bool bb1, .slice aa1 nn1 cc1, .slice dd1 mm1 oo1],
      .one fun v _ => v = .agg #[.bool b2, .slice a2 n2 c2, .slice d2 m2 o2, .bool bb2, .slice aa2 nn2 cc2, .slice dd2 mm2 oo2],
      .one fun v W => Sw W v ((p.1 + q.1, p.2 + q.2)),
      .one fun v _ => v = .bool true,
      .one fun v _ => v = .bool true,
      .one fun v _ => v = .bool true,
      .one fun v _ => v = .agg #[.bool b1, .slice a1 n1 c1, .slice d1 m1 o1, .bool bb1, .slice aa1 nn1 cc1, .slice dd1 mm1 oo1],
      .one fun v _ => v = .agg #[.bool b2, .slice a2 n2 c2, .slice d2 m2 o2, .bool bb2, .slice aa2 nn2 cc2, .slice dd2 mm2 oo2],
      .one fun v W => Sw W v (mulS p q),
      .one fun v _ => v = .agg #[.bool b1, .slice a1 n1 c1, .slice d1 m1 o1, .bool bb1, .slice aa1 nn1 cc1, .slice dd1 mm1 oo1],
      .one fun v _ => v = .agg #[.bool b2, .slice a2 n2 c2, .slice d2 m2 o2, .bool bb2, .slice aa2 nn2 cc2, .slice dd2 mm2 oo2],
      .one fun v W => Sw W v (mulS p q),
      .one fun v _ => v = .bool true,
      .one fun v _ => v = .bool true,
      .one fun v _ => v = .bool true,
      .one fun v _ => v = .agg #[.bool b1_7, .slice a1_7 n1_7 c1_7, .slice d1_7 m1_7 o1_7, .bool bb1_7, .slice aa1_7 nn1_7 cc1_7, .slice dd1_7 mm1_7 oo1_7],
      .one fun v _ => v = .agg #[.bool b2_7, .slice a2_7 n2_7 c2_7, .slice d2_7 m2_7 o2_7, .bool bb2_7, .slice aa2_7 nn2_7 cc2_7, .slice dd2_7 mm2_7 oo2_7],
      .one fun v _ => v = .bool true,
      .one fun v _ => v = .bool true,
      .one fun v _ => v = .bool true,
      .one fun v _ => v = .int .i64 0,
      .one fun v _ => v = .int .i64 0,
      .one fun v _ => v = .bool true,
      .one fun v _ => v = .bool true,
      .one fun v _ => v = .bool true]
     (fun W => Ext w W ∧ Bx6 W w.heap.size 29 (.bool b1) (.slice a1 n1 c1) (.slice d1 m1 o1) (.bool bb1) (.slice aa1 nn1 cc1) (.slice dd1 mm1 oo1) ∧ Bx6 W (w.heap.size + 1) 29 (.bool b2) (.slice a2 n2 c2) (.slice d2 m2 o2) (.bool bb2) (.slice aa2 nn2 cc2) (.slice dd2 mm2 oo2) ∧ Sw W (.agg #[.bool b1, .slice a1 n1 c1, .slice d1 m1 o1, .bool bb1, .slice aa1 nn1 cc1, .slice dd1 mm1 oo1]) p ∧ Sw W (.agg #[.bool b2, .slice a2 n2 c2, .slice d2 m2 o2, .bool bb2, .slice aa2 nn2 cc2, .slice dd2 mm2 oo2]) q ∧ Sw W (.agg #[.bool b1_7, .slice a1_7 n1_7 c1_7, .slice d1_7 m1_7 o1_7, .bool bb1_7, .slice aa1_7 nn1_7 cc1_7, .slice dd1_7 mm1_7 oo1_7]) (divS p q) ∧ Bx6 W g1_7 29 (.bool b1_7) (.slice a1_7 n1_7 c1_7) (.slice d1_7 m1_7 o1_7) (.bool bb1_7) (.slice aa1_7 nn1_7 cc1_7) (.slice dd1_7 mm1_7 oo1_7) ∧ Sw W (.agg #[.bool b2_7, .slice a2_7 n2_7 c2_7, .slice d2_7 m2_7 o2_7, .bool bb2_7, .slice aa2_7 nn2_7 cc2_7, .slice dd2_7 mm2_7 oo2_7]) (mulS p (1 / q.2, 1 / q.1)) ∧ Bx6 W g2_7 29 (.bool b2_7) (.slice a2_7 n2_7 c2_7) (.slice d2_7 m2_7 o2_7) (.bool bb2_7) (.slice aa2_7 nn2_7 cc2_7) (.slice dd2_7 mm2_7 oo2_7) ∧ W2.heap.size ≤ W.heap.size) ⟨Good.is _, Good.is _, Good.is _, Good.is _, Good.span _, Good.is _, Good.is _, Good.span _, Good.is _, Good.is _, Good.is _, Good.is _, Good.is _, Good.span _, Good.is _, Good.is _, Good.span _, Good.is _, Good.is _, Good.is _, Good.is _, Good.is _, Good.is _, Good.is _, Good.is _, Good.is _, Good.is _, Good.is _, Good.is _, Good.is _, trivial⟩
     ⟨E0, p2, p3, hsp, hsq, h1_4, p1_7, h2_4, p2_7, Nat.le_refl _⟩ (A := ?A3) ?hA3 ?howe3 ?hfin3
    case hA3 =>
     intro vs
     simp only [putAll, Act.put, sA, sZ, sS, Nat.zero_add, Nat.reduceAdd]
     exact rfl
    case howe3 =>
     clear E0 p2 p3 hsp hsq h1_4 p1_7 h2_4 p2_7
     intro hf
     refine ⟨oE 0 [] hf rfl ?_, oE 1 [0] hf rfl ?_, oE 2 [1] hf rfl ?_, oE 3 [1] hf rfl ?_, oE 4 [1, 2, 3] hf rfl ?_, oE 5 [1] hf rfl ?_, oE 6 [1] hf rfl ?_, oE 7 [1, 5, 6] hf rfl ?_, oE 8 [1, 4, 7] hf rfl ?_, oE 9 [1, 8] hf rfl ?_, oE 10 [9] hf rfl ?_, oE 11 [10] hf rfl ?_, oE 12 [10] hf rfl ?_, oE 13 [10, 11, 12] hf rfl ?_, oE 14 [10] hf rfl ?_, oE 15 [10] hf rfl ?_, oE 16 [10, 14, 15] hf rfl ?_, oE 17 [10, 13, 16] hf rfl ?_, oE 18 [10, 17] hf rfl ?_, oE 19 [18] hf rfl ?_, oE 20 [19] hf rfl ?_, oE 21 [19] hf rfl ?_, oE 22 [19, 20, 21] hf rfl ?_, oE 23 [19, 22] hf rfl ?_, oE 24 [23] hf rfl ?_, oE 25 [24] hf rfl ?_, oE 26 [24] hf rfl ?_, oE 27 [24, 25, 26] hf rfl ?_, oE 28 [24, 27] hf rfl ?_, oE 29 [28] hf rfl ?_, trivial⟩
     all_goals intro vs W hS hp hx KO hKO
     all_goals simp only [Act.put, sA, sZ, sS] at hKO
     ·go_simp
      refine (Tryz.alive07 _).mono ?_
      rintro e W1 ⟨rfl, hE⟩
      exact hKO _ W1 hE rfl
     ·have e0 := isOf hp.1; simp only [e0] at hKO; go_simp; exact hKO _ W (.refl W) rfl
     ·have e1 := isOf hp.1; simp only [e1] at hKO; have fc0 := hS.2.1.cell0; have fc1 := hS.2.1.cell1; have fc2 := hS.2.1.cell2; have fc3 := hS.2.1.cell3; have fc4 := hS.2.1.cell4; have fc5 := hS.2.1.cell5; go_simp; exact hKO _ W (.refl W) rfl
     ·have e1 := isOf hp.1; simp only [e1] at hKO; have fc0 := hS.2.2.1.cell0; have fc1 := hS.2.2.1.cell1; have fc2 := hS.2.2.1.cell2; have fc3 := hS.2.2.1.cell3; have fc4 := hS.2.2.1.cell4; have fc5 := hS.2.2.1.cell5; go_simp; exact hKO _ W (.refl W) rfl
     ·have e1 := isOf hp.1; have e2 := isOf hp.2.1; have e3 := isOf hp.2.2.1; simp only [e1, e2, e3] at hKO; go_simp
      refine (Tryz.ivAdd (hS.2.2.2.1) (hS.2.2.2.2.1) SP.out SQ.out (by omega)).mono ?_
      rintro e W1 ⟨v, rfl, hv, hE⟩
      exact hKO _ W1 hE hv
     ·have e1 := isOf hp.1; simp only [e1] at hKO; have fc0 := hS.2.1.cell0; have fc1 := hS.2.1.cell1; have fc2 := hS.2.1.cell2; have fc3 := hS.2.1.cell3; have fc4 := hS.2.1.cell4; have fc5 := hS.2.1.cell5; go_simp; exact hKO _ W (.refl W) rfl
     ·have e1 := isOf hp.1; simp only [e1] at hKO; have fc0 := hS.2.2.1.cell0; have fc1 := hS.2.2.1.cell1; have fc2 := hS.2.2.1.cell2; have fc3 := hS.2.2.1.cell3; have fc4 := hS.2.2.1.cell4; have fc5 := hS.2.2.1.cell5; go_simp; exact hKO _ W (.refl W) rfl
     ·have e1 := isOf hp.1; have e5 := isOf hp.2.1; have e6 := isOf hp.2.2.1; simp only [e1, e5, e6] at hKO; go_simp
      refine (Tryz.rsAdd (hS.2.2.2.1) (hS.2.2.2.2.1) SP.out SQ.out (by omega)).mono ?_
      rintro e W1 ⟨v, rfl, hv, hE⟩
      exact hKO _ W1 hE hv
     ·have e1 := isOf hp.1; have q4 := hp.2.1; have q7 := hp.2.2.1; simp only [e1] at hKO; go_simp
      refine (Tryz.rsSameT q4 q7 rfl).mono ?_
      rintro e W1 ⟨rfl, hE⟩
      exact hKO _ W1 hE rfl
     ·have e1 := isOf hp.1; have e8 := isOf hp.2.1; simp only [e1, e8] at hKO; go_simp; exact hKO _ W (.refl W) rfl
     ·have e9 := isOf hp.1; simp only [e9] at hKO; go_simp; exact hKO _ W (.refl W) rfl
     ·have e10 := isOf hp.1; simp only [e10] at hKO; have fc0 := hS.2.1.cell0; have fc1 := hS.2.1.cell1; have fc2 := hS.2.1.cell2; have fc3 := hS.2.1.cell3; have fc4 := hS.2.1.cell4; have fc5 := hS.2.1.cell5; go_simp; exact hKO _ W (.refl W) rfl
     ·have e10 := isOf hp.1; simp only [e10] at hKO; have fc0 := hS.2.2.1.cell0; have fc1 := hS.2.2.1.cell1; have fc2 := hS.2.2.1.cell2; have fc3 := hS.2.2.1.cell3; have fc4 := hS.2.2.1.cell4; have fc5 := hS.2.2.1.cell5; go_simp; exact hKO _ W (.refl W) rfl
     ·have e10 := isOf hp.1; have e11 := isOf hp.2.1; have e12 := isOf hp.2.2.1; simp only [e10, e11, e12] at hKO; go_simp
      refine (Tryz.ivMul (hS.2.2.2.1) (hS.2.2.2.2.1) SP.out SQ.out (by omega)).mono ?_
      rintro e W1 ⟨v, rfl, hv, hE⟩
      exact hKO _ W1 hE hv
     ·have e10 := isOf hp.1; simp only [e10] at hKO; have fc0 := hS.2.1.cell0; have fc1 := hS.2.1.cell1; have fc2 := hS.2.1.cell2; have fc3 := hS.2.1.cell3; have fc4 := hS.2.1.cell4; have fc5 := hS.2.1.cell5; go_simp; exact hKO _ W (.refl W) rfl
     ·have e10 := isOf hp.1; simp only [e10] at hKO; have fc0 := hS.2.2.1.cell0; have fc1 := hS.2.2.1.cell1; have fc2 := hS.2.2.1.cell2; have fc3 := hS.2.2.1.cell3; have fc4 := hS.2.2.1.cell4; have fc5 := hS.2.2.1.cell5; go_simp; exact hKO _ W (.refl W) rfl
     ·have e10 := isOf hp.1; have e14 := isOf hp.2.1; have e15 := isOf hp.2.2.1; simp only [e10, e14, e15] at hKO; go_simp
      refine (Tryz.rsMul (hS.2.2.2.1) (hS.2.2.2.2.1) SP.out SQ.out (by omega)).mono ?_
      rintro e W1 ⟨v, rfl, hv, hE⟩
      exact hKO _ W1 hE hv
     ·have e10 := isOf hp.1; have q13 := hp.2.1; have q16 := hp.2.2.1; simp only [e10] at hKO; go_simp
      refine (Tryz.rsSameT q13 q16 rfl).mono ?_
      rintro e W1 ⟨rfl, hE⟩
      exact hKO _ W1 hE rfl
     ·have e10 := isOf hp.1; have e17 := isOf hp.2.1; simp only [e10, e17] at hKO; go_simp; exact hKO _ W (.refl W) rfl
     ·have e18 := isOf hp.1; simp only [e18] at hKO; go_simp; exact hKO _ W (.refl W) rfl
     ·have e19 := isOf hp.1; simp only [e19] at hKO; have fc0 := hS.2.2.2.2.2.2.1.cell0; have fc1 := hS.2.2.2.2.2.2.1.cell1; have fc2 := hS.2.2.2.2.2.2.1.cell2; have fc3 := hS.2.2.2.2.2.2.1.cell3; have fc4 := hS.2.2.2.2.2.2.1.cell4; have fc5 := hS.2.2.2.2.2.2.1.cell5; go_simp; exact hKO _ W (.refl W) rfl
     ·have e19 := isOf hp.1; simp only [e19] at hKO; have fc0 := hS.2.2.2.2.2.2.2.2.1.cell0; have fc1 := hS.2.2.2.2.2.2.2.2.1.cell1; have fc2 := hS.2.2.2.2.2.2.2.2.1.cell2; have fc3 := hS.2.2.2.2.2.2.2.2.1.cell3; have fc4 := hS.2.2.2.2.2.2.2.2.1.cell4; have fc5 := hS.2.2.2.2.2.2.2.2.1.cell5; go_simp; exact hKO _ W (.refl W) rfl
     ·have e19 := isOf hp.1; have e20 := isOf hp.2.1; have e21 := isOf hp.2.2.1; simp only [e19, e20, e21] at hKO; go_simp
      refine (Tryz.rsSameT (hS.2.2.2.2.2.1) (hS.2.2.2.2.2.2.2.1) HM.out).mono ?_
      rintro e W1 ⟨rfl, hE⟩
      exact hKO _ W1 hE rfl
     ·have e19 := isOf hp.1; have e22 := isOf hp.2.1; simp only [e19, e22] at hKO; go_simp; exact hKO _ W (.refl W) rfl
     ·have e23 := isOf hp.1; simp only [e23] at hKO; go_simp; exact hKO _ W (.refl W) rfl
     ·have e24 := isOf hp.1; simp only [e24] at hKO; go_simp; exact hKO _ W (.refl W) rfl
     ·have e24 := isOf hp.1; simp only [e24] at hKO; go_simp; exact hKO _ W (.refl W) rfl
     ·have e24 := isOf hp.1; have e25 := isOf hp.2.1; have e26 := isOf hp.2.2.1; simp only [e24, e25, e26] at hKO; go_simp; exact hKO _ W (.refl W) rfl
     ·have e24 := isOf hp.1; have e27 := isOf hp.2.1; simp only [e24, e27] at hKO; go_simp; exact hKO _ W (.refl W) rfl
     ·have e28 := isOf hp.1; simp only [e28] at hKO; go_simp; exact hKO _ W (.refl W) rfl
    intro vs W3 hS hp
    clear szw3 E0 p2 p3 hsp hsq h1_4 p1_7 h2_4 p2_7
    obtain ⟨E0, p2, p3, hsp, hsq, h1_4, p1_7, h2_4, p2_7, sz3⟩ := hS
    obtain ⟨h3_0, h3_1, h3_2, h3_3, h3_4, h3_5, h3_6, h3_7, h3_8, h3_9, h3_10, h3_11, h3_12, h3_13, h3_14, h3_15, h3_16, h3_17, h3_18, h3_19, h3_20, h3_21, h3_22, h3_23, h3_24, h3_25, h3_26, h3_27, h3_28, h3_29, -⟩ := hp
    replace h3_0 : vs 0 = .bool true := h3_0
    replace h3_1 : vs 1 = .bool true := h3_1
    replace h3_2 : vs 2 = .agg #[.bool b1, .slice a1 n1 c1, .slice d1 m1 o1, .bool bb1, .slice aa1 nn1 cc1, .slice dd1 mm1 oo1] := h3_2
    replace h3_3 : vs 3 = .agg #[.bool b2, .slice a2 n2 c2, .slice d2 m2 o2, .bool bb2, .slice aa2 nn2 cc2, .slice dd2 mm2 oo2] := h3_3
    replace h3_5 : vs 5 = .agg #[.bool b1, .slice a1 n1 c1, .slice d1 m1 o1, .bool bb1, .slice aa1 nn1 cc1, .slice dd1 mm1 oo1] := h3_5
    replace h3_6 : vs 6 = .agg #[.bool b2, .slice a2 n2 c2, .slice d2 m2 o2, .bool bb2, .slice aa2 nn2 cc2, .slice dd2 mm2 oo2] := h3_6
    replace h3_8 : vs 8 = .bool true := h3_8
    replace h3_9 : vs 9 = .bool true := h3_9
    replace h3_10 : vs 10 = .bool true := h3_10
    replace h3_11 : vs 11 = .agg #[.bool b1, .slice a1 n1 c1, .slice d1 m1 o1, .bool bb1, .slice aa1 nn1 cc1, .slice dd1 mm1 oo1] := h3_11
    replace h3_12 : vs 12 = .agg #[.bool b2, .slice a2 n2 c2, .slice d2 m2 o2, .bool bb2, .slice aa2 nn2 cc2, .slice dd2 mm2 oo2] := h3_12
    replace h3_14 : vs 14 = .agg #[.bool b1, .slice a1 n1 c1, .slice d1 m1 o1, .bool bb1, .slice aa1 nn1 cc1, .slice dd1 mm1 oo1] := h3_14
    replace h3_15 : vs 15 = .agg #[.bool b2, .slice a2 n2 c2, .slice d2 m2 o2, .bool bb2, .slice aa2 nn2 cc2, .slice dd2 mm2 oo2] := h3_15
    replace h3_17 : vs 17 = .bool true := h3_17
    replace h3_18 : vs 18 = .bool true := h3_18
    replace h3_19 : vs 19 = .bool true := h3_19
    replace h3_20 : vs 20 = .agg #[.bool b1_7, .slice a1_7 n1_7 c1_7, .slice d1_7 m1_7 o1_7, .bool bb1_7, .slice aa1_7 nn1_7 cc1_7, .slice dd1_7 mm1_7 oo1_7] := h3_20
    replace h3_21 : vs 21 = .agg #[.bool b2_7, .slice a2_7 n2_7 c2_7, .slice d2_7 m2_7 o2_7, .bool bb2_7, .slice aa2_7 nn2_7 cc2_7, .slice dd2_7 mm2_7 oo2_7] := h3_21
    replace h3_22 : vs 22 = .bool true := h3_22
    replace h3_23 : vs 23 = .bool true := h3_23
    replace h3_24 : vs 24 = .bool true := h3_24
    replace h3_25 : vs 25 = .int .i64 0 := h3_25
    replace h3_26 : vs 26 = .int .i64 0 := h3_26
    replace h3_27 : vs 27 = .bool true := h3_27
    replace h3_28 : vs 28 = .bool true := h3_28
    replace h3_29 : vs 29 = .bool true := h3_29
    simp only [h3_0, h3_1, h3_2, h3_3, h3_5, h3_6, h3_8, h3_9, h3_10, h3_11, h3_12, h3_14, h3_15, h3_17, h3_18, h3_19, h3_20, h3_21, h3_22, h3_23, h3_24, h3_25, h3_26, h3_27, h3_28, h3_29]
    replace h3_4 : Sw W3 (vs 4) ((p.1 + q.1, p.2 + q.2)) := h3_4
    generalize vs 4 = u3_4 at h3_4 ⊢
    replace h3_7 : Sw W3 (vs 7) ((p.1 + q.1, p.2 + q.2)) := h3_7
    generalize vs 7 = u3_7 at h3_7 ⊢
    replace h3_13 : Sw W3 (vs 13) (mulS p q) := h3_13
    generalize vs 13 = u3_13 at h3_13 ⊢
    replace h3_16 : Sw W3 (vs 16) (mulS p q) := h3_16
    generalize vs 16 = u3_16 at h3_16 ⊢
    clear h3_0 h3_1 h3_2 h3_3 h3_5 h3_6 h3_8 h3_9 h3_10 h3_11 h3_12 h3_14 h3_15 h3_17 h3_18 h3_19 h3_20 h3_21 h3_22 h3_23 h3_24 h3_25 h3_26 h3_27 h3_28 h3_29
    obtain ⟨kp2_0, kp2_1, kp2_2, kp2_3, kp2_4, kp2_5⟩ := p2.c6
    obtain ⟨kp3_0, kp3_1, kp3_2, kp3_3, kp3_4, kp3_5⟩ := p3.c6
    obtain ⟨kp1_7_0, kp1_7_1, kp1_7_2, kp1_7_3, kp1_7_4, kp1_7_5⟩ := p1_7.c6
    obtain ⟨kp2_7_0, kp2_7_1, kp2_7_2, kp2_7_3, kp2_7_4, kp2_7_5⟩ := p2_7.c6
    clear hsp hsq h1_4 h2_4 h3_4 h3_7 h3_13 h3_16; go_wp2; go_ret
    exact ⟨rfl, E0⟩
   ·have HH := Lib.hid hh
    clear hh
    obtain ⟨kp2_0, kp2_1, kp2_2, kp2_3, kp2_4, kp2_5⟩ := p2.c6
    obtain ⟨kp3_0, kp3_1, kp3_2, kp3_3, kp3_4, kp3_5⟩ := p3.c6
    go_upto_region 3 with (fail)
    clear kp2_0 kp2_1 kp2_2 kp2_3 kp2_4 kp2_5 kp3_0 kp3_1 kp3_2 kp3_3 kp3_4 kp3_5; have ltp2 := p2.lt; have ltp3 := p3.lt; have szw4 := Ext.size E0
    refine region_gs [.one fun v _ => v = .agg #[.bool b1, .slice a1 n1 c1, .slice d1 m1 o1, .bool bb1, .slice aa1 nn1 cc1, .slice dd1 mm1 oo1],
      .one fun v _ => v = .agg #[.bool b2, .slice a2 n2 c2, .slice d2 m2 o2, .bool bb2, .slice aa2 nn2 cc2, .slice dd2 mm2 oo2],
      .one fun v _ => v = .tuple #[.agg #[.bool false, .slice none 0 0, .slice none 0 0, .bool false, .slice none 0 0, .slice none 0 0], .int .i64 4],
      .one fun v _ => v = .tuple #[.agg #[.bool false, .slice none 0 0, .slice none 0 0, .bool false, .slice none 0 0, .slice none 0 0], .int .i64 4],
      .one fun v _ => v = .agg #[.bool false, .slice none 0 0, .slice none 0 0, .bool false, .slice none 0 0, .slice none 0 0],
      .one fun v _ => v = .int .i64 4,
      .one fun v W => ∃ g, v = .pointer (some ⟨g, 0, none⟩) ∧ WfB2.heap.size ≤ g ∧ Form W g 29 6,
      .two 6 (fun p _ W => New6 WfB2.heap.size 29 (.bool false) (.slice none 0 0) (.slice none 0 0) (.bool false) (.slice none 0 0) (.slice none 0 0) p W),
      .one fun v _ => v = .int .i64 4]
     (fun W => Ext w W ∧ Bx6 W w.heap.size 29 (.bool b1) (.slice a1 n1 c1) (.slice d1 m1 o1) (.bool bb1) (.slice aa1 nn1 cc1) (.slice dd1 mm1 oo1) ∧ Bx6 W (w.heap.size + 1) 29 (.bool b2) (.slice a2 n2 c2) (.slice d2 m2 o2) (.bool bb2) (.slice aa2 nn2 cc2) (.slice dd2 mm2 oo2) ∧ Sw W (.agg #[.bool b1, .slice a1 n1 c1, .slice d1 m1 o1, .bool bb1, .slice aa1 nn1 cc1, .slice dd1 mm1 oo1]) p ∧ Sw W (.agg #[.bool b2, .slice a2 n2 c2, .slice d2 m2 o2, .bool bb2, .slice aa2 nn2 cc2, .slice dd2 mm2 oo2]) q ∧ WfB2.heap.size ≤ W.heap.size) ⟨Good.is _, Good.is _, Good.is _, Good.is _, Good.is _, Good.is _, Good.box _ _ _, cert_new6, Good.is _, trivial⟩
     ⟨E0, p2, p3, hsp, hsq, Nat.le_refl _⟩ (A := ?A4) ?hA4 ?howe4 ?hfin4
    case hA4 =>
     intro vs
     simp only [putAll, Act.put, sA, sZ, sS, Nat.zero_add, Nat.reduceAdd]
     exact rfl
    case howe4 =>
     clear E0 p2 p3 hsp hsq
     intro hf
     refine ⟨oE 0 [] hf rfl ?_, oE 1 [] hf rfl ?_, oE 2 [0, 1] hf rfl ?_, oE 3 [2] hf rfl ?_, oE 4 [3] hf rfl ?_, oE 5 [3] hf rfl ?_, oE 6 [] hf rfl ?_, oW 7 [6, 4] hf rfl ?_, oE 8 [5] hf rfl ?_, trivial⟩
     all_goals intro vs W hS hp hx KO hKO
     all_goals simp only [Act.put, sA, sZ, sS] at hKO
     ·have fc0 := hS.2.1.cell0; have fc1 := hS.2.1.cell1; have fc2 := hS.2.1.cell2; have fc3 := hS.2.1.cell3; have fc4 := hS.2.1.cell4; have fc5 := hS.2.1.cell5; go_simp; exact hKO _ W (.refl W) rfl
     ·have fc0 := hS.2.2.1.cell0; have fc1 := hS.2.2.1.cell1; have fc2 := hS.2.2.1.cell2; have fc3 := hS.2.2.1.cell3; have fc4 := hS.2.2.1.cell4; have fc5 := hS.2.2.1.cell5; go_simp; exact hKO _ W (.refl W) rfl
     ·have e0 := isOf hp.1; have e1 := isOf hp.2.1; simp only [e0, e1] at hKO; go_simp
      refine (Tryz.ivDiv0 (hS.2.2.2.1) (hS.2.2.2.2.1) SQ.out (by omega) (by omega) HH.out).mono ?_
      rintro e W1 ⟨rfl, hE⟩
      exact hKO _ W1 hE rfl
     ·have e2 := isOf hp.1; simp only [e2] at hKO; go_simp; exact hKO _ W (.refl W) rfl
     ·have e3 := isOf hp.1; simp only [e3] at hKO; go_simp; exact hKO _ W (.refl W) rfl
     ·have e3 := isOf hp.1; simp only [e3] at hKO; go_simp; exact hKO _ W (.refl W) rfl
     ·have hn := Bx6.new W 29 (.bool false) (.slice none 0 0) (.slice none 0 0) (.bool false) (.slice none 0 0) (.slice none 0 0)
      have hE := Ext.alloc1 W (.cells #[.bool false, .slice none 0 0, .slice none 0 0, .bool false, .slice none 0 0, .slice none 0 0] 29)
      have hsz := hS.2.2.2.2.2
      go_simp
      exact hKO _ _ hE ⟨_, rfl, hsz, hn.form⟩
     ·have q6 := hp.1; have e4 := isOf hp.2.1; simp only [e4] at hKO
      obtain ⟨g, ev, hg, hf⟩ := q6
      replace ev : vs 6 = _ := ev
      obtain ⟨x0_0, x0_1, x0_2, x0_3, x0_4, x0_5, hx, hno⟩ := hf.bx6
      have r0 := hx.froz0
      have t0 := hx.cell0
      have r1 := hx.froz1
      have t1 := hx.cell1
      have r2 := hx.froz2
      have t2 := hx.cell2
      have r3 := hx.froz3
      have t3 := hx.cell3
      have r4 := hx.froz4
      have t4 := hx.cell4
      have r5 := hx.froz5
      have t5 := hx.cell5
      have hw := Wr.set6 hx hno false none 0 0 none 0 0 false none 0 0 none 0 0
      have hq := hx.set (.bool false) (.slice none 0 0) (.slice none 0 0) (.bool false) (.slice none 0 0) (.slice none 0 0)
      simp only [ev] at hKO; go_simp
      exact hKO _ _ hw ⟨(Ext.wr hS.1 hw (by omega)), (hS.2.1.wr hw (by omega)), (hS.2.2.1.wr hw (by omega)), (hS.2.2.2.1.wr hw), (hS.2.2.2.2.1.wr hw), (Nat.le_trans hS.2.2.2.2.2 hw.apart.size)⟩ ⟨g, ev, hg, hq⟩
     ·have e5 := isOf hp.1; simp only [e5] at hKO; go_simp; exact hKO _ W (.refl W) rfl
    intro vs W4 hS hp
    clear szw4 E0 p2 p3 hsp hsq
    obtain ⟨E0, p2, p3, hsp, hsq, sz4⟩ := hS
    obtain ⟨h4_0, h4_1, h4_2, h4_3, h4_4, h4_5, h4_6, h4_7, h4_8, -⟩ := hp
    obtain ⟨g4_7, ev4_7, hg4_7, p4_7⟩ := h4_7
    replace ev4_7 : vs 6 = _ := ev4_7
    replace h4_0 : vs 0 = .agg #[.bool b1, .slice a1 n1 c1, .slice d1 m1 o1, .bool bb1, .slice aa1 nn1 cc1, .slice dd1 mm1 oo1] := h4_0
    replace h4_1 : vs 1 = .agg #[.bool b2, .slice a2 n2 c2, .slice d2 m2 o2, .bool bb2, .slice aa2 nn2 cc2, .slice dd2 mm2 oo2] := h4_1
    replace h4_2 : vs 2 = .tuple #[.agg #[.bool false, .slice none 0 0, .slice none 0 0, .bool false, .slice none 0 0, .slice none 0 0], .int .i64 4] := h4_2
    replace h4_3 : vs 3 = .tuple #[.agg #[.bool false, .slice none 0 0, .slice none 0 0, .bool false, .slice none 0 0, .slice none 0 0], .int .i64 4] := h4_3
    replace h4_4 : vs 4 = .agg #[.bool false, .slice none 0 0, .slice none 0 0, .bool false, .slice none 0 0, .slice none 0 0] := h4_4
    replace h4_5 : vs 5 = .int .i64 4 := h4_5
    replace h4_8 : vs 8 = .int .i64 4 := h4_8
    simp only [ev4_7, h4_0, h4_1, h4_2, h4_3, h4_4, h4_5, h4_8]
    clear ev4_7 h4_0 h4_1 h4_2 h4_3 h4_4 h4_5 h4_8 h4_6
    obtain ⟨kp2_0, kp2_1, kp2_2, kp2_3, kp2_4, kp2_5⟩ := p2.c6
    obtain ⟨kp3_0, kp3_1, kp3_2, kp3_3, kp3_4, kp3_5⟩ := p3.c6
    obtain ⟨kp4_7_0, kp4_7_1, kp4_7_2, kp4_7_3, kp4_7_4, kp4_7_5⟩ := p4_7.c6
    go_upto_region 4 with (fail)
    clear kp2_0 kp2_1 kp2_2 kp2_3 kp2_4 kp2_5 kp3_0 kp3_1 kp3_2 kp3_3 kp3_4 kp3_5 kp4_7_0 kp4_7_1 kp4_7_2 kp4_7_3 kp4_7_4 kp4_7_5; have ltp4_7 := p4_7.lt; have szw5 := Ext.size E0
    refine region_gs [.one fun v _ => v = .agg #[.bool b1, .slice a1 n1 c1, .slice d1 m1 o1, .bool bb1, .slice aa1 nn1 cc1, .slice dd1 mm1 oo1],
      .one fun v _ => v = .agg #[.bool b2, .slice a2 n2 c2, .slice d2 m2 o2, .bool bb2, .slice aa2 nn2 cc2, .slice dd2 mm2 oo2],
      .one fun v _ => v = .tuple #[.agg #[.bool false, .slice none 0 0, .slice none 0 0, .bool false, .slice none 0 0, .slice none 0 0], .int .i64 4],
      .one fun v _ => v = .tuple #[.agg #[.bool false, .slice none 0 0, .slice none 0 0, .bool false, .slice none 0 0, .slice none 0 0], .int .i64 4],
      .one fun v _ => v = .agg #[.bool false, .slice none 0 0, .slice none 0 0, .bool false, .slice none 0 0, .slice none 0 0],
      .one fun v _ => v = .int .i64 4,
      .one fun v W => ∃ g, v = .pointer (some ⟨g, 0, none⟩) ∧ W4.heap.size ≤ g ∧ Form W g 29 6,
      .two 6 (fun p _ W => New6 W4.heap.size 29 (.bool false) (.slice none 0 0) (.slice none 0 0) (.bool false) (.slice none 0 0) (.slice none 0 0) p W),
      .one fun v _ => v = .int .i64 4]
     (fun W => Ext w W ∧ Bx6 W w.heap.size 29 (.bool b1) (.slice a1 n1 c1) (.slice d1 m1 o1) (.bool bb1) (.slice aa1 nn1 cc1) (.slice dd1 mm1 oo1) ∧ Bx6 W (w.heap.size + 1) 29 (.bool b2) (.slice a2 n2 c2) (.slice d2 m2 o2) (.bool bb2) (.slice aa2 nn2 cc2) (.slice dd2 mm2 oo2) ∧ Sw W (.agg #[.bool b1, .slice a1 n1 c1, .slice d1 m1 o1, .bool bb1, .slice aa1 nn1 cc1, .slice dd1 mm1 oo1]) p ∧ Sw W (.agg #[.bool b2, .slice a2 n2 c2, .slice d2 m2 o2, .bool bb2, .slice aa2 nn2 cc2, .slice dd2 mm2 oo2]) q ∧ Bx6 W g4_7 29 (.bool false) (.slice none 0 0) (.slice none 0 0) (.bool false) (.slice none 0 0) (.slice none 0 0) ∧ W4.heap.size ≤ W.heap.size) ⟨Good.is _, Good.is _, Good.is _, Good.is _, Good.is _, Good.is _, Good.box _ _ _, cert_new6, Good.is _, trivial⟩
     ⟨E0, p2, p3, hsp, hsq, p4_7, Nat.le_refl _⟩ (A := ?A5) ?hA5 ?howe5 ?hfin5
    case hA5 =>
     intro vs
     simp only [putAll, Act.put, sA, sZ, sS, Nat.zero_add, Nat.reduceAdd]
     exact rfl
    case howe5 =>
     clear E0 p2 p3 hsp hsq p4_7
     intro hf
     refine ⟨oE 0 [] hf rfl ?_, oE 1 [] hf rfl ?_, oE 2 [0, 1] hf rfl ?_, oE 3 [2] hf rfl ?_, oE 4 [3] hf rfl ?_, oE 5 [3] hf rfl ?_, oE 6 [] hf rfl ?_, oW 7 [6, 4] hf rfl ?_, oE 8 [5] hf rfl ?_, trivial⟩
     all_goals intro vs W hS hp hx KO hKO
     all_goals simp only [Act.put, sA, sZ, sS] at hKO
     ·have fc0 := hS.2.1.cell0; have fc1 := hS.2.1.cell1; have fc2 := hS.2.1.cell2; have fc3 := hS.2.1.cell3; have fc4 := hS.2.1.cell4; have fc5 := hS.2.1.cell5; go_simp; exact hKO _ W (.refl W) rfl
     ·have fc0 := hS.2.2.1.cell0; have fc1 := hS.2.2.1.cell1; have fc2 := hS.2.2.1.cell2; have fc3 := hS.2.2.1.cell3; have fc4 := hS.2.2.1.cell4; have fc5 := hS.2.2.1.cell5; go_simp; exact hKO _ W (.refl W) rfl
     ·have e0 := isOf hp.1; have e1 := isOf hp.2.1; simp only [e0, e1] at hKO; go_simp
      refine (Tryz.rsDiv0 (hS.2.2.2.1) (hS.2.2.2.2.1) SQ.out (by omega) (by omega) HH.out).mono ?_
      rintro e W1 ⟨rfl, hE⟩
      exact hKO _ W1 hE rfl
     ·have e2 := isOf hp.1; simp only [e2] at hKO; go_simp; exact hKO _ W (.refl W) rfl
     ·have e3 := isOf hp.1; simp only [e3] at hKO; go_simp; exact hKO _ W (.refl W) rfl
     ·have e3 := isOf hp.1; simp only [e3] at hKO; go_simp; exact hKO _ W (.refl W) rfl
     ·have hn := Bx6.new W 29 (.bool false) (.slice none 0 0) (.slice none 0 0) (.bool false) (.slice none 0 0) (.slice none 0 0)
      have hE := Ext.alloc1 W (.cells #[.bool false, .slice none 0 0, .slice none 0 0, .bool false, .slice none 0 0, .slice none 0 0] 29)
      have hsz := hS.2.2.2.2.2.2
      go_simp
      exact hKO _ _ hE ⟨_, rfl, hsz, hn.form⟩
     ·have q6 := hp.1; have e4 := isOf hp.2.1; simp only [e4] at hKO
      obtain ⟨g, ev, hg, hf⟩ := q6
      replace ev : vs 6 = _ := ev
      obtain ⟨x0_0, x0_1, x0_2, x0_3, x0_4, x0_5, hx, hno⟩ := hf.bx6
      have r0 := hx.froz0
      have t0 := hx.cell0
      have r1 := hx.froz1
      have t1 := hx.cell1
      have r2 := hx.froz2
      have t2 := hx.cell2
      have r3 := hx.froz3
      have t3 := hx.cell3
      have r4 := hx.froz4
      have t4 := hx.cell4
      have r5 := hx.froz5
      have t5 := hx.cell5
      have hw := Wr.set6 hx hno false none 0 0 none 0 0 false none 0 0 none 0 0
      have hq := hx.set (.bool false) (.slice none 0 0) (.slice none 0 0) (.bool false) (.slice none 0 0) (.slice none 0 0)
      simp only [ev] at hKO; go_simp
      exact hKO _ _ hw ⟨(Ext.wr hS.1 hw (by omega)), (hS.2.1.wr hw (by omega)), (hS.2.2.1.wr hw (by omega)), (hS.2.2.2.1.wr hw), (hS.2.2.2.2.1.wr hw), (hS.2.2.2.2.2.1.wr hw (by omega)), (Nat.le_trans hS.2.2.2.2.2.2 hw.apart.size)⟩ ⟨g, ev, hg, hq⟩
     ·have e5 := isOf hp.1; simp only [e5] at hKO; go_simp; exact hKO _ W (.refl W) rfl
    intro vs W5 hS hp
    clear szw5 E0 p2 p3 hsp hsq p4_7
    obtain ⟨E0, p2, p3, hsp, hsq, p4_7, sz5⟩ := hS
    obtain ⟨h5_0, h5_1, h5_2, h5_3, h5_4, h5_5, h5_6, h5_7, h5_8, -⟩ := hp
    obtain ⟨g5_7, ev5_7, hg5_7, p5_7⟩ := h5_7
    replace ev5_7 : vs 6 = _ := ev5_7
    replace h5_0 : vs 0 = .agg #[.bool b1, .slice a1 n1 c1, .slice d1 m1 o1, .bool bb1, .slice aa1 nn1 cc1, .slice dd1 mm1 oo1] := h5_0
    replace h5_1 : vs 1 = .agg #[.bool b2, .slice a2 n2 c2, .slice d2 m2 o2, .bool bb2, .slice aa2 nn2 cc2, .slice dd2 mm2 oo2] := h5_1
    replace h5_2 : vs 2 = .tuple #[.agg #[.bool false, .slice none 0 0, .slice none 0 0, .bool false, .slice none 0 0, .slice none 0 0], .int .i64 4] := h5_2
    replace h5_3 : vs 3 = .tuple #[.agg #[.bool false, .slice none 0 0, .slice none 0 0, .bool false, .slice none 0 0, .slice none 0 0], .int .i64 4] := h5_3
    replace h5_4 : vs 4 = .agg #[.bool false, .slice none 0 0, .slice none 0 0, .bool false, .slice none 0 0, .slice none 0 0] := h5_4
    replace h5_5 : vs 5 = .int .i64 4 := h5_5
    replace h5_8 : vs 8 = .int .i64 4 := h5_8
    simp only [ev5_7, h5_0, h5_1, h5_2, h5_3, h5_4, h5_5, h5_8]
    clear ev5_7 h5_0 h5_1 h5_2 h5_3 h5_4 h5_5 h5_8 h5_6
    obtain ⟨kp2_0, kp2_1, kp2_2, kp2_3, kp2_4, kp2_5⟩ := p2.c6
    obtain ⟨kp3_0, kp3_1, kp3_2, kp3_3, kp3_4, kp3_5⟩ := p3.c6
    obtain ⟨kp4_7_0, kp4_7_1, kp4_7_2, kp4_7_3, kp4_7_4, kp4_7_5⟩ := p4_7.c6
    obtain ⟨kp5_7_0, kp5_7_1, kp5_7_2, kp5_7_3, kp5_7_4, kp5_7_5⟩ := p5_7.c6
    go_upto_region 5 with (fail)
    clear kp2_0 kp2_1 kp2_2 kp2_3 kp2_4 kp2_5 kp3_0 kp3_1 kp3_2 kp3_3 kp3_4 kp3_5 kp4_7_0 kp4_7_1 kp4_7_2 kp4_7_3 kp4_7_4 kp4_7_5 kp5_7_0 kp5_7_1 kp5_7_2 kp5_7_3 kp5_7_4 kp5_7_5; have ltp5_7 := p5_7.lt; have szw6 := Ext.size E0
    refine region_gs [.one fun v _ => v = .bool true,
      .one fun v _ => v = .bool true,
      .one fun v _ => v = .agg #[.bool b1, .slice a1 n1 c1, .slice d1 m1 o1, .bool bb1, .slice aa1 nn1 cc1, .slice dd1 mm1 oo1],
      .one fun v _ => v = .agg #[.bool b2, .slice a2 n2 c2, .slice d2 m2 o2, .bool bb2, .slice aa2 nn2 cc2, .slice dd2 mm2 oo2],
      .one fun v W => Sw W v ((p.1 + q.1, p.2 + q.2)),
      .one fun v _ => v = .agg #[.bool b1, .slice a1 n1 c1, .slice d1 m1 o1, .bool bb1, .slice aa1 nn1 cc1, .slice dd1 mm1 oo1],
      .one fun v _ => v = .agg #[.bool b2, .slice a2 n2 c2, .slice d2 m2 o2, .bool bb2, .slice aa2 nn2 cc2, .slice dd2 mm2 oo2],
      .one fun v W => Sw W v ((p.1 + q.1, p.2 + q.2)),
      .one fun v _ => v = .bool true,
      .one fun v _ => v = .bool true,
      .one fun v _ => v = .bool true,
      .one fun v _ => v = .agg #[.bool b1, .slice a1 n1 c1, .slice d1 m1 o1, .bool bb1, .slice aa1 nn1 cc1, .slice dd1 mm1 oo1],
      .one fun v _ => v = .agg #[.bool b2, .slice a2 n2 c2, .slice d2 m2 o2, .bool bb2, .slice aa2 nn2 cc2, .slice dd2 mm2 oo2],
      .one fun v W => Sw W v (mulS p q),
      .one fun v _ => v = .agg #[.bool b1, .slice a1 n1 c1, .slice d1 m1 o1, .bool bb1, .slice aa1 nn1 cc1, .slice dd1 mm1 oo1],
      .one fun v _ => v = .agg #[.bool b2, .slice a2 n2 c2, .slice d2 m2 o2, .bool bb2, .slice aa2 nn2 cc2, .slice dd2 mm2 oo2],
      .one fun v W => Sw W v (mulS p q),
      .one fun v _ => v = .bool true,
      .one fun v _ => v = .bool true,
      .one fun v _ => v = .bool true,
      .one fun v _ => v = .agg #[.bool false, .slice none 0 0, .slice none 0 0, .bool false, .slice none 0 0, .slice none 0 0],
      .one fun v _ => v = .agg #[.bool false, .slice none 0 0, .slice none 0 0, .bool false, .slice none 0 0, .slice none 0 0],
      .one fun v _ => v = .bool true,
      .one fun v _ => v = .bool true,
      .one fun v _ => v = .bool true,
      .one fun v _ => v = .int .i64 4,
      .one fun v _ => v = .int .i64 4,
      .one fun v _ => v = .bool true,
      .one fun v _ => v = .bool true,
      .one fun v _ => v = .bool true]
     (fun W => Ext w W ∧ Bx6 W w.heap.size 29 (.bool b1) (.slice a1 n1 c1) (.slice d1 m1 o1) (.bool bb1) (.slice aa1 nn1 cc1) (.slice dd1 mm1 oo1) ∧ Bx6 W (w.heap.size + 1) 29 (.bool b2) (.slice a2 n2 c2) (.slice d2 m2 o2) (.bool bb2) (.slice aa2 nn2 cc2) (.slice dd2 mm2 oo2) ∧ Sw W (.agg #[.bool b1, .slice a1 n1 c1, .slice d1 m1 o1, .bool bb1, .slice aa1 nn1 cc1, .slice dd1 mm1 oo1]) p ∧ Sw W (.agg #[.bool b2, .slice a2 n2 c2, .slice d2 m2 o2, .bool bb2, .slice aa2 nn2 cc2, .slice dd2 mm2 oo2]) q ∧ Bx6 W g4_7 29 (.bool false) (.slice none 0 0) (.slice none 0 0) (.bool false) (.slice none 0 0) (.slice none 0 0) ∧ Bx6 W g5_7 29 (.bool false) (.slice none 0 0) (.slice none 0 0) (.bool false) (.slice none 0 0) (.slice none 0 0) ∧ W5.heap.size ≤ W.heap.size) ⟨Good.is _, Good.is _, Good.is _, Good.is _, Good.span _, Good.is _, Good.is _, Good.span _, Good.is _, Good.is _, Good.is _, Good.is _, Good.is _, Good.span _, Good.is _, Good.is _, Good.span _, Good.is _, Good.is _, Good.is _, Good.is _, Good.is _, Good.is _, Good.is _, Good.is _, Good.is _, Good.is _, Good.is _, Good.is _, Good.is _, trivial⟩
     ⟨E0, p2, p3, hsp, hsq, p4_7, p5_7, Nat.le_refl _⟩ (A := ?A6) ?hA6 ?howe6 ?hfin6
    case hA6 =>
     intro vs
     simp only [putAll, Act.put, sA, sZ, sS, Nat.zero_add, Nat.reduceAdd]
     exact rfl
    case howe6 =>
     clear E0 p2 p3 hsp hsq p4_7 p5_7
     intro hf
     refine ⟨oE 0 [] hf rfl ?_, oE 1 [0] hf rfl ?_, oE 2 [1] hf rfl ?_, oE 3 [1] hf rfl ?_, oE 4 [1, 2, 3] hf rfl ?_, oE 5 [1] hf rfl ?_, oE 6 [1] hf rfl ?_, oE 7 [1, 5, 6] hf rfl ?_, oE 8 [1, 4, 7] hf rfl ?_, oE 9 [1, 8] hf rfl ?_, oE 10 [9] hf rfl ?_, oE 11 [10] hf rfl ?_, oE 12 [10] hf rfl ?_, oE 13 [10, 11, 12] hf rfl ?_, oE 14 [10] hf rfl ?_, oE 15 [10] hf rfl ?_, oE 16 [10, 14, 15] hf rfl ?_, oE 17 [10, 13, 16] hf rfl ?_, oE 18 [10, 17] hf rfl ?_, oE 19 [18] hf rfl ?_, oE 20 [19] hf rfl ?_, oE 21 [19] hf rfl ?_, oE 22 [19, 20, 21] hf rfl ?_, oE 23 [19, 22] hf rfl ?_, oE 24 [23] hf rfl ?_, oE 25 [24] hf rfl ?_, oE 26 [24] hf rfl ?_, oE 27 [24, 25, 26] hf rfl ?_, oE 28 [24, 27] hf rfl ?_, oE 29 [28] hf rfl ?_, trivial⟩
     all_goals intro vs W hS hp hx KO hKO
     all_goals simp only [Act.put, sA, sZ, sS] at hKO
     ·go_simp
      refine (Tryz.alive07 _).mono ?_
      rintro e W1 ⟨rfl, hE⟩
      exact hKO _ W1 hE rfl
     ·have e0 := isOf hp.1; simp only [e0] at hKO; go_simp; exact hKO _ W (.refl W) rfl
     ·have e1 := isOf hp.1; simp only [e1] at hKO; have fc0 := hS.2.1.cell0; have fc1 := hS.2.1.cell1; have fc2 := hS.2.1.cell2; have fc3 := hS.2.1.cell3; have fc4 := hS.2.1.cell4; have fc5 := hS.2.1.cell5; go_simp; exact hKO _ W (.refl W) rfl
     ·have e1 := isOf hp.1; simp only [e1] at hKO; have fc0 := hS.2.2.1.cell0; have fc1 := hS.2.2.1.cell1; have fc2 := hS.2.2.1.cell2; have fc3 := hS.2.2.1.cell3; have fc4 := hS.2.2.1.cell4; have fc5 := hS.2.2.1.cell5; go_simp; exact hKO _ W (.refl W) rfl
     ·have e1 := isOf hp.1; have e2 := isOf hp.2.1; have e3 := isOf hp.2.2.1; simp only [e1, e2, e3] at hKO; go_simp
      refine (Tryz.ivAdd (hS.2.2.2.1) (hS.2.2.2.2.1) SP.out SQ.out (by omega)).mono ?_
      rintro e W1 ⟨v, rfl, hv, hE⟩
      exact hKO _ W1 hE hv
     ·have e1 := isOf hp.1; simp only [e1] at hKO; have fc0 := hS.2.1.cell0; have fc1 := hS.2.1.cell1; have fc2 := hS.2.1.cell2; have fc3 := hS.2.1.cell3; have fc4 := hS.2.1.cell4; have fc5 := hS.2.1.cell5; go_simp; exact hKO _ W (.refl W) rfl
     ·have e1 := isOf hp.1; simp only [e1] at hKO; have fc0 := hS.2.2.1.cell0; have fc1 := hS.2.2.1.cell1; have fc2 := hS.2.2.1.cell2; have fc3 := hS.2.2.1.cell3; have fc4 := hS.2.2.1.cell4; have fc5 := hS.2.2.1.cell5; go_simp; exact hKO _ W (.refl W) rfl
     ·have e1 := isOf hp.1; have e5 := isOf hp.2.1; have e6 := isOf hp.2.2.1; simp only [e1, e5, e6] at hKO; go_simp
      refine (Tryz.rsAdd (hS.2.2.2.1) (hS.2.2.2.2.1) SP.out SQ.out (by omega)).mono ?_
      rintro e W1 ⟨v, rfl, hv, hE⟩
      exact hKO _ W1 hE hv
     ·have e1 := isOf hp.1; have q4 := hp.2.1; have q7 := hp.2.2.1; simp only [e1] at hKO; go_simp
      refine (Tryz.rsSameT q4 q7 rfl).mono ?_
      rintro e W1 ⟨rfl, hE⟩
      exact hKO _ W1 hE rfl
     ·have e1 := isOf hp.1; have e8 := isOf hp.2.1; simp only [e1, e8] at hKO; go_simp; exact hKO _ W (.refl W) rfl
     ·have e9 := isOf hp.1; simp only [e9] at hKO; go_simp; exact hKO _ W (.refl W) rfl
     ·have e10 := isOf hp.1; simp only [e10] at hKO; have fc0 := hS.2.1.cell0; have fc1 := hS.2.1.cell1; have fc2 := hS.2.1.cell2; have fc3 := hS.2.1.cell3; have fc4 := hS.2.1.cell4; have fc5 := hS.2.1.cell5; go_simp; exact hKO _ W (.refl W) rfl
     ·have e10 := isOf hp.1; simp only [e10] at hKO; have fc0 := hS.2.2.1.cell0; have fc1 := hS.2.2.1.cell1; have fc2 := hS.2.2.1.cell2; have fc3 := hS.2.2.1.cell3; have fc4 := hS.2.2.1.cell4; have fc5 := hS.2.2.1.cell5; go_simp; exact hKO _ W (.refl W) rfl
     ·have e10 := isOf hp.1; have e11 := isOf hp.2.1; have e12 := isOf hp.2.2.1; simp only [e10, e11, e12] at hKO; go_simp
      refine (Tryz.ivMul (hS.2.2.2.1) (hS.2.2.2.2.1) SP.out SQ.out (by omega)).mono ?_
      rintro e W1 ⟨v, rfl, hv, hE⟩
      exact hKO _ W1 hE hv
     ·have e10 := isOf hp.1; simp only [e10] at hKO; have fc0 := hS.2.1.cell0; have fc1 := hS.2.1.cell1; have fc2 := hS.2.1.cell2; have fc3 := hS.2.1.cell3; have fc4 := hS.2.1.cell4; have fc5 := hS.2.1.cell5; go_simp; exact hKO _ W (.refl W) rfl
     ·have e10 := isOf hp.1; simp only [e10] at hKO; have fc0 := hS.2.2.1.cell0; have fc1 := hS.2.2.1.cell1; have fc2 := hS.2.2.1.cell2; have fc3 := hS.2.2.1.cell3; have fc4 := hS.2.2.1.cell4; have fc5 := hS.2.2.1.cell5; go_simp; exact hKO _ W (.refl W) rfl
     ·have e10 := isOf hp.1; have e14 := isOf hp.2.1; have e15 := isOf hp.2.2.1; simp only [e10, e14, e15] at hKO; go_simp
      refine (Tryz.rsMul (hS.2.2.2.1) (hS.2.2.2.2.1) SP.out SQ.out (by omega)).mono ?_
      rintro e W1 ⟨v, rfl, hv, hE⟩
      exact hKO _ W1 hE hv
     ·have e10 := isOf hp.1; have q13 := hp.2.1; have q16 := hp.2.2.1; simp only [e10] at hKO; go_simp
      refine (Tryz.rsSameT q13 q16 rfl).mono ?_
      rintro e W1 ⟨rfl, hE⟩
      exact hKO _ W1 hE rfl
     ·have e10 := isOf hp.1; have e17 := isOf hp.2.1; simp only [e10, e17] at hKO; go_simp; exact hKO _ W (.refl W) rfl
     ·have e18 := isOf hp.1; simp only [e18] at hKO; go_simp; exact hKO _ W (.refl W) rfl
     ·have e19 := isOf hp.1; simp only [e19] at hKO; have fc0 := hS.2.2.2.2.2.1.cell0; have fc1 := hS.2.2.2.2.2.1.cell1; have fc2 := hS.2.2.2.2.2.1.cell2; have fc3 := hS.2.2.2.2.2.1.cell3; have fc4 := hS.2.2.2.2.2.1.cell4; have fc5 := hS.2.2.2.2.2.1.cell5; go_simp; exact hKO _ W (.refl W) rfl
     ·have e19 := isOf hp.1; simp only [e19] at hKO; have fc0 := hS.2.2.2.2.2.2.1.cell0; have fc1 := hS.2.2.2.2.2.2.1.cell1; have fc2 := hS.2.2.2.2.2.2.1.cell2; have fc3 := hS.2.2.2.2.2.2.1.cell3; have fc4 := hS.2.2.2.2.2.2.1.cell4; have fc5 := hS.2.2.2.2.2.2.1.cell5; go_simp; exact hKO _ W (.refl W) rfl
     ·have e19 := isOf hp.1; have e20 := isOf hp.2.1; have e21 := isOf hp.2.2.1; simp only [e19, e20, e21] at hKO; go_simp
      refine (Tryz.rsSame0 _).mono ?_
      rintro e W1 ⟨rfl, hE⟩
      exact hKO _ W1 hE rfl
     ·have e19 := isOf hp.1; have e22 := isOf hp.2.1; simp only [e19, e22] at hKO; go_simp; exact hKO _ W (.refl W) rfl
     ·have e23 := isOf hp.1; simp only [e23] at hKO; go_simp; exact hKO _ W (.refl W) rfl
     ·have e24 := isOf hp.1; simp only [e24] at hKO; go_simp; exact hKO _ W (.refl W) rfl
     ·have e24 := isOf hp.1; simp only [e24] at hKO; go_simp; exact hKO _ W (.refl W) rfl
     ·have e24 := isOf hp.1; have e25 := isOf hp.2.1; have e26 := isOf hp.2.2.1; simp only [e24, e25, e26] at hKO; go_simp; exact hKO _ W (.refl W) rfl
     ·have e24 := isOf hp.1; have e27 := isOf hp.2.1; simp only [e24, e27] at hKO; go_simp; exact hKO _ W (.refl W) rfl
     ·have e28 := isOf hp.1; simp only [e28] at hKO; go_simp; exact hKO _ W (.refl W) rfl
    intro vs W6 hS hp
    clear szw6 E0 p2 p3 hsp hsq p4_7 p5_7
    obtain ⟨E0, p2, p3, hsp, hsq, p4_7, p5_7, sz6⟩ := hS
    obtain ⟨h6_0, h6_1, h6_2, h6_3, h6_4, h6_5, h6_6, h6_7, h6_8, h6_9, h6_10, h6_11, h6_12, h6_13, h6_14, h6_15, h6_16, h6_17, h6_18, h6_19, h6_20, h6_21, h6_22, h6_23, h6_24, h6_25, h6_26, h6_27, h6_28, h6_29, -⟩ := hp
    replace h6_0 : vs 0 = .bool true := h6_0
    replace h6_1 : vs 1 = .bool true := h6_1
    replace h6_2 : vs 2 = .agg #[.bool b1, .slice a1 n1 c1, .slice d1 m1 o1, .bool bb1, .slice aa1 nn1 cc1, .slice dd1 mm1 oo1] := h6_2
    replace h6_3 : vs 3 = .agg #[.bool b2, .slice a2 n2 c2, .slice d2 m2 o2, .bool bb2, .slice aa2 nn2 cc2, .slice dd2 mm2 oo2] := h6_3
    replace h6_5 : vs 5 = .agg #[.bool b1, .slice a1 n1 c1, .slice d1 m1 o1, .bool bb1, .slice aa1 nn1 cc1, .slice dd1 mm1 oo1] := h6_5
    replace h6_6 : vs 6 = .agg #[.bool b2, .slice a2 n2 c2, .slice d2 m2 o2, .bool bb2, .slice aa2 nn2 cc2, .slice dd2 mm2 oo2] := h6_6
    replace h6_8 : vs 8 = .bool true := h6_8
    replace h6_9 : vs 9 = .bool true := h6_9
    replace h6_10 : vs 10 = .bool true := h6_10
    replace h6_11 : vs 11 = .agg #[.bool b1, .slice a1 n1 c1, .slice d1 m1 o1, .bool bb1, .slice aa1 nn1 cc1, .slice dd1 mm1 oo1] := h6_11
    replace h6_12 : vs 12 = .agg #[.bool b2, .slice a2 n2 c2, .slice d2 m2 o2, .bool bb2, .slice aa2 nn2 cc2, .slice dd2 mm2 oo2] := h6_12
    replace h6_14 : vs 14 = .agg #[.bool b1, .slice a1 n1 c1, .slice d1 m1 o1, .bool bb1, .slice aa1 nn1 cc1, .slice dd1 mm1 oo1] := h6_14
    replace h6_15 : vs 15 = .agg #[.bool b2, .slice a2 n2 c2, .slice d2 m2 o2, .bool bb2, .slice aa2 nn2 cc2, .slice dd2 mm2 oo2] := h6_15
    replace h6_17 : vs 17 = .bool true := h6_17
    replace h6_18 : vs 18 = .bool true := h6_18
    replace h6_19 : vs 19 = .bool true := h6_19
    replace h6_20 : vs 20 = .agg #[.bool false, .slice none 0 0, .slice none 0 0, .bool false, .slice none 0 0, .slice none 0 0] := h6_20
    replace h6_21 : vs 21 = .agg #[.bool false, .slice none 0 0, .slice none 0 0, .bool false, .slice none 0 0, .slice none 0 0] := h6_21
    replace h6_22 : vs 22 = .bool true := h6_22
    replace h6_23 : vs 23 = .bool true := h6_23
    replace h6_24 : vs 24 = .bool true := h6_24
    replace h6_25 : vs 25 = .int .i64 4 := h6_25
    replace h6_26 : vs 26 = .int .i64 4 := h6_26
    replace h6_27 : vs 27 = .bool true := h6_27
    replace h6_28 : vs 28 = .bool true := h6_28
    replace h6_29 : vs 29 = .bool true := h6_29
    simp only [h6_0, h6_1, h6_2, h6_3, h6_5, h6_6, h6_8, h6_9, h6_10, h6_11, h6_12, h6_14, h6_15, h6_17, h6_18, h6_19, h6_20, h6_21, h6_22, h6_23, h6_24, h6_25, h6_26, h6_27, h6_28, h6_29]
    replace h6_4 : Sw W6 (vs 4) ((p.1 + q.1, p.2 + q.2)) := h6_4
    generalize vs 4 = u6_4 at h6_4 ⊢
    replace h6_7 : Sw W6 (vs 7) ((p.1 + q.1, p.2 + q.2)) := h6_7
    generalize vs 7 = u6_7 at h6_7 ⊢
    replace h6_13 : Sw W6 (vs 13) (mulS p q) := h6_13
    generalize vs 13 = u6_13 at h6_13 ⊢
    replace h6_16 : Sw W6 (vs 16) (mulS p q) := h6_16
    generalize vs 16 = u6_16 at h6_16 ⊢
    clear h6_0 h6_1 h6_2 h6_3 h6_5 h6_6 h6_8 h6_9 h6_10 h6_11 h6_12 h6_14 h6_15 h6_17 h6_18 h6_19 h6_20 h6_21 h6_22 h6_23 h6_24 h6_25 h6_26 h6_27 h6_28 h6_29
    obtain ⟨kp2_0, kp2_1, kp2_2, kp2_3, kp2_4, kp2_5⟩ := p2.c6
    obtain ⟨kp3_0, kp3_1, kp3_2, kp3_3, kp3_4, kp3_5⟩ := p3.c6
    obtain ⟨kp4_7_0, kp4_7_1, kp4_7_2, kp4_7_3, kp4_7_4, kp4_7_5⟩ := p4_7.c6
    obtain ⟨kp5_7_0, kp5_7_1, kp5_7_2, kp5_7_3, kp5_7_4, kp5_7_5⟩ := p5_7.c6
    clear hsp hsq h6_4 h6_7 h6_13 h6_16; go_wp2; go_ret
    exact ⟨rfl, E0⟩

end Go.Rt
