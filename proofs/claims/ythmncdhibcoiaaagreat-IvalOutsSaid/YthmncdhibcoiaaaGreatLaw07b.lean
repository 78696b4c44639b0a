/-
 Chapter 7: intervals rounded outward, and their roots, are as the document says.
-/
import Derived.Test.YthmncdhibcoiaaaGreatSqz
import Derived.Test.YthmncdhibcoiaaaGreatIvD
namespace Go.Rt
open Go Go.RowKit Go.Proofs

set_option maxRecDepth 100000 in
set_option maxHeartbeats 8000000 in
theorem Tryz.rsSame0 (w : World) :
  Calls Tryz.prog 14 #[.agg #[.bool false, .slice none 0 0, .slice none 0 0, .bool false, .slice none 0 0, .slice none 0 0], .agg #[.bool false, .slice none 0 0, .slice none 0 0, .bool false, .slice none 0 0, .slice none 0 0]] w fun e w' => e = .returned (.bool true) ∧ Ext w w' := by
 obtain ⟨W0, hW0⟩ : ∃ W0, W0 = ((w.alloc (.cells #[.bool false, .slice none 0 0, .slice none 0 0, .bool false, .slice none 0 0, .slice none 0 0] 29)).alloc (.cells #[.bool false, .slice none 0 0, .slice none 0 0, .bool false, .slice none 0 0, .slice none 0 0] 29)) := ⟨_, rfl⟩
 have E0 : Ext w W0 := by rw [hW0]; exact ((Ext.alloc1 w (.cells #[.bool false, .slice none 0 0, .slice none 0 0, .bool false, .slice none 0 0, .slice none 0 0] 29)).alloc (.cells #[.bool false, .slice none 0 0, .slice none 0 0, .bool false, .slice none 0 0, .slice none 0 0] 29))
 have p2 : Bx6 W0 w.heap.size 29 (.bool false) (.slice none 0 0) (.slice none 0 0) (.bool false) (.slice none 0 0) (.slice none 0 0) := by rw [hW0]; exact (Bx6.new w 29 (.bool false) (.slice none 0 0) (.slice none 0 0) (.bool false) (.slice none 0 0) (.slice none 0 0)).ext (Ext.alloc1 (w.alloc (.cells #[.bool false, .slice none 0 0, .slice none 0 0, .bool false, .slice none 0 0, .slice none 0 0] 29)) (.cells #[.bool false, .slice none 0 0, .slice none 0 0, .bool false, .slice none 0 0, .slice none 0 0] 29))
 have p3 : Bx6 W0 (w.heap.size + 1) 29 (.bool false) (.slice none 0 0) (.slice none 0 0) (.bool false) (.slice none 0 0) (.slice none 0 0) := by rw [hW0]; simpa using (Bx6.new (w.alloc (.cells #[.bool false, .slice none 0 0, .slice none 0 0, .bool false, .slice none 0 0, .slice none 0 0] 29)) 29 (.bool false) (.slice none 0 0) (.slice none 0 0) (.bool false) (.slice none 0 0) (.slice none 0 0))
 go_enter Tryz.func14, Tryz.ntmps14
 obtain ⟨kp2_0, kp2_1, kp2_2, kp2_3, kp2_4, kp2_5⟩ := p2.c6
 obtain ⟨kp3_0, kp3_1, kp3_2, kp3_3, kp3_4, kp3_5⟩ := p3.c6
 go_wp2_with fail
 rw [← hW0]
 clear hW0; clear kp2_0 kp2_1 kp2_2 kp2_3 kp2_4 kp2_5 kp3_0 kp3_1 kp3_2 kp3_3 kp3_4 kp3_5
 refine (Tryz.refRSame0 _).mono ?_
 rintro e W1 ⟨rfl, hE⟩
 replace E0 := (Ext.trans E0 hE); replace p2 := (p2.ext hE); replace p3 := (p3.ext hE); clear hE
 obtain ⟨kp2_0, kp2_1, kp2_2, kp2_3, kp2_4, kp2_5⟩ := p2.c6
 obtain ⟨kp3_0, kp3_1, kp3_2, kp3_3, kp3_4, kp3_5⟩ := p3.c6
 go_wp2_with fail
 clear kp2_0 kp2_1 kp2_2 kp2_3 kp2_4 kp2_5 kp3_0 kp3_1 kp3_2 kp3_3 kp3_4 kp3_5
 refine (Tryz.refRSame0 _).mono ?_
 rintro e W2 ⟨rfl, hE⟩
 replace E0 := (Ext.trans E0 hE); replace p2 := (p2.ext hE); replace p3 := (p3.ext hE); clear hE
 obtain ⟨kp2_0, kp2_1, kp2_2, kp2_3, kp2_4, kp2_5⟩ := p2.c6
 obtain ⟨kp3_0, kp3_1, kp3_2, kp3_3, kp3_4, kp3_5⟩ := p3.c6
 go_wp2; go_ret
 exact ⟨rfl, E0⟩

set_option maxRecDepth 100000 in
set_option maxHeartbeats 8000000 in
theorem Tryz.lawIvalOuts {b1 : Bool} {a1 : Option Addr} {n1 c1 : Nat} {d1 : Option Addr} {m1 o1 : Nat} {bb1 : Bool} {aa1 : Option Addr} {nn1 cc1 : Nat} {dd1 : Option Addr} {mm1 oo1 : Nat} {xs1 ys1 us1 zs1 : List Nat} {w : World} (k : Int) (x11 : Nt w (.slice a1 n1 c1) xs1) (x12 : Nt w (.slice d1 m1 o1) ys1) (x13 : Nt w (.slice aa1 nn1 cc1) us1) (x14 : Nt w (.slice dd1 mm1 oo1) zs1) :
  Calls Tryz.prog 7 #[.agg #[.bool b1, .slice a1 n1 c1, .slice d1 m1 o1, .bool bb1, .slice aa1 nn1 cc1, .slice dd1 mm1 oo1], .int .i64 k] w fun e w' => e = .returned (.bool true) ∧ Ext w w' := by
 obtain ⟨W0, hW0⟩ : ∃ W0, W0 = (w.alloc (.cells #[.bool b1, .slice a1 n1 c1, .slice d1 m1 o1, .bool bb1, .slice aa1 nn1 cc1, .slice dd1 mm1 oo1] 29)) := ⟨_, rfl⟩
 have E0 : Ext w W0 := by rw [hW0]; exact (Ext.alloc1 w (.cells #[.bool b1, .slice a1 n1 c1, .slice d1 m1 o1, .bool bb1, .slice aa1 nn1 cc1, .slice dd1 mm1 oo1] 29))
 replace x11 : Nt W0 (.slice a1 n1 c1) xs1 := x11.ext E0
 replace x12 : Nt W0 (.slice d1 m1 o1) ys1 := x12.ext E0
 replace x13 : Nt W0 (.slice aa1 nn1 cc1) us1 := x13.ext E0
 replace x14 : Nt W0 (.slice dd1 mm1 oo1) zs1 := x14.ext E0
 have p2 : Bx6 W0 w.heap.size 29 (.bool b1) (.slice a1 n1 c1) (.slice d1 m1 o1) (.bool bb1) (.slice aa1 nn1 cc1) (.slice dd1 mm1 oo1) := by rw [hW0]; exact (Bx6.new w 29 (.bool b1) (.slice a1 n1 c1) (.slice d1 m1 o1) (.bool bb1) (.slice aa1 nn1 cc1) (.slice dd1 mm1 oo1))
 go_enter Tryz.func7, Tryz.ntmps7
 obtain ⟨kp2_0, kp2_1, kp2_2, kp2_3, kp2_4, kp2_5⟩ := p2.c6
 go_wp2_with fail
 rw [← hW0]
 clear hW0; clear kp2_0 kp2_1 kp2_2 kp2_3 kp2_4 kp2_5
 refine (Tryz.rsFew x11 x12 x13 x14 3 (by omega)).mono ?_
 rintro e WfB1 ⟨B1, rfl, hB1, hE⟩
 replace hB1 : B1 = true → ∃ p, Sw WfB1 (.agg #[.bool b1, .slice a1 n1 c1, .slice d1 m1 o1, .bool bb1, .slice aa1 nn1 cc1, .slice dd1 mm1 oo1]) p ∧ SmS 3 p ∧ p.1 ≤ p.2 := fun e => let ⟨p, k1, k2⟩ := hB1 e; ⟨p, k1.ext hE, k2⟩
 replace E0 := (Ext.trans E0 hE)
 replace x11 := (x11.ext hE)
 replace x12 := (x12.ext hE)
 replace x13 := (x13.ext hE)
 replace x14 := (x14.ext hE)
 replace p2 := (p2.ext hE); clear hE
 cases B1
 ·clear hB1
  obtain ⟨kp2_0, kp2_1, kp2_2, kp2_3, kp2_4, kp2_5⟩ := p2.c6
  go_wp2_with fail
  clear kp2_0 kp2_1 kp2_2 kp2_3 kp2_4 kp2_5
  refine (Tryz.alive07 _).mono ?_
  rintro e Wv ⟨rfl, hE⟩
  replace E0 := (Ext.trans E0 hE)
  replace x11 := (x11.ext hE)
  replace x12 := (x12.ext hE)
  replace x13 := (x13.ext hE)
  replace x14 := (x14.ext hE)
  replace p2 := (p2.ext hE); clear hE
  obtain ⟨kp2_0, kp2_1, kp2_2, kp2_3, kp2_4, kp2_5⟩ := p2.c6
  clear x11 x12 x13 x14; go_wp2; go_ret
  exact ⟨rfl, E0⟩
 ·obtain ⟨p, hsp, sp, hle⟩ := hB1 rfl
  have SP := Lib.hid sp
  have HLE := Lib.hid hle
  clear sp hle hB1; clear x11 x12 x13 x14
  by_cases hk : k < 0 ∨ 1000 < k
  ·have HK := Lib.hid hk
   have hkt : (decide (k > 300) && decide (k ≤ 1000)) = false := by rcases hk with h | h; (rw [decide_eq_false (by omega : ¬ k > 300)]; rfl); (rw [decide_eq_false (by omega : ¬ k ≤ 1000), Bool.and_false])
   by_cases hk3 : k > 300
   ·have hk4 : ¬ k ≤ 1000 := by omega
    clear hk hkt
    obtain ⟨kp2_0, kp2_1, kp2_2, kp2_3, kp2_4, kp2_5⟩ := p2.c6
    go_upto_region 3 with (fail)
    clear kp2_0 kp2_1 kp2_2 kp2_3 kp2_4 kp2_5; have ltp2 := p2.lt; have szw1 := Ext.size E0
    refine region_gs [.one fun v _ => v = .agg #[.bool b1, .slice a1 n1 c1, .slice d1 m1 o1, .bool bb1, .slice aa1 nn1 cc1, .slice dd1 mm1 oo1],
      .one fun v _ => v = .int .i64 k,
      .one fun v _ => v = .tuple #[.agg #[.bool false, .slice none 0 0, .slice none 0 0, .bool false, .slice none 0 0, .slice none 0 0], .int .i64 1],
      .one fun v _ => v = .tuple #[.agg #[.bool false, .slice none 0 0, .slice none 0 0, .bool false, .slice none 0 0, .slice none 0 0], .int .i64 1],
      .one fun v _ => v = .agg #[.bool false, .slice none 0 0, .slice none 0 0, .bool false, .slice none 0 0, .slice none 0 0],
      .one fun v _ => v = .int .i64 1,
      .one fun v W => ∃ g, v = .pointer (some ⟨g, 0, none⟩) ∧ WfB1.heap.size ≤ g ∧ Form W g 29 6,
      .two 6 (fun p _ W => New6 WfB1.heap.size 29 (.bool false) (.slice none 0 0) (.slice none 0 0) (.bool false) (.slice none 0 0) (.slice none 0 0) p W),
      .one fun v _ => v = .int .i64 1]
     (fun W => Ext w W ∧ Bx6 W w.heap.size 29 (.bool b1) (.slice a1 n1 c1) (.slice d1 m1 o1) (.bool bb1) (.slice aa1 nn1 cc1) (.slice dd1 mm1 oo1) ∧ Sw W (.agg #[.bool b1, .slice a1 n1 c1, .slice d1 m1 o1, .bool bb1, .slice aa1 nn1 cc1, .slice dd1 mm1 oo1]) p ∧ WfB1.heap.size ≤ W.heap.size) ⟨Good.is _, Good.is _, Good.is _, Good.is _, Good.is _, Good.is _, Good.box _ _ _, cert_new6, Good.is _, trivial⟩
     ⟨E0, p2, hsp, Nat.le_refl _⟩ (A := ?A1) ?hA1 ?howe1 ?hfin1
    case hA1 =>
     intro vs
     simp only [putAll, Act.put, sA, sZ, sS, Nat.zero_add, Nat.reduceAdd]
     exact rfl
    case howe1 =>
     clear E0 p2 hsp
     intro hf
     refine ⟨oE 0 [] hf rfl ?_, oE 1 [] hf rfl ?_, oE 2 [0, 1] hf rfl ?_, oE 3 [2] hf rfl ?_, oE 4 [3] hf rfl ?_, oE 5 [3] hf rfl ?_, oE 6 [] hf rfl ?_, oW 7 [6, 4] hf rfl ?_, oE 8 [5] hf rfl ?_, trivial⟩
     all_goals intro vs W hS hp hx KO hKO
     all_goals simp only [Act.put, sA, sZ, sS] at hKO
     ·have fc0 := hS.2.1.cell0; have fc1 := hS.2.1.cell1; have fc2 := hS.2.1.cell2; have fc3 := hS.2.1.cell3; have fc4 := hS.2.1.cell4; have fc5 := hS.2.1.cell5; go_simp; exact hKO _ W (.refl W) rfl
     ·go_simp; exact hKO _ W (.refl W) rfl
     ·have e0 := isOf hp.1; have e1 := isOf hp.2.1; simp only [e0, e1] at hKO; go_simp
      refine (Tryz.ivOutGrid (hS.2.2.1) k HK.out).mono ?_
      rintro e W1 ⟨rfl, hE⟩
      exact hKO _ W1 hE rfl
     ·have e2 := isOf hp.1; simp only [e2] at hKO; go_simp; exact hKO _ W (.refl W) rfl
     ·have e3 := isOf hp.1; simp only [e3] at hKO; go_simp; exact hKO _ W (.refl W) rfl
     ·have e3 := isOf hp.1; simp only [e3] at hKO; go_simp; exact hKO _ W (.refl W) rfl
     ·have hn := Bx6.new W 29 (.bool false) (.slice none 0 0) (.slice none 0 0) (.bool false) (.slice none 0 0) (.slice none 0 0)
      have hE := Ext.alloc1 W (.cells #[.bool false, .slice none 0 0, .slice none 0 0, .bool false, .slice none 0 0, .slice none 0 0] 29)
      have hsz := hS.2.2.2
      go_simp
      exact hKO _ _ hE ⟨_, rfl, hsz, hn.form⟩
     ·have q6 := hp.1; have e4 := isOf hp.2.1; simp only [e4] at hKO
      obtain ⟨g, ev, hg, hf⟩ := q6
      replace ev : vs 6 = _ := ev
      obtain ⟨x0_0, x0_1, x0_2, x0_3, x0_4, x0_5, hx, hno⟩ := hf.bx6
      have r0 := hx.froz0
      have t0 := hx.cell0
      have r1 := hx.froz1
      have t1 := hx.cell1
      have r2 := hx.froz2
      have t2 := hx.cell2
      have r3 := hx.froz3
      have t3 := hx.cell3
      have r4 := hx.froz4
      have t4 := hx.cell4
      have r5 := hx.froz5
      have t5 := hx.cell5
      have hw := Wr.set6 hx hno false none 0 0 none 0 0 false none 0 0 none 0 0
      have hq := hx.set (.bool false) (.slice none 0 0) (.slice none 0 0) (.bool false) (.slice none 0 0) (.slice none 0 0)
      simp only [ev] at hKO; go_simp
      exact hKO _ _ hw ⟨(Ext.wr hS.1 hw (by omega)), (hS.2.1.wr hw (by omega)), (hS.2.2.1.wr hw), (Nat.le_trans hS.2.2.2 hw.apart.size)⟩ ⟨g, ev, hg, hq⟩
     ·have e5 := isOf hp.1; simp only [e5] at hKO; go_simp; exact hKO _ W (.refl W) rfl
    intro vs W1 hS hp
    clear szw1 E0 p2 hsp
    obtain ⟨E0, p2, hsp, sz1⟩ := hS
    obtain ⟨h1_0, h1_1, h1_2, h1_3, h1_4, h1_5, h1_6, h1_7, h1_8, -⟩ := hp
    obtain ⟨g1_7, ev1_7, hg1_7, p1_7⟩ := h1_7
    replace ev1_7 : vs 6 = _ := ev1_7
    replace h1_0 : vs 0 = .agg #[.bool b1, .slice a1 n1 c1, .slice d1 m1 o1, .bool bb1, .slice aa1 nn1 cc1, .slice dd1 mm1 oo1] := h1_0
    replace h1_1 : vs 1 = .int .i64 k := h1_1
    replace h1_2 : vs 2 = .tuple #[.agg #[.bool false, .slice none 0 0, .slice none 0 0, .bool false, .slice none 0 0, .slice none 0 0], .int .i64 1] := h1_2
    replace h1_3 : vs 3 = .tuple #[.agg #[.bool false, .slice none 0 0, .slice none 0 0, .bool false, .slice none 0 0, .slice none 0 0], .int .i64 1] := h1_3
    replace h1_4 : vs 4 = .agg #[.bool false, .slice none 0 0, .slice none 0 0, .bool false, .slice none 0 0, .slice none 0 0] := h1_4
    replace h1_5 : vs 5 = .int .i64 1 := h1_5
    replace h1_8 : vs 8 = .int .i64 1 := h1_8
    simp only [ev1_7, h1_0, h1_1, h1_2, h1_3, h1_4, h1_5, h1_8]
    clear ev1_7 h1_0 h1_1 h1_2 h1_3 h1_4 h1_5 h1_8 h1_6
    obtain ⟨kp2_0, kp2_1, kp2_2, kp2_3, kp2_4, kp2_5⟩ := p2.c6
    obtain ⟨kp1_7_0, kp1_7_1, kp1_7_2, kp1_7_3, kp1_7_4, kp1_7_5⟩ := p1_7.c6
    go_upto_region 4 with (fail)
    clear kp2_0 kp2_1 kp2_2 kp2_3 kp2_4 kp2_5 kp1_7_0 kp1_7_1 kp1_7_2 kp1_7_3 kp1_7_4 kp1_7_5; have ltp1_7 := p1_7.lt; have szw2 := Ext.size E0
    refine region_gs [.one fun v _ => v = .agg #[.bool b1, .slice a1 n1 c1, .slice d1 m1 o1, .bool bb1, .slice aa1 nn1 cc1, .slice dd1 mm1 oo1],
      .one fun v _ => v = .int .i64 k,
      .one fun v _ => v = .tuple #[.agg #[.bool false, .slice none 0 0, .slice none 0 0, .bool false, .slice none 0 0, .slice none 0 0], .int .i64 1],
      .one fun v _ => v = .tuple #[.agg #[.bool false, .slice none 0 0, .slice none 0 0, .bool false, .slice none 0 0, .slice none 0 0], .int .i64 1],
      .one fun v _ => v = .agg #[.bool false, .slice none 0 0, .slice none 0 0, .bool false, .slice none 0 0, .slice none 0 0],
      .one fun v _ => v = .int .i64 1,
      .one fun v W => ∃ g, v = .pointer (some ⟨g, 0, none⟩) ∧ W1.heap.size ≤ g ∧ Form W g 29 6,
      .two 6 (fun p _ W => New6 W1.heap.size 29 (.bool false) (.slice none 0 0) (.slice none 0 0) (.bool false) (.slice none 0 0) (.slice none 0 0) p W),
      .one fun v _ => v = .int .i64 1]
     (fun W => Ext w W ∧ Bx6 W w.heap.size 29 (.bool b1) (.slice a1 n1 c1) (.slice d1 m1 o1) (.bool bb1) (.slice aa1 nn1 cc1) (.slice dd1 mm1 oo1) ∧ Sw W (.agg #[.bool b1, .slice a1 n1 c1, .slice d1 m1 o1, .bool bb1, .slice aa1 nn1 cc1, .slice dd1 mm1 oo1]) p ∧ Bx6 W g1_7 29 (.bool false) (.slice none 0 0) (.slice none 0 0) (.bool false) (.slice none 0 0) (.slice none 0 0) ∧ W1.heap.size ≤ W.heap.size) ⟨Good.is _, Good.is _, Good.is _, Good.is _, Good.is _, Good.is _, Good.box _ _ _, cert_new6, Good.is _, trivial⟩
     ⟨E0, p2, hsp, p1_7, Nat.le_refl _⟩ (A := ?A2) ?hA2 ?howe2 ?hfin2
    case hA2 =>
     intro vs
     simp only [putAll, Act.put, sA, sZ, sS, Nat.zero_add, Nat.reduceAdd]
     exact rfl
    case howe2 =>
     clear E0 p2 hsp p1_7
     intro hf
     refine ⟨oE 0 [] hf rfl ?_, oE 1 [] hf rfl ?_, oE 2 [0, 1] hf rfl ?_, oE 3 [2] hf rfl ?_, oE 4 [3] hf rfl ?_, oE 5 [3] hf rfl ?_, oE 6 [] hf rfl ?_, oW 7 [6, 4] hf rfl ?_, oE 8 [5] hf rfl ?_, trivial⟩
     all_goals intro vs W hS hp hx KO hKO
     all_goals simp only [Act.put, sA, sZ, sS] at hKO
     ·have fc0 := hS.2.1.cell0; have fc1 := hS.2.1.cell1; have fc2 := hS.2.1.cell2; have fc3 := hS.2.1.cell3; have fc4 := hS.2.1.cell4; have fc5 := hS.2.1.cell5; go_simp; exact hKO _ W (.refl W) rfl
     ·go_simp; exact hKO _ W (.refl W) rfl
     ·have e0 := isOf hp.1; have e1 := isOf hp.2.1; simp only [e0, e1] at hKO; go_simp
      refine (Tryz.rsOutGrid (hS.2.2.1) k HK.out).mono ?_
      rintro e W1 ⟨rfl, hE⟩
      exact hKO _ W1 hE rfl
     ·have e2 := isOf hp.1; simp only [e2] at hKO; go_simp; exact hKO _ W (.refl W) rfl
     ·have e3 := isOf hp.1; simp only [e3] at hKO; go_simp; exact hKO _ W (.refl W) rfl
     ·have e3 := isOf hp.1; simp only [e3] at hKO; go_simp; exact hKO _ W (.refl W) rfl
     ·have hn := Bx6.new W 29 (.bool false) (.slice none 0 0) (.slice none 0 0) (.bool false) (.slice none 0 0) (.slice none 0 0)
      have hE := Ext.alloc1 W (.cells #[.bool false, .slice none 0 0, .slice none 0 0, .bool false, .slice none 0 0, .slice none 0 0] 29)
      have hsz := hS.2.2.2.2
      go_simp
      exact hKO _ _ hE ⟨_, rfl, hsz, hn.form⟩
     ·have q6 := hp.1; have e4 := isOf hp.2.1; simp only [e4] at hKO
      obtain ⟨g, ev, hg, hf⟩ := q6
      replace ev : vs 6 = _ := ev
      obtain ⟨x0_0, x0_1, x0_2, x0_3, x0_4, x0_5, hx, hno⟩ := hf.bx6
      have r0 := hx.froz0
      have t0 := hx.cell0
      have r1 := hx.froz1
      have t1 := hx.cell1
      have r2 := hx.froz2
      have t2 := hx.cell2
      have r3 := hx.froz3
      have t3 := hx.cell3
      have r4 := hx.froz4
      have t4 := hx.cell4
      have r5 := hx.froz5
      have t5 := hx.cell5
      have hw := Wr.set6 hx hno false none 0 0 none 0 0 false none 0 0 none 0 0
      have hq := hx.set (.bool false) (.slice none 0 0) (.slice none 0 0) (.bool false) (.slice none 0 0) (.slice none 0 0)
      simp only [ev] at hKO; go_simp
      exact hKO _ _ hw ⟨(Ext.wr hS.1 hw (by omega)), (hS.2.1.wr hw (by omega)), (hS.2.2.1.wr hw), (hS.2.2.2.1.wr hw (by omega)), (Nat.le_trans hS.2.2.2.2 hw.apart.size)⟩ ⟨g, ev, hg, hq⟩
     ·have e5 := isOf hp.1; simp only [e5] at hKO; go_simp; exact hKO _ W (.refl W) rfl
    intro vs W2 hS hp
    clear szw2 E0 p2 hsp p1_7
    obtain ⟨E0, p2, hsp, p1_7, sz2⟩ := hS
    obtain ⟨h2_0, h2_1, h2_2, h2_3, h2_4, h2_5, h2_6, h2_7, h2_8, -⟩ := hp
    obtain ⟨g2_7, ev2_7, hg2_7, p2_7⟩ := h2_7
    replace ev2_7 : vs 6 = _ := ev2_7
    replace h2_0 : vs 0 = .agg #[.bool b1, .slice a1 n1 c1, .slice d1 m1 o1, .bool bb1, .slice aa1 nn1 cc1, .slice dd1 mm1 oo1] := h2_0
    replace h2_1 : vs 1 = .int .i64 k := h2_1
    replace h2_2 : vs 2 = .tuple #[.agg #[.bool false, .slice none 0 0, .slice none 0 0, .bool false, .slice none 0 0, .slice none 0 0], .int .i64 1] := h2_2
    replace h2_3 : vs 3 = .tuple #[.agg #[.bool false, .slice none 0 0, .slice none 0 0, .bool false, .slice none 0 0, .slice none 0 0], .int .i64 1] := h2_3
    replace h2_4 : vs 4 = .agg #[.bool false, .slice none 0 0, .slice none 0 0, .bool false, .slice none 0 0, .slice none 0 0] := h2_4
    replace h2_5 : vs 5 = .int .i64 1 := h2_5
    replace h2_8 : vs 8 = .int .i64 1 := h2_8
    simp only [ev2_7, h2_0, h2_1, h2_2, h2_3, h2_4, h2_5, h2_8]
    clear ev2_7 h2_0 h2_1 h2_2 h2_3 h2_4 h2_5 h2_8 h2_6
    obtain ⟨kp2_0, kp2_1, kp2_2, kp2_3, kp2_4, kp2_5⟩ := p2.c6
    obtain ⟨kp1_7_0, kp1_7_1, kp1_7_2, kp1_7_3, kp1_7_4, kp1_7_5⟩ := p1_7.c6
    obtain ⟨kp2_7_0, kp2_7_1, kp2_7_2, kp2_7_3, kp2_7_4, kp2_7_5⟩ := p2_7.c6
    go_upto_region 5 with (fail)
    clear kp2_0 kp2_1 kp2_2 kp2_3 kp2_4 kp2_5 kp1_7_0 kp1_7_1 kp1_7_2 kp1_7_3 kp1_7_4 kp1_7_5 kp2_7_0 kp2_7_1 kp2_7_2 kp2_7_3 kp2_7_4 kp2_7_5; have ltp2_7 := p2_7.lt; have szw3 := Ext.size E0
    refine region_gs [.one fun v _ => v = .agg #[.bool b1, .slice a1 n1 c1, .slice d1 m1 o1, .bool bb1, .slice aa1 nn1 cc1, .slice dd1 mm1 oo1],
      .one fun v _ => v = .int .i64 k,
      .one fun v _ => v = .tuple #[.agg #[.bool false, .slice none 0 0, .slice none 0 0, .bool false, .slice none 0 0, .slice none 0 0], .int .i64 1],
      .one fun v _ => v = .tuple #[.agg #[.bool false, .slice none 0 0, .slice none 0 0, .bool false, .slice none 0 0, .slice none 0 0], .int .i64 1],
      .one fun v _ => v = .agg #[.bool false, .slice none 0 0, .slice none 0 0, .bool false, .slice none 0 0, .slice none 0 0],
      .one fun v _ => v = .int .i64 1,
      .one fun v W => ∃ g, v = .pointer (some ⟨g, 0, none⟩) ∧ W2.heap.size ≤ g ∧ Form W g 29 6,
      .two 6 (fun p _ W => New6 W2.heap.size 29 (.bool false) (.slice none 0 0) (.slice none 0 0) (.bool false) (.slice none 0 0) (.slice none 0 0) p W),
      .one fun v _ => v = .int .i64 1]
     (fun W => Ext w W ∧ Bx6 W w.heap.size 29 (.bool b1) (.slice a1 n1 c1) (.slice d1 m1 o1) (.bool bb1) (.slice aa1 nn1 cc1) (.slice dd1 mm1 oo1) ∧ Sw W (.agg #[.bool b1, .slice a1 n1 c1, .slice d1 m1 o1, .bool bb1, .slice aa1 nn1 cc1, .slice dd1 mm1 oo1]) p ∧ Bx6 W g1_7 29 (.bool false) (.slice none 0 0) (.slice none 0 0) (.bool false) (.slice none 0 0) (.slice none 0 0) ∧ Bx6 W g2_7 29 (.bool false) (.slice none 0 0) (.slice none 0 0) (.bool false) (.slice none 0 0) (.slice none 0 0) ∧ W2.heap.size ≤ W.heap.size) ⟨Good.is _, Good.is _, Good.is _, Good.is _, Good.is _, Good.is _, Good.box _ _ _, cert_new6, Good.is _, trivial⟩
     ⟨E0, p2, hsp, p1_7, p2_7, Nat.le_refl _⟩ (A := ?A3) ?hA3 ?howe3 ?hfin3
    case hA3 =>
     intro vs
     simp only [putAll, Act.put, sA, sZ, sS, Nat.zero_add, Nat.reduceAdd]
     exact rfl
    case howe3 =>
     clear E0 p2 hsp p1_7 p2_7
     intro hf
     refine ⟨oE 0 [] hf rfl ?_, oE 1 [] hf rfl ?_, oE 2 [0, 1] hf rfl ?_, oE 3 [2] hf rfl ?_, oE 4 [3] hf rfl ?_, oE 5 [3] hf rfl ?_, oE 6 [] hf rfl ?_, oW 7 [6, 4] hf rfl ?_, oE 8 [5] hf rfl ?_, trivial⟩
     all_goals intro vs W hS hp hx KO hKO
     all_goals simp only [Act.put, sA, sZ, sS] at hKO
     ·have fc0 := hS.2.1.cell0; have fc1 := hS.2.1.cell1; have fc2 := hS.2.1.cell2; have fc3 := hS.2.1.cell3; have fc4 := hS.2.1.cell4; have fc5 := hS.2.1.cell5; go_simp; exact hKO _ W (.refl W) rfl
     ·go_simp; exact hKO _ W (.refl W) rfl
     ·have e0 := isOf hp.1; have e1 := isOf hp.2.1; simp only [e0, e1] at hKO; go_simp
      refine (Tryz.ivSqrtGrid (hS.2.2.1) k HK.out).mono ?_
      rintro e W1 ⟨rfl, hE⟩
      exact hKO _ W1 hE rfl
     ·have e2 := isOf hp.1; simp only [e2] at hKO; go_simp; exact hKO _ W (.refl W) rfl
     ·have e3 := isOf hp.1; simp only [e3] at hKO; go_simp; exact hKO _ W (.refl W) rfl
     ·have e3 := isOf hp.1; simp only [e3] at hKO; go_simp; exact hKO _ W (.refl W) rfl
     ·have hn := Bx6.new W 29 (.bool false) (.slice none 0 0) (.slice none 0 0) (.bool false) (.slice none 0 0) (.slice none 0 0)
      have hE := Ext.alloc1 W (.cells #[.bool false, .slice none 0 0, .slice none 0 0, .bool false, .slice none 0 0, .slice none 0 0] 29)
      have hsz := hS.2.2.2.2.2
      go_simp
      exact hKO _ _ hE ⟨_, rfl, hsz, hn.form⟩
     ·have q6 := hp.1; have e4 := isOf hp.2.1; simp only [e4] at hKO
      obtain ⟨g, ev, hg, hf⟩ := q6
      replace ev : vs 6 = _ := ev
      obtain ⟨x0_0, x0_1, x0_2, x0_3, x0_4, x0_5, hx, hno⟩ := hf.bx6
      have r0 := hx.froz0
      have t0 := hx.cell0
      have r1 := hx.froz1
      have t1 := hx.cell1
      have r2 := hx.froz2
      have t2 := hx.cell2
      have r3 := hx.froz3
      have t3 := hx.cell3
      have r4 := hx.froz4
      have t4 := hx.cell4
      have r5 := hx.froz5
      have t5 := hx.cell5
      have hw := Wr.set6 hx hno false none 0 0 none 0 0 false none 0 0 none 0 0
      have hq := hx.set (.bool false) (.slice none 0 0) (.slice none 0 0) (.bool false) (.slice none 0 0) (.slice none 0 0)
      simp only [ev] at hKO; go_simp
      exact hKO _ _ hw ⟨(Ext.wr hS.1 hw (by omega)), (hS.2.1.wr hw (by omega)), (hS.2.2.1.wr hw), (hS.2.2.2.1.wr hw (by omega)), (hS.2.2.2.2.1.wr hw (by omega)), (Nat.le_trans hS.2.2.2.2.2 hw.apart.size)⟩ ⟨g, ev, hg, hq⟩
     ·have e5 := isOf hp.1; simp only [e5] at hKO; go_simp; exact hKO _ W (.refl W) rfl
    intro vs W3 hS hp
    clear szw3 E0 p2 hsp p1_7 p2_7
    obtain ⟨E0, p2, hsp, p1_7, p2_7, sz3⟩ := hS
    obtain ⟨h3_0, h3_1, h3_2, h3_3, h3_4, h3_5, h3_6, h3_7, h3_8, -⟩ := hp
    obtain ⟨g3_7, ev3_7, hg3_7, p3_7⟩ := h3_7
    replace ev3_7 : vs 6 = _ := ev3_7
    replace h3_0 : vs 0 = .agg #[.bool b1, .slice a1 n1 c1, .slice d1 m1 o1, .bool bb1, .slice aa1 nn1 cc1, .slice dd1 mm1 oo1] := h3_0
    replace h3_1 : vs 1 = .int .i64 k := h3_1
    replace h3_2 : vs 2 = .tuple #[.agg #[.bool false, .slice none 0 0, .slice none 0 0, .bool false, .slice none 0 0, .slice none 0 0], .int .i64 1] := h3_2
    replace h3_3 : vs 3 = .tuple #[.agg #[.bool false, .slice none 0 0, .slice none 0 0, .bool false, .slice none 0 0, .slice none 0 0], .int .i64 1] := h3_3
    replace h3_4 : vs 4 = .agg #[.bool false, .slice none 0 0, .slice none 0 0, .bool false, .slice none 0 0, .slice none 0 0] := h3_4
    replace h3_5 : vs 5 = .int .i64 1 := h3_5
    replace h3_8 : vs 8 = .int .i64 1 := h3_8
    simp only [ev3_7, h3_0, h3_1, h3_2, h3_3, h3_4, h3_5, h3_8]
    clear ev3_7 h3_0 h3_1 h3_2 h3_3 h3_4 h3_5 h3_8 h3_6
    obtain ⟨kp2_0, kp2_1, kp2_2, kp2_3, kp2_4, kp2_5⟩ := p2.c6
    obtain ⟨kp1_7_0, kp1_7_1, kp1_7_2, kp1_7_3, kp1_7_4, kp1_7_5⟩ := p1_7.c6
    obtain ⟨kp2_7_0, kp2_7_1, kp2_7_2, kp2_7_3, kp2_7_4, kp2_7_5⟩ := p2_7.c6
    obtain ⟨kp3_7_0, kp3_7_1, kp3_7_2, kp3_7_3, kp3_7_4, kp3_7_5⟩ := p3_7.c6
    go_upto_region 6 with (fail)
    clear kp2_0 kp2_1 kp2_2 kp2_3 kp2_4 kp2_5 kp1_7_0 kp1_7_1 kp1_7_2 kp1_7_3 kp1_7_4 kp1_7_5 kp2_7_0 kp2_7_1 kp2_7_2 kp2_7_3 kp2_7_4 kp2_7_5 kp3_7_0 kp3_7_1 kp3_7_2 kp3_7_3 kp3_7_4 kp3_7_5; have ltp3_7 := p3_7.lt; have szw4 := Ext.size E0
    refine region_gs [.one fun v _ => v = .agg #[.bool b1, .slice a1 n1 c1, .slice d1 m1 o1, .bool bb1, .slice aa1 nn1 cc1, .slice dd1 mm1 oo1],
      .one fun v _ => v = .int .i64 k,
      .one fun v _ => v = .tuple #[.agg #[.bool false, .slice none 0 0, .slice none 0 0, .bool false, .slice none 0 0, .slice none 0 0], .int .i64 1],
      .one fun v _ => v = .tuple #[.agg #[.bool false, .slice none 0 0, .slice none 0 0, .bool false, .slice none 0 0, .slice none 0 0], .int .i64 1],
      .one fun v _ => v = .agg #[.bool false, .slice none 0 0, .slice none 0 0, .bool false, .slice none 0 0, .slice none 0 0],
      .one fun v _ => v = .int .i64 1,
      .one fun v W => ∃ g, v = .pointer (some ⟨g, 0, none⟩) ∧ W3.heap.size ≤ g ∧ Form W g 29 6,
      .two 6 (fun p _ W => New6 W3.heap.size 29 (.bool false) (.slice none 0 0) (.slice none 0 0) (.bool false) (.slice none 0 0) (.slice none 0 0) p W),
      .one fun v _ => v = .int .i64 1]
     (fun W => Ext w W ∧ Bx6 W w.heap.size 29 (.bool b1) (.slice a1 n1 c1) (.slice d1 m1 o1) (.bool bb1) (.slice aa1 nn1 cc1) (.slice dd1 mm1 oo1) ∧ Sw W (.agg #[.bool b1, .slice a1 n1 c1, .slice d1 m1 o1, .bool bb1, .slice aa1 nn1 cc1, .slice dd1 mm1 oo1]) p ∧ Bx6 W g1_7 29 (.bool false) (.slice none 0 0) (.slice none 0 0) (.bool false) (.slice none 0 0) (.slice none 0 0) ∧ Bx6 W g2_7 29 (.bool false) (.slice none 0 0) (.slice none 0 0) (.bool false) (.slice none 0 0) (.slice none 0 0) ∧ Bx6 W g3_7 29 (.bool false) (.slice none 0 0) (.slice none 0 0) (.bool false) (.slice none 0 0) (.slice none 0 0) ∧ W3.heap.size ≤ W.heap.size) ⟨Good.is _, Good.is _, Good.is _, Good.is _, Good.is _, Good.is _, Good.box _ _ _, cert_new6, Good.is _, trivial⟩
     ⟨E0, p2, hsp, p1_7, p2_7, p3_7, Nat.le_refl _⟩ (A := ?A4) ?hA4 ?howe4 ?hfin4
    case hA4 =>
     intro vs
     simp only [putAll, Act.put, sA, sZ, sS, Nat.zero_add, Nat.reduceAdd]
     exact rfl
    case howe4 =>
     clear E0 p2 hsp p1_7 p2_7 p3_7
     intro hf
     refine ⟨oE 0 [] hf rfl ?_, oE 1 [] hf rfl ?_, oE 2 [0, 1] hf rfl ?_, oE 3 [2] hf rfl ?_, oE 4 [3] hf rfl ?_, oE 5 [3] hf rfl ?_, oE 6 [] hf rfl ?_, oW 7 [6, 4] hf rfl ?_, oE 8 [5] hf rfl ?_, trivial⟩
     all_goals intro vs W hS hp hx KO hKO
     all_goals simp only [Act.put, sA, sZ, sS] at hKO
     ·have fc0 := hS.2.1.cell0; have fc1 := hS.2.1.cell1; have fc2 := hS.2.1.cell2; have fc3 := hS.2.1.cell3; have fc4 := hS.2.1.cell4; have fc5 := hS.2.1.cell5; go_simp; exact hKO _ W (.refl W) rfl
     ·go_simp; exact hKO _ W (.refl W) rfl
     ·have e0 := isOf hp.1; have e1 := isOf hp.2.1; simp only [e0, e1] at hKO; go_simp
      refine (Tryz.rsSqrtGrid (hS.2.2.1) k HK.out).mono ?_
      rintro e W1 ⟨rfl, hE⟩
      exact hKO _ W1 hE rfl
     ·have e2 := isOf hp.1; simp only [e2] at hKO; go_simp; exact hKO _ W (.refl W) rfl
     ·have e3 := isOf hp.1; simp only [e3] at hKO; go_simp; exact hKO _ W (.refl W) rfl
     ·have e3 := isOf hp.1; simp only [e3] at hKO; go_simp; exact hKO _ W (.refl W) rfl
     ·have hn := Bx6.new W 29 (.bool false) (.slice none 0 0) (.slice none 0 0) (.bool false) (.slice none 0 0) (.slice none 0 0)
      have hE := Ext.alloc1 W (.cells #[.bool false, .slice none 0 0, .slice none 0 0, .bool false, .slice none 0 0, .slice none 0 0] 29)
      have hsz := hS.2.2.2.2.2.2
      go_simp
      exact hKO _ _ hE ⟨_, rfl, hsz, hn.form⟩
     ·have q6 := hp.1; have e4 := isOf hp.2.1; simp only [e4] at hKO
      obtain ⟨g, ev, hg, hf⟩ := q6
      replace ev : vs 6 = _ := ev
      obtain ⟨x0_0, x0_1, x0_2, x0_3, x0_4, x0_5, hx, hno⟩ := hf.bx6
      have r0 := hx.froz0
      have t0 := hx.cell0
      have r1 := hx.froz1
      have t1 := hx.cell1
      have r2 := hx.froz2
      have t2 := hx.cell2
      have r3 := hx.froz3
      have t3 := hx.cell3
      have r4 := hx.froz4
      have t4 := hx.cell4
      have r5 := hx.froz5
      have t5 := hx.cell5
      have hw := Wr.set6 hx hno false none 0 0 none 0 0 false none 0 0 none 0 0
      have hq := hx.set (.bool false) (.slice none 0 0) (.slice none 0 0) (.bool false) (.slice none 0 0) (.slice none 0 0)
      simp only [ev] at hKO; go_simp
      exact hKO _ _ hw ⟨(Ext.wr hS.1 hw (by omega)), (hS.2.1.wr hw (by omega)), (hS.2.2.1.wr hw), (hS.2.2.2.1.wr hw (by omega)), (hS.2.2.2.2.1.wr hw (by omega)), (hS.2.2.2.2.2.1.wr hw (by omega)), (Nat.le_trans hS.2.2.2.2.2.2 hw.apart.size)⟩ ⟨g, ev, hg, hq⟩
     ·have e5 := isOf hp.1; simp only [e5] at hKO; go_simp; exact hKO _ W (.refl W) rfl
    intro vs W4 hS hp
    clear szw4 E0 p2 hsp p1_7 p2_7 p3_7
    obtain ⟨E0, p2, hsp, p1_7, p2_7, p3_7, sz4⟩ := hS
    obtain ⟨h4_0, h4_1, h4_2, h4_3, h4_4, h4_5, h4_6, h4_7, h4_8, -⟩ := hp
    obtain ⟨g4_7, ev4_7, hg4_7, p4_7⟩ := h4_7
    replace ev4_7 : vs 6 = _ := ev4_7
    replace h4_0 : vs 0 = .agg #[.bool b1, .slice a1 n1 c1, .slice d1 m1 o1, .bool bb1, .slice aa1 nn1 cc1, .slice dd1 mm1 oo1] := h4_0
    replace h4_1 : vs 1 = .int .i64 k := h4_1
    replace h4_2 : vs 2 = .tuple #[.agg #[.bool false, .slice none 0 0, .slice none 0 0, .bool false, .slice none 0 0, .slice none 0 0], .int .i64 1] := h4_2
    replace h4_3 : vs 3 = .tuple #[.agg #[.bool false, .slice none 0 0, .slice none 0 0, .bool false, .slice none 0 0, .slice none 0 0], .int .i64 1] := h4_3
    replace h4_4 : vs 4 = .agg #[.bool false, .slice none 0 0, .slice none 0 0, .bool false, .slice none 0 0, .slice none 0 0] := h4_4
    replace h4_5 : vs 5 = .int .i64 1 := h4_5
    replace h4_8 : vs 8 = .int .i64 1 := h4_8
    simp only [ev4_7, h4_0, h4_1, h4_2, h4_3, h4_4, h4_5, h4_8]
    clear ev4_7 h4_0 h4_1 h4_2 h4_3 h4_4 h4_5 h4_8 h4_6
    obtain ⟨kp2_0, kp2_1, kp2_2, kp2_3, kp2_4, kp2_5⟩ := p2.c6
    obtain ⟨kp1_7_0, kp1_7_1, kp1_7_2, kp1_7_3, kp1_7_4, kp1_7_5⟩ := p1_7.c6
    obtain ⟨kp2_7_0, kp2_7_1, kp2_7_2, kp2_7_3, kp2_7_4, kp2_7_5⟩ := p2_7.c6
    obtain ⟨kp3_7_0, kp3_7_1, kp3_7_2, kp3_7_3, kp3_7_4, kp3_7_5⟩ := p3_7.c6
    obtain ⟨kp4_7_0, kp4_7_1, kp4_7_2, kp4_7_3, kp4_7_4, kp4_7_5⟩ := p4_7.c6
    go_upto_region 7 with (fail)
    clear kp2_0 kp2_1 kp2_2 kp2_3 kp2_4 kp2_5 kp1_7_0 kp1_7_1 kp1_7_2 kp1_7_3 kp1_7_4 kp1_7_5 kp2_7_0 kp2_7_1 kp2_7_2 kp2_7_3 kp2_7_4 kp2_7_5 kp3_7_0 kp3_7_1 kp3_7_2 kp3_7_3 kp3_7_4 kp3_7_5 kp4_7_0 kp4_7_1 kp4_7_2 kp4_7_3 kp4_7_4 kp4_7_5; have ltp4_7 := p4_7.lt; have szw5 := Ext.size E0
    refine region_gs [.one fun v _ => v = .bool true,
      .one fun v _ => v = .bool true,
      .one fun v _ => v = .agg #[.bool false, .slice none 0 0, .slice none 0 0, .bool false, .slice none 0 0, .slice none 0 0],
      .one fun v _ => v = .agg #[.bool false, .slice none 0 0, .slice none 0 0, .bool false, .slice none 0 0, .slice none 0 0],
      .one fun v _ => v = .bool true,
      .one fun v _ => v = .bool true,
      .one fun v _ => v = .bool true,
      .one fun v _ => v = .int .i64 1,
      .one fun v _ => v = .int .i64 1,
      .one fun v _ => v = .bool true,
      .one fun v _ => v = .bool true,
      .one fun v _ => v = .bool true,
      .one fun v _ => v = .agg #[.bool false, .slice none 0 0, .slice none 0 0, .bool false, .slice none 0 0, .slice none 0 0],
      .one fun v _ => v = .agg #[.bool false, .slice none 0 0, .slice none 0 0, .bool false, .slice none 0 0, .slice none 0 0],
      .one fun v _ => v = .bool true,
      .one fun v _ => v = .bool true,
      .one fun v _ => v = .bool true,
      .one fun v _ => v = .int .i64 1,
      .one fun v _ => v = .int .i64 1,
      .one fun v _ => v = .bool true,
      .one fun v _ => v = .bool true,
      .one fun v _ => v = .bool true]
     (fun W => Ext w W ∧ Bx6 W w.heap.size 29 (.bool b1) (.slice a1 n1 c1) (.slice d1 m1 o1) (.bool bb1) (.slice aa1 nn1 cc1) (.slice dd1 mm1 oo1) ∧ Sw W (.agg #[.bool b1, .slice a1 n1 c1, .slice d1 m1 o1, .bool bb1, .slice aa1 nn1 cc1, .slice dd1 mm1 oo1]) p ∧ Bx6 W g1_7 29 (.bool false) (.slice none 0 0) (.slice none 0 0) (.bool false) (.slice none 0 0) (.slice none 0 0) ∧ Bx6 W g2_7 29 (.bool false) (.slice none 0 0) (.slice none 0 0) (.bool false) (.slice none 0 0) (.slice none 0 0) ∧ Bx6 W g3_7 29 (.bool false) (.slice none 0 0) (.slice none 0 0) (.bool false) (.slice none 0 0) (.slice none 0 0) ∧ Bx6 W g4_7 29 (.bool false) (.slice none 0 0) (.slice none 0 0) (.bool false) (.slice none 0 0) (.slice none 0 0) ∧ W4.heap.size ≤ W.heap.size) ⟨Good.is _, Good.is _, Good.is _, Good.is _, Good.is _, Good.is _, Good.is _, Good.is _, Good.is _, Good.is _, Good.is _, Good.is _, Good.is _, Good.is _, Good.is _, Good.is _, Good.is _, Good.is _, Good.is _, Good.is _, Good.is _, Good.is _, trivial⟩
     ⟨E0, p2, hsp, p1_7, p2_7, p3_7, p4_7, Nat.le_refl _⟩ (A := ?A5) ?hA5 ?howe5 ?hfin5
    case hA5 =>
     intro vs
     simp only [putAll, Act.put, sA, sZ, sS, Nat.zero_add, Nat.reduceAdd]
     exact rfl
    case howe5 =>
     clear E0 p2 hsp p1_7 p2_7 p3_7 p4_7
     intro hf
     refine ⟨oE 0 [] hf rfl ?_, oE 1 [0] hf rfl ?_, oE 2 [1] hf rfl ?_, oE 3 [1] hf rfl ?_, oE 4 [1, 2, 3] hf rfl ?_, oE 5 [1, 4] hf rfl ?_, oE 6 [5] hf rfl ?_, oE 7 [6] hf rfl ?_, oE 8 [6] hf rfl ?_, oE 9 [6, 7, 8] hf rfl ?_, oE 10 [6, 9] hf rfl ?_, oE 11 [10] hf rfl ?_, oE 12 [11] hf rfl ?_, oE 13 [11] hf rfl ?_, oE 14 [11, 12, 13] hf rfl ?_, oE 15 [11, 14] hf rfl ?_, oE 16 [15] hf rfl ?_, oE 17 [16] hf rfl ?_, oE 18 [16] hf rfl ?_, oE 19 [16, 17, 18] hf rfl ?_, oE 20 [16, 19] hf rfl ?_, oE 21 [20] hf rfl ?_, trivial⟩
     all_goals intro vs W hS hp hx KO hKO
     all_goals simp only [Act.put, sA, sZ, sS] at hKO
     ·go_simp
      refine (Tryz.alive07 _).mono ?_
      rintro e W1 ⟨rfl, hE⟩
      exact hKO _ W1 hE rfl
     ·have e0 := isOf hp.1; simp only [e0] at hKO; go_simp; exact hKO _ W (.refl W) rfl
     ·have e1 := isOf hp.1; simp only [e1] at hKO; have fc0 := hS.2.2.2.1.cell0; have fc1 := hS.2.2.2.1.cell1; have fc2 := hS.2.2.2.1.cell2; have fc3 := hS.2.2.2.1.cell3; have fc4 := hS.2.2.2.1.cell4; have fc5 := hS.2.2.2.1.cell5; go_simp; exact hKO _ W (.refl W) rfl
     ·have e1 := isOf hp.1; simp only [e1] at hKO; have fc0 := hS.2.2.2.2.1.cell0; have fc1 := hS.2.2.2.2.1.cell1; have fc2 := hS.2.2.2.2.1.cell2; have fc3 := hS.2.2.2.2.1.cell3; have fc4 := hS.2.2.2.2.1.cell4; have fc5 := hS.2.2.2.2.1.cell5; go_simp; exact hKO _ W (.refl W) rfl
     ·have e1 := isOf hp.1; have e2 := isOf hp.2.1; have e3 := isOf hp.2.2.1; simp only [e1, e2, e3] at hKO; go_simp
      refine (Tryz.rsSame0 _).mono ?_
      rintro e W1 ⟨rfl, hE⟩
      exact hKO _ W1 hE rfl
     ·have e1 := isOf hp.1; have e4 := isOf hp.2.1; simp only [e1, e4] at hKO; go_simp; exact hKO _ W (.refl W) rfl
     ·have e5 := isOf hp.1; simp only [e5] at hKO; go_simp; exact hKO _ W (.refl W) rfl
     ·have e6 := isOf hp.1; simp only [e6] at hKO; go_simp; exact hKO _ W (.refl W) rfl
     ·have e6 := isOf hp.1; simp only [e6] at hKO; go_simp; exact hKO _ W (.refl W) rfl
     ·have e6 := isOf hp.1; have e7 := isOf hp.2.1; have e8 := isOf hp.2.2.1; simp only [e6, e7, e8] at hKO; go_simp; exact hKO _ W (.refl W) rfl
     ·have e6 := isOf hp.1; have e9 := isOf hp.2.1; simp only [e6, e9] at hKO; go_simp; exact hKO _ W (.refl W) rfl
     ·have e10 := isOf hp.1; simp only [e10] at hKO; go_simp; exact hKO _ W (.refl W) rfl
     ·have e11 := isOf hp.1; simp only [e11] at hKO; have fc0 := hS.2.2.2.2.2.1.cell0; have fc1 := hS.2.2.2.2.2.1.cell1; have fc2 := hS.2.2.2.2.2.1.cell2; have fc3 := hS.2.2.2.2.2.1.cell3; have fc4 := hS.2.2.2.2.2.1.cell4; have fc5 := hS.2.2.2.2.2.1.cell5; go_simp; exact hKO _ W (.refl W) rfl
     ·have e11 := isOf hp.1; simp only [e11] at hKO; have fc0 := hS.2.2.2.2.2.2.1.cell0; have fc1 := hS.2.2.2.2.2.2.1.cell1; have fc2 := hS.2.2.2.2.2.2.1.cell2; have fc3 := hS.2.2.2.2.2.2.1.cell3; have fc4 := hS.2.2.2.2.2.2.1.cell4; have fc5 := hS.2.2.2.2.2.2.1.cell5; go_simp; exact hKO _ W (.refl W) rfl
     ·have e11 := isOf hp.1; have e12 := isOf hp.2.1; have e13 := isOf hp.2.2.1; simp only [e11, e12, e13] at hKO; go_simp
      refine (Tryz.rsSame0 _).mono ?_
      rintro e W1 ⟨rfl, hE⟩
      exact hKO _ W1 hE rfl
     ·have e11 := isOf hp.1; have e14 := isOf hp.2.1; simp only [e11, e14] at hKO; go_simp; exact hKO _ W (.refl W) rfl
     ·have e15 := isOf hp.1; simp only [e15] at hKO; go_simp; exact hKO _ W (.refl W) rfl
     ·have e16 := isOf hp.1; simp only [e16] at hKO; go_simp; exact hKO _ W (.refl W) rfl
     ·have e16 := isOf hp.1; simp only [e16] at hKO; go_simp; exact hKO _ W (.refl W) rfl
     ·have e16 := isOf hp.1; have e17 := isOf hp.2.1; have e18 := isOf hp.2.2.1; simp only [e16, e17, e18] at hKO; go_simp; exact hKO _ W (.refl W) rfl
     ·have e16 := isOf hp.1; have e19 := isOf hp.2.1; simp only [e16, e19] at hKO; go_simp; exact hKO _ W (.refl W) rfl
     ·have e20 := isOf hp.1; simp only [e20] at hKO; go_simp; exact hKO _ W (.refl W) rfl
    intro vs W5 hS hp
    clear szw5 E0 p2 hsp p1_7 p2_7 p3_7 p4_7
    obtain ⟨E0, p2, hsp, p1_7, p2_7, p3_7, p4_7, sz5⟩ := hS
    obtain ⟨h5_0, h5_1, h5_2, h5_3, h5_4, h5_5, h5_6, h5_7, h5_8, h5_9, h5_10, h5_11, h5_12, h5_13, h5_14, h5_15, h5_16, h5_17, h5_18, h5_19, h5_20, h5_21, -⟩ := hp
    replace h5_0 : vs 0 = .bool true := h5_0
    replace h5_1 : vs 1 = .bool true := h5_1
    replace h5_2 : vs 2 = .agg #[.bool false, .slice none 0 0, .slice none 0 0, .bool false, .slice none 0 0, .slice none 0 0] := h5_2
    replace h5_3 : vs 3 = .agg #[.bool false, .slice none 0 0, .slice none 0 0, .bool false, .slice none 0 0, .slice none 0 0] := h5_3
    replace h5_4 : vs 4 = .bool true := h5_4
    replace h5_5 : vs 5 = .bool true := h5_5
    replace h5_6 : vs 6 = .bool true := h5_6
    replace h5_7 : vs 7 = .int .i64 1 := h5_7
    replace h5_8 : vs 8 = .int .i64 1 := h5_8
    replace h5_9 : vs 9 = .bool true := h5_9
    replace h5_10 : vs 10 = .bool true := h5_10
    replace h5_11 : vs 11 = .bool true := h5_11
    replace h5_12 : vs 12 = .agg #[.bool false, .slice none 0 0, .slice none 0 0, .bool false, .slice none 0 0, .slice none 0 0] := h5_12
    replace h5_13 : vs 13 = .agg #[.bool false, .slice none 0 0, .slice none 0 0, .bool false, .slice none 0 0, .slice none 0 0] := h5_13
    replace h5_14 : vs 14 = .bool true := h5_14
    replace h5_15 : vs 15 = .bool true := h5_15
    replace h5_16 : vs 16 = .bool true := h5_16
    replace h5_17 : vs 17 = .int .i64 1 := h5_17
    replace h5_18 : vs 18 = .int .i64 1 := h5_18
    replace h5_19 : vs 19 = .bool true := h5_19
    replace h5_20 : vs 20 = .bool true := h5_20
    replace h5_21 : vs 21 = .bool true := h5_21
    simp only [h5_0, h5_1, h5_2, h5_3, h5_4, h5_5, h5_6, h5_7, h5_8, h5_9, h5_10, h5_11, h5_12, h5_13, h5_14, h5_15, h5_16, h5_17, h5_18, h5_19, h5_20, h5_21]
    clear h5_0 h5_1 h5_2 h5_3 h5_4 h5_5 h5_6 h5_7 h5_8 h5_9 h5_10 h5_11 h5_12 h5_13 h5_14 h5_15 h5_16 h5_17 h5_18 h5_19 h5_20 h5_21
    obtain ⟨kp2_0, kp2_1, kp2_2, kp2_3, kp2_4, kp2_5⟩ := p2.c6
    obtain ⟨kp1_7_0, kp1_7_1, kp1_7_2, kp1_7_3, kp1_7_4, kp1_7_5⟩ := p1_7.c6
    obtain ⟨kp2_7_0, kp2_7_1, kp2_7_2, kp2_7_3, kp2_7_4, kp2_7_5⟩ := p2_7.c6
    obtain ⟨kp3_7_0, kp3_7_1, kp3_7_2, kp3_7_3, kp3_7_4, kp3_7_5⟩ := p3_7.c6
    obtain ⟨kp4_7_0, kp4_7_1, kp4_7_2, kp4_7_3, kp4_7_4, kp4_7_5⟩ := p4_7.c6
    clear hsp; go_wp2; go_ret
    exact ⟨rfl, E0⟩
   ·have hk4 : k < 0 := by omega
    clear hk hkt
    obtain ⟨kp2_0, kp2_1, kp2_2, kp2_3, kp2_4, kp2_5⟩ := p2.c6
    go_upto_region 3 with (fail)
    clear kp2_0 kp2_1 kp2_2 kp2_3 kp2_4 kp2_5; have ltp2 := p2.lt; have szw6 := Ext.size E0
    refine region_gs [.one fun v _ => v = .agg #[.bool b1, .slice a1 n1 c1, .slice d1 m1 o1, .bool bb1, .slice aa1 nn1 cc1, .slice dd1 mm1 oo1],
      .one fun v _ => v = .int .i64 k,
      .one fun v _ => v = .tuple #[.agg #[.bool false, .slice none 0 0, .slice none 0 0, .bool false, .slice none 0 0, .slice none 0 0], .int .i64 1],
      .one fun v _ => v = .tuple #[.agg #[.bool false, .slice none 0 0, .slice none 0 0, .bool false, .slice none 0 0, .slice none 0 0], .int .i64 1],
      .one fun v _ => v = .agg #[.bool false, .slice none 0 0, .slice none 0 0, .bool false, .slice none 0 0, .slice none 0 0],
      .one fun v _ => v = .int .i64 1,
      .one fun v W => ∃ g, v = .pointer (some ⟨g, 0, none⟩) ∧ WfB1.heap.size ≤ g ∧ Form W g 29 6,
      .two 6 (fun p _ W => New6 WfB1.heap.size 29 (.bool false) (.slice none 0 0) (.slice none 0 0) (.bool false) (.slice none 0 0) (.slice none 0 0) p W),
      .one fun v _ => v = .int .i64 1]
     (fun W => Ext w W ∧ Bx6 W w.heap.size 29 (.bool b1) (.slice a1 n1 c1) (.slice d1 m1 o1) (.bool bb1) (.slice aa1 nn1 cc1) (.slice dd1 mm1 oo1) ∧ Sw W (.agg #[.bool b1, .slice a1 n1 c1, .slice d1 m1 o1, .bool bb1, .slice aa1 nn1 cc1, .slice dd1 mm1 oo1]) p ∧ WfB1.heap.size ≤ W.heap.size) ⟨Good.is _, Good.is _, Good.is _, Good.is _, Good.is _, Good.is _, Good.box _ _ _, cert_new6, Good.is _, trivial⟩
     ⟨E0, p2, hsp, Nat.le_refl _⟩ (A := ?A6) ?hA6 ?howe6 ?hfin6
    case hA6 =>
     intro vs
     simp only [putAll, Act.put, sA, sZ, sS, Nat.zero_add, Nat.reduceAdd]
     exact rfl
    case howe6 =>
     clear E0 p2 hsp
     intro hf
     refine ⟨oE 0 [] hf rfl ?_, oE 1 [] hf rfl ?_, oE 2 [0, 1] hf rfl ?_, oE 3 [2] hf rfl ?_, oE 4 [3] hf rfl ?_, oE 5 [3] hf rfl ?_, oE 6 [] hf rfl ?_, oW 7 [6, 4] hf rfl ?_, oE 8 [5] hf rfl ?_, trivial⟩
     all_goals intro vs W hS hp hx KO hKO
     all_goals simp only [Act.put, sA, sZ, sS] at hKO
     ·have fc0 := hS.2.1.cell0; have fc1 := hS.2.1.cell1; have fc2 := hS.2.1.cell2; have fc3 := hS.2.1.cell3; have fc4 := hS.2.1.cell4; have fc5 := hS.2.1.cell5; go_simp; exact hKO _ W (.refl W) rfl
     ·go_simp; exact hKO _ W (.refl W) rfl
     ·have e0 := isOf hp.1; have e1 := isOf hp.2.1; simp only [e0, e1] at hKO; go_simp
      refine (Tryz.ivOutGrid (hS.2.2.1) k HK.out).mono ?_
      rintro e W1 ⟨rfl, hE⟩
      exact hKO _ W1 hE rfl
     ·have e2 := isOf hp.1; simp only [e2] at hKO; go_simp; exact hKO _ W (.refl W) rfl
     ·have e3 := isOf hp.1; simp only [e3] at hKO; go_simp; exact hKO _ W (.refl W) rfl
     ·have e3 := isOf hp.1; simp only [e3] at hKO; go_simp; exact hKO _ W (.refl W) rfl
     ·have hn := Bx6.new W 29 (.bool false) (.slice none 0 0) (.slice none 0 0) (.bool false) (.slice none 0 0) (.slice none 0 0)
      have hE := Ext.alloc1 W (.cells #[.bool false, .slice none 0 0, .slice none 0 0, .bool false, .slice none 0 0, .slice none 0 0] 29)
      have hsz := hS.2.2.2
      go_simp
      exact hKO _ _ hE ⟨_, rfl, hsz, hn.form⟩
     ·have q6 := hp.1; have e4 := isOf hp.2.1; simp only [e4] at hKO
      obtain ⟨g, ev, hg, hf⟩ := q6
      replace ev : vs 6 = _ := ev
      obtain ⟨x0_0, x0_1, x0_2, x0_3, x0_4, x0_5, hx, hno⟩ := hf.bx6
      have r0 := hx.froz0
      have t0 := hx.cell0
      have r1 := hx.froz1
      have t1 := hx.cell1
      have r2 := hx.froz2
      have t2 := hx.cell2
      have r3 := hx.froz3
      have t3 := hx.cell3
      have r4 := hx.froz4
      have t4 := hx.cell4
      have r5 := hx.froz5
      have t5 := hx.cell5
      have hw := Wr.set6 hx hno false none 0 0 none 0 0 false none 0 0 none 0 0
      have hq := hx.set (.bool false) (.slice none 0 0) (.slice none 0 0) (.bool false) (.slice none 0 0) (.slice none 0 0)
      simp only [ev] at hKO; go_simp
      exact hKO _ _ hw ⟨(Ext.wr hS.1 hw (by omega)), (hS.2.1.wr hw (by omega)), (hS.2.2.1.wr hw), (Nat.le_trans hS.2.2.2 hw.apart.size)⟩ ⟨g, ev, hg, hq⟩
     ·have e5 := isOf hp.1; simp only [e5] at hKO; go_simp; exact hKO _ W (.refl W) rfl
    intro vs W6 hS hp
    clear szw6 E0 p2 hsp
    obtain ⟨E0, p2, hsp, sz6⟩ := hS
    obtain ⟨h6_0, h6_1, h6_2, h6_3, h6_4, h6_5, h6_6, h6_7, h6_8, -⟩ := hp
    obtain ⟨g6_7, ev6_7, hg6_7, p6_7⟩ := h6_7
    replace ev6_7 : vs 6 = _ := ev6_7
    replace h6_0 : vs 0 = .agg #[.bool b1, .slice a1 n1 c1, .slice d1 m1 o1, .bool bb1, .slice aa1 nn1 cc1, .slice dd1 mm1 oo1] := h6_0
    replace h6_1 : vs 1 = .int .i64 k := h6_1
    replace h6_2 : vs 2 = .tuple #[.agg #[.bool false, .slice none 0 0, .slice none 0 0, .bool false, .slice none 0 0, .slice none 0 0], .int .i64 1] := h6_2
    replace h6_3 : vs 3 = .tuple #[.agg #[.bool false, .slice none 0 0, .slice none 0 0, .bool false, .slice none 0 0, .slice none 0 0], .int .i64 1] := h6_3
    replace h6_4 : vs 4 = .agg #[.bool false, .slice none 0 0, .slice none 0 0, .bool false, .slice none 0 0, .slice none 0 0] := h6_4
    replace h6_5 : vs 5 = .int .i64 1 := h6_5
    replace h6_8 : vs 8 = .int .i64 1 := h6_8
    simp only [ev6_7, h6_0, h6_1, h6_2, h6_3, h6_4, h6_5, h6_8]
    clear ev6_7 h6_0 h6_1 h6_2 h6_3 h6_4 h6_5 h6_8 h6_6
    obtain ⟨kp2_0, kp2_1, kp2_2, kp2_3, kp2_4, kp2_5⟩ := p2.c6
    obtain ⟨kp6_7_0, kp6_7_1, kp6_7_2, kp6_7_3, kp6_7_4, kp6_7_5⟩ := p6_7.c6
    go_upto_region 4 with (fail)
    clear kp2_0 kp2_1 kp2_2 kp2_3 kp2_4 kp2_5 kp6_7_0 kp6_7_1 kp6_7_2 kp6_7_3 kp6_7_4 kp6_7_5; have ltp6_7 := p6_7.lt; have szw7 := Ext.size E0
    refine region_gs [.one fun v _ => v = .agg #[.bool b1, .slice a1 n1 c1, .slice d1 m1 o1, .bool bb1, .slice aa1 nn1 cc1, .slice dd1 mm1 oo1],
      .one fun v _ => v = .int .i64 k,
      .one fun v _ => v = .tuple #[.agg #[.bool false, .slice none 0 0, .slice none 0 0, .bool false, .slice none 0 0, .slice none 0 0], .int .i64 1],
      .one fun v _ => v = .tuple #[.agg #[.bool false, .slice none 0 0, .slice none 0 0, .bool false, .slice none 0 0, .slice none 0 0], .int .i64 1],
      .one fun v _ => v = .agg #[.bool false, .slice none 0 0, .slice none 0 0, .bool false, .slice none 0 0, .slice none 0 0],
      .one fun v _ => v = .int .i64 1,
      .one fun v W => ∃ g, v = .pointer (some ⟨g, 0, none⟩) ∧ W6.heap.size ≤ g ∧ Form W g 29 6,
      .two 6 (fun p _ W => New6 W6.heap.size 29 (.bool false) (.slice none 0 0) (.slice none 0 0) (.bool false) (.slice none 0 0) (.slice none 0 0) p W),
      .one fun v _ => v = .int .i64 1]
     (fun W => Ext w W ∧ Bx6 W w.heap.size 29 (.bool b1) (.slice a1 n1 c1) (.slice d1 m1 o1) (.bool bb1) (.slice aa1 nn1 cc1) (.slice dd1 mm1 oo1) ∧ Sw W (.agg #[.bool b1, .slice a1 n1 c1, .slice d1 m1 o1, .bool bb1, .slice aa1 nn1 cc1, .slice dd1 mm1 oo1]) p ∧ Bx6 W g6_7 29 (.bool false) (.slice none 0 0) (.slice none 0 0) (.bool false) (.slice none 0 0) (.slice none 0 0) ∧ W6.heap.size ≤ W.heap.size) ⟨Good.is _, Good.is _, Good.is _, Good.is _, Good.is _, Good.is _, Good.box _ _ _, cert_new6, Good.is _, trivial⟩
     ⟨E0, p2, hsp, p6_7, Nat.le_refl _⟩ (A := ?A7) ?hA7 ?howe7 ?hfin7
    case hA7 =>
     intro vs
     simp only [putAll, Act.put, sA, sZ, sS, Nat.zero_add, Nat.reduceAdd]
     exact rfl
    case howe7 =>
     clear E0 p2 hsp p6_7
     intro hf
     refine ⟨oE 0 [] hf rfl ?_, oE 1 [] hf rfl ?_, oE 2 [0, 1] hf rfl ?_, oE 3 [2] hf rfl ?_, oE 4 [3] hf rfl ?_, oE 5 [3] hf rfl ?_, oE 6 [] hf rfl ?_, oW 7 [6, 4] hf rfl ?_, oE 8 [5] hf rfl ?_, trivial⟩
     all_goals intro vs W hS hp hx KO hKO
     all_goals simp only [Act.put, sA, sZ, sS] at hKO
     ·have fc0 := hS.2.1.cell0; have fc1 := hS.2.1.cell1; have fc2 := hS.2.1.cell2; have fc3 := hS.2.1.cell3; have fc4 := hS.2.1.cell4; have fc5 := hS.2.1.cell5; go_simp; exact hKO _ W (.refl W) rfl
     ·go_simp; exact hKO _ W (.refl W) rfl
     ·have e0 := isOf hp.1; have e1 := isOf hp.2.1; simp only [e0, e1] at hKO; go_simp
      refine (Tryz.rsOutGrid (hS.2.2.1) k HK.out).mono ?_
      rintro e W1 ⟨rfl, hE⟩
      exact hKO _ W1 hE rfl
     ·have e2 := isOf hp.1; simp only [e2] at hKO; go_simp; exact hKO _ W (.refl W) rfl
     ·have e3 := isOf hp.1; simp only [e3] at hKO; go_simp; exact hKO _ W (.refl W) rfl
     ·have e3 := isOf hp.1; simp only [e3] at hKO; go_simp; exact hKO _ W (.refl W) rfl
     ·have hn := Bx6.new W 29 (.bool false) (.slice none 0 0) (.slice none 0 0) (.bool false) (.slice none 0 0) (.slice none 0 0)
      have hE := Ext.alloc1 W (.cells #[.bool false, .slice none 0 0, .slice none 0 0, .bool false, .slice none 0 0, .slice none 0 0] 29)
      have hsz := hS.2.2.2.2
      go_simp
      exact hKO _ _ hE ⟨_, rfl, hsz, hn.form⟩
     ·have q6 := hp.1; have e4 := isOf hp.2.1; simp only [e4] at hKO
      obtain ⟨g, ev, hg, hf⟩ := q6
      replace ev : vs 6 = _ := ev
      obtain ⟨x0_0, x0_1, x0_2, x0_3, x0_4, x0_5, hx, hno⟩ := hf.bx6
      have r0 := hx.froz0
      have t0 := hx.cell0
      have r1 := hx.froz1
      have t1 := hx.cell1
      have r2 := hx.froz2
      have t2 := hx.cell2
      have r3 := hx.froz3
      have t3 := hx.cell3
      have r4 := hx.froz4
      have t4 := hx.cell4
      have r5 := hx.froz5
      have t5 := hx.cell5
      have hw := Wr.set6 hx hno false none 0 0 none 0 0 false none 0 0 none 0 0
      have hq := hx.set (.bool false) (.slice none 0 0) (.slice none 0 0) (.bool false) (.slice none 0 0) (.slice none 0 0)
      simp only [ev] at hKO; go_simp
      exact hKO _ _ hw ⟨(Ext.wr hS.1 hw (by omega)), (hS.2.1.wr hw (by omega)), (hS.2.2.1.wr hw), (hS.2.2.2.1.wr hw (by omega)), (Nat.le_trans hS.2.2.2.2 hw.apart.size)⟩ ⟨g, ev, hg, hq⟩
     ·have e5 := isOf hp.1; simp only [e5] at hKO; go_simp; exact hKO _ W (.refl W) rfl
    intro vs W7 hS hp
    clear szw7 E0 p2 hsp p6_7
    obtain ⟨E0, p2, hsp, p6_7, sz7⟩ := hS
    obtain ⟨h7_0, h7_1, h7_2, h7_3, h7_4, h7_5, h7_6, h7_7, h7_8, -⟩ := hp
    obtain ⟨g7_7, ev7_7, hg7_7, p7_7⟩ := h7_7
    replace ev7_7 : vs 6 = _ := ev7_7
    replace h7_0 : vs 0 = .agg #[.bool b1, .slice a1 n1 c1, .slice d1 m1 o1, .bool bb1, .slice aa1 nn1 cc1, .slice dd1 mm1 oo1] := h7_0
    replace h7_1 : vs 1 = .int .i64 k := h7_1
    replace h7_2 : vs 2 = .tuple #[.agg #[.bool false, .slice none 0 0, .slice none 0 0, .bool false, .slice none 0 0, .slice none 0 0], .int .i64 1] := h7_2
    replace h7_3 : vs 3 = .tuple #[.agg #[.bool false, .slice none 0 0, .slice none 0 0, .bool false, .slice none 0 0, .slice none 0 0], .int .i64 1] := h7_3
    replace h7_4 : vs 4 = .agg #[.bool false, .slice none 0 0, .slice none 0 0, .bool false, .slice none 0 0, .slice none 0 0] := h7_4
    replace h7_5 : vs 5 = .int .i64 1 := h7_5
    replace h7_8 : vs 8 = .int .i64 1 := h7_8
    simp only [ev7_7, h7_0, h7_1, h7_2, h7_3, h7_4, h7_5, h7_8]
    clear ev7_7 h7_0 h7_1 h7_2 h7_3 h7_4 h7_5 h7_8 h7_6
    obtain ⟨kp2_0, kp2_1, kp2_2, kp2_3, kp2_4, kp2_5⟩ := p2.c6
    obtain ⟨kp6_7_0, kp6_7_1, kp6_7_2, kp6_7_3, kp6_7_4, kp6_7_5⟩ := p6_7.c6
    obtain ⟨kp7_7_0, kp7_7_1, kp7_7_2, kp7_7_3, kp7_7_4, kp7_7_5⟩ := p7_7.c6
    go_upto_region 5 with (fail)
    clear kp2_0 kp2_1 kp2_2 kp2_3 kp2_4 kp2_5 kp6_7_0 kp6_7_1 kp6_7_2 kp6_7_3 kp6_7_4 kp6_7_5 kp7_7_0 kp7_7_1 kp7_7_2 kp7_7_3 kp7_7_4 kp7_7_5; have ltp7_7 := p7_7.lt; have szw8 := Ext.size E0
    refine region_gs [.one fun v _ => v = .agg #[.bool b1, .slice a1 n1 c1, .slice d1 m1 o1, .bool bb1, .slice aa1 nn1 cc1, .slice dd1 mm1 oo1],
      .one fun v _ => v = .int .i64 k,
      .one fun v _ => v = .tuple #[.agg #[.bool false, .slice none 0 0, .slice none 0 0, .bool false, .slice none 0 0, .slice none 0 0], .int .i64 1],
      .one fun v _ => v = .tuple #[.agg #[.bool false, .slice none 0 0, .slice none 0 0, .bool false, .slice none 0 0, .slice none 0 0], .int .i64 1],
      .one fun v _ => v = .agg #[.bool false, .slice none 0 0, .slice none 0 0, .bool false, .slice none 0 0, .slice none 0 0],
      .one fun v _ => v = .int .i64 1,
      .one fun v W => ∃ g, v = .pointer (some ⟨g, 0, none⟩) ∧ W7.heap.size ≤ g ∧ Form W g 29 6,
      .two 6 (fun p _ W => New6 W7.heap.size 29 (.bool false) (.slice none 0 0) (.slice none 0 0) (.bool false) (.slice none 0 0) (.slice none 0 0) p W),
      .one fun v _ => v = .int .i64 1]
     (fun W => Ext w W ∧ Bx6 W w.heap.size 29 (.bool b1) (.slice a1 n1 c1) (.slice d1 m1 o1) (.bool bb1) (.slice aa1 nn1 cc1) (.slice dd1 mm1 oo1) ∧ Sw W (.agg #[.bool b1, .slice a1 n1 c1, .slice d1 m1 o1, .bool bb1, .slice aa1 nn1 cc1, .slice dd1 mm1 oo1]) p ∧ Bx6 W g6_7 29 (.bool false) (.slice none 0 0) (.slice none 0 0) (.bool false) (.slice none 0 0) (.slice none 0 0) ∧ Bx6 W g7_7 29 (.bool false) (.slice none 0 0) (.slice none 0 0) (.bool false) (.slice none 0 0) (.slice none 0 0) ∧ W7.heap.size ≤ W.heap.size) ⟨Good.is _, Good.is _, Good.is _, Good.is _, Good.is _, Good.is _, Good.box _ _ _, cert_new6, Good.is _, trivial⟩
     ⟨E0, p2, hsp, p6_7, p7_7, Nat.le_refl _⟩ (A := ?A8) ?hA8 ?howe8 ?hfin8
    case hA8 =>
     intro vs
     simp only [putAll, Act.put, sA, sZ, sS, Nat.zero_add, Nat.reduceAdd]
     exact rfl
    case howe8 =>
     clear E0 p2 hsp p6_7 p7_7
     intro hf
     refine ⟨oE 0 [] hf rfl ?_, oE 1 [] hf rfl ?_, oE 2 [0, 1] hf rfl ?_, oE 3 [2] hf rfl ?_, oE 4 [3] hf rfl ?_, oE 5 [3] hf rfl ?_, oE 6 [] hf rfl ?_, oW 7 [6, 4] hf rfl ?_, oE 8 [5] hf rfl ?_, trivial⟩
     all_goals intro vs W hS hp hx KO hKO
     all_goals simp only [Act.put, sA, sZ, sS] at hKO
     ·have fc0 := hS.2.1.cell0; have fc1 := hS.2.1.cell1; have fc2 := hS.2.1.cell2; have fc3 := hS.2.1.cell3; have fc4 := hS.2.1.cell4; have fc5 := hS.2.1.cell5; go_simp; exact hKO _ W (.refl W) rfl
     ·go_simp; exact hKO _ W (.refl W) rfl
     ·have e0 := isOf hp.1; have e1 := isOf hp.2.1; simp only [e0, e1] at hKO; go_simp
      refine (Tryz.ivSqrtGrid (hS.2.2.1) k HK.out).mono ?_
      rintro e W1 ⟨rfl, hE⟩
      exact hKO _ W1 hE rfl
     ·have e2 := isOf hp.1; simp only [e2] at hKO; go_simp; exact hKO _ W (.refl W) rfl
     ·have e3 := isOf hp.1; simp only [e3] at hKO; go_simp; exact hKO _ W (.refl W) rfl
     ·have e3 := isOf hp.1; simp only [e3] at hKO; go_simp; exact hKO _ W (.refl W) rfl
     ·have hn := Bx6.new W 29 (.bool false) (.slice none 0 0) (.slice none 0 0) (.bool false) (.slice none 0 0) (.slice none 0 0)
      have hE := Ext.alloc1 W (.cells #[.bool false, .slice none 0 0, .slice none 0 0, .bool false, .slice none 0 0, .slice none 0 0] 29)
      have hsz := hS.2.2.2.2.2
      go_simp
      exact hKO _ _ hE ⟨_, rfl, hsz, hn.form⟩
     ·have q6 := hp.1; have e4 := isOf hp.2.1; simp only [e4] at hKO
      obtain ⟨g, ev, hg, hf⟩ := q6
      replace ev : vs 6 = _ := ev
      obtain ⟨x0_0, x0_1, x0_2, x0_3, x0_4, x0_5, hx, hno⟩ := hf.bx6
      have r0 := hx.froz0
      have t0 := hx.cell0
      have r1 := hx.froz1
      have t1 := hx.cell1
      have r2 := hx.froz2
      have t2 := hx.cell2
      have r3 := hx.froz3
      have t3 := hx.cell3
      have r4 := hx.froz4
      have t4 := hx.cell4
      have r5 := hx.froz5
      have t5 := hx.cell5
      have hw := Wr.set6 hx hno false none 0 0 none 0 0 false none 0 0 none 0 0
      have hq := hx.set (.bool false) (.slice none 0 0) (.slice none 0 0) (.bool false) (.slice none 0 0) (.slice none 0 0)
      simp only [ev] at hKO; go_simp
      exact hKO _ _ hw ⟨(Ext.wr hS.1 hw (by omega)), (hS.2.1.wr hw (by omega)), (hS.2.2.1.wr hw), (hS.2.2.2.1.wr hw (by omega)), (hS.2.2.2.2.1.wr hw (by omega)), (Nat.le_trans hS.2.2.2.2.2 hw.apart.size)⟩ ⟨g, ev, hg, hq⟩
     ·have e5 := isOf hp.1; simp only [e5] at hKO; go_simp; exact hKO _ W (.refl W) rfl
    intro vs W8 hS hp
    clear szw8 E0 p2 hsp p6_7 p7_7
    obtain ⟨E0, p2, hsp, p6_7, p7_7, sz8⟩ := hS
    obtain ⟨h8_0, h8_1, h8_2, h8_3, h8_4, h8_5, h8_6, h8_7, h8_8, -⟩ := hp
    obtain ⟨g8_7, ev8_7, hg8_7, p8_7⟩ := h8_7
    replace ev8_7 : vs 6 = _ := ev8_7
    replace h8_0 : vs 0 = .agg #[.bool b1, .slice a1 n1 c1, .slice d1 m1 o1, .bool bb1, .slice aa1 nn1 cc1, .slice dd1 mm1 oo1] := h8_0
    replace h8_1 : vs 1 = .int .i64 k := h8_1
    replace h8_2 : vs 2 = .tuple #[.agg #[.bool false, .slice none 0 0, .slice none 0 0, .bool false, .slice none 0 0, .slice none 0 0], .int .i64 1] := h8_2
    replace h8_3 : vs 3 = .tuple #[.agg #[.bool false, .slice none 0 0, .slice none 0 0, .bool false, .slice none 0 0, .slice none 0 0], .int .i64 1] := h8_3
    replace h8_4 : vs 4 = .agg #[.bool false, .slice none 0 0, .slice none 0 0, .bool false, .slice none 0 0, .slice none 0 0] := h8_4
    replace h8_5 : vs 5 = .int .i64 1 := h8_5
    replace h8_8 : vs 8 = .int .i64 1 := h8_8
    simp only [ev8_7, h8_0, h8_1, h8_2, h8_3, h8_4, h8_5, h8_8]
    clear ev8_7 h8_0 h8_1 h8_2 h8_3 h8_4 h8_5 h8_8 h8_6
    obtain ⟨kp2_0, kp2_1, kp2_2, kp2_3, kp2_4, kp2_5⟩ := p2.c6
    obtain ⟨kp6_7_0, kp6_7_1, kp6_7_2, kp6_7_3, kp6_7_4, kp6_7_5⟩ := p6_7.c6
    obtain ⟨kp7_7_0, kp7_7_1, kp7_7_2, kp7_7_3, kp7_7_4, kp7_7_5⟩ := p7_7.c6
    obtain ⟨kp8_7_0, kp8_7_1, kp8_7_2, kp8_7_3, kp8_7_4, kp8_7_5⟩ := p8_7.c6
    go_upto_region 6 with (fail)
    clear kp2_0 kp2_1 kp2_2 kp2_3 kp2_4 kp2_5 kp6_7_0 kp6_7_1 kp6_7_2 kp6_7_3 kp6_7_4 kp6_7_5 kp7_7_0 kp7_7_1 kp7_7_2 kp7_7_3 kp7_7_4 kp7_7_5 kp8_7_0 kp8_7_1 kp8_7_2 kp8_7_3 kp8_7_4 kp8_7_5; have ltp8_7 := p8_7.lt; have szw9 := Ext.size E0
    refine region_gs [.one fun v _ => v = .agg #[.bool b1, .slice a1 n1 c1, .slice d1 m1 o1, .bool bb1, .slice aa1 nn1 cc1, .slice dd1 mm1 oo1],
      .one fun v _ => v = .int .i64 k,
      .one fun v _ => v = .tuple #[.agg #[.bool false, .slice none 0 0, .slice none 0 0, .bool false, .slice none 0 0, .slice none 0 0], .int .i64 1],
      .one fun v _ => v = .tuple #[.agg #[.bool false, .slice none 0 0, .slice none 0 0, .bool false, .slice none 0 0, .slice none 0 0], .int .i64 1],
      .one fun v _ => v = .agg #[.bool false, .slice none 0 0, .slice none 0 0, .bool false, .slice none 0 0, .slice none 0 0],
      .one fun v _ => v = .int .i64 1,
      .one fun v W => ∃ g, v = .pointer (some ⟨g, 0, none⟩) ∧ W8.heap.size ≤ g ∧ Form W g 29 6,
      .two 6 (fun p _ W => New6 W8.heap.size 29 (.bool false) (.slice none 0 0) (.slice none 0 0) (.bool false) (.slice none 0 0) (.slice none 0 0) p W),
      .one fun v _ => v = .int .i64 1]
     (fun W => Ext w W ∧ Bx6 W w.heap.size 29 (.bool b1) (.slice a1 n1 c1) (.slice d1 m1 o1) (.bool bb1) (.slice aa1 nn1 cc1) (.slice dd1 mm1 oo1) ∧ Sw W (.agg #[.bool b1, .slice a1 n1 c1, .slice d1 m1 o1, .bool bb1, .slice aa1 nn1 cc1, .slice dd1 mm1 oo1]) p ∧ Bx6 W g6_7 29 (.bool false) (.slice none 0 0) (.slice none 0 0) (.bool false) (.slice none 0 0) (.slice none 0 0) ∧ Bx6 W g7_7 29 (.bool false) (.slice none 0 0) (.slice none 0 0) (.bool false) (.slice none 0 0) (.slice none 0 0) ∧ Bx6 W g8_7 29 (.bool false) (.slice none 0 0) (.slice none 0 0) (.bool false) (.slice none 0 0) (.slice none 0 0) ∧ W8.heap.size ≤ W.heap.size) ⟨Good.is _, Good.is _, Good.is _, Good.is _, Good.is _, Good.is _, Good.box _ _ _, cert_new6, Good.is _, trivial⟩
     ⟨E0, p2, hsp, p6_7, p7_7, p8_7, Nat.le_refl _⟩ (A := ?A9) ?hA9 ?howe9 ?hfin9
    case hA9 =>
     intro vs
     simp only [putAll, Act.put, sA, sZ, sS, Nat.zero_add, Nat.reduceAdd]
     exact rfl
    case howe9 =>
     clear E0 p2 hsp p6_7 p7_7 p8_7
     intro hf
     refine ⟨oE 0 [] hf rfl ?_, oE 1 [] hf rfl ?_, oE 2 [0, 1] hf rfl ?_, oE 3 [2] hf rfl ?_, oE 4 [3] hf rfl ?_, oE 5 [3] hf rfl ?_, oE 6 [] hf rfl ?_, oW 7 [6, 4] hf rfl ?_, oE 8 [5] hf rfl ?_, trivial⟩
     all_goals intro vs W hS hp hx KO hKO
     all_goals simp only [Act.put, sA, sZ, sS] at hKO
     ·have fc0 := hS.2.1.cell0; have fc1 := hS.2.1.cell1; have fc2 := hS.2.1.cell2; have fc3 := hS.2.1.cell3; have fc4 := hS.2.1.cell4; have fc5 := hS.2.1.cell5; go_simp; exact hKO _ W (.refl W) rfl
     ·go_simp; exact hKO _ W (.refl W) rfl
     ·have e0 := isOf hp.1; have e1 := isOf hp.2.1; simp only [e0, e1] at hKO; go_simp
      refine (Tryz.rsSqrtGrid (hS.2.2.1) k HK.out).mono ?_
      rintro e W1 ⟨rfl, hE⟩
      exact hKO _ W1 hE rfl
     ·have e2 := isOf hp.1; simp only [e2] at hKO; go_simp; exact hKO _ W (.refl W) rfl
     ·have e3 := isOf hp.1; simp only [e3] at hKO; go_simp; exact hKO _ W (.refl W) rfl
     ·have e3 := isOf hp.1; simp only [e3] at hKO; go_simp; exact hKO _ W (.refl W) rfl
     ·have hn := Bx6.new W 29 (.bool false) (.slice none 0 0) (.slice none 0 0) (.bool false) (.slice none 0 0) (.slice none 0 0)
      have hE := Ext.alloc1 W (.cells #[.bool false, .slice none 0 0, .slice none 0 0, .bool false, .slice none 0 0, .slice none 0 0] 29)
      have hsz := hS.2.2.2.2.2.2
      go_simp
      exact hKO _ _ hE ⟨_, rfl, hsz, hn.form⟩
     ·have q6 := hp.1; have e4 := isOf hp.2.1; simp only [e4] at hKO
      obtain ⟨g, ev, hg, hf⟩ := q6
      replace ev : vs 6 = _ := ev
      obtain ⟨x0_0, x0_1, x0_2, x0_3, x0_4, x0_5, hx, hno⟩ := hf.bx6
      have r0 := hx.froz0
      have t0 := hx.cell0
      have r1 := hx.froz1
      have t1 := hx.cell1
      have r2 := hx.froz2
      have t2 := hx.cell2
      have r3 := hx.froz3
      have t3 := hx.cell3
      have r4 := hx.froz4
      have t4 := hx.cell4
      have r5 := hx.froz5
      have t5 := hx.cell5
      have hw := Wr.set6 hx hno false none 0 0 none 0 0 false none 0 0 none 0 0
      have hq := hx.set (.bool false) (.slice none 0 0) (.slice none 0 0) (.bool false) (.slice none 0 0) (.slice none 0 0)
      simp only [ev] at hKO; go_simp
      exact hKO _ _ hw ⟨(Ext.wr hS.1 hw (by omega)), (hS.2.1.wr hw (by omega)), (hS.2.2.1.wr hw), (hS.2.2.2.1.wr hw (by omega)), (hS.2.2.2.2.1.wr hw (by omega)), (hS.2.2.2.2.2.1.wr hw (by omega)), (Nat.le_trans hS.2.2.2.2.2.2 hw.apart.size)⟩ ⟨g, ev, hg, hq⟩
     ·have e5 := isOf hp.1; simp only [e5] at hKO; go_simp; exact hKO _ W (.refl W) rfl
    intro vs W9 hS hp
    clear szw9 E0 p2 hsp p6_7 p7_7 p8_7
    obtain ⟨E0, p2, hsp, p6_7, p7_7, p8_7, sz9⟩ := hS
    obtain ⟨h9_0, h9_1, h9_2, h9_3, h9_4, h9_5, h9_6, h9_7, h9_8, -⟩ := hp
    obtain ⟨g9_7, ev9_7, hg9_7, p9_7⟩ := h9_7
    replace ev9_7 : vs 6 = _ := ev9_7
    replace h9_0 : vs 0 = .agg #[.bool b1, .slice a1 n1 c1, .slice d1 m1 o1, .bool bb1, .slice aa1 nn1 cc1, .slice dd1 mm1 oo1] := h9_0
    replace h9_1 : vs 1 = .int .i64 k := h9_1
    replace h9_2 : vs 2 = .tuple #[.agg #[.bool false, .slice none 0 0, .slice none 0 0, .bool false, .slice none 0 0, .slice none 0 0], .int .i64 1] := h9_2
    replace h9_3 : vs 3 = .tuple #[.agg #[.bool false, .slice none 0 0, .slice none 0 0, .bool false, .slice none 0 0, .slice none 0 0], .int .i64 1] := h9_3
    replace h9_4 : vs 4 = .agg #[.bool false, .slice none 0 0, .slice none 0 0, .bool false, .slice none 0 0, .slice none 0 0] := h9_4
    replace h9_5 : vs 5 = .int .i64 1 := h9_5
    replace h9_8 : vs 8 = .int .i64 1 := h9_8
    simp only [ev9_7, h9_0, h9_1, h9_2, h9_3, h9_4, h9_5, h9_8]
    clear ev9_7 h9_0 h9_1 h9_2 h9_3 h9_4 h9_5 h9_8 h9_6
    obtain ⟨kp2_0, kp2_1, kp2_2, kp2_3, kp2_4, kp2_5⟩ := p2.c6
    obtain ⟨kp6_7_0, kp6_7_1, kp6_7_2, kp6_7_3, kp6_7_4, kp6_7_5⟩ := p6_7.c6
    obtain ⟨kp7_7_0, kp7_7_1, kp7_7_2, kp7_7_3, kp7_7_4, kp7_7_5⟩ := p7_7.c6
    obtain ⟨kp8_7_0, kp8_7_1, kp8_7_2, kp8_7_3, kp8_7_4, kp8_7_5⟩ := p8_7.c6
    obtain ⟨kp9_7_0, kp9_7_1, kp9_7_2, kp9_7_3, kp9_7_4, kp9_7_5⟩ := p9_7.c6
    go_upto_region 7 with (fail)
    clear kp2_0 kp2_1 kp2_2 kp2_3 kp2_4 kp2_5 kp6_7_0 kp6_7_1 kp6_7_2 kp6_7_3 kp6_7_4 kp6_7_5 kp7_7_0 kp7_7_1 kp7_7_2 kp7_7_3 kp7_7_4 kp7_7_5 kp8_7_0 kp8_7_1 kp8_7_2 kp8_7_3 kp8_7_4 kp8_7_5 kp9_7_0 kp9_7_1 kp9_7_2 kp9_7_3 kp9_7_4 kp9_7_5; have ltp9_7 := p9_7.lt; have szw10 := Ext.size E0
    refine region_gs [.one fun v _ => v = .bool true,
      .one fun v _ => v = .bool true,
      .one fun v _ => v = .agg #[.bool false, .slice none 0 0, .slice none 0 0, .bool false, .slice none 0 0, .slice none 0 0],
      .one fun v _ => v = .agg #[.bool false, .slice none 0 0, .slice none 0 0, .bool false, .slice none 0 0, .slice none 0 0],
      .one fun v _ => v = .bool true,
      .one fun v _ => v = .bool true,
      .one fun v _ => v = .bool true,
      .one fun v _ => v = .int .i64 1,
      .one fun v _ => v = .int .i64 1,
      .one fun v _ => v = .bool true,
      .one fun v _ => v = .bool true,
      .one fun v _ => v = .bool true,
      .one fun v _ => v = .agg #[.bool false, .slice none 0 0, .slice none 0 0, .bool false, .slice none 0 0, .slice none 0 0],
      .one fun v _ => v = .agg #[.bool false, .slice none 0 0, .slice none 0 0, .bool false, .slice none 0 0, .slice none 0 0],
      .one fun v _ => v = .bool true,
      .one fun v _ => v = .bool true,
      .one fun v _ => v = .bool true,
      .one fun v _ => v = .int .i64 1,
      .one fun v _ => v = .int .i64 1,
      .one fun v _ => v = .bool true,
      .one fun v _ => v = .bool true,
      .one fun v _ => v = .bool true]
     (fun W => Ext w W ∧ Bx6 W w.heap.size 29 (.bool b1) (.slice a1 n1 c1) (.slice d1 m1 o1) (.bool bb1) (.slice aa1 nn1 cc1) (.slice dd1 mm1 oo1) ∧ Sw W (.agg #[.bool b1, .slice a1 n1 c1, .slice d1 m1 o1, .bool bb1, .slice aa1 nn1 cc1, .slice dd1 mm1 oo1]) p ∧ Bx6 W g6_7 29 (.bool false) (.slice none 0 0) (.slice none 0 0) (.bool false) (.slice none 0 0) (.slice none 0 0) ∧ Bx6 W g7_7 29 (.bool false) (.slice none 0 0) (.slice none 0 0) (.bool false) (.slice none 0 0) (.slice none 0 0) ∧ Bx6 W g8_7 29 (.bool false) (.slice none 0 0) (.slice none 0 0) (.bool false) (.slice none 0 0) (.slice none 0 0) ∧ Bx6 W g9_7 29 (.bool false) (.slice none 0 0) (.slice none 0 0) (.bool false) (.slice none 0 0) (.slice none 0 0) ∧ W9.heap.size ≤ W.heap.size) ⟨Good.is _, Good.is _, Good.is _, Good.is _, Good.is _, Good.is _, Good.is _, Good.is _, Good.is _, Good.is _, Good.is _, Good.is _, Good.is _, Good.is _, Good.is _, Good.is _, Good.is _, Good.is _, Good.is _, Good.is _, Good.is _, Good.is _, trivial⟩
     ⟨E0, p2, hsp, p6_7, p7_7, p8_7, p9_7, Nat.le_refl _⟩ (A := ?A10) ?hA10 ?howe10 ?hfin10
    case hA10 =>
     intro vs
     simp only [putAll, Act.put, sA, sZ, sS, Nat.zero_add, Nat.reduceAdd]
     exact rfl
    case howe10 =>
     clear E0 p2 hsp p6_7 p7_7 p8_7 p9_7
     intro hf
     refine ⟨oE 0 [] hf rfl ?_, oE 1 [0] hf rfl ?_, oE 2 [1] hf rfl ?_, oE 3 [1] hf rfl ?_, oE 4 [1, 2, 3] hf rfl ?_, oE 5 [1, 4] hf rfl ?_, oE 6 [5] hf rfl ?_, oE 7 [6] hf rfl ?_, oE 8 [6] hf rfl ?_, oE 9 [6, 7, 8] hf rfl ?_, oE 10 [6, 9] hf rfl ?_, oE 11 [10] hf rfl ?_, oE 12 [11] hf rfl ?_, oE 13 [11] hf rfl ?_, oE 14 [11, 12, 13] hf rfl ?_, oE 15 [11, 14] hf rfl ?_, oE 16 [15] hf rfl ?_, oE 17 [16] hf rfl ?_, oE 18 [16] hf rfl ?_, oE 19 [16, 17, 18] hf rfl ?_, oE 20 [16, 19] hf rfl ?_, oE 21 [20] hf rfl ?_, trivial⟩
     all_goals intro vs W hS hp hx KO hKO
     all_goals simp only [Act.put, sA, sZ, sS] at hKO
     ·go_simp
      refine (Tryz.alive07 _).mono ?_
      rintro e W1 ⟨rfl, hE⟩
      exact hKO _ W1 hE rfl
     ·have e0 := isOf hp.1; simp only [e0] at hKO; go_simp; exact hKO _ W (.refl W) rfl
     ·have e1 := isOf hp.1; simp only [e1] at hKO; have fc0 := hS.2.2.2.1.cell0; have fc1 := hS.2.2.2.1.cell1; have fc2 := hS.2.2.2.1.cell2; have fc3 := hS.2.2.2.1.cell3; have fc4 := hS.2.2.2.1.cell4; have fc5 := hS.2.2.2.1.cell5; go_simp; exact hKO _ W (.refl W) rfl
     ·have e1 := isOf hp.1; simp only [e1] at hKO; have fc0 := hS.2.2.2.2.1.cell0; have fc1 := hS.2.2.2.2.1.cell1; have fc2 := hS.2.2.2.2.1.cell2; have fc3 := hS.2.2.2.2.1.cell3; have fc4 := hS.2.2.2.2.1.cell4; have fc5 := hS.2.2.2.2.1.cell5; go_simp; exact hKO _ W (.refl W) rfl
     ·have e1 := isOf hp.1; have e2 := isOf hp.2.1; have e3 := isOf hp.2.2.1; simp only [e1, e2, e3] at hKO; go_simp
      refine (Tryz.rsSame0 _).mono ?_
      rintro e W1 ⟨rfl, hE⟩
      exact hKO _ W1 hE rfl
     ·have e1 := isOf hp.1; have e4 := isOf hp.2.1; simp only [e1, e4] at hKO; go_simp; exact hKO _ W (.refl W) rfl
     ·have e5 := isOf hp.1; simp only [e5] at hKO; go_simp; exact hKO _ W (.refl W) rfl
     ·have e6 := isOf hp.1; simp only [e6] at hKO; go_simp; exact hKO _ W (.refl W) rfl
     ·have e6 := isOf hp.1; simp only [e6] at hKO; go_simp; exact hKO _ W (.refl W) rfl
     ·have e6 := isOf hp.1; have e7 := isOf hp.2.1; have e8 := isOf hp.2.2.1; simp only [e6, e7, e8] at hKO; go_simp; exact hKO _ W (.refl W) rfl
     ·have e6 := isOf hp.1; have e9 := isOf hp.2.1; simp only [e6, e9] at hKO; go_simp; exact hKO _ W (.refl W) rfl
     ·have e10 := isOf hp.1; simp only [e10] at hKO; go_simp; exact hKO _ W (.refl W) rfl
     ·have e11 := isOf hp.1; simp only [e11] at hKO; have fc0 := hS.2.2.2.2.2.1.cell0; have fc1 := hS.2.2.2.2.2.1.cell1; have fc2 := hS.2.2.2.2.2.1.cell2; have fc3 := hS.2.2.2.2.2.1.cell3; have fc4 := hS.2.2.2.2.2.1.cell4; have fc5 := hS.2.2.2.2.2.1.cell5; go_simp; exact hKO _ W (.refl W) rfl
     ·have e11 := isOf hp.1; simp only [e11] at hKO; have fc0 := hS.2.2.2.2.2.2.1.cell0; have fc1 := hS.2.2.2.2.2.2.1.cell1; have fc2 := hS.2.2.2.2.2.2.1.cell2; have fc3 := hS.2.2.2.2.2.2.1.cell3; have fc4 := hS.2.2.2.2.2.2.1.cell4; have fc5 := hS.2.2.2.2.2.2.1.cell5; go_simp; exact hKO _ W (.refl W) rfl
     ·have e11 := isOf hp.1; have e12 := isOf hp.2.1; have e13 := isOf hp.2.2.1; simp only [e11, e12, e13] at hKO; go_simp
      refine (Tryz.rsSame0 _).mono ?_
      rintro e W1 ⟨rfl, hE⟩
      exact hKO _ W1 hE rfl
     ·have e11 := isOf hp.1; have e14 := isOf hp.2.1; simp only [e11, e14] at hKO; go_simp; exact hKO _ W (.refl W) rfl
     ·have e15 := isOf hp.1; simp only [e15] at hKO; go_simp; exact hKO _ W (.refl W) rfl
     ·have e16 := isOf hp.1; simp only [e16] at hKO; go_simp; exact hKO _ W (.refl W) rfl
     ·have e16 := isOf hp.1; simp only [e16] at hKO; go_simp; exact hKO _ W (.refl W) rfl
     ·have e16 := isOf hp.1; have e17 := isOf hp.2.1; have e18 := isOf hp.2.2.1; simp only [e16, e17, e18] at hKO; go_simp; exact hKO _ W (.refl W) rfl
     ·have e16 := isOf hp.1; have e19 := isOf hp.2.1; simp only [e16, e19] at hKO; go_simp; exact hKO _ W (.refl W) rfl
     ·have e20 := isOf hp.1; simp only [e20] at hKO; go_simp; exact hKO _ W (.refl W) rfl
    intro vs W10 hS hp
    clear szw10 E0 p2 hsp p6_7 p7_7 p8_7 p9_7
    obtain ⟨E0, p2, hsp, p6_7, p7_7, p8_7, p9_7, sz10⟩ := hS
    obtain ⟨h10_0, h10_1, h10_2, h10_3, h10_4, h10_5, h10_6, h10_7, h10_8, h10_9, h10_10, h10_11, h10_12, h10_13, h10_14, h10_15, h10_16, h10_17, h10_18, h10_19, h10_20, h10_21, -⟩ := hp
    replace h10_0 : vs 0 = .bool true := h10_0
    replace h10_1 : vs 1 = .bool true := h10_1
    replace h10_2 : vs 2 = .agg #[.bool false, .slice none 0 0, .slice none 0 0, .bool false, .slice none 0 0, .slice none 0 0] := h10_2
    replace h10_3 : vs 3 = .agg #[.bool false, .slice none 0 0, .slice none 0 0, .bool false, .slice none 0 0, .slice none 0 0] := h10_3
    replace h10_4 : vs 4 = .bool true := h10_4
    replace h10_5 : vs 5 = .bool true := h10_5
    replace h10_6 : vs 6 = .bool true := h10_6
    replace h10_7 : vs 7 = .int .i64 1 := h10_7
    replace h10_8 : vs 8 = .int .i64 1 := h10_8
    replace h10_9 : vs 9 = .bool true := h10_9
    replace h10_10 : vs 10 = .bool true := h10_10
    replace h10_11 : vs 11 = .bool true := h10_11
    replace h10_12 : vs 12 = .agg #[.bool false, .slice none 0 0, .slice none 0 0, .bool false, .slice none 0 0, .slice none 0 0] := h10_12
    replace h10_13 : vs 13 = .agg #[.bool false, .slice none 0 0, .slice none 0 0, .bool false, .slice none 0 0, .slice none 0 0] := h10_13
    replace h10_14 : vs 14 = .bool true := h10_14
    replace h10_15 : vs 15 = .bool true := h10_15
    replace h10_16 : vs 16 = .bool true := h10_16
    replace h10_17 : vs 17 = .int .i64 1 := h10_17
    replace h10_18 : vs 18 = .int .i64 1 := h10_18
    replace h10_19 : vs 19 = .bool true := h10_19
    replace h10_20 : vs 20 = .bool true := h10_20
    replace h10_21 : vs 21 = .bool true := h10_21
    simp only [h10_0, h10_1, h10_2, h10_3, h10_4, h10_5, h10_6, h10_7, h10_8, h10_9, h10_10, h10_11, h10_12, h10_13, h10_14, h10_15, h10_16, h10_17, h10_18, h10_19, h10_20, h10_21]
    clear h10_0 h10_1 h10_2 h10_3 h10_4 h10_5 h10_6 h10_7 h10_8 h10_9 h10_10 h10_11 h10_12 h10_13 h10_14 h10_15 h10_16 h10_17 h10_18 h10_19 h10_20 h10_21
    obtain ⟨kp2_0, kp2_1, kp2_2, kp2_3, kp2_4, kp2_5⟩ := p2.c6
    obtain ⟨kp6_7_0, kp6_7_1, kp6_7_2, kp6_7_3, kp6_7_4, kp6_7_5⟩ := p6_7.c6
    obtain ⟨kp7_7_0, kp7_7_1, kp7_7_2, kp7_7_3, kp7_7_4, kp7_7_5⟩ := p7_7.c6
    obtain ⟨kp8_7_0, kp8_7_1, kp8_7_2, kp8_7_3, kp8_7_4, kp8_7_5⟩ := p8_7.c6
    obtain ⟨kp9_7_0, kp9_7_1, kp9_7_2, kp9_7_3, kp9_7_4, kp9_7_5⟩ := p9_7.c6
    clear hsp; go_wp2; go_ret
    exact ⟨rfl, E0⟩
  ·by_cases hk3 : k > 300
   ·have hk4 : k ≤ 1000 := by omega
    clear hk
    obtain ⟨kp2_0, kp2_1, kp2_2, kp2_3, kp2_4, kp2_5⟩ := p2.c6
    go_wp2_with fail
    clear kp2_0 kp2_1 kp2_2 kp2_3 kp2_4 kp2_5
    refine (Tryz.alive07 _).mono ?_
    rintro e Wv ⟨rfl, hE⟩
    replace E0 := (Ext.trans E0 hE); replace p2 := (p2.ext hE); replace hsp := (hsp.ext hE); clear hE
    obtain ⟨kp2_0, kp2_1, kp2_2, kp2_3, kp2_4, kp2_5⟩ := p2.c6
    clear hsp; go_wp2; go_ret
    exact ⟨rfl, E0⟩
   ·obtain ⟨K, rfl⟩ := Int.eq_ofNat_of_zero_le (show 0 ≤ k by omega)
    have HK : Hid (K ≤ 1000) := Lib.hid (by omega)
    clear hk
    by_cases hp0 : p.1 < 0
    ·have HP0 := Lib.hid hp0
     clear hp0
     obtain ⟨kp2_0, kp2_1, kp2_2, kp2_3, kp2_4, kp2_5⟩ := p2.c6
     go_upto_region 3 with (fail)
     clear kp2_0 kp2_1 kp2_2 kp2_3 kp2_4 kp2_5; have ltp2 := p2.lt; have szw11 := Ext.size E0
     refine region_gs [.one fun v _ => v = .agg #[.bool b1, .slice a1 n1 c1, .slice d1 m1 o1, .bool bb1, .slice aa1 nn1 cc1, .slice dd1 mm1 oo1],
       .one fun v _ => v = .int .i64 (K : Int),
       .one fun v W => ∃ v', v = .tuple #[v', .int .i64 0] ∧ (fun v W => Sw W v (outS p K)) v' W,
       .one fun v W => ∃ v', v = .tuple #[v', .int .i64 0] ∧ (fun v W => Sw W v (outS p K)) v' W,
       .one fun v W => Sw W v (outS p K),
       .one fun v _ => v = .int .i64 0,
       .one fun v W => ∃ g, v = .pointer (some ⟨g, 0, none⟩) ∧ WfB1.heap.size ≤ g ∧ Form W g 29 6,
       .three 6 4 (fun p r _ W => Put6 WfB1.heap.size 29 p r W),
       .one fun v _ => v = .int .i64 0]
      (fun W => Ext w W ∧ Bx6 W w.heap.size 29 (.bool b1) (.slice a1 n1 c1) (.slice d1 m1 o1) (.bool bb1) (.slice aa1 nn1 cc1) (.slice dd1 mm1 oo1) ∧ Sw W (.agg #[.bool b1, .slice a1 n1 c1, .slice d1 m1 o1, .bool bb1, .slice aa1 nn1 cc1, .slice dd1 mm1 oo1]) p ∧ WfB1.heap.size ≤ W.heap.size) ⟨Good.is _, Good.is _, (Good.span _).tup _, (Good.span _).tup _, Good.span _, Good.is _, Good.box _ _ _, cert_put6, Good.is _, trivial⟩
      ⟨E0, p2, hsp, Nat.le_refl _⟩ (A := ?A11) ?hA11 ?howe11 ?hfin11
     case hA11 =>
      intro vs
      simp only [putAll, Act.put, sA, sZ, sS, Nat.zero_add, Nat.reduceAdd]
      exact rfl
     case howe11 =>
      clear E0 p2 hsp
      intro hf
      refine ⟨oE 0 [] hf rfl ?_, oE 1 [] hf rfl ?_, oE 2 [0, 1] hf rfl ?_, oE 3 [2] hf rfl ?_, oE 4 [3] hf rfl ?_, oE 5 [3] hf rfl ?_, oE 6 [] hf rfl ?_, oW 7 [6, 4] hf rfl ?_, oE 8 [5] hf rfl ?_, trivial⟩
      all_goals intro vs W hS hp hx KO hKO
      all_goals simp only [Act.put, sA, sZ, sS] at hKO
      ·have fc0 := hS.2.1.cell0; have fc1 := hS.2.1.cell1; have fc2 := hS.2.1.cell2; have fc3 := hS.2.1.cell3; have fc4 := hS.2.1.cell4; have fc5 := hS.2.1.cell5; go_simp; exact hKO _ W (.refl W) rfl
      ·go_simp; exact hKO _ W (.refl W) rfl
      ·have e0 := isOf hp.1; have e1 := isOf hp.2.1; simp only [e0, e1] at hKO; go_simp
       refine (Tryz.ivOut (hS.2.2.1) SP.out (by omega) K HK.out).mono ?_
       rintro e W1 ⟨v, rfl, hv, hE⟩
       exact hKO _ W1 hE ⟨_, rfl, hv⟩
      ·have q2 := hp.1
       obtain ⟨u, ev, hu⟩ := q2
       replace ev : vs 2 = _ := ev; simp only [ev] at hKO; go_simp; exact hKO _ W (Ext.refl W) ⟨u, rfl, hu⟩
      ·have q3 := hp.1
       obtain ⟨u, ev, hu⟩ := q3
       replace ev : vs 3 = _ := ev; simp only [ev] at hKO; go_simp; exact hKO _ W (Ext.refl W) hu
      ·have q3 := hp.1
       obtain ⟨u, ev, hu⟩ := q3
       replace ev : vs 3 = _ := ev; simp only [ev] at hKO; go_simp; exact hKO _ W (.refl W) rfl
      ·have hn := Bx6.new W 29 (.bool false) (.slice none 0 0) (.slice none 0 0) (.bool false) (.slice none 0 0) (.slice none 0 0)
       have hE := Ext.alloc1 W (.cells #[.bool false, .slice none 0 0, .slice none 0 0, .bool false, .slice none 0 0, .slice none 0 0] 29)
       have hsz := hS.2.2.2
       go_simp
       exact hKO _ _ hE ⟨_, rfl, hsz, hn.form⟩
      ·have q6 := hp.1; have q4 := hp.2.1
       obtain ⟨g, ev, hg, hf⟩ := q6
       replace ev : vs 6 = _ := ev
       obtain ⟨x0_0, x0_1, x0_2, x0_3, x0_4, x0_5, hx, hno⟩ := hf.bx6
       have qr := q4
       obtain ⟨b3, a3, n3, c3, d3, m3, o3, bb3, aa3, nn3, cc3, dd3, mm3, oo3, er, -, -⟩ := qr
       replace er : vs 4 = _ := er
       have r0 := hx.froz0
       have t0 := hx.cell0
       have r1 := hx.froz1
       have t1 := hx.cell1
       have r2 := hx.froz2
       have t2 := hx.cell2
       have r3 := hx.froz3
       have t3 := hx.cell3
       have r4 := hx.froz4
       have t4 := hx.cell4
       have r5 := hx.froz5
       have t5 := hx.cell5
       have hw := Wr.set6 hx hno b3 a3 n3 c3 d3 m3 o3 bb3 aa3 nn3 cc3 dd3 mm3 oo3
       have hq := hx.set (.bool b3) (.slice a3 n3 c3) (.slice d3 m3 o3) (.bool bb3) (.slice aa3 nn3 cc3) (.slice dd3 mm3 oo3)
       simp only [ev, er] at hKO; go_simp
       exact hKO _ _ hw ⟨(Ext.wr hS.1 hw (by omega)), (hS.2.1.wr hw (by omega)), (hS.2.2.1.wr hw), (Nat.le_trans hS.2.2.2 hw.apart.size)⟩ ⟨g, b3, a3, n3, c3, d3, m3, o3, bb3, aa3, nn3, cc3, dd3, mm3, oo3, ev, er, hg, hq⟩
      ·have e5 := isOf hp.1; simp only [e5] at hKO; go_simp; exact hKO _ W (.refl W) rfl
     intro vs W11 hS hp
     clear szw11 E0 p2 hsp
     obtain ⟨E0, p2, hsp, sz11⟩ := hS
     obtain ⟨h11_0, h11_1, h11_2, h11_3, h11_4, h11_5, h11_6, h11_7, h11_8, -⟩ := hp
     obtain ⟨g11_7, b11_7, a11_7, n11_7, c11_7, d11_7, m11_7, o11_7, bb11_7, aa11_7, nn11_7, cc11_7, dd11_7, mm11_7, oo11_7, ev11_7, er11_7, hg11_7, p11_7⟩ := h11_7
     replace ev11_7 : vs 6 = _ := ev11_7; replace er11_7 : vs 4 = _ := er11_7; replace h11_4 := (show Sw W11 (vs 4) (outS p K) from h11_4)
     rw [er11_7] at h11_4
     replace h11_0 : vs 0 = .agg #[.bool b1, .slice a1 n1 c1, .slice d1 m1 o1, .bool bb1, .slice aa1 nn1 cc1, .slice dd1 mm1 oo1] := h11_0
     replace h11_1 : vs 1 = .int .i64 (K : Int) := h11_1
     replace h11_5 : vs 5 = .int .i64 0 := h11_5
     replace h11_8 : vs 8 = .int .i64 0 := h11_8
     simp only [ev11_7, er11_7, h11_0, h11_1, h11_5, h11_8]
     clear ev11_7 er11_7 h11_0 h11_1 h11_5 h11_8 h11_2 h11_3 h11_6
     obtain ⟨kp2_0, kp2_1, kp2_2, kp2_3, kp2_4, kp2_5⟩ := p2.c6
     obtain ⟨kp11_7_0, kp11_7_1, kp11_7_2, kp11_7_3, kp11_7_4, kp11_7_5⟩ := p11_7.c6
     go_upto_region 4 with (fail)
     clear kp2_0 kp2_1 kp2_2 kp2_3 kp2_4 kp2_5 kp11_7_0 kp11_7_1 kp11_7_2 kp11_7_3 kp11_7_4 kp11_7_5; have ltp11_7 := p11_7.lt; have szw12 := Ext.size E0
     refine region_gs [.one fun v _ => v = .agg #[.bool b1, .slice a1 n1 c1, .slice d1 m1 o1, .bool bb1, .slice aa1 nn1 cc1, .slice dd1 mm1 oo1],
       .one fun v _ => v = .int .i64 (K : Int),
       .one fun v W => ∃ v', v = .tuple #[v', .int .i64 0] ∧ (fun v W => Sw W v (outS p K)) v' W,
       .one fun v W => ∃ v', v = .tuple #[v', .int .i64 0] ∧ (fun v W => Sw W v (outS p K)) v' W,
       .one fun v W => Sw W v (outS p K),
       .one fun v _ => v = .int .i64 0,
       .one fun v W => ∃ g, v = .pointer (some ⟨g, 0, none⟩) ∧ W11.heap.size ≤ g ∧ Form W g 29 6,
       .three 6 4 (fun p r _ W => Put6 W11.heap.size 29 p r W),
       .one fun v _ => v = .int .i64 0]
      (fun W => Ext w W ∧ Bx6 W w.heap.size 29 (.bool b1) (.slice a1 n1 c1) (.slice d1 m1 o1) (.bool bb1) (.slice aa1 nn1 cc1) (.slice dd1 mm1 oo1) ∧ Sw W (.agg #[.bool b1, .slice a1 n1 c1, .slice d1 m1 o1, .bool bb1, .slice aa1 nn1 cc1, .slice dd1 mm1 oo1]) p ∧ Sw W (.agg #[.bool b11_7, .slice a11_7 n11_7 c11_7, .slice d11_7 m11_7 o11_7, .bool bb11_7, .slice aa11_7 nn11_7 cc11_7, .slice dd11_7 mm11_7 oo11_7]) (outS p K) ∧ Bx6 W g11_7 29 (.bool b11_7) (.slice a11_7 n11_7 c11_7) (.slice d11_7 m11_7 o11_7) (.bool bb11_7) (.slice aa11_7 nn11_7 cc11_7) (.slice dd11_7 mm11_7 oo11_7) ∧ W11.heap.size ≤ W.heap.size) ⟨Good.is _, Good.is _, (Good.span _).tup _, (Good.span _).tup _, Good.span _, Good.is _, Good.box _ _ _, cert_put6, Good.is _, trivial⟩
      ⟨E0, p2, hsp, h11_4, p11_7, Nat.le_refl _⟩ (A := ?A12) ?hA12 ?howe12 ?hfin12
     case hA12 =>
      intro vs
      simp only [putAll, Act.put, sA, sZ, sS, Nat.zero_add, Nat.reduceAdd]
      exact rfl
     case howe12 =>
      clear E0 p2 hsp h11_4 p11_7
      intro hf
      refine ⟨oE 0 [] hf rfl ?_, oE 1 [] hf rfl ?_, oE 2 [0, 1] hf rfl ?_, oE 3 [2] hf rfl ?_, oE 4 [3] hf rfl ?_, oE 5 [3] hf rfl ?_, oE 6 [] hf rfl ?_, oW 7 [6, 4] hf rfl ?_, oE 8 [5] hf rfl ?_, trivial⟩
      all_goals intro vs W hS hp hx KO hKO
      all_goals simp only [Act.put, sA, sZ, sS] at hKO
      ·have fc0 := hS.2.1.cell0; have fc1 := hS.2.1.cell1; have fc2 := hS.2.1.cell2; have fc3 := hS.2.1.cell3; have fc4 := hS.2.1.cell4; have fc5 := hS.2.1.cell5; go_simp; exact hKO _ W (.refl W) rfl
      ·go_simp; exact hKO _ W (.refl W) rfl
      ·have e0 := isOf hp.1; have e1 := isOf hp.2.1; simp only [e0, e1] at hKO; go_simp
       refine (Tryz.rsOut (hS.2.2.1) SP.out (by omega) K HK.out).mono ?_
       rintro e W1 ⟨v, rfl, hv, hE⟩
       exact hKO _ W1 hE ⟨_, rfl, hv⟩
      ·have q2 := hp.1
       obtain ⟨u, ev, hu⟩ := q2
       replace ev : vs 2 = _ := ev; simp only [ev] at hKO; go_simp; exact hKO _ W (Ext.refl W) ⟨u, rfl, hu⟩
      ·have q3 := hp.1
       obtain ⟨u, ev, hu⟩ := q3
       replace ev : vs 3 = _ := ev; simp only [ev] at hKO; go_simp; exact hKO _ W (Ext.refl W) hu
      ·have q3 := hp.1
       obtain ⟨u, ev, hu⟩ := q3
       replace ev : vs 3 = _ := ev; simp only [ev] at hKO; go_simp; exact hKO _ W (.refl W) rfl
      ·have hn := Bx6.new W 29 (.bool false) (.slice none 0 0) (.slice none 0 0) (.bool false) (.slice none 0 0) (.slice none 0 0)
       have hE := Ext.alloc1 W (.cells #[.bool false, .slice none 0 0, .slice none 0 0, .bool false, .slice none 0 0, .slice none 0 0] 29)
       have hsz := hS.2.2.2.2.2
       go_simp
       exact hKO _ _ hE ⟨_, rfl, hsz, hn.form⟩
      ·have q6 := hp.1; have q4 := hp.2.1
       obtain ⟨g, ev, hg, hf⟩ := q6
       replace ev : vs 6 = _ := ev
       obtain ⟨x0_0, x0_1, x0_2, x0_3, x0_4, x0_5, hx, hno⟩ := hf.bx6
       have qr := q4
       obtain ⟨b3, a3, n3, c3, d3, m3, o3, bb3, aa3, nn3, cc3, dd3, mm3, oo3, er, -, -⟩ := qr
       replace er : vs 4 = _ := er
       have r0 := hx.froz0
       have t0 := hx.cell0
       have r1 := hx.froz1
       have t1 := hx.cell1
       have r2 := hx.froz2
       have t2 := hx.cell2
       have r3 := hx.froz3
       have t3 := hx.cell3
       have r4 := hx.froz4
       have t4 := hx.cell4
       have r5 := hx.froz5
       have t5 := hx.cell5
       have hw := Wr.set6 hx hno b3 a3 n3 c3 d3 m3 o3 bb3 aa3 nn3 cc3 dd3 mm3 oo3
       have hq := hx.set (.bool b3) (.slice a3 n3 c3) (.slice d3 m3 o3) (.bool bb3) (.slice aa3 nn3 cc3) (.slice dd3 mm3 oo3)
       simp only [ev, er] at hKO; go_simp
       exact hKO _ _ hw ⟨(Ext.wr hS.1 hw (by omega)), (hS.2.1.wr hw (by omega)), (hS.2.2.1.wr hw), (hS.2.2.2.1.wr hw), (hS.2.2.2.2.1.wr hw (by omega)), (Nat.le_trans hS.2.2.2.2.2 hw.apart.size)⟩ ⟨g, b3, a3, n3, c3, d3, m3, o3, bb3, aa3, nn3, cc3, dd3, mm3, oo3, ev, er, hg, hq⟩
      ·have e5 := isOf hp.1; simp only [e5] at hKO; go_simp; exact hKO _ W (.refl W) rfl
     intro vs W12 hS hp
     clear szw12 E0 p2 hsp h11_4 p11_7
     obtain ⟨E0, p2, hsp, h11_4, p11_7, sz12⟩ := hS
     obtain ⟨h12_0, h12_1, h12_2, h12_3, h12_4, h12_5, h12_6, h12_7, h12_8, -⟩ := hp
     obtain ⟨g12_7, b12_7, a12_7, n12_7, c12_7, d12_7, m12_7, o12_7, bb12_7, aa12_7, nn12_7, cc12_7, dd12_7, mm12_7, oo12_7, ev12_7, er12_7, hg12_7, p12_7⟩ := h12_7
     replace ev12_7 : vs 6 = _ := ev12_7; replace er12_7 : vs 4 = _ := er12_7; replace h12_4 := (show Sw W12 (vs 4) (outS p K) from h12_4)
     rw [er12_7] at h12_4
     replace h12_0 : vs 0 = .agg #[.bool b1, .slice a1 n1 c1, .slice d1 m1 o1, .bool bb1, .slice aa1 nn1 cc1, .slice dd1 mm1 oo1] := h12_0
     replace h12_1 : vs 1 = .int .i64 (K : Int) := h12_1
     replace h12_5 : vs 5 = .int .i64 0 := h12_5
     replace h12_8 : vs 8 = .int .i64 0 := h12_8
     simp only [ev12_7, er12_7, h12_0, h12_1, h12_5, h12_8]
     clear ev12_7 er12_7 h12_0 h12_1 h12_5 h12_8 h12_2 h12_3 h12_6
     obtain ⟨kp2_0, kp2_1, kp2_2, kp2_3, kp2_4, kp2_5⟩ := p2.c6
     obtain ⟨kp11_7_0, kp11_7_1, kp11_7_2, kp11_7_3, kp11_7_4, kp11_7_5⟩ := p11_7.c6
     obtain ⟨kp12_7_0, kp12_7_1, kp12_7_2, kp12_7_3, kp12_7_4, kp12_7_5⟩ := p12_7.c6
     go_upto_region 5 with (fail)
     clear kp2_0 kp2_1 kp2_2 kp2_3 kp2_4 kp2_5 kp11_7_0 kp11_7_1 kp11_7_2 kp11_7_3 kp11_7_4 kp11_7_5 kp12_7_0 kp12_7_1 kp12_7_2 kp12_7_3 kp12_7_4 kp12_7_5; have ltp12_7 := p12_7.lt; have szw13 := Ext.size E0
     refine region_gs [.one fun v _ => v = .agg #[.bool b1, .slice a1 n1 c1, .slice d1 m1 o1, .bool bb1, .slice aa1 nn1 cc1, .slice dd1 mm1 oo1],
       .one fun v _ => v = .int .i64 (K : Int),
       .one fun v _ => v = .tuple #[.agg #[.bool false, .slice none 0 0, .slice none 0 0, .bool false, .slice none 0 0, .slice none 0 0], .int .i64 1],
       .one fun v _ => v = .tuple #[.agg #[.bool false, .slice none 0 0, .slice none 0 0, .bool false, .slice none 0 0, .slice none 0 0], .int .i64 1],
       .one fun v _ => v = .agg #[.bool false, .slice none 0 0, .slice none 0 0, .bool false, .slice none 0 0, .slice none 0 0],
       .one fun v _ => v = .int .i64 1,
       .one fun v W => ∃ g, v = .pointer (some ⟨g, 0, none⟩) ∧ W12.heap.size ≤ g ∧ Form W g 29 6,
       .two 6 (fun p _ W => New6 W12.heap.size 29 (.bool false) (.slice none 0 0) (.slice none 0 0) (.bool false) (.slice none 0 0) (.slice none 0 0) p W),
       .one fun v _ => v = .int .i64 1]
      (fun W => Ext w W ∧ Bx6 W w.heap.size 29 (.bool b1) (.slice a1 n1 c1) (.slice d1 m1 o1) (.bool bb1) (.slice aa1 nn1 cc1) (.slice dd1 mm1 oo1) ∧ Sw W (.agg #[.bool b1, .slice a1 n1 c1, .slice d1 m1 o1, .bool bb1, .slice aa1 nn1 cc1, .slice dd1 mm1 oo1]) p ∧ Sw W (.agg #[.bool b11_7, .slice a11_7 n11_7 c11_7, .slice d11_7 m11_7 o11_7, .bool bb11_7, .slice aa11_7 nn11_7 cc11_7, .slice dd11_7 mm11_7 oo11_7]) (outS p K) ∧ Bx6 W g11_7 29 (.bool b11_7) (.slice a11_7 n11_7 c11_7) (.slice d11_7 m11_7 o11_7) (.bool bb11_7) (.slice aa11_7 nn11_7 cc11_7) (.slice dd11_7 mm11_7 oo11_7) ∧ Sw W (.agg #[.bool b12_7, .slice a12_7 n12_7 c12_7, .slice d12_7 m12_7 o12_7, .bool bb12_7, .slice aa12_7 nn12_7 cc12_7, .slice dd12_7 mm12_7 oo12_7]) (outS p K) ∧ Bx6 W g12_7 29 (.bool b12_7) (.slice a12_7 n12_7 c12_7) (.slice d12_7 m12_7 o12_7) (.bool bb12_7) (.slice aa12_7 nn12_7 cc12_7) (.slice dd12_7 mm12_7 oo12_7) ∧ W12.heap.size ≤ W.heap.size) ⟨Good.is _, Good.is _, Good.is _, Good.is _, Good.is _, Good.is _, Good.box _ _ _, cert_new6, Good.is _, trivial⟩
      ⟨E0, p2, hsp, h11_4, p11_7, h12_4, p12_7, Nat.le_refl _⟩ (A := ?A13) ?hA13 ?howe13 ?hfin13
     case hA13 =>
      intro vs
      simp only [putAll, Act.put, sA, sZ, sS, Nat.zero_add, Nat.reduceAdd]
      exact rfl
     case howe13 =>
      clear E0 p2 hsp h11_4 p11_7 h12_4 p12_7
      intro hf
      refine ⟨oE 0 [] hf rfl ?_, oE 1 [] hf rfl ?_, oE 2 [0, 1] hf rfl ?_, oE 3 [2] hf rfl ?_, oE 4 [3] hf rfl ?_, oE 5 [3] hf rfl ?_, oE 6 [] hf rfl ?_, oW 7 [6, 4] hf rfl ?_, oE 8 [5] hf rfl ?_, trivial⟩
      all_goals intro vs W hS hp hx KO hKO
      all_goals simp only [Act.put, sA, sZ, sS] at hKO
      ·have fc0 := hS.2.1.cell0; have fc1 := hS.2.1.cell1; have fc2 := hS.2.1.cell2; have fc3 := hS.2.1.cell3; have fc4 := hS.2.1.cell4; have fc5 := hS.2.1.cell5; go_simp; exact hKO _ W (.refl W) rfl
      ·go_simp; exact hKO _ W (.refl W) rfl
      ·have e0 := isOf hp.1; have e1 := isOf hp.2.1; simp only [e0, e1] at hKO; go_simp
       refine (Tryz.ivSqrtNeg (hS.2.2.1) K HK.out HP0.out).mono ?_
       rintro e W1 ⟨rfl, hE⟩
       exact hKO _ W1 hE rfl
      ·have e2 := isOf hp.1; simp only [e2] at hKO; go_simp; exact hKO _ W (.refl W) rfl
      ·have e3 := isOf hp.1; simp only [e3] at hKO; go_simp; exact hKO _ W (.refl W) rfl
      ·have e3 := isOf hp.1; simp only [e3] at hKO; go_simp; exact hKO _ W (.refl W) rfl
      ·have hn := Bx6.new W 29 (.bool false) (.slice none 0 0) (.slice none 0 0) (.bool false) (.slice none 0 0) (.slice none 0 0)
       have hE := Ext.alloc1 W (.cells #[.bool false, .slice none 0 0, .slice none 0 0, .bool false, .slice none 0 0, .slice none 0 0] 29)
       have hsz := hS.2.2.2.2.2.2.2
       go_simp
       exact hKO _ _ hE ⟨_, rfl, hsz, hn.form⟩
      ·have q6 := hp.1; have e4 := isOf hp.2.1; simp only [e4] at hKO
       obtain ⟨g, ev, hg, hf⟩ := q6
       replace ev : vs 6 = _ := ev
       obtain ⟨x0_0, x0_1, x0_2, x0_3, x0_4, x0_5, hx, hno⟩ := hf.bx6
       have r0 := hx.froz0
       have t0 := hx.cell0
       have r1 := hx.froz1
       have t1 := hx.cell1
       have r2 := hx.froz2
       have t2 := hx.cell2
       have r3 := hx.froz3
       have t3 := hx.cell3
       have r4 := hx.froz4
       have t4 := hx.cell4
       have r5 := hx.froz5
       have t5 := hx.cell5
       have hw := Wr.set6 hx hno false none 0 0 none 0 0 false none 0 0 none 0 0
       have hq := hx.set (.bool false) (.slice none 0 0) (.slice none 0 0) (.bool false) (.slice none 0 0) (.slice none 0 0)
       simp only [ev] at hKO; go_simp
       exact hKO _ _ hw ⟨(Ext.wr hS.1 hw (by omega)), (hS.2.1.wr hw (by omega)), (hS.2.2.1.wr hw), (hS.2.2.2.1.wr hw), (hS.2.2.2.2.1.wr hw (by omega)), (hS.2.2.2.2.2.1.wr hw), (hS.2.2.2.2.2.2.1.wr hw (by omega)), (Nat.le_trans hS.2.2.2.2.2.2.2 hw.apart.size)⟩ ⟨g, ev, hg, hq⟩
      ·have e5 := isOf hp.1; simp only [e5] at hKO; go_simp; exact hKO _ W (.refl W) rfl
     intro vs W13 hS hp
     clear szw13 E0 p2 hsp h11_4 p11_7 h12_4 p12_7
     obtain ⟨E0, p2, hsp, h11_4, p11_7, h12_4, p12_7, sz13⟩ := hS
     obtain ⟨h13_0, h13_1, h13_2, h13_3, h13_4, h13_5, h13_6, h13_7, h13_8, -⟩ := hp
     obtain ⟨g13_7, ev13_7, hg13_7, p13_7⟩ := h13_7
     replace ev13_7 : vs 6 = _ := ev13_7
     replace h13_0 : vs 0 = .agg #[.bool b1, .slice a1 n1 c1, .slice d1 m1 o1, .bool bb1, .slice aa1 nn1 cc1, .slice dd1 mm1 oo1] := h13_0
     replace h13_1 : vs 1 = .int .i64 (K : Int) := h13_1
     replace h13_2 : vs 2 = .tuple #[.agg #[.bool false, .slice none 0 0, .slice none 0 0, .bool false, .slice none 0 0, .slice none 0 0], .int .i64 1] := h13_2
     replace h13_3 : vs 3 = .tuple #[.agg #[.bool false, .slice none 0 0, .slice none 0 0, .bool false, .slice none 0 0, .slice none 0 0], .int .i64 1] := h13_3
     replace h13_4 : vs 4 = .agg #[.bool false, .slice none 0 0, .slice none 0 0, .bool false, .slice none 0 0, .slice none 0 0] := h13_4
     replace h13_5 : vs 5 = .int .i64 1 := h13_5
     replace h13_8 : vs 8 = .int .i64 1 := h13_8
     simp only [ev13_7, h13_0, h13_1, h13_2, h13_3, h13_4, h13_5, h13_8]
     clear ev13_7 h13_0 h13_1 h13_2 h13_3 h13_4 h13_5 h13_8 h13_6
     obtain ⟨kp2_0, kp2_1, kp2_2, kp2_3, kp2_4, kp2_5⟩ := p2.c6
     obtain ⟨kp11_7_0, kp11_7_1, kp11_7_2, kp11_7_3, kp11_7_4, kp11_7_5⟩ := p11_7.c6
     obtain ⟨kp12_7_0, kp12_7_1, kp12_7_2, kp12_7_3, kp12_7_4, kp12_7_5⟩ := p12_7.c6
     obtain ⟨kp13_7_0, kp13_7_1, kp13_7_2, kp13_7_3, kp13_7_4, kp13_7_5⟩ := p13_7.c6
     go_upto_region 6 with (fail)
     clear kp2_0 kp2_1 kp2_2 kp2_3 kp2_4 kp2_5 kp11_7_0 kp11_7_1 kp11_7_2 kp11_7_3 kp11_7_4 kp11_7_5 kp12_7_0 kp12_7_1 kp12_7_2 kp12_7_3 kp12_7_4 kp12_7_5 kp13_7_0 kp13_7_1 kp13_7_2 kp13_7_3 kp13_7_4 kp13_7_5; have ltp13_7 := p13_7.lt; have szw14 := Ext.size E0
     refine region_gs [.one fun v _ => v = .agg #[.bool b1, .slice a1 n1 c1, .slice d1 m1 o1, .bool bb1, .slice aa1 nn1 cc1, .slice dd1 mm1 oo1],
       .one fun v _ => v = .int .i64 (K : Int),
       .one fun v _ => v = .tuple #[.agg #[.bool false, .slice none 0 0, .slice none 0 0, .bool false, .slice none 0 0, .slice none 0 0], .int .i64 1],
       .one fun v _ => v = .tuple #[.agg #[.bool false, .slice none 0 0, .slice none 0 0, .bool false, .slice none 0 0, .slice none 0 0], .int .i64 1],
       .one fun v _ => v = .agg #[.bool false, .slice none 0 0, .slice none 0 0, .bool false, .slice none 0 0, .slice none 0 0],
       .one fun v _ => v = .int .i64 1,
       .one fun v W => ∃ g, v = .pointer (some ⟨g, 0, none⟩) ∧ W13.heap.size ≤ g ∧ Form W g 29 6,
       .two 6 (fun p _ W => New6 W13.heap.size 29 (.bool false) (.slice none 0 0) (.slice none 0 0) (.bool false) (.slice none 0 0) (.slice none 0 0) p W),
       .one fun v _ => v = .int .i64 1]
      (fun W => Ext w W ∧ Bx6 W w.heap.size 29 (.bool b1) (.slice a1 n1 c1) (.slice d1 m1 o1) (.bool bb1) (.slice aa1 nn1 cc1) (.slice dd1 mm1 oo1) ∧ Sw W (.agg #[.bool b1, .slice a1 n1 c1, .slice d1 m1 o1, .bool bb1, .slice aa1 nn1 cc1, .slice dd1 mm1 oo1]) p ∧ Sw W (.agg #[.bool b11_7, .slice a11_7 n11_7 c11_7, .slice d11_7 m11_7 o11_7, .bool bb11_7, .slice aa11_7 nn11_7 cc11_7, .slice dd11_7 mm11_7 oo11_7]) (outS p K) ∧ Bx6 W g11_7 29 (.bool b11_7) (.slice a11_7 n11_7 c11_7) (.slice d11_7 m11_7 o11_7) (.bool bb11_7) (.slice aa11_7 nn11_7 cc11_7) (.slice dd11_7 mm11_7 oo11_7) ∧ Sw W (.agg #[.bool b12_7, .slice a12_7 n12_7 c12_7, .slice d12_7 m12_7 o12_7, .bool bb12_7, .slice aa12_7 nn12_7 cc12_7, .slice dd12_7 mm12_7 oo12_7]) (outS p K) ∧ Bx6 W g12_7 29 (.bool b12_7) (.slice a12_7 n12_7 c12_7) (.slice d12_7 m12_7 o12_7) (.bool bb12_7) (.slice aa12_7 nn12_7 cc12_7) (.slice dd12_7 mm12_7 oo12_7) ∧ Bx6 W g13_7 29 (.bool false) (.slice none 0 0) (.slice none 0 0) (.bool false) (.slice none 0 0) (.slice none 0 0) ∧ W13.heap.size ≤ W.heap.size) ⟨Good.is _, Good.is _, Good.is _, Good.is _, Good.is _, Good.is _, Good.box _ _ _, cert_new6, Good.is _, trivial⟩
      ⟨E0, p2, hsp, h11_4, p11_7, h12_4, p12_7, p13_7, Nat.le_refl _⟩ (A := ?A14) ?hA14 ?howe14 ?hfin14
     case hA14 =>
      intro vs
      simp only [putAll, Act.put, sA, sZ, sS, Nat.zero_add, Nat.reduceAdd]
      exact rfl
     case howe14 =>
      clear E0 p2 hsp h11_4 p11_7 h12_4 p12_7 p13_7
      intro hf
      refine ⟨oE 0 [] hf rfl ?_, oE 1 [] hf rfl ?_, oE 2 [0, 1] hf rfl ?_, oE 3 [2] hf rfl ?_, oE 4 [3] hf rfl ?_, oE 5 [3] hf rfl ?_, oE 6 [] hf rfl ?_, oW 7 [6, 4] hf rfl ?_, oE 8 [5] hf rfl ?_, trivial⟩
      all_goals intro vs W hS hp hx KO hKO
      all_goals simp only [Act.put, sA, sZ, sS] at hKO
      ·have fc0 := hS.2.1.cell0; have fc1 := hS.2.1.cell1; have fc2 := hS.2.1.cell2; have fc3 := hS.2.1.cell3; have fc4 := hS.2.1.cell4; have fc5 := hS.2.1.cell5; go_simp; exact hKO _ W (.refl W) rfl
      ·go_simp; exact hKO _ W (.refl W) rfl
      ·have e0 := isOf hp.1; have e1 := isOf hp.2.1; simp only [e0, e1] at hKO; go_simp
       refine (Tryz.rsSqrtNeg (hS.2.2.1) K HK.out HP0.out).mono ?_
       rintro e W1 ⟨rfl, hE⟩
       exact hKO _ W1 hE rfl
      ·have e2 := isOf hp.1; simp only [e2] at hKO; go_simp; exact hKO _ W (.refl W) rfl
      ·have e3 := isOf hp.1; simp only [e3] at hKO; go_simp; exact hKO _ W (.refl W) rfl
      ·have e3 := isOf hp.1; simp only [e3] at hKO; go_simp; exact hKO _ W (.refl W) rfl
      ·have hn := Bx6.new W 29 (.bool false) (.slice none 0 0) (.slice none 0 0) (.bool false) (.slice none 0 0) (.slice none 0 0)
       have hE := Ext.alloc1 W (.cells #[.bool false, .slice none 0 0, .slice none 0 0, .bool false, .slice none 0 0, .slice none 0 0] 29)
       have hsz := hS.2.2.2.2.2.2.2.2
       go_simp
       exact hKO _ _ hE ⟨_, rfl, hsz, hn.form⟩
      ·have q6 := hp.1; have e4 := isOf hp.2.1; simp only [e4] at hKO
       obtain ⟨g, ev, hg, hf⟩ := q6
       replace ev : vs 6 = _ := ev
       obtain ⟨x0_0, x0_1, x0_2, x0_3, x0_4, x0_5, hx, hno⟩ := hf.bx6
       have r0 := hx.froz0
       have t0 := hx.cell0
       have r1 := hx.froz1
       have t1 := hx.cell1
       have r2 := hx.froz2
       have t2 := hx.cell2
       have r3 := hx.froz3
       have t3 := hx.cell3
       have r4 := hx.froz4
       have t4 := hx.cell4
       have r5 := hx.froz5
       have t5 := hx.cell5
       have hw := Wr.set6 hx hno false none 0 0 none 0 0 false none 0 0 none 0 0
       have hq := hx.set (.bool false) (.slice none 0 0) (.slice none 0 0) (.bool false) (.slice none 0 0) (.slice none 0 0)
       simp only [ev] at hKO; go_simp
       exact hKO _ _ hw ⟨(Ext.wr hS.1 hw (by omega)), (hS.2.1.wr hw (by omega)), (hS.2.2.1.wr hw), (hS.2.2.2.1.wr hw), (hS.2.2.2.2.1.wr hw (by omega)), (hS.2.2.2.2.2.1.wr hw), (hS.2.2.2.2.2.2.1.wr hw (by omega)), (hS.2.2.2.2.2.2.2.1.wr hw (by omega)), (Nat.le_trans hS.2.2.2.2.2.2.2.2 hw.apart.size)⟩ ⟨g, ev, hg, hq⟩
      ·have e5 := isOf hp.1; simp only [e5] at hKO; go_simp; exact hKO _ W (.refl W) rfl
     intro vs W14 hS hp
     clear szw14 E0 p2 hsp h11_4 p11_7 h12_4 p12_7 p13_7
     obtain ⟨E0, p2, hsp, h11_4, p11_7, h12_4, p12_7, p13_7, sz14⟩ := hS
     obtain ⟨h14_0, h14_1, h14_2, h14_3, h14_4, h14_5, h14_6, h14_7, h14_8, -⟩ := hp
     obtain ⟨g14_7, ev14_7, hg14_7, p14_7⟩ := h14_7
     replace ev14_7 : vs 6 = _ := ev14_7
     replace h14_0 : vs 0 = .agg #[.bool b1, .slice a1 n1 c1, .slice d1 m1 o1, .bool bb1, .slice aa1 nn1 cc1, .slice dd1 mm1 oo1] := h14_0
     replace h14_1 : vs 1 = .int .i64 (K : Int) := h14_1
     replace h14_2 : vs 2 = .tuple #[.agg #[.bool false, .slice none 0 0, .slice none 0 0, .bool false, .slice none 0 0, .slice none 0 0], .int .i64 1] := h14_2
     replace h14_3 : vs 3 = .tuple #[.agg #[.bool false, .slice none 0 0, .slice none 0 0, .bool false, .slice none 0 0, .slice none 0 0], .int .i64 1] := h14_3
     replace h14_4 : vs 4 = .agg #[.bool false, .slice none 0 0, .slice none 0 0, .bool false, .slice none 0 0, .slice none 0 0] := h14_4
     replace h14_5 : vs 5 = .int .i64 1 := h14_5
     replace h14_8 : vs 8 = .int .i64 1 := h14_8
     simp only [ev14_7, h14_0, h14_1, h14_2, h14_3, h14_4, h14_5, h14_8]
     clear ev14_7 h14_0 h14_1 h14_2 h14_3 h14_4 h14_5 h14_8 h14_6
     obtain ⟨kp2_0, kp2_1, kp2_2, kp2_3, kp2_4, kp2_5⟩ := p2.c6
     obtain ⟨kp11_7_0, kp11_7_1, kp11_7_2, kp11_7_3, kp11_7_4, kp11_7_5⟩ := p11_7.c6
     obtain ⟨kp12_7_0, kp12_7_1, kp12_7_2, kp12_7_3, kp12_7_4, kp12_7_5⟩ := p12_7.c6
     obtain ⟨kp13_7_0, kp13_7_1, kp13_7_2, kp13_7_3, kp13_7_4, kp13_7_5⟩ := p13_7.c6
     obtain ⟨kp14_7_0, kp14_7_1, kp14_7_2, kp14_7_3, kp14_7_4, kp14_7_5⟩ := p14_7.c6
     go_upto_region 7 with (fail)
     clear kp2_0 kp2_1 kp2_2 kp2_3 kp2_4 kp2_5 kp11_7_0 kp11_7_1 kp11_7_2 kp11_7_3 kp11_7_4 kp11_7_5 kp12_7_0 kp12_7_1 kp12_7_2 kp12_7_3 kp12_7_4 kp12_7_5 kp13_7_0 kp13_7_1 kp13_7_2 kp13_7_3 kp13_7_4 kp13_7_5 kp14_7_0 kp14_7_1 kp14_7_2 kp14_7_3 kp14_7_4 kp14_7_5; have ltp14_7 := p14_7.lt; have szw15 := Ext.size E0
     refine region_gs [.one fun v _ => v = .bool true,
       .one fun v _ => v = .bool true,
       .one fun v _ => v = .agg #[.bool b11_7, .slice a11_7 n11_7 c11_7, .slice d11_7 m11_7 o11_7, .bool bb11_7, .slice aa11_7 nn11_7 cc11_7, .slice dd11_7 mm11_7 oo11_7],
       .one fun v _ => v = .agg #[.bool b12_7, .slice a12_7 n12_7 c12_7, .slice d12_7 m12_7 o12_7, .bool bb12_7, .slice aa12_7 nn12_7 cc12_7, .slice dd12_7 mm12_7 oo12_7],
       .one fun v _ => v = .bool true,
       .one fun v _ => v = .bool true,
       .one fun v _ => v = .bool true,
       .one fun v _ => v = .int .i64 0,
       .one fun v _ => v = .int .i64 0,
       .one fun v _ => v = .bool true,
       .one fun v _ => v = .bool true,
       .one fun v _ => v = .bool true,
       .one fun v _ => v = .agg #[.bool false, .slice none 0 0, .slice none 0 0, .bool false, .slice none 0 0, .slice none 0 0],
       .one fun v _ => v = .agg #[.bool false, .slice none 0 0, .slice none 0 0, .bool false, .slice none 0 0, .slice none 0 0],
       .one fun v _ => v = .bool true,
       .one fun v _ => v = .bool true,
       .one fun v _ => v = .bool true,
       .one fun v _ => v = .int .i64 1,
       .one fun v _ => v = .int .i64 1,
       .one fun v _ => v = .bool true,
       .one fun v _ => v = .bool true,
       .one fun v _ => v = .bool true]
      (fun W => Ext w W ∧ Bx6 W w.heap.size 29 (.bool b1) (.slice a1 n1 c1) (.slice d1 m1 o1) (.bool bb1) (.slice aa1 nn1 cc1) (.slice dd1 mm1 oo1) ∧ Sw W (.agg #[.bool b1, .slice a1 n1 c1, .slice d1 m1 o1, .bool bb1, .slice aa1 nn1 cc1, .slice dd1 mm1 oo1]) p ∧ Sw W (.agg #[.bool b11_7, .slice a11_7 n11_7 c11_7, .slice d11_7 m11_7 o11_7, .bool bb11_7, .slice aa11_7 nn11_7 cc11_7, .slice dd11_7 mm11_7 oo11_7]) (outS p K) ∧ Bx6 W g11_7 29 (.bool b11_7) (.slice a11_7 n11_7 c11_7) (.slice d11_7 m11_7 o11_7) (.bool bb11_7) (.slice aa11_7 nn11_7 cc11_7) (.slice dd11_7 mm11_7 oo11_7) ∧ Sw W (.agg #[.bool b12_7, .slice a12_7 n12_7 c12_7, .slice d12_7 m12_7 o12_7, .bool bb12_7, .slice aa12_7 nn12_7 cc12_7, .slice dd12_7 mm12_7 oo12_7]) (outS p K) ∧ Bx6 W g12_7 29 (.bool b12_7) (.slice a12_7 n12_7 c12_7) (.slice d12_7 m12_7 o12_7) (.bool bb12_7) (.slice aa12_7 nn12_7 cc12_7) (.slice dd12_7 mm12_7 oo12_7) ∧ Bx6 W g13_7 29 (.bool false) (.slice none 0 0) (.slice none 0 0) (.bool false) (.slice none 0 0) (.slice none 0 0) ∧ Bx6 W g14_7 29 (.bool false) (.slice none 0 0) (.slice none 0 0) (.bool false) (.slice none 0 0) (.slice none 0 0) ∧ W14.heap.size ≤ W.heap.size) ⟨Good.is _, Good.is _, Good.is _, Good.is _, Good.is _, Good.is _, Good.is _, Good.is _, Good.is _, Good.is _, Good.is _, Good.is _, Good.is _, Good.is _, Good.is _, Good.is _, Good.is _, Good.is _, Good.is _, Good.is _, Good.is _, Good.is _, trivial⟩
      ⟨E0, p2, hsp, h11_4, p11_7, h12_4, p12_7, p13_7, p14_7, Nat.le_refl _⟩ (A := ?A15) ?hA15 ?howe15 ?hfin15
     case hA15 =>
      intro vs
      simp only [putAll, Act.put, sA, sZ, sS, Nat.zero_add, Nat.reduceAdd]
      exact rfl
     case howe15 =>
      clear E0 p2 hsp h11_4 p11_7 h12_4 p12_7 p13_7 p14_7
      intro hf
      refine ⟨oE 0 [] hf rfl ?_, oE 1 [0] hf rfl ?_, oE 2 [1] hf rfl ?_, oE 3 [1] hf rfl ?_, oE 4 [1, 2, 3] hf rfl ?_, oE 5 [1, 4] hf rfl ?_, oE 6 [5] hf rfl ?_, oE 7 [6] hf rfl ?_, oE 8 [6] hf rfl ?_, oE 9 [6, 7, 8] hf rfl ?_, oE 10 [6, 9] hf rfl ?_, oE 11 [10] hf rfl ?_, oE 12 [11] hf rfl ?_, oE 13 [11] hf rfl ?_, oE 14 [11, 12, 13] hf rfl ?_, oE 15 [11, 14] hf rfl ?_, oE 16 [15] hf rfl ?_, oE 17 [16] hf rfl ?_, oE 18 [16] hf rfl ?_, oE 19 [16, 17, 18] hf rfl ?_, oE 20 [16, 19] hf rfl ?_, oE 21 [20] hf rfl ?_, trivial⟩
      all_goals intro vs W hS hp hx KO hKO
      all_goals simp only [Act.put, sA, sZ, sS] at hKO
      ·go_simp
       refine (Tryz.alive07 _).mono ?_
       rintro e W1 ⟨rfl, hE⟩
       exact hKO _ W1 hE rfl
      ·have e0 := isOf hp.1; simp only [e0] at hKO; go_simp; exact hKO _ W (.refl W) rfl
      ·have e1 := isOf hp.1; simp only [e1] at hKO; have fc0 := hS.2.2.2.2.1.cell0; have fc1 := hS.2.2.2.2.1.cell1; have fc2 := hS.2.2.2.2.1.cell2; have fc3 := hS.2.2.2.2.1.cell3; have fc4 := hS.2.2.2.2.1.cell4; have fc5 := hS.2.2.2.2.1.cell5; go_simp; exact hKO _ W (.refl W) rfl
      ·have e1 := isOf hp.1; simp only [e1] at hKO; have fc0 := hS.2.2.2.2.2.2.1.cell0; have fc1 := hS.2.2.2.2.2.2.1.cell1; have fc2 := hS.2.2.2.2.2.2.1.cell2; have fc3 := hS.2.2.2.2.2.2.1.cell3; have fc4 := hS.2.2.2.2.2.2.1.cell4; have fc5 := hS.2.2.2.2.2.2.1.cell5; go_simp; exact hKO _ W (.refl W) rfl
      ·have e1 := isOf hp.1; have e2 := isOf hp.2.1; have e3 := isOf hp.2.2.1; simp only [e1, e2, e3] at hKO; go_simp
       refine (Tryz.rsSameT (hS.2.2.2.1) (hS.2.2.2.2.2.1) rfl).mono ?_
       rintro e W1 ⟨rfl, hE⟩
       exact hKO _ W1 hE rfl
      ·have e1 := isOf hp.1; have e4 := isOf hp.2.1; simp only [e1, e4] at hKO; go_simp; exact hKO _ W (.refl W) rfl
      ·have e5 := isOf hp.1; simp only [e5] at hKO; go_simp; exact hKO _ W (.refl W) rfl
      ·have e6 := isOf hp.1; simp only [e6] at hKO; go_simp; exact hKO _ W (.refl W) rfl
      ·have e6 := isOf hp.1; simp only [e6] at hKO; go_simp; exact hKO _ W (.refl W) rfl
      ·have e6 := isOf hp.1; have e7 := isOf hp.2.1; have e8 := isOf hp.2.2.1; simp only [e6, e7, e8] at hKO; go_simp; exact hKO _ W (.refl W) rfl
      ·have e6 := isOf hp.1; have e9 := isOf hp.2.1; simp only [e6, e9] at hKO; go_simp; exact hKO _ W (.refl W) rfl
      ·have e10 := isOf hp.1; simp only [e10] at hKO; go_simp; exact hKO _ W (.refl W) rfl
      ·have e11 := isOf hp.1; simp only [e11] at hKO; have fc0 := hS.2.2.2.2.2.2.2.1.cell0; have fc1 := hS.2.2.2.2.2.2.2.1.cell1; have fc2 := hS.2.2.2.2.2.2.2.1.cell2; have fc3 := hS.2.2.2.2.2.2.2.1.cell3; have fc4 := hS.2.2.2.2.2.2.2.1.cell4; have fc5 := hS.2.2.2.2.2.2.2.1.cell5; go_simp; exact hKO _ W (.refl W) rfl
      ·have e11 := isOf hp.1; simp only [e11] at hKO; have fc0 := hS.2.2.2.2.2.2.2.2.1.cell0; have fc1 := hS.2.2.2.2.2.2.2.2.1.cell1; have fc2 := hS.2.2.2.2.2.2.2.2.1.cell2; have fc3 := hS.2.2.2.2.2.2.2.2.1.cell3; have fc4 := hS.2.2.2.2.2.2.2.2.1.cell4; have fc5 := hS.2.2.2.2.2.2.2.2.1.cell5; go_simp; exact hKO _ W (.refl W) rfl
      ·have e11 := isOf hp.1; have e12 := isOf hp.2.1; have e13 := isOf hp.2.2.1; simp only [e11, e12, e13] at hKO; go_simp
       refine (Tryz.rsSame0 _).mono ?_
       rintro e W1 ⟨rfl, hE⟩
       exact hKO _ W1 hE rfl
      ·have e11 := isOf hp.1; have e14 := isOf hp.2.1; simp only [e11, e14] at hKO; go_simp; exact hKO _ W (.refl W) rfl
      ·have e15 := isOf hp.1; simp only [e15] at hKO; go_simp; exact hKO _ W (.refl W) rfl
      ·have e16 := isOf hp.1; simp only [e16] at hKO; go_simp; exact hKO _ W (.refl W) rfl
      ·have e16 := isOf hp.1; simp only [e16] at hKO; go_simp; exact hKO _ W (.refl W) rfl
      ·have e16 := isOf hp.1; have e17 := isOf hp.2.1; have e18 := isOf hp.2.2.1; simp only [e16, e17, e18] at hKO; go_simp; exact hKO _ W (.refl W) rfl
      ·have e16 := isOf hp.1; have e19 := isOf hp.2.1; simp only [e16, e19] at hKO; go_simp; exact hKO _ W (.refl W) rfl
      ·have e20 := isOf hp.1; simp only [e20] at hKO; go_simp; exact hKO _ W (.refl W) rfl
     intro vs W15 hS hp
     clear szw15 E0 p2 hsp h11_4 p11_7 h12_4 p12_7 p13_7 p14_7
     obtain ⟨E0, p2, hsp, h11_4, p11_7, h12_4, p12_7, p13_7, p14_7, sz15⟩ := hS
     obtain ⟨h15_0, h15_1, h15_2, h15_3, h15_4, h15_5, h15_6, h15_7, h15_8, h15_9, h15_10, h15_11, h15_12, h15_13, h15_14, h15_15, h15_16, h15_17, h15_18, h15_19, h15_20, h15_21, -⟩ := hp
     replace h15_0 : vs 0 = .bool true := h15_0
     replace h15_1 : vs 1 = .bool true := h15_1
     replace h15_2 : vs 2 = .agg #[.bool b11_7, .slice a11_7 n11_7 c11_7, .slice d11_7 m11_7 o11_7, .bool bb11_7, .slice aa11_7 nn11_7 cc11_7, .slice dd11_7 mm11_7 oo11_7] := h15_2
     replace h15_3 : vs 3 = .agg #[.bool b12_7, .slice a12_7 n12_7 c12_7, .slice d12_7 m12_7 o12_7, .bool bb12_7, .slice aa12_7 nn12_7 cc12_7, .slice dd12_7 mm12_7 oo12_7] := h15_3
     replace h15_4 : vs 4 = .bool true := h15_4
     replace h15_5 : vs 5 = .bool true := h15_5
     replace h15_6 : vs 6 = .bool true := h15_6
     replace h15_7 : vs 7 = .int .i64 0 := h15_7
     replace h15_8 : vs 8 = .int .i64 0 := h15_8
     replace h15_9 : vs 9 = .bool true := h15_9
     replace h15_10 : vs 10 = .bool true := h15_10
     replace h15_11 : vs 11 = .bool true := h15_11
     replace h15_12 : vs 12 = .agg #[.bool false, .slice none 0 0, .slice none 0 0, .bool false, .slice none 0 0, .slice none 0 0] := h15_12
     replace h15_13 : vs 13 = .agg #[.bool false, .slice none 0 0, .slice none 0 0, .bool false, .slice none 0 0, .slice none 0 0] := h15_13
     replace h15_14 : vs 14 = .bool true := h15_14
     replace h15_15 : vs 15 = .bool true := h15_15
     replace h15_16 : vs 16 = .bool true := h15_16
     replace h15_17 : vs 17 = .int .i64 1 := h15_17
     replace h15_18 : vs 18 = .int .i64 1 := h15_18
     replace h15_19 : vs 19 = .bool true := h15_19
     replace h15_20 : vs 20 = .bool true := h15_20
     replace h15_21 : vs 21 = .bool true := h15_21
     simp only [h15_0, h15_1, h15_2, h15_3, h15_4, h15_5, h15_6, h15_7, h15_8, h15_9, h15_10, h15_11, h15_12, h15_13, h15_14, h15_15, h15_16, h15_17, h15_18, h15_19, h15_20, h15_21]
     clear h15_0 h15_1 h15_2 h15_3 h15_4 h15_5 h15_6 h15_7 h15_8 h15_9 h15_10 h15_11 h15_12 h15_13 h15_14 h15_15 h15_16 h15_17 h15_18 h15_19 h15_20 h15_21
     obtain ⟨kp2_0, kp2_1, kp2_2, kp2_3, kp2_4, kp2_5⟩ := p2.c6
     obtain ⟨kp11_7_0, kp11_7_1, kp11_7_2, kp11_7_3, kp11_7_4, kp11_7_5⟩ := p11_7.c6
     obtain ⟨kp12_7_0, kp12_7_1, kp12_7_2, kp12_7_3, kp12_7_4, kp12_7_5⟩ := p12_7.c6
     obtain ⟨kp13_7_0, kp13_7_1, kp13_7_2, kp13_7_3, kp13_7_4, kp13_7_5⟩ := p13_7.c6
     obtain ⟨kp14_7_0, kp14_7_1, kp14_7_2, kp14_7_3, kp14_7_4, kp14_7_5⟩ := p14_7.c6
     clear hsp h11_4 h12_4; go_wp2; go_ret
     exact ⟨rfl, E0⟩
    ·have HP0 : Hid (0 ≤ p.1 ∧ 0 ≤ p.2) := Lib.hid ⟨Rat.not_lt.1 hp0, Rat.le_trans (Rat.not_lt.1 hp0) HLE.out⟩
     clear hp0
     obtain ⟨kp2_0, kp2_1, kp2_2, kp2_3, kp2_4, kp2_5⟩ := p2.c6
     go_upto_region 3 with (fail)
     clear kp2_0 kp2_1 kp2_2 kp2_3 kp2_4 kp2_5; have ltp2 := p2.lt; have szw16 := Ext.size E0
     refine region_gs [.one fun v _ => v = .agg #[.bool b1, .slice a1 n1 c1, .slice d1 m1 o1, .bool bb1, .slice aa1 nn1 cc1, .slice dd1 mm1 oo1],
       .one fun v _ => v = .int .i64 (K : Int),
       .one fun v W => ∃ v', v = .tuple #[v', .int .i64 0] ∧ (fun v W => Sw W v (outS p K)) v' W,
       .one fun v W => ∃ v', v = .tuple #[v', .int .i64 0] ∧ (fun v W => Sw W v (outS p K)) v' W,
       .one fun v W => Sw W v (outS p K),
       .one fun v _ => v = .int .i64 0,
       .one fun v W => ∃ g, v = .pointer (some ⟨g, 0, none⟩) ∧ WfB1.heap.size ≤ g ∧ Form W g 29 6,
       .three 6 4 (fun p r _ W => Put6 WfB1.heap.size 29 p r W),
       .one fun v _ => v = .int .i64 0]
      (fun W => Ext w W ∧ Bx6 W w.heap.size 29 (.bool b1) (.slice a1 n1 c1) (.slice d1 m1 o1) (.bool bb1) (.slice aa1 nn1 cc1) (.slice dd1 mm1 oo1) ∧ Sw W (.agg #[.bool b1, .slice a1 n1 c1, .slice d1 m1 o1, .bool bb1, .slice aa1 nn1 cc1, .slice dd1 mm1 oo1]) p ∧ WfB1.heap.size ≤ W.heap.size) ⟨Good.is _, Good.is _, (Good.span _).tup _, (Good.span _).tup _, Good.span _, Good.is _, Good.box _ _ _, cert_put6, Good.is _, trivial⟩
      ⟨E0, p2, hsp, Nat.le_refl _⟩ (A := ?A16) ?hA16 ?howe16 ?hfin16
     case hA16 =>
      intro vs
      simp only [putAll, Act.put, sA, sZ, sS, Nat.zero_add, Nat.reduceAdd]
      exact rfl
     case howe16 =>
      clear E0 p2 hsp
      intro hf
      refine ⟨oE 0 [] hf rfl ?_, oE 1 [] hf rfl ?_, oE 2 [0, 1] hf rfl ?_, oE 3 [2] hf rfl ?_, oE 4 [3] hf rfl ?_, oE 5 [3] hf rfl ?_, oE 6 [] hf rfl ?_, oW 7 [6, 4] hf rfl ?_, oE 8 [5] hf rfl ?_, trivial⟩
      all_goals intro vs W hS hp hx KO hKO
      all_goals simp only [Act.put, sA, sZ, sS] at hKO
      ·have fc0 := hS.2.1.cell0; have fc1 := hS.2.1.cell1; have fc2 := hS.2.1.cell2; have fc3 := hS.2.1.cell3; have fc4 := hS.2.1.cell4; have fc5 := hS.2.1.cell5; go_simp; exact hKO _ W (.refl W) rfl
      ·go_simp; exact hKO _ W (.refl W) rfl
      ·have e0 := isOf hp.1; have e1 := isOf hp.2.1; simp only [e0, e1] at hKO; go_simp
       refine (Tryz.ivOut (hS.2.2.1) SP.out (by omega) K HK.out).mono ?_
       rintro e W1 ⟨v, rfl, hv, hE⟩
       exact hKO _ W1 hE ⟨_, rfl, hv⟩
      ·have q2 := hp.1
       obtain ⟨u, ev, hu⟩ := q2
       replace ev : vs 2 = _ := ev; simp only [ev] at hKO; go_simp; exact hKO _ W (Ext.refl W) ⟨u, rfl, hu⟩
      ·have q3 := hp.1
       obtain ⟨u, ev, hu⟩ := q3
       replace ev : vs 3 = _ := ev; simp only [ev] at hKO; go_simp; exact hKO _ W (Ext.refl W) hu
      ·have q3 := hp.1
       obtain ⟨u, ev, hu⟩ := q3
       replace ev : vs 3 = _ := ev; simp only [ev] at hKO; go_simp; exact hKO _ W (.refl W) rfl
      ·have hn := Bx6.new W 29 (.bool false) (.slice none 0 0) (.slice none 0 0) (.bool false) (.slice none 0 0) (.slice none 0 0)
       have hE := Ext.alloc1 W (.cells #[.bool false, .slice none 0 0, .slice none 0 0, .bool false, .slice none 0 0, .slice none 0 0] 29)
       have hsz := hS.2.2.2
       go_simp
       exact hKO _ _ hE ⟨_, rfl, hsz, hn.form⟩
      ·have q6 := hp.1; have q4 := hp.2.1
       obtain ⟨g, ev, hg, hf⟩ := q6
       replace ev : vs 6 = _ := ev
       obtain ⟨x0_0, x0_1, x0_2, x0_3, x0_4, x0_5, hx, hno⟩ := hf.bx6
       have qr := q4
       obtain ⟨b3, a3, n3, c3, d3, m3, o3, bb3, aa3, nn3, cc3, dd3, mm3, oo3, er, -, -⟩ := qr
       replace er : vs 4 = _ := er
       have r0 := hx.froz0
       have t0 := hx.cell0
       have r1 := hx.froz1
       have t1 := hx.cell1
       have r2 := hx.froz2
       have t2 := hx.cell2
       have r3 := hx.froz3
       have t3 := hx.cell3
       have r4 := hx.froz4
       have t4 := hx.cell4
       have r5 := hx.froz5
       have t5 := hx.cell5
       have hw := Wr.set6 hx hno b3 a3 n3 c3 d3 m3 o3 bb3 aa3 nn3 cc3 dd3 mm3 oo3
       have hq := hx.set (.bool b3) (.slice a3 n3 c3) (.slice d3 m3 o3) (.bool bb3) (.slice aa3 nn3 cc3) (.slice dd3 mm3 oo3)
       simp only [ev, er] at hKO; go_simp
       exact hKO _ _ hw ⟨(Ext.wr hS.1 hw (by omega)), (hS.2.1.wr hw (by omega)), (hS.2.2.1.wr hw), (Nat.le_trans hS.2.2.2 hw.apart.size)⟩ ⟨g, b3, a3, n3, c3, d3, m3, o3, bb3, aa3, nn3, cc3, dd3, mm3, oo3, ev, er, hg, hq⟩
      ·have e5 := isOf hp.1; simp only [e5] at hKO; go_simp; exact hKO _ W (.refl W) rfl
     intro vs W16 hS hp
     clear szw16 E0 p2 hsp
     obtain ⟨E0, p2, hsp, sz16⟩ := hS
     obtain ⟨h16_0, h16_1, h16_2, h16_3, h16_4, h16_5, h16_6, h16_7, h16_8, -⟩ := hp
     obtain ⟨g16_7, b16_7, a16_7, n16_7, c16_7, d16_7, m16_7, o16_7, bb16_7, aa16_7, nn16_7, cc16_7, dd16_7, mm16_7, oo16_7, ev16_7, er16_7, hg16_7, p16_7⟩ := h16_7
     replace ev16_7 : vs 6 = _ := ev16_7; replace er16_7 : vs 4 = _ := er16_7; replace h16_4 := (show Sw W16 (vs 4) (outS p K) from h16_4)
     rw [er16_7] at h16_4
     replace h16_0 : vs 0 = .agg #[.bool b1, .slice a1 n1 c1, .slice d1 m1 o1, .bool bb1, .slice aa1 nn1 cc1, .slice dd1 mm1 oo1] := h16_0
     replace h16_1 : vs 1 = .int .i64 (K : Int) := h16_1
     replace h16_5 : vs 5 = .int .i64 0 := h16_5
     replace h16_8 : vs 8 = .int .i64 0 := h16_8
     simp only [ev16_7, er16_7, h16_0, h16_1, h16_5, h16_8]
     clear ev16_7 er16_7 h16_0 h16_1 h16_5 h16_8 h16_2 h16_3 h16_6
     obtain ⟨kp2_0, kp2_1, kp2_2, kp2_3, kp2_4, kp2_5⟩ := p2.c6
     obtain ⟨kp16_7_0, kp16_7_1, kp16_7_2, kp16_7_3, kp16_7_4, kp16_7_5⟩ := p16_7.c6
     go_upto_region 4 with (fail)
     clear kp2_0 kp2_1 kp2_2 kp2_3 kp2_4 kp2_5 kp16_7_0 kp16_7_1 kp16_7_2 kp16_7_3 kp16_7_4 kp16_7_5; have ltp16_7 := p16_7.lt; have szw17 := Ext.size E0
     refine region_gs [.one fun v _ => v = .agg #[.bool b1, .slice a1 n1 c1, .slice d1 m1 o1, .bool bb1, .slice aa1 nn1 cc1, .slice dd1 mm1 oo1],
       .one fun v _ => v = .int .i64 (K : Int),
       .one fun v W => ∃ v', v = .tuple #[v', .int .i64 0] ∧ (fun v W => Sw W v (outS p K)) v' W,
       .one fun v W => ∃ v', v = .tuple #[v', .int .i64 0] ∧ (fun v W => Sw W v (outS p K)) v' W,
       .one fun v W => Sw W v (outS p K),
       .one fun v _ => v = .int .i64 0,
       .one fun v W => ∃ g, v = .pointer (some ⟨g, 0, none⟩) ∧ W16.heap.size ≤ g ∧ Form W g 29 6,
       .three 6 4 (fun p r _ W => Put6 W16.heap.size 29 p r W),
       .one fun v _ => v = .int .i64 0]
      (fun W => Ext w W ∧ Bx6 W w.heap.size 29 (.bool b1) (.slice a1 n1 c1) (.slice d1 m1 o1) (.bool bb1) (.slice aa1 nn1 cc1) (.slice dd1 mm1 oo1) ∧ Sw W (.agg #[.bool b1, .slice a1 n1 c1, .slice d1 m1 o1, .bool bb1, .slice aa1 nn1 cc1, .slice dd1 mm1 oo1]) p ∧ Sw W (.agg #[.bool b16_7, .slice a16_7 n16_7 c16_7, .slice d16_7 m16_7 o16_7, .bool bb16_7, .slice aa16_7 nn16_7 cc16_7, .slice dd16_7 mm16_7 oo16_7]) (outS p K) ∧ Bx6 W g16_7 29 (.bool b16_7) (.slice a16_7 n16_7 c16_7) (.slice d16_7 m16_7 o16_7) (.bool bb16_7) (.slice aa16_7 nn16_7 cc16_7) (.slice dd16_7 mm16_7 oo16_7) ∧ W16.heap.size ≤ W.heap.size) ⟨Good.is _, Good.is _, (Good.span _).tup _, (Good.span _).tup _, Good.span _, Good.is _, Good.box _ _ _, cert_put6, Good.is _, trivial⟩
      ⟨E0, p2, hsp, h16_4, p16_7, Nat.le_refl _⟩ (A := ?A17) ?hA17 ?howe17 ?hfin17
     case hA17 =>
      intro vs
      simp only [putAll, Act.put, sA, sZ, sS, Nat.zero_add, Nat.reduceAdd]
      exact rfl
     case howe17 =>
      clear E0 p2 hsp h16_4 p16_7
      intro hf
      refine ⟨oE 0 [] hf rfl ?_, oE 1 [] hf rfl ?_, oE 2 [0, 1] hf rfl ?_, oE 3 [2] hf rfl ?_, oE 4 [3] hf rfl ?_, oE 5 [3] hf rfl ?_, oE 6 [] hf rfl ?_, oW 7 [6, 4] hf rfl ?_, oE 8 [5] hf rfl ?_, trivial⟩
      all_goals intro vs W hS hp hx KO hKO
      all_goals simp only [Act.put, sA, sZ, sS] at hKO
      ·have fc0 := hS.2.1.cell0; have fc1 := hS.2.1.cell1; have fc2 := hS.2.1.cell2; have fc3 := hS.2.1.cell3; have fc4 := hS.2.1.cell4; have fc5 := hS.2.1.cell5; go_simp; exact hKO _ W (.refl W) rfl
      ·go_simp; exact hKO _ W (.refl W) rfl
      ·have e0 := isOf hp.1; have e1 := isOf hp.2.1; simp only [e0, e1] at hKO; go_simp
       refine (Tryz.rsOut (hS.2.2.1) SP.out (by omega) K HK.out).mono ?_
       rintro e W1 ⟨v, rfl, hv, hE⟩
       exact hKO _ W1 hE ⟨_, rfl, hv⟩
      ·have q2 := hp.1
       obtain ⟨u, ev, hu⟩ := q2
       replace ev : vs 2 = _ := ev; simp only [ev] at hKO; go_simp; exact hKO _ W (Ext.refl W) ⟨u, rfl, hu⟩
      ·have q3 := hp.1
       obtain ⟨u, ev, hu⟩ := q3
       replace ev : vs 3 = _ := ev; simp only [ev] at hKO; go_simp; exact hKO _ W (Ext.refl W) hu
      ·have q3 := hp.1
       obtain ⟨u, ev, hu⟩ := q3
       replace ev : vs 3 = _ := ev; simp only [ev] at hKO; go_simp; exact hKO _ W (.refl W) rfl
      ·have hn := Bx6.new W 29 (.bool false) (.slice none 0 0) (.slice none 0 0) (.bool false) (.slice none 0 0) (.slice none 0 0)
       have hE := Ext.alloc1 W (.cells #[.bool false, .slice none 0 0, .slice none 0 0, .bool false, .slice none 0 0, .slice none 0 0] 29)
       have hsz := hS.2.2.2.2.2
       go_simp
       exact hKO _ _ hE ⟨_, rfl, hsz, hn.form⟩
      ·have q6 := hp.1; have q4 := hp.2.1
       obtain ⟨g, ev, hg, hf⟩ := q6
       replace ev : vs 6 = _ := ev
       obtain ⟨x0_0, x0_1, x0_2, x0_3, x0_4, x0_5, hx, hno⟩ := hf.bx6
       have qr := q4
       obtain ⟨b3, a3, n3, c3, d3, m3, o3, bb3, aa3, nn3, cc3, dd3, mm3, oo3, er, -, -⟩ := qr
       replace er : vs 4 = _ := er
       have r0 := hx.froz0
       have t0 := hx.cell0
       have r1 := hx.froz1
       have t1 := hx.cell1
       have r2 := hx.froz2
       have t2 := hx.cell2
       have r3 := hx.froz3
       have t3 := hx.cell3
       have r4 := hx.froz4
       have t4 := hx.cell4
       have r5 := hx.froz5
       have t5 := hx.cell5
       have hw := Wr.set6 hx hno b3 a3 n3 c3 d3 m3 o3 bb3 aa3 nn3 cc3 dd3 mm3 oo3
       have hq := hx.set (.bool b3) (.slice a3 n3 c3) (.slice d3 m3 o3) (.bool bb3) (.slice aa3 nn3 cc3) (.slice dd3 mm3 oo3)
       simp only [ev, er] at hKO; go_simp
       exact hKO _ _ hw ⟨(Ext.wr hS.1 hw (by omega)), (hS.2.1.wr hw (by omega)), (hS.2.2.1.wr hw), (hS.2.2.2.1.wr hw), (hS.2.2.2.2.1.wr hw (by omega)), (Nat.le_trans hS.2.2.2.2.2 hw.apart.size)⟩ ⟨g, b3, a3, n3, c3, d3, m3, o3, bb3, aa3, nn3, cc3, dd3, mm3, oo3, ev, er, hg, hq⟩
      ·have e5 := isOf hp.1; simp only [e5] at hKO; go_simp; exact hKO _ W (.refl W) rfl
     intro vs W17 hS hp
     clear szw17 E0 p2 hsp h16_4 p16_7
     obtain ⟨E0, p2, hsp, h16_4, p16_7, sz17⟩ := hS
     obtain ⟨h17_0, h17_1, h17_2, h17_3, h17_4, h17_5, h17_6, h17_7, h17_8, -⟩ := hp
     obtain ⟨g17_7, b17_7, a17_7, n17_7, c17_7, d17_7, m17_7, o17_7, bb17_7, aa17_7, nn17_7, cc17_7, dd17_7, mm17_7, oo17_7, ev17_7, er17_7, hg17_7, p17_7⟩ := h17_7
     replace ev17_7 : vs 6 = _ := ev17_7; replace er17_7 : vs 4 = _ := er17_7; replace h17_4 := (show Sw W17 (vs 4) (outS p K) from h17_4)
     rw [er17_7] at h17_4
     replace h17_0 : vs 0 = .agg #[.bool b1, .slice a1 n1 c1, .slice d1 m1 o1, .bool bb1, .slice aa1 nn1 cc1, .slice dd1 mm1 oo1] := h17_0
     replace h17_1 : vs 1 = .int .i64 (K : Int) := h17_1
     replace h17_5 : vs 5 = .int .i64 0 := h17_5
     replace h17_8 : vs 8 = .int .i64 0 := h17_8
     simp only [ev17_7, er17_7, h17_0, h17_1, h17_5, h17_8]
     clear ev17_7 er17_7 h17_0 h17_1 h17_5 h17_8 h17_2 h17_3 h17_6
     obtain ⟨kp2_0, kp2_1, kp2_2, kp2_3, kp2_4, kp2_5⟩ := p2.c6
     obtain ⟨kp16_7_0, kp16_7_1, kp16_7_2, kp16_7_3, kp16_7_4, kp16_7_5⟩ := p16_7.c6
     obtain ⟨kp17_7_0, kp17_7_1, kp17_7_2, kp17_7_3, kp17_7_4, kp17_7_5⟩ := p17_7.c6
     go_upto_region 5 with (fail)
     clear kp2_0 kp2_1 kp2_2 kp2_3 kp2_4 kp2_5 kp16_7_0 kp16_7_1 kp16_7_2 kp16_7_3 kp16_7_4 kp16_7_5 kp17_7_0 kp17_7_1 kp17_7_2 kp17_7_3 kp17_7_4 kp17_7_5; have ltp17_7 := p17_7.lt; have szw18 := Ext.size E0
     refine region_gs [.one fun v _ => v = .agg #[.bool b1, .slice a1 n1 c1, .slice d1 m1 o1, .bool bb1, .slice aa1 nn1 cc1, .slice dd1 mm1 oo1],
       .one fun v _ => v = .int .i64 (K : Int),
       .one fun v W => ∃ v', v = .tuple #[v', .int .i64 0] ∧ (fun v W => Sw W v (sqS p K)) v' W,
       .one fun v W => ∃ v', v = .tuple #[v', .int .i64 0] ∧ (fun v W => Sw W v (sqS p K)) v' W,
       .one fun v W => Sw W v (sqS p K),
       .one fun v _ => v = .int .i64 0,
       .one fun v W => ∃ g, v = .pointer (some ⟨g, 0, none⟩) ∧ W17.heap.size ≤ g ∧ Form W g 29 6,
       .three 6 4 (fun p r _ W => Put6 W17.heap.size 29 p r W),
       .one fun v _ => v = .int .i64 0]
      (fun W => Ext w W ∧ Bx6 W w.heap.size 29 (.bool b1) (.slice a1 n1 c1) (.slice d1 m1 o1) (.bool bb1) (.slice aa1 nn1 cc1) (.slice dd1 mm1 oo1) ∧ Sw W (.agg #[.bool b1, .slice a1 n1 c1, .slice d1 m1 o1, .bool bb1, .slice aa1 nn1 cc1, .slice dd1 mm1 oo1]) p ∧ Sw W (.agg #[.bool b16_7, .slice a16_7 n16_7 c16_7, .slice d16_7 m16_7 o16_7, .bool bb16_7, .slice aa16_7 nn16_7 cc16_7, .slice dd16_7 mm16_7 oo16_7]) (outS p K) ∧ Bx6 W g16_7 29 (.bool b16_7) (.slice a16_7 n16_7 c16_7) (.slice d16_7 m16_7 o16_7) (.bool bb16_7) (.slice aa16_7 nn16_7 cc16_7) (.slice dd16_7 mm16_7 oo16_7) ∧ Sw W (.agg #[.bool b17_7, .slice a17_7 n17_7 c17_7, .slice d17_7 m17_7 o17_7, .bool bb17_7, .slice aa17_7 nn17_7 cc17_7, .slice dd17_7 mm17_7 oo17_7]) (outS p K) ∧ Bx6 W g17_7 29 (.bool b17_7) (.slice a17_7 n17_7 c17_7) (.slice d17_7 m17_7 o17_7) (.bool bb17_7) (.slice aa17_7 nn17_7 cc17_7) (.slice dd17_7 mm17_7 oo17_7) ∧ W17.heap.size ≤ W.heap.size) ⟨Good.is _, Good.is _, (Good.span _).tup _, (Good.span _).tup _, Good.span _, Good.is _, Good.box _ _ _, cert_put6, Good.is _, trivial⟩
      ⟨E0, p2, hsp, h16_4, p16_7, h17_4, p17_7, Nat.le_refl _⟩ (A := ?A18) ?hA18 ?howe18 ?hfin18
     case hA18 =>
      intro vs
      simp only [putAll, Act.put, sA, sZ, sS, Nat.zero_add, Nat.reduceAdd]
      exact rfl
     case howe18 =>
      clear E0 p2 hsp h16_4 p16_7 h17_4 p17_7
      intro hf
      refine ⟨oE 0 [] hf rfl ?_, oE 1 [] hf rfl ?_, oE 2 [0, 1] hf rfl ?_, oE 3 [2] hf rfl ?_, oE 4 [3] hf rfl ?_, oE 5 [3] hf rfl ?_, oE 6 [] hf rfl ?_, oW 7 [6, 4] hf rfl ?_, oE 8 [5] hf rfl ?_, trivial⟩
      all_goals intro vs W hS hp hx KO hKO
      all_goals simp only [Act.put, sA, sZ, sS] at hKO
      ·have fc0 := hS.2.1.cell0; have fc1 := hS.2.1.cell1; have fc2 := hS.2.1.cell2; have fc3 := hS.2.1.cell3; have fc4 := hS.2.1.cell4; have fc5 := hS.2.1.cell5; go_simp; exact hKO _ W (.refl W) rfl
      ·go_simp; exact hKO _ W (.refl W) rfl
      ·have e0 := isOf hp.1; have e1 := isOf hp.2.1; simp only [e0, e1] at hKO; go_simp
       refine (Tryz.ivSqrt (hS.2.2.1) SP.out (by omega) HP0.out.1 K HK.out).mono ?_
       rintro e W1 ⟨v, rfl, hv, hE⟩
       exact hKO _ W1 hE ⟨_, rfl, hv⟩
      ·have q2 := hp.1
       obtain ⟨u, ev, hu⟩ := q2
       replace ev : vs 2 = _ := ev; simp only [ev] at hKO; go_simp; exact hKO _ W (Ext.refl W) ⟨u, rfl, hu⟩
      ·have q3 := hp.1
       obtain ⟨u, ev, hu⟩ := q3
       replace ev : vs 3 = _ := ev; simp only [ev] at hKO; go_simp; exact hKO _ W (Ext.refl W) hu
      ·have q3 := hp.1
       obtain ⟨u, ev, hu⟩ := q3
       replace ev : vs 3 = _ := ev; simp only [ev] at hKO; go_simp; exact hKO _ W (.refl W) rfl
      ·have hn := Bx6.new W 29 (.bool false) (.slice none 0 0) (.slice none 0 0) (.bool false) (.slice none 0 0) (.slice none 0 0)
       have hE := Ext.alloc1 W (.cells #[.bool false, .slice none 0 0, .slice none 0 0, .bool false, .slice none 0 0, .slice none 0 0] 29)
       have hsz := hS.2.2.2.2.2.2.2
       go_simp
       exact hKO _ _ hE ⟨_, rfl, hsz, hn.form⟩
      ·have q6 := hp.1; have q4 := hp.2.1
       obtain ⟨g, ev, hg, hf⟩ := q6
       replace ev : vs 6 = _ := ev
       obtain ⟨x0_0, x0_1, x0_2, x0_3, x0_4, x0_5, hx, hno⟩ := hf.bx6
       have qr := q4
       obtain ⟨b3, a3, n3, c3, d3, m3, o3, bb3, aa3, nn3, cc3, dd3, mm3, oo3, er, -, -⟩ := qr
       replace er : vs 4 = _ := er
       have r0 := hx.froz0
       have t0 := hx.cell0
       have r1 := hx.froz1
       have t1 := hx.cell1
       have r2 := hx.froz2
       have t2 := hx.cell2
       have r3 := hx.froz3
       have t3 := hx.cell3
       have r4 := hx.froz4
       have t4 := hx.cell4
       have r5 := hx.froz5
       have t5 := hx.cell5
       have hw := Wr.set6 hx hno b3 a3 n3 c3 d3 m3 o3 bb3 aa3 nn3 cc3 dd3 mm3 oo3
       have hq := hx.set (.bool b3) (.slice a3 n3 c3) (.slice d3 m3 o3) (.bool bb3) (.slice aa3 nn3 cc3) (.slice dd3 mm3 oo3)
       simp only [ev, er] at hKO; go_simp
       exact hKO _ _ hw ⟨(Ext.wr hS.1 hw (by omega)), (hS.2.1.wr hw (by omega)), (hS.2.2.1.wr hw), (hS.2.2.2.1.wr hw), (hS.2.2.2.2.1.wr hw (by omega)), (hS.2.2.2.2.2.1.wr hw), (hS.2.2.2.2.2.2.1.wr hw (by omega)), (Nat.le_trans hS.2.2.2.2.2.2.2 hw.apart.size)⟩ ⟨g, b3, a3, n3, c3, d3, m3, o3, bb3, aa3, nn3, cc3, dd3, mm3, oo3, ev, er, hg, hq⟩
      ·have e5 := isOf hp.1; simp only [e5] at hKO; go_simp; exact hKO _ W (.refl W) rfl
     intro vs W18 hS hp
     clear szw18 E0 p2 hsp h16_4 p16_7 h17_4 p17_7
     obtain ⟨E0, p2, hsp, h16_4, p16_7, h17_4, p17_7, sz18⟩ := hS
     obtain ⟨h18_0, h18_1, h18_2, h18_3, h18_4, h18_5, h18_6, h18_7, h18_8, -⟩ := hp
     obtain ⟨g18_7, b18_7, a18_7, n18_7, c18_7, d18_7, m18_7, o18_7, bb18_7, aa18_7, nn18_7, cc18_7, dd18_7, mm18_7, oo18_7, ev18_7, er18_7, hg18_7, p18_7⟩ := h18_7
     replace ev18_7 : vs 6 = _ := ev18_7; replace er18_7 : vs 4 = _ := er18_7; replace h18_4 := (show Sw W18 (vs 4) (sqS p K) from h18_4)
     rw [er18_7] at h18_4
     replace h18_0 : vs 0 = .agg #[.bool b1, .slice a1 n1 c1, .slice d1 m1 o1, .bool bb1, .slice aa1 nn1 cc1, .slice dd1 mm1 oo1] := h18_0
     replace h18_1 : vs 1 = .int .i64 (K : Int) := h18_1
     replace h18_5 : vs 5 = .int .i64 0 := h18_5
     replace h18_8 : vs 8 = .int .i64 0 := h18_8
     simp only [ev18_7, er18_7, h18_0, h18_1, h18_5, h18_8]
     clear ev18_7 er18_7 h18_0 h18_1 h18_5 h18_8 h18_2 h18_3 h18_6
     obtain ⟨kp2_0, kp2_1, kp2_2, kp2_3, kp2_4, kp2_5⟩ := p2.c6
     obtain ⟨kp16_7_0, kp16_7_1, kp16_7_2, kp16_7_3, kp16_7_4, kp16_7_5⟩ := p16_7.c6
     obtain ⟨kp17_7_0, kp17_7_1, kp17_7_2, kp17_7_3, kp17_7_4, kp17_7_5⟩ := p17_7.c6
     obtain ⟨kp18_7_0, kp18_7_1, kp18_7_2, kp18_7_3, kp18_7_4, kp18_7_5⟩ := p18_7.c6
     go_upto_region 6 with (fail)
     clear kp2_0 kp2_1 kp2_2 kp2_3 kp2_4 kp2_5 kp16_7_0 kp16_7_1 kp16_7_2 kp16_7_3 kp16_7_4 kp16_7_5 kp17_7_0 kp17_7_1 kp17_7_2 kp17_7_3 kp17_7_4 kp17_7_5 kp18_7_0 kp18_7_1 kp18_7_2 kp18_7_3 kp18_7_4 kp18_7_5; have ltp18_7 := p18_7.lt; have szw19 := Ext.size E0
     refine region_gs [.one fun v _ => v = .agg #[.bool b1, .slice a1 n1 c1, .slice d1 m1 o1, .bool bb1, .slice aa1 nn1 cc1, .slice dd1 mm1 oo1],
       .one fun v _ => v = .int .i64 (K : Int),
       .one fun v W => ∃ v', v = .tuple #[v', .int .i64 0] ∧ (fun v W => Sw W v (sqS p K)) v' W,
       .one fun v W => ∃ v', v = .tuple #[v', .int .i64 0] ∧ (fun v W => Sw W v (sqS p K)) v' W,
       .one fun v W => Sw W v (sqS p K),
       .one fun v _ => v = .int .i64 0,
       .one fun v W => ∃ g, v = .pointer (some ⟨g, 0, none⟩) ∧ W18.heap.size ≤ g ∧ Form W g 29 6,
       .three 6 4 (fun p r _ W => Put6 W18.heap.size 29 p r W),
       .one fun v _ => v = .int .i64 0]
      (fun W => Ext w W ∧ Bx6 W w.heap.size 29 (.bool b1) (.slice a1 n1 c1) (.slice d1 m1 o1) (.bool bb1) (.slice aa1 nn1 cc1) (.slice dd1 mm1 oo1) ∧ Sw W (.agg #[.bool b1, .slice a1 n1 c1, .slice d1 m1 o1, .bool bb1, .slice aa1 nn1 cc1, .slice dd1 mm1 oo1]) p ∧ Sw W (.agg #[.bool b16_7, .slice a16_7 n16_7 c16_7, .slice d16_7 m16_7 o16_7, .bool bb16_7, .slice aa16_7 nn16_7 cc16_7, .slice dd16_7 mm16_7 oo16_7]) (outS p K) ∧ Bx6 W g16_7 29 (.bool b16_7) (.slice a16_7 n16_7 c16_7) (.slice d16_7 m16_7 o16_7) (.bool bb16_7) (.slice aa16_7 nn16_7 cc16_7) (.slice dd16_7 mm16_7 oo16_7) ∧ Sw W (.agg #[.bool b17_7, .slice a17_7 n17_7 c17_7, .slice d17_7 m17_7 o17_7, .bool bb17_7, .slice aa17_7 nn17_7 cc17_7, .slice dd17_7 mm17_7 oo17_7]) (outS p K) ∧ Bx6 W g17_7 29 (.bool b17_7) (.slice a17_7 n17_7 c17_7) (.slice d17_7 m17_7 o17_7) (.bool bb17_7) (.slice aa17_7 nn17_7 cc17_7) (.slice dd17_7 mm17_7 oo17_7) ∧ Sw W (.agg #[.bool b18_7, .slice a18_7 n18_7 c18_7, .slice d18_7 m18_7 o18_7, .bool bb18_7, .slice aa18_7 nn18_7 cc18_7, .slice dd18_7 mm18_7 oo18_7]) (sqS p K) ∧ Bx6 W g18_7 29 (.bool b18_7) (.slice a18_7 n18_7 c18_7) (.slice d18_7 m18_7 o18_7) (.bool bb18_7) (.slice aa18_7 nn18_7 cc18_7) (.slice dd18_7 mm18_7 oo18_7) ∧ W18.heap.size ≤ W.heap.size) ⟨Good.is _, Good.is _, (Good.span _).tup _, (Good.span _).tup _, Good.span _, Good.is _, Good.box _ _ _, cert_put6, Good.is _, trivial⟩
      ⟨E0, p2, hsp, h16_4, p16_7, h17_4, p17_7, h18_4, p18_7, Nat.le_refl _⟩ (A := ?A19) ?hA19 ?howe19 ?hfin19
     case hA19 =>
      intro vs
      simp only [putAll, Act.put, sA, sZ, sS, Nat.zero_add, Nat.reduceAdd]
      exact rfl
     case howe19 =>
      clear E0 p2 hsp h16_4 p16_7 h17_4 p17_7 h18_4 p18_7
      intro hf
      refine ⟨oE 0 [] hf rfl ?_, oE 1 [] hf rfl ?_, oE 2 [0, 1] hf rfl ?_, oE 3 [2] hf rfl ?_, oE 4 [3] hf rfl ?_, oE 5 [3] hf rfl ?_, oE 6 [] hf rfl ?_, oW 7 [6, 4] hf rfl ?_, oE 8 [5] hf rfl ?_, trivial⟩
      all_goals intro vs W hS hp hx KO hKO
      all_goals simp only [Act.put, sA, sZ, sS] at hKO
      ·have fc0 := hS.2.1.cell0; have fc1 := hS.2.1.cell1; have fc2 := hS.2.1.cell2; have fc3 := hS.2.1.cell3; have fc4 := hS.2.1.cell4; have fc5 := hS.2.1.cell5; go_simp; exact hKO _ W (.refl W) rfl
      ·go_simp; exact hKO _ W (.refl W) rfl
      ·have e0 := isOf hp.1; have e1 := isOf hp.2.1; simp only [e0, e1] at hKO; go_simp
       refine (Tryz.rsSqrt (hS.2.2.1) SP.out (by omega) HP0.out.1 HP0.out.2 K HK.out).mono ?_
       rintro e W1 ⟨v, rfl, hv, hE⟩
       exact hKO _ W1 hE ⟨_, rfl, hv⟩
      ·have q2 := hp.1
       obtain ⟨u, ev, hu⟩ := q2
       replace ev : vs 2 = _ := ev; simp only [ev] at hKO; go_simp; exact hKO _ W (Ext.refl W) ⟨u, rfl, hu⟩
      ·have q3 := hp.1
       obtain ⟨u, ev, hu⟩ := q3
       replace ev : vs 3 = _ := ev; simp only [ev] at hKO; go_simp; exact hKO _ W (Ext.refl W) hu
      ·have q3 := hp.1
       obtain ⟨u, ev, hu⟩ := q3
       replace ev : vs 3 = _ := ev; simp only [ev] at hKO; go_simp; exact hKO _ W (.refl W) rfl
      ·have hn := Bx6.new W 29 (.bool false) (.slice none 0 0) (.slice none 0 0) (.bool false) (.slice none 0 0) (.slice none 0 0)
       have hE := Ext.alloc1 W (.cells #[.bool false, .slice none 0 0, .slice none 0 0, .bool false, .slice none 0 0, .slice none 0 0] 29)
       have hsz := hS.2.2.2.2.2.2.2.2.2
       go_simp
       exact hKO _ _ hE ⟨_, rfl, hsz, hn.form⟩
      ·have q6 := hp.1; have q4 := hp.2.1
       obtain ⟨g, ev, hg, hf⟩ := q6
       replace ev : vs 6 = _ := ev
       obtain ⟨x0_0, x0_1, x0_2, x0_3, x0_4, x0_5, hx, hno⟩ := hf.bx6
       have qr := q4
       obtain ⟨b3, a3, n3, c3, d3, m3, o3, bb3, aa3, nn3, cc3, dd3, mm3, oo3, er, -, -⟩ := qr
       replace er : vs 4 = _ := er
       have r0 := hx.froz0
       have t0 := hx.cell0
       have r1 := hx.froz1
       have t1 := hx.cell1
       have r2 := hx.froz2
       have t2 := hx.cell2
       have r3 := hx.froz3
       have t3 := hx.cell3
       have r4 := hx.froz4
       have t4 := hx.cell4
       have r5 := hx.froz5
       have t5 := hx.cell5
       have hw := Wr.set6 hx hno b3 a3 n3 c3 d3 m3 o3 bb3 aa3 nn3 cc3 dd3 mm3 oo3
       have hq := hx.set (.bool b3) (.slice a3 n3 c3) (.slice d3 m3 o3) (.bool bb3) (.slice aa3 nn3 cc3) (.slice dd3 mm3 oo3)
       simp only [ev, er] at hKO; go_simp
       exact hKO _ _ hw ⟨(Ext.wr hS.1 hw (by omega)), (hS.2.1.wr hw (by omega)), (hS.2.2.1.wr hw), (hS.2.2.2.1.wr hw), (hS.2.2.2.2.1.wr hw (by omega)), (hS.2.2.2.2.2.1.wr hw), (hS.2.2.2.2.2.2.1.wr hw (by omega)), (hS.2.2.2.2.2.2.2.1.wr hw), (hS.2.2.2.2.2.2.2.2.1.wr hw (by omega)), (Nat.le_trans hS.2.2.2.2.2.2.2.2.2 hw.apart.size)⟩ ⟨g, b3, a3, n3, c3, d3, m3, o3, bb3, aa3, nn3, cc3, dd3, mm3, oo3, ev, er, hg, hq⟩
      ·have e5 := isOf hp.1; simp only [e5] at hKO; go_simp; exact hKO _ W (.refl W) rfl
     intro vs W19 hS hp
     clear szw19 E0 p2 hsp h16_4 p16_7 h17_4 p17_7 h18_4 p18_7
     obtain ⟨E0, p2, hsp, h16_4, p16_7, h17_4, p17_7, h18_4, p18_7, sz19⟩ := hS
     obtain ⟨h19_0, h19_1, h19_2, h19_3, h19_4, h19_5, h19_6, h19_7, h19_8, -⟩ := hp
     obtain ⟨g19_7, b19_7, a19_7, n19_7, c19_7, d19_7, m19_7, o19_7, bb19_7, aa19_7, nn19_7, cc19_7, dd19_7, mm19_7, oo19_7, ev19_7, er19_7, hg19_7, p19_7⟩ := h19_7
     replace ev19_7 : vs 6 = _ := ev19_7; replace er19_7 : vs 4 = _ := er19_7; replace h19_4 := (show Sw W19 (vs 4) (sqS p K) from h19_4)
     rw [er19_7] at h19_4
     replace h19_0 : vs 0 = .agg #[.bool b1, .slice a1 n1 c1, .slice d1 m1 o1, .bool bb1, .slice aa1 nn1 cc1, .slice dd1 mm1 oo1] := h19_0
     replace h19_1 : vs 1 = .int .i64 (K : Int) := h19_1
     replace h19_5 : vs 5 = .int .i64 0 := h19_5
     replace h19_8 : vs 8 = .int .i64 0 := h19_8
     simp only [ev19_7, er19_7, h19_0, h19_1, h19_5, h19_8]
     clear ev19_7 er19_7 h19_0 h19_1 h19_5 h19_8 h19_2 h19_3 h19_6
     obtain ⟨kp2_0, kp2_1, kp2_2, kp2_3, kp2_4, kp2_5⟩ := p2.c6
     obtain ⟨kp16_7_0, kp16_7_1, kp16_7_2, kp16_7_3, kp16_7_4, kp16_7_5⟩ := p16_7.c6
     obtain ⟨kp17_7_0, kp17_7_1, kp17_7_2, kp17_7_3, kp17_7_4, kp17_7_5⟩ := p17_7.c6
     obtain ⟨kp18_7_0, kp18_7_1, kp18_7_2, kp18_7_3, kp18_7_4, kp18_7_5⟩ := p18_7.c6
     obtain ⟨kp19_7_0, kp19_7_1, kp19_7_2, kp19_7_3, kp19_7_4, kp19_7_5⟩ := p19_7.c6
     go_upto_region 7 with (fail)
     clear kp2_0 kp2_1 kp2_2 kp2_3 kp2_4 kp2_5 kp16_7_0 kp16_7_1 kp16_7_2 kp16_7_3 kp16_7_4 kp16_7_5 kp17_7_0 kp17_7_1 kp17_7_2 kp17_7_3 kp17_7_4 kp17_7_5 kp18_7_0 kp18_7_1 kp18_7_2 kp18_7_3 kp18_7_4 kp18_7_5 kp19_7_0 kp19_7_1 kp19_7_2 kp19_7_3 kp19_7_4 kp19_7_5; have ltp19_7 := p19_7.lt; have szw20 := Ext.size E0
     refine region_gs [.one fun v _ => v = .bool true,
       .one fun v _ => v = .bool true,
       .one fun v _ => v = .agg #[.bool b16_7, .slice a16_7 n16_7 c16_7, .slice d16_7 m16_7 o16_7, .bool bb16_7, .slice aa16_7 nn16_7 cc16_7, .slice dd16_7 mm16_7 oo16_7],
       .one fun v _ => v = .agg #[.bool b17_7, .slice a17_7 n17_7 c17_7, .slice d17_7 m17_7 o17_7, .bool bb17_7, .slice aa17_7 nn17_7 cc17_7, .slice dd17_7 mm17_7 oo17_7],
       .one fun v _ => v = .bool true,
       .one fun v _ => v = .bool true,
       .one fun v _ => v = .bool true,
       .one fun v _ => v = .int .i64 0,
       .one fun v _ => v = .int .i64 0,
       .one fun v _ => v = .bool true,
       .one fun v _ => v = .bool true,
       .one fun v _ => v = .bool true,
       .one fun v _ => v = .agg #[.bool b18_7, .slice a18_7 n18_7 c18_7, .slice d18_7 m18_7 o18_7, .bool bb18_7, .slice aa18_7 nn18_7 cc18_7, .slice dd18_7 mm18_7 oo18_7],
       .one fun v _ => v = .agg #[.bool b19_7, .slice a19_7 n19_7 c19_7, .slice d19_7 m19_7 o19_7, .bool bb19_7, .slice aa19_7 nn19_7 cc19_7, .slice dd19_7 mm19_7 oo19_7],
       .one fun v _ => v = .bool true,
       .one fun v _ => v = .bool true,
       .one fun v _ => v = .bool true,
       .one fun v _ => v = .int .i64 0,
       .one fun v _ => v = .int .i64 0,
       .one fun v _ => v = .bool true,
       .one fun v _ => v = .bool true,
       .one fun v _ => v = .bool true]
      (fun W => Ext w W ∧ Bx6 W w.heap.size 29 (.bool b1) (.slice a1 n1 c1) (.slice d1 m1 o1) (.bool bb1) (.slice aa1 nn1 cc1) (.slice dd1 mm1 oo1) ∧ Sw W (.agg #[.bool b1, .slice a1 n1 c1, .slice d1 m1 o1, .bool bb1, .slice aa1 nn1 cc1, .slice dd1 mm1 oo1]) p ∧ Sw W (.agg #[.bool b16_7, .slice a16_7 n16_7 c16_7, .slice d16_7 m16_7 o16_7, .bool bb16_7, .slice aa16_7 nn16_7 cc16_7, .slice dd16_7 mm16_7 oo16_7]) (outS p K) ∧ Bx6 W g16_7 29 (.bool b16_7) (.slice a16_7 n16_7 c16_7) (.slice d16_7 m16_7 o16_7) (.bool bb16_7) (.slice aa16_7 nn16_7 cc16_7) (.slice dd16_7 mm16_7 oo16_7) ∧ Sw W (.agg #[.bool b17_7, .slice a17_7 n17_7 c17_7, .slice d17_7 m17_7 o17_7, .bool bb17_7, .slice aa17_7 nn17_7 cc17_7, .slice dd17_7 mm17_7 oo17_7]) (outS p K) ∧ Bx6 W g17_7 29 (.bool b17_7) (.slice a17_7 n17_7 c17_7) (.slice d17_7 m17_7 o17_7) (.bool bb17_7) (.slice aa17_7 nn17_7 cc17_7) (.slice dd17_7 mm17_7 oo17_7) ∧ Sw W (.agg #[.bool b18_7, .slice a18_7 n18_7 c18_7, .slice d18_7 m18_7 o18_7, .bool bb18_7, .slice aa18_7 nn18_7 cc18_7, .slice dd18_7 mm18_7 oo18_7]) (sqS p K) ∧ Bx6 W g18_7 29 (.bool b18_7) (.slice a18_7 n18_7 c18_7) (.slice d18_7 m18_7 o18_7) (.bool bb18_7) (.slice aa18_7 nn18_7 cc18_7) (.slice dd18_7 mm18_7 oo18_7) ∧ Sw W (.agg #[.bool b19_7, .slice a19_7 n19_7 c19_7, .slice d19_7 m19_7 o19_7, .bool bb19_7, .slice aa19_7 nn19_7 cc19_7, .slice dd19_7 mm19_7 oo19_7]) (sqS p K) ∧ Bx6 W g19_7 29 (.bool b19_7) (.slice a19_7 n19_7 c19_7) (.slice d19_7 m19_7 o19_7) (.bool bb19_7) (.slice aa19_7 nn19_7 cc19_7) (.slice dd19_7 mm19_7 oo19_7) ∧ W19.heap.size ≤ W.heap.size) ⟨Good.is _, Good.is _, Good.is _, Good.is _, Good.is _, Good.is _, Good.is _, Good.is _, Good.is _, Good.is _, Good.is _, Good.is _, Good.is _, Good.is _, Good.is _, Good.is _, Good.is _, Good.is _, Good.is _, Good.is _, Good.is _, Good.is _, trivial⟩
      ⟨E0, p2, hsp, h16_4, p16_7, h17_4, p17_7, h18_4, p18_7, h19_4, p19_7, Nat.le_refl _⟩ (A := ?A20) ?hA20 ?howe20 ?hfin20
     case hA20 =>
      intro vs
      simp only [putAll, Act.put, sA, sZ, sS, Nat.zero_add, Nat.reduceAdd]
      exact rfl
     case howe20 =>
      clear E0 p2 hsp h16_4 p16_7 h17_4 p17_7 h18_4 p18_7 h19_4 p19_7
      intro hf
      refine ⟨oE 0 [] hf rfl ?_, oE 1 [0] hf rfl ?_, oE 2 [1] hf rfl ?_, oE 3 [1] hf rfl ?_, oE 4 [1, 2, 3] hf rfl ?_, oE 5 [1, 4] hf rfl ?_, oE 6 [5] hf rfl ?_, oE 7 [6] hf rfl ?_, oE 8 [6] hf rfl ?_, oE 9 [6, 7, 8] hf rfl ?_, oE 10 [6, 9] hf rfl ?_, oE 11 [10] hf rfl ?_, oE 12 [11] hf rfl ?_, oE 13 [11] hf rfl ?_, oE 14 [11, 12, 13] hf rfl ?_, oE 15 [11, 14] hf rfl ?_, oE 16 [15] hf rfl ?_, oE 17 [16] hf rfl ?_, oE 18 [16] hf rfl ?_, oE 19 [16, 17, 18] hf rfl ?_, oE 20 [16, 19] hf rfl ?_, oE 21 [20] hf rfl ?_, trivial⟩
      all_goals intro vs W hS hp hx KO hKO
      all_goals simp only [Act.put, sA, sZ, sS] at hKO
      ·go_simp
       refine (Tryz.alive07 _).mono ?_
       rintro e W1 ⟨rfl, hE⟩
       exact hKO _ W1 hE rfl
      ·have e0 := isOf hp.1; simp only [e0] at hKO; go_simp; exact hKO _ W (.refl W) rfl
      ·have e1 := isOf hp.1; simp only [e1] at hKO; have fc0 := hS.2.2.2.2.1.cell0; have fc1 := hS.2.2.2.2.1.cell1; have fc2 := hS.2.2.2.2.1.cell2; have fc3 := hS.2.2.2.2.1.cell3; have fc4 := hS.2.2.2.2.1.cell4; have fc5 := hS.2.2.2.2.1.cell5; go_simp; exact hKO _ W (.refl W) rfl
      ·have e1 := isOf hp.1; simp only [e1] at hKO; have fc0 := hS.2.2.2.2.2.2.1.cell0; have fc1 := hS.2.2.2.2.2.2.1.cell1; have fc2 := hS.2.2.2.2.2.2.1.cell2; have fc3 := hS.2.2.2.2.2.2.1.cell3; have fc4 := hS.2.2.2.2.2.2.1.cell4; have fc5 := hS.2.2.2.2.2.2.1.cell5; go_simp; exact hKO _ W (.refl W) rfl
      ·have e1 := isOf hp.1; have e2 := isOf hp.2.1; have e3 := isOf hp.2.2.1; simp only [e1, e2, e3] at hKO; go_simp
       refine (Tryz.rsSameT (hS.2.2.2.1) (hS.2.2.2.2.2.1) rfl).mono ?_
       rintro e W1 ⟨rfl, hE⟩
       exact hKO _ W1 hE rfl
      ·have e1 := isOf hp.1; have e4 := isOf hp.2.1; simp only [e1, e4] at hKO; go_simp; exact hKO _ W (.refl W) rfl
      ·have e5 := isOf hp.1; simp only [e5] at hKO; go_simp; exact hKO _ W (.refl W) rfl
      ·have e6 := isOf hp.1; simp only [e6] at hKO; go_simp; exact hKO _ W (.refl W) rfl
      ·have e6 := isOf hp.1; simp only [e6] at hKO; go_simp; exact hKO _ W (.refl W) rfl
      ·have e6 := isOf hp.1; have e7 := isOf hp.2.1; have e8 := isOf hp.2.2.1; simp only [e6, e7, e8] at hKO; go_simp; exact hKO _ W (.refl W) rfl
      ·have e6 := isOf hp.1; have e9 := isOf hp.2.1; simp only [e6, e9] at hKO; go_simp; exact hKO _ W (.refl W) rfl
      ·have e10 := isOf hp.1; simp only [e10] at hKO; go_simp; exact hKO _ W (.refl W) rfl
      ·have e11 := isOf hp.1; simp only [e11] at hKO; have fc0 := hS.2.2.2.2.2.2.2.2.1.cell0; have fc1 := hS.2.2.2.2.2.2.2.2.1.cell1; have fc2 := hS.2.2.2.2.2.2.2.2.1.cell2; have fc3 := hS.2.2.2.2.2.2.2.2.1.cell3; have fc4 := hS.2.2.2.2.2.2.2.2.1.cell4; have fc5 := hS.2.2.2.2.2.2.2.2.1.cell5; go_simp; exact hKO _ W (.refl W) rfl
      ·have e11 := isOf hp.1; simp only [e11] at hKO; have fc0 := hS.2.2.2.2.2.2.2.2.2.2.1.cell0; have fc1 := hS.2.2.2.2.2.2.2.2.2.2.1.cell1; have fc2 := hS.2.2.2.2.2.2.2.2.2.2.1.cell2; have fc3 := hS.2.2.2.2.2.2.2.2.2.2.1.cell3; have fc4 := hS.2.2.2.2.2.2.2.2.2.2.1.cell4; have fc5 := hS.2.2.2.2.2.2.2.2.2.2.1.cell5; go_simp; exact hKO _ W (.refl W) rfl
      ·have e11 := isOf hp.1; have e12 := isOf hp.2.1; have e13 := isOf hp.2.2.1; simp only [e11, e12, e13] at hKO; go_simp
       refine (Tryz.rsSameT (hS.2.2.2.2.2.2.2.1) (hS.2.2.2.2.2.2.2.2.2.1) rfl).mono ?_
       rintro e W1 ⟨rfl, hE⟩
       exact hKO _ W1 hE rfl
      ·have e11 := isOf hp.1; have e14 := isOf hp.2.1; simp only [e11, e14] at hKO; go_simp; exact hKO _ W (.refl W) rfl
      ·have e15 := isOf hp.1; simp only [e15] at hKO; go_simp; exact hKO _ W (.refl W) rfl
      ·have e16 := isOf hp.1; simp only [e16] at hKO; go_simp; exact hKO _ W (.refl W) rfl
      ·have e16 := isOf hp.1; simp only [e16] at hKO; go_simp; exact hKO _ W (.refl W) rfl
      ·have e16 := isOf hp.1; have e17 := isOf hp.2.1; have e18 := isOf hp.2.2.1; simp only [e16, e17, e18] at hKO; go_simp; exact hKO _ W (.refl W) rfl
      ·have e16 := isOf hp.1; have e19 := isOf hp.2.1; simp only [e16, e19] at hKO; go_simp; exact hKO _ W (.refl W) rfl
      ·have e20 := isOf hp.1; simp only [e20] at hKO; go_simp; exact hKO _ W (.refl W) rfl
     intro vs W20 hS hp
     clear szw20 E0 p2 hsp h16_4 p16_7 h17_4 p17_7 h18_4 p18_7 h19_4 p19_7
     obtain ⟨E0, p2, hsp, h16_4, p16_7, h17_4, p17_7, h18_4, p18_7, h19_4, p19_7, sz20⟩ := hS
     obtain ⟨h20_0, h20_1, h20_2, h20_3, h20_4, h20_5, h20_6, h20_7, h20_8, h20_9, h20_10, h20_11, h20_12, h20_13, h20_14, h20_15, h20_16, h20_17, h20_18, h20_19, h20_20, h20_21, -⟩ := hp
     replace h20_0 : vs 0 = .bool true := h20_0
     replace h20_1 : vs 1 = .bool true := h20_1
     replace h20_2 : vs 2 = .agg #[.bool b16_7, .slice a16_7 n16_7 c16_7, .slice d16_7 m16_7 o16_7, .bool bb16_7, .slice aa16_7 nn16_7 cc16_7, .slice dd16_7 mm16_7 oo16_7] := h20_2
     replace h20_3 : vs 3 = .agg #[.bool b17_7, .slice a17_7 n17_7 c17_7, .slice d17_7 m17_7 o17_7, .bool bb17_7, .slice aa17_7 nn17_7 cc17_7, .slice dd17_7 mm17_7 oo17_7] := h20_3
     replace h20_4 : vs 4 = .bool true := h20_4
     replace h20_5 : vs 5 = .bool true := h20_5
     replace h20_6 : vs 6 = .bool true := h20_6
     replace h20_7 : vs 7 = .int .i64 0 := h20_7
     replace h20_8 : vs 8 = .int .i64 0 := h20_8
     replace h20_9 : vs 9 = .bool true := h20_9
     replace h20_10 : vs 10 = .bool true := h20_10
     replace h20_11 : vs 11 = .bool true := h20_11
     replace h20_12 : vs 12 = .agg #[.bool b18_7, .slice a18_7 n18_7 c18_7, .slice d18_7 m18_7 o18_7, .bool bb18_7, .slice aa18_7 nn18_7 cc18_7, .slice dd18_7 mm18_7 oo18_7] := h20_12
     replace h20_13 : vs 13 = .agg #[.bool b19_7, .slice a19_7 n19_7 c19_7, .slice d19_7 m19_7 o19_7, .bool bb19_7, .slice aa19_7 nn19_7 cc19_7, .slice dd19_7 mm19_7 oo19_7] := h20_13
     replace h20_14 : vs 14 = .bool true := h20_14
     replace h20_15 : vs 15 = .bool true := h20_15
     replace h20_16 : vs 16 = .bool true := h20_16
     replace h20_17 : vs 17 = .int .i64 0 := h20_17
     replace h20_18 : vs 18 = .int .i64 0 := h20_18
     replace h20_19 : vs 19 = .bool true := h20_19
     replace h20_20 : vs 20 = .bool true := h20_20
     replace h20_21 : vs 21 = .bool true := h20_21
     simp only [h20_0, h20_1, h20_2, h20_3, h20_4, h20_5, h20_6, h20_7, h20_8, h20_9, h20_10, h20_11, h20_12, h20_13, h20_14, h20_15, h20_16, h20_17, h20_18, h20_19, h20_20, h20_21]
     clear h20_0 h20_1 h20_2 h20_3 h20_4 h20_5 h20_6 h20_7 h20_8 h20_9 h20_10 h20_11 h20_12 h20_13 h20_14 h20_15 h20_16 h20_17 h20_18 h20_19 h20_20 h20_21
     obtain ⟨kp2_0, kp2_1, kp2_2, kp2_3, kp2_4, kp2_5⟩ := p2.c6
     obtain ⟨kp16_7_0, kp16_7_1, kp16_7_2, kp16_7_3, kp16_7_4, kp16_7_5⟩ := p16_7.c6
     obtain ⟨kp17_7_0, kp17_7_1, kp17_7_2, kp17_7_3, kp17_7_4, kp17_7_5⟩ := p17_7.c6
     obtain ⟨kp18_7_0, kp18_7_1, kp18_7_2, kp18_7_3, kp18_7_4, kp18_7_5⟩ := p18_7.c6
     obtain ⟨kp19_7_0, kp19_7_1, kp19_7_2, kp19_7_3, kp19_7_4, kp19_7_5⟩ := p19_7.c6
     clear hsp h16_4 h17_4 h18_4 h19_4; go_wp2; go_ret
     exact ⟨rfl, E0⟩

end Go.Rt
